import Derived.Test.YtoflbpmbkmephaaGreatDoorPkScriptTells2
set_option linter.unusedSimpArgs false
set_option linter.unusedVariables false
set_option linter.unusedSectionVars false
set_option maxRecDepth 100000
set_option maxHeartbeats 40000000
namespace Go.Proofs.YtoflbpmbkmephaaGreatDoor
open Go.RowKit
def Gc  : Option Unit :=
  (some ())
set_option maxHeartbeats 40000000 in
theorem Ua   (w0 : World)  (r : Unit) (H : Gc  = some r) :
  Calls Tryz.prog 69 #[] w0 (fun e w' => ∃ (g1 : Nat), e = .returned (.map (some g1)) ∧ SP [] w0 w' [Ky g1 F7]) := by
 unfold Gc at H
 refine Ql (n := 12) Tryz.func69 K K K ?_
 have a := Qy [] w0
 refine aQ ?_
 refine aR ?_
 refine iR 1 1 [(0, (.map none))] ?_
 refine iF ?_
 refine aQ ?_
 refine aR ?_
 refine iS 1 ?_
 refine M3 (T := 113) (dst := (some 1)) (o := 0) K rfl a ?_
 intro g2 w3 b
 refine iR 1 2 [(2, (.agg #[(.string ⟨List.toArray ([99, 111, 110, 110, 101, 99, 116] : List UInt8)⟩), (.func (.func 112) #[] #[]), (.func (.func 113) #[] #[])]))] ?_
 refine iS 3 ?_
 refine Rm (T := 113) (kt := 3) (et := 118) (m := g2) (L := []) (k := (.int .i64 1)) (v := (.agg #[(.string ⟨List.toArray ([99, 111, 110, 110, 101, 99, 116] : List UInt8)⟩), (.func (.func 112) #[] #[]), (.func (.func 113) #[] #[])])) (d := (.int .i64)) (x := (.tmp 1)) (ix := (.const (.int .i64 (1)))) (y := (.tmp 2)) (i := 0) (dst := none) (o := 2) K rfl K K K K K K K K b rfl ?_
 intro w6 c
 refine iR 1 4 [(3, (.agg #[(.string ⟨List.toArray ([98, 121, 116, 101, 115] : List UInt8)⟩), (.func (.func 116) #[] #[]), (.func (.func 117) #[] #[])]))] ?_
 refine iS 5 ?_
 refine Rm (T := 113) (kt := 3) (et := 118) (m := g2) (L := ([] ++ [((.int .i64 1), (.agg #[(.string ⟨List.toArray ([99, 111, 110, 110, 101, 99, 116] : List UInt8)⟩), (.func (.func 112) #[] #[]), (.func (.func 113) #[] #[])]))])) (k := (.int .i64 2)) (v := (.agg #[(.string ⟨List.toArray ([98, 121, 116, 101, 115] : List UInt8)⟩), (.func (.func 116) #[] #[]), (.func (.func 117) #[] #[])])) (d := (.int .i64)) (x := (.tmp 1)) (ix := (.const (.int .i64 (2)))) (y := (.tmp 3)) (i := 0) (dst := none) (o := 4) K rfl K K K K K K K K c rfl ?_
 intro w9 f
 refine iR 1 6 [(4, (.agg #[(.string ⟨List.toArray ([98, 117, 100, 103, 101, 116] : List UInt8)⟩), (.func (.func 118) #[] #[]), (.func (.func 119) #[] #[])]))] ?_
 refine iS 7 ?_
 refine Rm (T := 113) (kt := 3) (et := 118) (m := g2) (L := (([] ++ [((.int .i64 1), (.agg #[(.string ⟨List.toArray ([99, 111, 110, 110, 101, 99, 116] : List UInt8)⟩), (.func (.func 112) #[] #[]), (.func (.func 113) #[] #[])]))]) ++ [((.int .i64 2), (.agg #[(.string ⟨List.toArray ([98, 121, 116, 101, 115] : List UInt8)⟩), (.func (.func 116) #[] #[]), (.func (.func 117) #[] #[])]))])) (k := (.int .i64 3)) (v := (.agg #[(.string ⟨List.toArray ([98, 117, 100, 103, 101, 116] : List UInt8)⟩), (.func (.func 118) #[] #[]), (.func (.func 119) #[] #[])])) (d := (.int .i64)) (x := (.tmp 1)) (ix := (.const (.int .i64 (3)))) (y := (.tmp 4)) (i := 0) (dst := none) (o := 6) K rfl K K K K K K K K f rfl ?_
 intro t g
 refine iR 1 8 [(5, (.agg #[(.string ⟨List.toArray ([104, 97, 108, 102] : List UInt8)⟩), (.func (.func 120) #[] #[]), (.func (.func 121) #[] #[])]))] ?_
 refine iS 9 ?_
 refine Rm (T := 113) (kt := 3) (et := 118) (m := g2) (L := ((([] ++ [((.int .i64 1), (.agg #[(.string ⟨List.toArray ([99, 111, 110, 110, 101, 99, 116] : List UInt8)⟩), (.func (.func 112) #[] #[]), (.func (.func 113) #[] #[])]))]) ++ [((.int .i64 2), (.agg #[(.string ⟨List.toArray ([98, 121, 116, 101, 115] : List UInt8)⟩), (.func (.func 116) #[] #[]), (.func (.func 117) #[] #[])]))]) ++ [((.int .i64 3), (.agg #[(.string ⟨List.toArray ([98, 117, 100, 103, 101, 116] : List UInt8)⟩), (.func (.func 118) #[] #[]), (.func (.func 119) #[] #[])]))])) (k := (.int .i64 4)) (v := (.agg #[(.string ⟨List.toArray ([104, 97, 108, 102] : List UInt8)⟩), (.func (.func 120) #[] #[]), (.func (.func 121) #[] #[])])) (d := (.int .i64)) (x := (.tmp 1)) (ix := (.const (.int .i64 (4)))) (y := (.tmp 5)) (i := 0) (dst := none) (o := 8) K rfl K K K K K K K K g rfl ?_
 intro u h
 refine iR 1 10 [(6, (.agg #[(.string ⟨List.toArray ([114, 101, 115, 101, 116] : List UInt8)⟩), (.func (.func 122) #[] #[]), (.func (.func 123) #[] #[])]))] ?_
 refine iS 11 ?_
 refine Rm (T := 113) (kt := 3) (et := 118) (m := g2) (L := (((([] ++ [((.int .i64 1), (.agg #[(.string ⟨List.toArray ([99, 111, 110, 110, 101, 99, 116] : List UInt8)⟩), (.func (.func 112) #[] #[]), (.func (.func 113) #[] #[])]))]) ++ [((.int .i64 2), (.agg #[(.string ⟨List.toArray ([98, 121, 116, 101, 115] : List UInt8)⟩), (.func (.func 116) #[] #[]), (.func (.func 117) #[] #[])]))]) ++ [((.int .i64 3), (.agg #[(.string ⟨List.toArray ([98, 117, 100, 103, 101, 116] : List UInt8)⟩), (.func (.func 118) #[] #[]), (.func (.func 119) #[] #[])]))]) ++ [((.int .i64 4), (.agg #[(.string ⟨List.toArray ([104, 97, 108, 102] : List UInt8)⟩), (.func (.func 120) #[] #[]), (.func (.func 121) #[] #[])]))])) (k := (.int .i64 5)) (v := (.agg #[(.string ⟨List.toArray ([114, 101, 115, 101, 116] : List UInt8)⟩), (.func (.func 122) #[] #[]), (.func (.func 123) #[] #[])])) (d := (.int .i64)) (x := (.tmp 1)) (ix := (.const (.int .i64 (5)))) (y := (.tmp 6)) (i := 0) (dst := none) (o := 10) K rfl K K K K K K K K h rfl ?_
 intro w j
 refine iR 1 12 [(7, (.agg #[(.string ⟨List.toArray ([116, 105, 99, 107] : List UInt8)⟩), (.func (.func 124) #[] #[]), (.func (.func 125) #[] #[])]))] ?_
 refine iS 13 ?_
 refine Rm (T := 113) (kt := 3) (et := 118) (m := g2) (L := ((((([] ++ [((.int .i64 1), (.agg #[(.string ⟨List.toArray ([99, 111, 110, 110, 101, 99, 116] : List UInt8)⟩), (.func (.func 112) #[] #[]), (.func (.func 113) #[] #[])]))]) ++ [((.int .i64 2), (.agg #[(.string ⟨List.toArray ([98, 121, 116, 101, 115] : List UInt8)⟩), (.func (.func 116) #[] #[]), (.func (.func 117) #[] #[])]))]) ++ [((.int .i64 3), (.agg #[(.string ⟨List.toArray ([98, 117, 100, 103, 101, 116] : List UInt8)⟩), (.func (.func 118) #[] #[]), (.func (.func 119) #[] #[])]))]) ++ [((.int .i64 4), (.agg #[(.string ⟨List.toArray ([104, 97, 108, 102] : List UInt8)⟩), (.func (.func 120) #[] #[]), (.func (.func 121) #[] #[])]))]) ++ [((.int .i64 5), (.agg #[(.string ⟨List.toArray ([114, 101, 115, 101, 116] : List UInt8)⟩), (.func (.func 122) #[] #[]), (.func (.func 123) #[] #[])]))])) (k := (.int .i64 6)) (v := (.agg #[(.string ⟨List.toArray ([116, 105, 99, 107] : List UInt8)⟩), (.func (.func 124) #[] #[]), (.func (.func 125) #[] #[])])) (d := (.int .i64)) (x := (.tmp 1)) (ix := (.const (.int .i64 (6)))) (y := (.tmp 7)) (i := 0) (dst := none) (o := 12) K rfl K K K K K K K K j rfl ?_
 intro z l
 refine iR 1 14 [(8, (.agg #[(.string ⟨List.toArray ([114, 101, 118, 111, 107, 101] : List UInt8)⟩), (.func (.func 126) #[] #[]), (.func (.func 128) #[] #[])]))] ?_
 refine iS 15 ?_
 refine Rm (T := 113) (kt := 3) (et := 118) (m := g2) (L := (((((([] ++ [((.int .i64 1), (.agg #[(.string ⟨List.toArray ([99, 111, 110, 110, 101, 99, 116] : List UInt8)⟩), (.func (.func 112) #[] #[]), (.func (.func 113) #[] #[])]))]) ++ [((.int .i64 2), (.agg #[(.string ⟨List.toArray ([98, 121, 116, 101, 115] : List UInt8)⟩), (.func (.func 116) #[] #[]), (.func (.func 117) #[] #[])]))]) ++ [((.int .i64 3), (.agg #[(.string ⟨List.toArray ([98, 117, 100, 103, 101, 116] : List UInt8)⟩), (.func (.func 118) #[] #[]), (.func (.func 119) #[] #[])]))]) ++ [((.int .i64 4), (.agg #[(.string ⟨List.toArray ([104, 97, 108, 102] : List UInt8)⟩), (.func (.func 120) #[] #[]), (.func (.func 121) #[] #[])]))]) ++ [((.int .i64 5), (.agg #[(.string ⟨List.toArray ([114, 101, 115, 101, 116] : List UInt8)⟩), (.func (.func 122) #[] #[]), (.func (.func 123) #[] #[])]))]) ++ [((.int .i64 6), (.agg #[(.string ⟨List.toArray ([116, 105, 99, 107] : List UInt8)⟩), (.func (.func 124) #[] #[]), (.func (.func 125) #[] #[])]))])) (k := (.int .i64 7)) (v := (.agg #[(.string ⟨List.toArray ([114, 101, 118, 111, 107, 101] : List UInt8)⟩), (.func (.func 126) #[] #[]), (.func (.func 128) #[] #[])])) (d := (.int .i64)) (x := (.tmp 1)) (ix := (.const (.int .i64 (7)))) (y := (.tmp 8)) (i := 0) (dst := none) (o := 14) K rfl K K K K K K K K l rfl ?_
 intro a0 p
 refine iR 1 16 [(9, (.agg #[(.string ⟨List.toArray ([101, 118, 105, 99, 116] : List UInt8)⟩), (.func (.func 130) #[] #[]), (.func (.func 131) #[] #[])]))] ?_
 refine iS 17 ?_
 refine Rm (T := 113) (kt := 3) (et := 118) (m := g2) (L := ((((((([] ++ [((.int .i64 1), (.agg #[(.string ⟨List.toArray ([99, 111, 110, 110, 101, 99, 116] : List UInt8)⟩), (.func (.func 112) #[] #[]), (.func (.func 113) #[] #[])]))]) ++ [((.int .i64 2), (.agg #[(.string ⟨List.toArray ([98, 121, 116, 101, 115] : List UInt8)⟩), (.func (.func 116) #[] #[]), (.func (.func 117) #[] #[])]))]) ++ [((.int .i64 3), (.agg #[(.string ⟨List.toArray ([98, 117, 100, 103, 101, 116] : List UInt8)⟩), (.func (.func 118) #[] #[]), (.func (.func 119) #[] #[])]))]) ++ [((.int .i64 4), (.agg #[(.string ⟨List.toArray ([104, 97, 108, 102] : List UInt8)⟩), (.func (.func 120) #[] #[]), (.func (.func 121) #[] #[])]))]) ++ [((.int .i64 5), (.agg #[(.string ⟨List.toArray ([114, 101, 115, 101, 116] : List UInt8)⟩), (.func (.func 122) #[] #[]), (.func (.func 123) #[] #[])]))]) ++ [((.int .i64 6), (.agg #[(.string ⟨List.toArray ([116, 105, 99, 107] : List UInt8)⟩), (.func (.func 124) #[] #[]), (.func (.func 125) #[] #[])]))]) ++ [((.int .i64 7), (.agg #[(.string ⟨List.toArray ([114, 101, 118, 111, 107, 101] : List UInt8)⟩), (.func (.func 126) #[] #[]), (.func (.func 128) #[] #[])]))])) (k := (.int .i64 8)) (v := (.agg #[(.string ⟨List.toArray ([101, 118, 105, 99, 116] : List UInt8)⟩), (.func (.func 130) #[] #[]), (.func (.func 131) #[] #[])])) (d := (.int .i64)) (x := (.tmp 1)) (ix := (.const (.int .i64 (8)))) (y := (.tmp 9)) (i := 0) (dst := none) (o := 16) K rfl K K K K K K K K p rfl ?_
 intro a1 q
 refine iR 1 18 [(10, (.agg #[(.string ⟨List.toArray ([100, 114, 97, 105, 110] : List UInt8)⟩), (.func (.func 132) #[] #[]), (.func (.func 133) #[] #[])]))] ?_
 refine iS 19 ?_
 refine Rm (T := 113) (kt := 3) (et := 118) (m := g2) (L := (((((((([] ++ [((.int .i64 1), (.agg #[(.string ⟨List.toArray ([99, 111, 110, 110, 101, 99, 116] : List UInt8)⟩), (.func (.func 112) #[] #[]), (.func (.func 113) #[] #[])]))]) ++ [((.int .i64 2), (.agg #[(.string ⟨List.toArray ([98, 121, 116, 101, 115] : List UInt8)⟩), (.func (.func 116) #[] #[]), (.func (.func 117) #[] #[])]))]) ++ [((.int .i64 3), (.agg #[(.string ⟨List.toArray ([98, 117, 100, 103, 101, 116] : List UInt8)⟩), (.func (.func 118) #[] #[]), (.func (.func 119) #[] #[])]))]) ++ [((.int .i64 4), (.agg #[(.string ⟨List.toArray ([104, 97, 108, 102] : List UInt8)⟩), (.func (.func 120) #[] #[]), (.func (.func 121) #[] #[])]))]) ++ [((.int .i64 5), (.agg #[(.string ⟨List.toArray ([114, 101, 115, 101, 116] : List UInt8)⟩), (.func (.func 122) #[] #[]), (.func (.func 123) #[] #[])]))]) ++ [((.int .i64 6), (.agg #[(.string ⟨List.toArray ([116, 105, 99, 107] : List UInt8)⟩), (.func (.func 124) #[] #[]), (.func (.func 125) #[] #[])]))]) ++ [((.int .i64 7), (.agg #[(.string ⟨List.toArray ([114, 101, 118, 111, 107, 101] : List UInt8)⟩), (.func (.func 126) #[] #[]), (.func (.func 128) #[] #[])]))]) ++ [((.int .i64 8), (.agg #[(.string ⟨List.toArray ([101, 118, 105, 99, 116] : List UInt8)⟩), (.func (.func 130) #[] #[]), (.func (.func 131) #[] #[])]))])) (k := (.int .i64 9)) (v := (.agg #[(.string ⟨List.toArray ([100, 114, 97, 105, 110] : List UInt8)⟩), (.func (.func 132) #[] #[]), (.func (.func 133) #[] #[])])) (d := (.int .i64)) (x := (.tmp 1)) (ix := (.const (.int .i64 (9)))) (y := (.tmp 10)) (i := 0) (dst := none) (o := 18) K rfl K K K K K K K K q rfl ?_
 intro a2 s
 refine iR 2 21 [(11, (.map (some g2))), (0, (.map (some g2)))] ?_
 refine iF ?_
 refine At.ret K ?_
 refine ⟨(.map (some g2)), K, ?_⟩
 obtain rfl := Qb H
 exact ⟨g2, rfl, SP.sel s [0] rfl rfl⟩
def Yy (a : ((List (List UInt8)) × Bool × Int × Int × Int × (List UInt8) × Int × (List UInt8) × (List UInt8) × (List UInt8))) (b : Bool) : Option (Int × Int × Int × (List UInt8) × Int × (List UInt8) × (List UInt8) × (List UInt8) × Bool) :=
  (cond b (some (0, 0, 0, ([] : List UInt8), 0, ([] : List UInt8), ([] : List UInt8), ([] : List UInt8), false)) (some (a.2.2.1, a.2.2.2.1, a.2.2.2.2.1, a.2.2.2.2.2.1, a.2.2.2.2.2.2.1, a.2.2.2.2.2.2.2.1, a.2.2.2.2.2.2.2.2.1, a.2.2.2.2.2.2.2.2.2, true)))
def Jz (p1 : (List UInt8)) : Option (Int × Int × Int × (List UInt8) × Int × (List UInt8) × (List UInt8) × (List UInt8) × Bool) :=
  ((U7 p1 ([32] : List UInt8)).bind fun z6 => ((Ve z6 false).bind fun b => ((Gc ).bind fun d => (optE (Hy b.1) (some (0, 0, 0, ([] : List UInt8), 0, ([] : List UInt8), ([] : List UInt8), ([] : List UInt8), false)) (fun c => ((K0 c b.2.1 b.2.2 c 0 0 ([] : List UInt8) 0 ([] : List UInt8) ([] : List UInt8) ([] : List UInt8)).bind fun a => (cond a.2.1 (Yy a true) (Yy a (decide (((List.length a.1 : Nat) : Int) > 0))))))))))
set_option maxHeartbeats 40000000 in
theorem Ns  (p1 : (List UInt8)) (w0 : World) (hL : Gu w0)  (r : (Int × Int × Int × (List UInt8) × Int × (List UInt8) × (List UInt8) × (List UInt8) × Bool)) (H : Jz p1 = some r) :
  Calls Tryz.prog 31 #[(.string ⟨List.toArray p1⟩)] w0 (fun e w' => e = .returned (.tuple #[(.agg #[(.int .i64 r.1), (.int .i64 r.2.1), (.int .u32 r.2.2.1), (.string ⟨List.toArray r.2.2.2.1⟩), (.int .i64 r.2.2.2.2.1), (.string ⟨List.toArray r.2.2.2.2.2.1⟩), (.string ⟨List.toArray r.2.2.2.2.2.2.1⟩), (.string ⟨List.toArray r.2.2.2.2.2.2.2.1⟩)]), (.bool r.2.2.2.2.2.2.2.2)]) ∧ SP [] w0 w' []) := by
 unfold Jz at H
 refine Ql (n := 47) Tryz.func31 K K K ?_
 have d2 := Qy [] w0
 refine aQ ?_
 refine aR ?_
 refine iS 1 ?_
 refine Qh.alloc (t := 52) (z := (.agg #[(.int .i64 0), (.int .i64 0), (.int .u32 0), (.string ⟨List.toArray ([] : List UInt8)⟩), (.int .i64 0), (.string ⟨List.toArray ([] : List UInt8)⟩), (.string ⟨List.toArray ([] : List UInt8)⟩), (.string ⟨List.toArray ([] : List UInt8)⟩)])) (d := (some 2)) (k := 0) K rfl K d2 ?_
 intro g2 w3 d3
 refine iR 1 2 [(3, (.bool false))] ?_
 refine iF ?_
 refine aQ ?_
 refine aR ?_
 refine iR 1 1 [(9, (.string ⟨List.toArray p1⟩))] ?_
 obtain ⟨z6, d4, H⟩ := Qa H
 refine iS 2 ?_
 refine cF 67 #[(.tmp 9), (.const (.string ⟨List.toArray ([32] : List UInt8)⟩))] #[9, 9] 10 Tryz.call67 (R9  p1 ([32] : List UInt8) w3  z6 d4) ?_
 rintro e w8 ⟨a1, a2, rfl, b7⟩
 refine ⟨_, rfl, ?_⟩
 have d5 := SP.call d3 b7
 clear b7
 refine iR 1 3 [(11, (.agg #[(.slice a1 (List.length z6) a2), (.bool false)]))] ?_
 refine iS 4 ?_
 refine Yi (t := 112) (x := (.tmp 11)) (v := (.agg #[(.slice a1 (List.length z6) a2), (.bool false)])) (d := (some 12)) (k := 3) K rfl K d5 ?_
 intro j b8 d6
 refine iR 1 5 [(4, (pt j 0))] ?_
 refine iF ?_
 refine aQ ?_
 refine aR ?_
 refine iR 1 1 [(13, (pt j 0))] ?_
 obtain ⟨p, d7, H⟩ := Qa H
 refine iS 2 ?_
 have b9 : SP [] w0 b8 [Qk g2 52 #[(.int .i64 0), (.int .i64 0), (.int .u32 0), (.string ⟨List.toArray ([] : List UInt8)⟩), (.int .i64 0), (.string ⟨List.toArray ([] : List UInt8)⟩), (.string ⟨List.toArray ([] : List UInt8)⟩), (.string ⟨List.toArray ([] : List UInt8)⟩)], rdE Qn a1 a2 z6, Qk j 112 #[(.slice a1 (List.length z6) a2), (.bool false)]] := Mc d6 (i := 1) rfl
 refine cF 68 #[(.tmp 13)] #[109] 14 Tryz.call68 (V7 j a1 a2 z6 false b8 (Za b9 [2, 1] rfl rfl) p d7) ?_
 rintro e c0 ⟨a3, a4, rfl, c1⟩
 refine ⟨_, rfl, ?_⟩
 have d8 : SP [] w0 c0 [Qk g2 52 #[(.int .i64 0), (.int .i64 0), (.int .u32 0), (.string ⟨List.toArray ([] : List UInt8)⟩), (.int .i64 0), (.string ⟨List.toArray ([] : List UInt8)⟩), (.string ⟨List.toArray ([] : List UInt8)⟩), (.string ⟨List.toArray ([] : List UInt8)⟩)], Qk j 112 #[(.slice a3 (List.length p.2.1) a4), (.bool p.2.2)], rdE Qn a3 a4 p.2.1] := Qr b9 [2, 1] [0] rfl rfl c1 rfl
 clear c1
 refine iR 1 3 [(5, (.string ⟨List.toArray p.1⟩))] ?_
 refine iF ?_
 refine aQ ?_
 refine aQ ?_
 refine aR ?_
 obtain ⟨d9, e0, H⟩ := Qa H
 refine iS 1 ?_
 refine cF 69 #[] #[] 15 Tryz.call69 (Ua   c0  d9 e0) ?_
 rintro e f4 ⟨a8, rfl, c2⟩
 refine ⟨_, rfl, ?_⟩
 have e1 := SP.call d8 c2
 clear c2
 refine iS 2 ?_
 refine Lu (kne p.1) (T := 113) (kt := 3) (et := 118) (m := a8) (L := F7) (x := (.tmp 15)) (i := 3) (dst := (some 16)) (o := 1) K rfl K K e1 rfl ?_
 intro a5 f5 e2
 refine iF ?_
 refine J2 K (id := 0) K ?_
 refine Du K (fun f ρ w => ∃ a9, Q7 ρ [(2, (pt g2 0)), (4, (pt j 0)), (5, (.string ⟨List.toArray p.1⟩)), (16, (pt a5 0))] ∧ SP [] w0 w [Qk g2 52 #[(.int .i64 0), (.int .i64 0), (.int .u32 0), (.string ⟨List.toArray ([] : List UInt8)⟩), (.int .i64 0), (.string ⟨List.toArray ([] : List UInt8)⟩), (.string ⟨List.toArray ([] : List UInt8)⟩), (.string ⟨List.toArray ([] : List UInt8)⟩)], Qk j 112 #[(.slice a3 (List.length p.2.1) a4), (.bool p.2.2)], rdE Qn a3 a4 p.2.1, M4 a8 a5 F7 (kne p.1) a9] ∧ a9 < f) (by rintro ρ w ⟨q, _, _, hq⟩; exact absurd hq (Nat.not_lt_zero _)) ?_ ((List.length F7) + 1) ?_
 ·rintro f ρ f6 ⟨a9, e3, c3, e4⟩
  refine At.known [(2, (pt g2 0)), (4, (pt j 0)), (5, (.string ⟨List.toArray p.1⟩)), (16, (pt a5 0))] e3 ?_
  refine aQ ?_
  refine aR ?_
  refine iS 1 ?_
  refine M5 (x := (.tmp 16)) (dst := (some 17)) (o := 0) K rfl K c3 (i := 3) rfl (fun hall43 => ?_) (fun f7 e5 f8 e6 e7 c4 => ?_)
  ·rw [ktab_none hall43] at H
   have H := optN H
   refine iR 1 2 [(18, (.bool false))] ?_
   refine iF ?_
   refine aQ ?_
   refine Vm K (o := (.tmp 18)) K (b := false) K (fun c5 => ?_) (fun c5 => ?_)
   ·cases c5
   refine At.exit K (id := 0) K ?_
   refine aQ ?_
   refine aR ?_
   refine iR 1 1 [(46, (.agg #[(.int .i64 0), (.int .i64 0), (.int .u32 0), (.string ⟨List.toArray ([] : List UInt8)⟩), (.int .i64 0), (.string ⟨List.toArray ([] : List UInt8)⟩), (.string ⟨List.toArray ([] : List UInt8)⟩), (.string ⟨List.toArray ([] : List UInt8)⟩)]))] ?_
   refine iS 2 ?_
   refine Qh.store (t := 52) (x := (.tmp 2)) (y := (.tmp 46)) (g := g2) (off := 0) (i := 0) (v := (.agg #[(.int .i64 0), (.int .i64 0), (.int .u32 0), (.string ⟨List.toArray ([] : List UInt8)⟩), (.int .i64 0), (.string ⟨List.toArray ([] : List UInt8)⟩), (.string ⟨List.toArray ([] : List UInt8)⟩), (.string ⟨List.toArray ([] : List UInt8)⟩)])) (cs' := #[(.int .i64 0), (.int .i64 0), (.int .u32 0), (.string ⟨List.toArray ([] : List UInt8)⟩), (.int .i64 0), (.string ⟨List.toArray ([] : List UInt8)⟩), (.string ⟨List.toArray ([] : List UInt8)⟩), (.string ⟨List.toArray ([] : List UInt8)⟩)]) (d := none) (k := 1) K rfl K K c3 rfl K ?_
   intro f9 c6
   refine iR 1 3 [(3, (.bool false))] ?_
   refine iF ?_
   refine At.ret K ?_
   refine ⟨(.tuple #[(.agg #[(.int .i64 0), (.int .i64 0), (.int .u32 0), (.string ⟨List.toArray ([] : List UInt8)⟩), (.int .i64 0), (.string ⟨List.toArray ([] : List UInt8)⟩), (.string ⟨List.toArray ([] : List UInt8)⟩), (.string ⟨List.toArray ([] : List UInt8)⟩)]), (.bool false)]), Ex K (Gt (a := 2) (t := 52) (g := g2) (off := 0) K (SP.get c6 (i := 0) rfl) K) (Dz (t := 3) K), ?_⟩
   obtain rfl := Qb H
   exact ⟨rfl, SP.sel c6 [] rfl rfl⟩
  ·obtain ⟨h, c7, rfl⟩ := ktab_mem e6
   refine iR 1 2 [(18, (.bool true))] ?_
   refine iF ?_
   refine aQ ?_
   refine Vm K (o := (.tmp 18)) K (b := true) K (fun c8 => ?_) (fun c8 => ?_)
   rotate_left
   ·cases c8
   refine At.skip K ?_
   refine J2 K (id := 1) K ?_
   refine aQ ?_
   refine aR ?_
   refine iS 1 ?_
   refine Lv (x := (.tmp 16)) (dst := (some 19)) (o := 0) K rfl K (SP.get c4 (i := 3) rfl) ?_
   refine iR 2 3 [(20, (.int .i64 h)), (21, (.agg #[(.string ⟨List.toArray (Z1 h)⟩), (.func (.func (Dm h)) #[] #[]), (.func (.func (Dn h)) #[] #[])]))] ?_
   refine iS 4 ?_
   refine Qh.alloc (t := 118) (z := (.agg #[(.string ⟨List.toArray ([] : List UInt8)⟩), .nilFunc, .nilFunc])) (d := (some 7)) (k := 3) K rfl K c4 ?_
   intro u g0 e8
   refine iR 1 5 [(6, (.int .i64 h))] ?_
   refine iS 6 ?_
   refine Qh.store (t := 118) (x := (.tmp 7)) (y := (.tmp 21)) (g := u) (off := 0) (i := 4) (v := (.agg #[(.string ⟨List.toArray (Z1 h)⟩), (.func (.func (Dm h)) #[] #[]), (.func (.func (Dn h)) #[] #[])])) (cs' := #[(.string ⟨List.toArray (Z1 h)⟩), (.func (.func (Dm h)) #[] #[]), (.func (.func (Dn h)) #[] #[])]) (d := none) (k := 5) K rfl K K e8 rfl K ?_
   intro g1 b0
   refine iF ?_
   refine aQ ?_
   refine aQ ?_
   refine aR ?_
   refine iR 1 1 [(22, (pt u 0))] ?_
   refine iS 2 ?_
   refine sL 9 22 u 0 4 (.string ⟨List.toArray (Z1 h)⟩) 23 b0 rfl ?_
   refine iR 1 3 [(24, (.string ⟨List.toArray p.1⟩))] ?_
   refine iS 4 ?_
   refine Qu (op := .neq) (T := 9) (T' := 9) (x := (.tmp 23)) (y := (.tmp 24)) (a := (Z1 h)) (b := p.1) (r := (.bool (!((Z1 h) == p.1)))) (d := (some 25)) (k := 3) K rfl K K rfl ?_
   refine iF ?_
   refine Vm K (o := (.tmp 25)) K (b := (!((Z1 h) == p.1))) K (fun b1 => ?_) (fun b1 => ?_)
   ·skip
    refine At.exit K (id := 1) K ?_
    have e9 := SP.sel (SP.tback b0 (i := 3) rfl (kne_of c7 b1)) [0, 1, 2, 3] rfl rfl
    exact ⟨_, ⟨K, K, K, K, trivial⟩, e9, Nat.lt_of_lt_of_le e7 (Nat.le_of_lt_succ e4)⟩
   ·rw [ktab_hit c7 b1] at H
    have H := optS H
    refine At.skip K ?_
    refine aQ ?_
    refine aR ?_
    refine iR 2 2 [(26, (.int .i64 h)), (27, (.agg #[(.int .i64 h), (.int .i64 0), (.int .u32 0), (.string ⟨List.toArray ([] : List UInt8)⟩), (.int .i64 0), (.string ⟨List.toArray ([] : List UInt8)⟩), (.string ⟨List.toArray ([] : List UInt8)⟩), (.string ⟨List.toArray ([] : List UInt8)⟩)]))] ?_
    refine iS 3 ?_
    refine Qh.alloc (t := 52) (z := (.agg #[(.int .i64 0), (.int .i64 0), (.int .u32 0), (.string ⟨List.toArray ([] : List UInt8)⟩), (.int .i64 0), (.string ⟨List.toArray ([] : List UInt8)⟩), (.string ⟨List.toArray ([] : List UInt8)⟩), (.string ⟨List.toArray ([] : List UInt8)⟩)])) (d := (some 8)) (k := 2) K rfl K b0 ?_
    intro s g3 f0
    refine iS 4 ?_
    refine Qh.store (t := 52) (x := (.tmp 8)) (y := (.tmp 27)) (g := s) (off := 0) (i := 5) (v := (.agg #[(.int .i64 h), (.int .i64 0), (.int .u32 0), (.string ⟨List.toArray ([] : List UInt8)⟩), (.int .i64 0), (.string ⟨List.toArray ([] : List UInt8)⟩), (.string ⟨List.toArray ([] : List UInt8)⟩), (.string ⟨List.toArray ([] : List UInt8)⟩)])) (cs' := #[(.int .i64 h), (.int .i64 0), (.int .u32 0), (.string ⟨List.toArray ([] : List UInt8)⟩), (.int .i64 0), (.string ⟨List.toArray ([] : List UInt8)⟩), (.string ⟨List.toArray ([] : List UInt8)⟩), (.string ⟨List.toArray ([] : List UInt8)⟩)]) (d := none) (k := 3) K rfl K K f0 rfl K ?_
    intro f1 a6
    refine iF ?_
    refine aQ ?_
    refine aR ?_
    refine iR 1 1 [(28, (pt u 2))] ?_
    refine iS 2 ?_
    refine sL 116 28 u 2 4 (.func (.func (Dn h)) #[] #[]) 29 a6 rfl ?_
    refine iR 1 3 [(30, (pt j 0))] ?_
    obtain ⟨c, f2, H⟩ := Qa H
    refine iS 4 ?_
    refine Fg (f := (Dn h)) (fo := (.tmp 29)) (xs := #[(.tmp 30), (.tmp 8)]) (tys := #[109, 119]) (first := #[]) (captured := #[]) (d := (some 31)) (k := 3) K rfl K K (M7 h) (Ly h j a3 a4 s p.2.1 p.2.2 h 0 0 ([] : List UInt8) 0 ([] : List UInt8) ([] : List UInt8) ([] : List UInt8) f1 (fun w hm => Qt hL (No a6 (l := [1, 2, 5]) rfl hm)) (Za a6 [1, 2, 5] rfl rfl) c f2) ?_
    rintro e f3 ⟨b2, b3, rfl, c9⟩
    refine ⟨_, rfl, ?_⟩
    have a7 : SP [] w0 f3 [Qk g2 52 #[(.int .i64 0), (.int .i64 0), (.int .u32 0), (.string ⟨List.toArray ([] : List UInt8)⟩), (.int .i64 0), (.string ⟨List.toArray ([] : List UInt8)⟩), (.string ⟨List.toArray ([] : List UInt8)⟩), (.string ⟨List.toArray ([] : List UInt8)⟩)], iterC a8 a5 F7 (kne p.1) e5 ((.int .i64 h), Kz h), Qk u 118 #[(.string ⟨List.toArray (Z1 h)⟩), (.func (.func (Dm h)) #[] #[]), (.func (.func (Dn h)) #[] #[])], Qk j 112 #[(.slice b2 (List.length c.1) b3), (.bool c.2.1)], rdE Qn b2 b3 c.1, Qk s 52 #[(.int .i64 c.2.2.1), (.int .i64 c.2.2.2.1), (.int .u32 c.2.2.2.2.1), (.string ⟨List.toArray c.2.2.2.2.2.1⟩), (.int .i64 c.2.2.2.2.2.2.1), (.string ⟨List.toArray c.2.2.2.2.2.2.2.1⟩), (.string ⟨List.toArray c.2.2.2.2.2.2.2.2.1⟩), (.string ⟨List.toArray c.2.2.2.2.2.2.2.2.2⟩)]] := Qr a6 [1, 2, 5] [0, 3, 4] rfl rfl c9 rfl
    clear c9
    refine iF ?_
    refine aQ ?_
    refine aQ ?_
    refine At.join (fun ρ w => ∃ (a0 : Bool), Q7 ρ [(2, (pt g2 0)), (8, (pt s 0)), (43, (.bool a0))] ∧ SP [] w0 w [Qk g2 52 #[(.int .i64 0), (.int .i64 0), (.int .u32 0), (.string ⟨List.toArray ([] : List UInt8)⟩), (.int .i64 0), (.string ⟨List.toArray ([] : List UInt8)⟩), (.string ⟨List.toArray ([] : List UInt8)⟩), (.string ⟨List.toArray ([] : List UInt8)⟩)], Qk s 52 #[(.int .i64 c.2.2.1), (.int .i64 c.2.2.2.1), (.int .u32 c.2.2.2.2.1), (.string ⟨List.toArray c.2.2.2.2.2.1⟩), (.int .i64 c.2.2.2.2.2.2.1), (.string ⟨List.toArray c.2.2.2.2.2.2.2.1⟩), (.string ⟨List.toArray c.2.2.2.2.2.2.2.2.1⟩), (.string ⟨List.toArray c.2.2.2.2.2.2.2.2.2⟩)]] ∧ Yy c a0 = some r) ?_ ?_
    ·refine aR ?_
     refine iR 3 3 [(32, (pt j 0)), (33, (pt j 0)), (34, (pt j 1))] ?_
     refine iS 4 ?_
     refine sL 4 34 j 1 3 (.bool c.2.1) 35 a7 rfl ?_
     refine iR 1 5 [(36, (.bool c.2.1))] ?_
     refine In.guard (t := 36) (b := c.2.1) K (fun b4 => ?_) (fun b4 => ?_)
     ·have H := ct H b4
      refine iR 7 12 [(37, undef), (38, undef), (39, undef), (40, undef), (41, undef), (42, undef), (43, (.bool true))] ?_
      refine iF ?_
      exact ⟨true, ⟨K, K, K, trivial⟩, SP.sel a7 [0, 5] rfl rfl, H⟩
     ·have H := cf H b4
      refine iR 3 8 [(37, (pt j 0)), (38, (pt j 0)), (39, (pt j 0))] ?_
      refine iS 9 ?_
      refine sL 79 39 j 0 3 (.slice b2 (List.length c.1) b3) 40 a7 rfl ?_
      refine iR 3 12 [(41, (.int .i64 ((List.length c.1 : Nat) : Int))), (42, (.bool (decide (((List.length c.1 : Nat) : Int) > 0)))), (43, (.bool (decide (((List.length c.1 : Nat) : Int) > 0))))] ?_
      refine iF ?_
      exact ⟨(decide (((List.length c.1 : Nat) : Int) > 0)), ⟨K, K, K, trivial⟩, SP.sel a7 [0, 5] rfl rfl, H⟩
    ·rintro ρ g4 ⟨a0, hk, b5, H⟩
     unfold Yy at H
     first | refine At.known [(2, (pt g2 0)), (8, (pt s 0)), (43, (.bool a0))] hk ?_ | rw [← Qc (l := [(2, (pt g2 0)), (8, (pt s 0)), (43, (.bool a0))]) hk]
     refine Vm K (o := (.tmp 43)) K (b := a0) K (fun b6 => ?_) (fun b6 => ?_)
     ·have H := ct H b6
      refine aQ ?_
      refine aR ?_
      refine iR 1 1 [(44, (.agg #[(.int .i64 0), (.int .i64 0), (.int .u32 0), (.string ⟨List.toArray ([] : List UInt8)⟩), (.int .i64 0), (.string ⟨List.toArray ([] : List UInt8)⟩), (.string ⟨List.toArray ([] : List UInt8)⟩), (.string ⟨List.toArray ([] : List UInt8)⟩)]))] ?_
      refine iS 2 ?_
      refine Qh.store (t := 52) (x := (.tmp 2)) (y := (.tmp 44)) (g := g2) (off := 0) (i := 0) (v := (.agg #[(.int .i64 0), (.int .i64 0), (.int .u32 0), (.string ⟨List.toArray ([] : List UInt8)⟩), (.int .i64 0), (.string ⟨List.toArray ([] : List UInt8)⟩), (.string ⟨List.toArray ([] : List UInt8)⟩), (.string ⟨List.toArray ([] : List UInt8)⟩)])) (cs' := #[(.int .i64 0), (.int .i64 0), (.int .u32 0), (.string ⟨List.toArray ([] : List UInt8)⟩), (.int .i64 0), (.string ⟨List.toArray ([] : List UInt8)⟩), (.string ⟨List.toArray ([] : List UInt8)⟩), (.string ⟨List.toArray ([] : List UInt8)⟩)]) (d := none) (k := 1) K rfl K K b5 rfl K ?_
      intro g5 d0
      refine iR 1 3 [(3, (.bool false))] ?_
      refine iF ?_
      refine At.ret K ?_
      refine ⟨(.tuple #[(.agg #[(.int .i64 0), (.int .i64 0), (.int .u32 0), (.string ⟨List.toArray ([] : List UInt8)⟩), (.int .i64 0), (.string ⟨List.toArray ([] : List UInt8)⟩), (.string ⟨List.toArray ([] : List UInt8)⟩), (.string ⟨List.toArray ([] : List UInt8)⟩)]), (.bool false)]), Ex K (Gt (a := 2) (t := 52) (g := g2) (off := 0) K (SP.get d0 (i := 0) rfl) K) (Dz (t := 3) K), ?_⟩
      obtain rfl := Qb H
      exact ⟨rfl, SP.sel d0 [] rfl rfl⟩
     ·have H := cf H b6
      refine At.skip K ?_
      refine aQ ?_
      refine aR ?_
      refine iS 1 ?_
      refine sL 52 8 s 0 1 (.agg #[(.int .i64 c.2.2.1), (.int .i64 c.2.2.2.1), (.int .u32 c.2.2.2.2.1), (.string ⟨List.toArray c.2.2.2.2.2.1⟩), (.int .i64 c.2.2.2.2.2.2.1), (.string ⟨List.toArray c.2.2.2.2.2.2.2.1⟩), (.string ⟨List.toArray c.2.2.2.2.2.2.2.2.1⟩), (.string ⟨List.toArray c.2.2.2.2.2.2.2.2.2⟩)]) 45 b5 rfl ?_
      refine iS 2 ?_
      refine Qh.store (t := 52) (x := (.tmp 2)) (y := (.tmp 45)) (g := g2) (off := 0) (i := 0) (v := (.agg #[(.int .i64 c.2.2.1), (.int .i64 c.2.2.2.1), (.int .u32 c.2.2.2.2.1), (.string ⟨List.toArray c.2.2.2.2.2.1⟩), (.int .i64 c.2.2.2.2.2.2.1), (.string ⟨List.toArray c.2.2.2.2.2.2.2.1⟩), (.string ⟨List.toArray c.2.2.2.2.2.2.2.2.1⟩), (.string ⟨List.toArray c.2.2.2.2.2.2.2.2.2⟩)])) (cs' := #[(.int .i64 c.2.2.1), (.int .i64 c.2.2.2.1), (.int .u32 c.2.2.2.2.1), (.string ⟨List.toArray c.2.2.2.2.2.1⟩), (.int .i64 c.2.2.2.2.2.2.1), (.string ⟨List.toArray c.2.2.2.2.2.2.2.1⟩), (.string ⟨List.toArray c.2.2.2.2.2.2.2.2.1⟩), (.string ⟨List.toArray c.2.2.2.2.2.2.2.2.2⟩)]) (d := none) (k := 1) K rfl K K b5 rfl K ?_
      intro g6 d1
      refine iR 1 3 [(3, (.bool true))] ?_
      refine iF ?_
      refine At.ret K ?_
      refine ⟨(.tuple #[(.agg #[(.int .i64 c.2.2.1), (.int .i64 c.2.2.2.1), (.int .u32 c.2.2.2.2.1), (.string ⟨List.toArray c.2.2.2.2.2.1⟩), (.int .i64 c.2.2.2.2.2.2.1), (.string ⟨List.toArray c.2.2.2.2.2.2.2.1⟩), (.string ⟨List.toArray c.2.2.2.2.2.2.2.2.1⟩), (.string ⟨List.toArray c.2.2.2.2.2.2.2.2.2⟩)]), (.bool true)]), Ex K (Gt (a := 2) (t := 52) (g := g2) (off := 0) K (SP.get d1 (i := 0) rfl) K) (Dz (t := 3) K), ?_⟩
      obtain rfl := Qb H
      exact ⟨rfl, SP.sel d1 [] rfl rfl⟩
 ·exact ⟨_, ⟨K, K, K, K, trivial⟩, e2, Nat.lt_succ_self _⟩
def N8 (a : ((List UInt8))) (b : Bool) : Option ((List UInt8)) :=
  (cond b (some (([] : List UInt8))) (some (a)))
def Us (b : Int) (d : Int) (e : Int) (f : (List UInt8)) (g : Int) (h : (List UInt8)) (i : (List UInt8)) (j : (List UInt8)) : Option ((List UInt8)) :=
  ((Gc ).bind fun l => (cond (kin b) ((Mj b ([(Z1 b)] : List (List UInt8)) false b d e f g h i j).bind fun k => ((Q0 k.1 k.2).bind fun c => ((Jz c).bind fun a => (cond (!a.2.2.2.2.2.2.2.2) (N8 c true) (N8 c (!((a.1 == b) && ((a.2.1 == d) && ((a.2.2.1 == e) && ((a.2.2.2.1 == f) && ((a.2.2.2.2.1 == g) && ((a.2.2.2.2.2.1 == h) && ((a.2.2.2.2.2.2.1 == i) && (a.2.2.2.2.2.2.2.1 == j)))))))))))))) (some (([] : List UInt8)))))
set_option maxHeartbeats 40000000 in
theorem Z0  (a : Int) (q : Int) (s : Int) (u : (List UInt8)) (a0 : Int) (a1 : (List UInt8)) (a2 : (List UInt8)) (a3 : (List UInt8)) (w0 : World) (hL : Gu w0)  (r : ((List UInt8))) (H : Us a q s u a0 a1 a2 a3 = some r) :
  Calls Tryz.prog 35 #[(.agg #[(.int .i64 a), (.int .i64 q), (.int .u32 s), (.string ⟨List.toArray u⟩), (.int .i64 a0), (.string ⟨List.toArray a1⟩), (.string ⟨List.toArray a2⟩), (.string ⟨List.toArray a3⟩)])] w0 (fun e w' => e = .returned (.string ⟨List.toArray r⟩) ∧ SP [] w0 w' []) := by
 unfold Us at H
 refine Ql (n := 43) Tryz.func35 K K K ?_
 have f2 := Qy [] w0
 refine aQ ?_
 refine aR ?_
 refine iS 1 ?_
 refine Yi (t := 52) (x := (.tmp 0)) (v := (.agg #[(.int .i64 a), (.int .i64 q), (.int .u32 s), (.string ⟨List.toArray u⟩), (.int .i64 a0), (.string ⟨List.toArray a1⟩), (.string ⟨List.toArray a2⟩), (.string ⟨List.toArray a3⟩)])) (d := (some 1)) (k := 0) K rfl K f2 ?_
 intro g9 l7 d1
 refine iR 1 2 [(2, (.string ⟨List.toArray ([] : List UInt8)⟩))] ?_
 refine iF ?_
 refine aQ ?_
 obtain ⟨c0, c1, H⟩ := Qa H
 rcases Bool.eq_false_or_eq_true (kin a) with b3 | b3
 ·have H := ct H b3
  refine aG [Mb, GEq (pt g9 0), GEq (.int .i64 a), GEq (.tuple #[(.agg #[(.string ⟨List.toArray (Z1 a)⟩), (.func (.func (Dm a)) #[] #[]), (.func (.func (Dn a)) #[] #[])]), (.bool true)]), GEq (.tuple #[(.agg #[(.string ⟨List.toArray (Z1 a)⟩), (.func (.func (Dm a)) #[] #[]), (.func (.func (Dn a)) #[] #[])]), (.bool true)]), GEq (.agg #[(.string ⟨List.toArray (Z1 a)⟩), (.func (.func (Dm a)) #[] #[]), (.func (.func (Dn a)) #[] #[])]), GEq (.bool true), Mb, Mb, GEq (.bool true)] [0, 7, 8] [([], fun vs w => VL vs [] ∧ SP [] w0 w [Qk g9 52 #[(.int .i64 a), (.int .i64 q), (.int .u32 s), (.string ⟨List.toArray u⟩), (.int .i64 a0), (.string ⟨List.toArray a1⟩), (.string ⟨List.toArray a2⟩), (.string ⟨List.toArray a3⟩)]]), ([0], fun vs w => ∃ (a7 : Nat), VL vs [(.map (some a7))] ∧ SP [] w0 w [Qk g9 52 #[(.int .i64 a), (.int .i64 q), (.int .u32 s), (.string ⟨List.toArray u⟩), (.int .i64 a0), (.string ⟨List.toArray a1⟩), (.string ⟨List.toArray a2⟩), (.string ⟨List.toArray a3⟩)], Ky a7 F7]), ([7], fun vs w => ∃ (b6 : Nat), VL vs [(pt b6 0)] ∧ SP [] w0 w [Qk g9 52 #[(.int .i64 a), (.int .i64 q), (.int .u32 s), (.string ⟨List.toArray u⟩), (.int .i64 a0), (.string ⟨List.toArray a1⟩), (.string ⟨List.toArray a2⟩), (.string ⟨List.toArray a3⟩)], Qk b6 118 #[(.string ⟨List.toArray ([] : List UInt8)⟩), .nilFunc, .nilFunc]]), ([0, 7], fun vs w => ∃ (a8 : Nat), ∃ (a9 : Nat), VL vs [(.map (some a8)), (pt a9 0)] ∧ SP [] w0 w [Qk g9 52 #[(.int .i64 a), (.int .i64 q), (.int .u32 s), (.string ⟨List.toArray u⟩), (.int .i64 a0), (.string ⟨List.toArray a1⟩), (.string ⟨List.toArray a2⟩), (.string ⟨List.toArray a3⟩)], Ky a8 F7, Qk a9 118 #[(.string ⟨List.toArray ([] : List UInt8)⟩), .nilFunc, .nilFunc]]), ([0, 7, 8], fun vs w => ∃ (b7 : Nat), ∃ (a5 : Nat), VL vs [(.map (some b7)), (pt a5 0), undef] ∧ SP [] w0 w [Qk g9 52 #[(.int .i64 a), (.int .i64 q), (.int .u32 s), (.string ⟨List.toArray u⟩), (.int .i64 a0), (.string ⟨List.toArray a1⟩), (.string ⟨List.toArray a2⟩), (.string ⟨List.toArray a3⟩)], Ky b7 F7, Qk a5 118 #[(.string ⟨List.toArray (Z1 a)⟩), (.func (.func (Dm a)) #[] #[]), (.func (.func (Dn a)) #[] #[])]])] 10 4 ⟨trivial, SP.drew d1⟩ ?_ ?_
  iterate 10 refine And.intro ?_ ?_
  exact trivial
  ·refine Owe.heavy K [(0, 1), (2, 3)] K (Qe ⟨K, K, ?_⟩ (Qe ⟨K, K, ?_⟩ Vl))
   ·rintro ρ' w' hs p ⟨l8, f3⟩
    refine kN [] trivial fun j => ?_
    refine cF 69 #[] #[] 10 Tryz.call69 (Ua   w'  c0 c1) ?_
    rintro e l9 ⟨f4, rfl, d2⟩
    refine ⟨_, rfl, ?_⟩
    have f5 := SP.call f3 d2
    clear d2
    refine ⟨_, Qg j, trivial, ?_⟩
    exact (Exists.intro f4 (And.intro (And.intro rfl (trivial)) (f5)))
   ·rintro ρ' w' hs p ⟨b6, ⟨f6, -⟩, f7⟩
    refine kN [] trivial fun j => ?_
    refine cF 69 #[] #[] 10 Tryz.call69 (Ua   w'  c0 c1) ?_
    rintro e m0 ⟨f8, rfl, d3⟩
    refine ⟨_, rfl, ?_⟩
    have f9 := SP.call f7 d3
    clear d3
    refine ⟨_, Qg j, trivial, ?_⟩
    exact (Exists.intro f8 (Exists.intro b6 (And.intro (And.intro rfl (And.intro f6 (trivial))) (SP.sel f9 [0, 2, 1] rfl rfl))))
  ·exact oV (hC (hS 1 (pt g9 0)) (h0)) (pt g9 0)
  ·refine Owe.light K [0, 1, 2, 3] K (Qe ?_ (Qe ?_ (Qe ?_ (Qe ?_ Vl))))
   ·rintro ρ' w' hs p ⟨m1, g0⟩
    refine kM (kc (kA p 1 11) k0) fun j => ?_
    refine sL 3 11 g9 0 0 (.int .i64 a) 12 g0 rfl ?_
    exact eK j
   ·rintro ρ' w' hs p ⟨a7, ⟨m2, -⟩, g1⟩
    refine kM (kc (kA p 1 11) k0) fun j => ?_
    refine sL 3 11 g9 0 0 (.int .i64 a) 12 g1 rfl ?_
    exact eK j
   ·rintro ρ' w' hs p ⟨b6, ⟨m3, -⟩, g2⟩
    refine kM (kc (kA p 1 11) k0) fun j => ?_
    refine sL 3 11 g9 0 0 (.int .i64 a) 12 g2 rfl ?_
    exact eK j
   ·rintro ρ' w' hs p ⟨a8, a9, ⟨m4, m5, -⟩, g3⟩
    refine kM (kc (kA p 1 11) k0) fun j => ?_
    refine sL 3 11 g9 0 0 (.int .i64 a) 12 g3 rfl ?_
    exact eK j
  ·refine Owe.light K [1, 3] K (Qe ?_ (Qe ?_ Vl))
   ·rintro ρ' w' hs p ⟨a7, ⟨g4, -⟩, g5⟩
    refine kN [(10, (.map (some a7))), (12, (.int .i64 a))] ⟨(Qv (h := 0) K).symm.trans g4, p 2 12 K, trivial⟩ fun j => ?_
    refine Hw (T := 113) (kt := 3) (et := 118) (m := a7) (L := F7) (k := (.int .i64 a)) (d := (.int .i64)) (x := (.tmp 10)) (ix := (.tmp 12)) (dst := (some 13)) (o := 3) (v := Kz a) K rfl K K K K K (ktab_in b3) (SP.get g5 (i := 1) rfl) ?_
    exact eK j
   ·rintro ρ' w' hs p ⟨a8, a9, ⟨g6, m6, -⟩, g7⟩
    refine kN [(10, (.map (some a8))), (12, (.int .i64 a))] ⟨(Qv (h := 0) K).symm.trans g6, p 2 12 K, trivial⟩ fun j => ?_
    refine Hw (T := 113) (kt := 3) (et := 118) (m := a8) (L := F7) (k := (.int .i64 a)) (d := (.int .i64)) (x := (.tmp 10)) (ix := (.tmp 12)) (dst := (some 13)) (o := 3) (v := Kz a) K rfl K K K K K (ktab_in b3) (SP.get g7 (i := 1) rfl) ?_
    exact eK j
  ·exact oV (hC (hA 3 13) (h0)) (.tuple #[(.agg #[(.string ⟨List.toArray (Z1 a)⟩), (.func (.func (Dm a)) #[] #[]), (.func (.func (Dn a)) #[] #[])]), (.bool true)])
  ·exact oV (hC (hA 4 9) (h0)) (.agg #[(.string ⟨List.toArray (Z1 a)⟩), (.func (.func (Dm a)) #[] #[]), (.func (.func (Dn a)) #[] #[])])
  ·exact oV (hC (hA 4 9) (h0)) (.bool true)
  ·refine Owe.heavy K [(0, 2), (1, 3)] K (Qe ⟨K, K, ?_⟩ (Qe ⟨K, K, ?_⟩ Vl))
   ·rintro ρ' w' hs p ⟨m7, g8⟩
    refine kN [] trivial fun j => ?_
    refine Qh.alloc (t := 118) (z := (.agg #[(.string ⟨List.toArray ([] : List UInt8)⟩), .nilFunc, .nilFunc])) (d := (some 3)) (k := 7) K rfl K g8 ?_
    intro h1 m8 h2
    refine ⟨_, Qg j, trivial, ?_⟩
    exact (Exists.intro h1 (And.intro (And.intro rfl (trivial)) (h2)))
   ·rintro ρ' w' hs p ⟨a7, ⟨h3, -⟩, h4⟩
    refine kN [] trivial fun j => ?_
    refine Qh.alloc (t := 118) (z := (.agg #[(.string ⟨List.toArray ([] : List UInt8)⟩), .nilFunc, .nilFunc])) (d := (some 3)) (k := 7) K rfl K h4 ?_
    intro h5 m9 h6
    refine ⟨_, Qg j, trivial, ?_⟩
    exact (Exists.intro a7 (Exists.intro h5 (And.intro (And.intro h3 (And.intro rfl (trivial))) (h6))))
  ·refine oH 3 4 ?_
   ·rintro ρ' w' hs p ⟨a8, a9, ⟨h7, d4, -⟩, h8⟩
    refine kN [(3, (pt a9 0)), (14, (.agg #[(.string ⟨List.toArray (Z1 a)⟩), (.func (.func (Dm a)) #[] #[]), (.func (.func (Dn a)) #[] #[])]))] ⟨(Qv (h := 7) K).symm.trans d4, p 5 14 K, trivial⟩ fun j => ?_
    refine Qh.store (t := 118) (x := (.tmp 3)) (y := (.tmp 14)) (g := a9) (off := 0) (i := 2) (v := (.agg #[(.string ⟨List.toArray (Z1 a)⟩), (.func (.func (Dm a)) #[] #[]), (.func (.func (Dn a)) #[] #[])])) (cs' := #[(.string ⟨List.toArray (Z1 a)⟩), (.func (.func (Dm a)) #[] #[]), (.func (.func (Dn a)) #[] #[])]) (d := none) (k := 8) K rfl K K h8 rfl K ?_
    intro n0 h9
    refine ⟨_, Qg j, trivial, ?_⟩
    exact (Exists.intro a8 (Exists.intro a9 (And.intro (And.intro h7 (And.intro d4 (And.intro rfl (trivial)))) (h9))))
  ·exact oV (hC (hA 6 15) (h0)) (.bool true)
  ·rintro ρ' w' hs hf ⟨b7, a5, ⟨n1, i0, n2, -⟩, c4⟩
   refine V3 [(1, (pt g9 0)), (3, (pt a5 0)), (4, (.bool true))] ⟨(hs 1 K).trans K, (Qv (h := 7) K).symm.trans i0, hf 9 4 K, trivial⟩ ?_
   obtain ⟨n3, i1⟩ : ∃ x, w' = x := ⟨_, rfl⟩
   rw [i1] at c4 ⊢
   refine aQ ?_
   refine aQ ?_
   refine aR ?_
   refine iR 2 2 [(16, (.bool true)), (17, (.bool false))] ?_
   refine iF ?_
   refine Vm K (o := (.tmp 17)) K (b := false) K (fun d5 => ?_) (fun d5 => ?_)
   ·cases d5
   refine At.skip K ?_
   refine aQ ?_
   refine aR ?_
   refine iR 1 1 [(18, (pt a5 0))] ?_
   refine iS 2 ?_
   refine sL 9 18 a5 0 2 (.string ⟨List.toArray (Z1 a)⟩) 19 c4 rfl ?_
   refine iS 3 ?_
   refine Vy (e := Qn) (T := 79) (E := 9) (len := 1) (parts := #[(0, (.tmp 19))]) (cs := #[(.string ⟨List.toArray (Z1 a)⟩)]) ([(Z1 a)] : List (List UInt8)) (d := (some 20)) (k := 2) K rfl (fun _ => K) c4 rfl rfl rfl rfl ?_
   intro c5 n4 i2
   refine iR 1 4 [(21, (.agg #[(.slice (some ⟨c5, 0, none⟩) (List.length ([(Z1 a)] : List (List UInt8))) (List.length ([(Z1 a)] : List (List UInt8)))), (.bool false)]))] ?_
   refine iS 5 ?_
   refine Yi (t := 133) (x := (.tmp 21)) (v := (.agg #[(.slice (some ⟨c5, 0, none⟩) (List.length ([(Z1 a)] : List (List UInt8))) (List.length ([(Z1 a)] : List (List UInt8)))), (.bool false)])) (d := (some 22)) (k := 4) K rfl K i2 ?_
   intro b4 i3 b8
   refine iR 1 6 [(5, (pt b4 0))] ?_
   refine iF ?_
   refine aQ ?_
   refine aR ?_
   refine iR 1 1 [(23, (pt a5 1))] ?_
   refine iS 2 ?_
   refine sL 115 23 a5 1 2 (.func (.func (Dm a)) #[] #[]) 24 b8 rfl ?_
   refine iR 1 3 [(25, (pt b4 0))] ?_
   refine iS 4 ?_
   refine sL 52 1 g9 0 0 (.agg #[(.int .i64 a), (.int .i64 q), (.int .u32 s), (.string ⟨List.toArray u⟩), (.int .i64 a0), (.string ⟨List.toArray a1⟩), (.string ⟨List.toArray a2⟩), (.string ⟨List.toArray a3⟩)]) 26 b8 rfl ?_
   obtain ⟨a6, i4, H⟩ := Qa H
   refine iS 5 ?_
   refine Fg (f := (Dm a)) (fo := (.tmp 24)) (xs := #[(.tmp 25), (.tmp 26)]) (tys := #[132, 52]) (first := #[]) (captured := #[]) (d := (some 27)) (k := 4) K rfl K K (M6 a) (Lx a b4 (some ⟨c5, 0, none⟩) (List.length ([(Z1 a)] : List (List UInt8))) ([(Z1 a)] : List (List UInt8)) false a q s u a0 a1 a2 a3 i3 (fun w hm => Qt hL (No b8 (l := [4, 3]) rfl hm)) (Za b8 [4, 3] rfl rfl) a6 i4) ?_
   rintro e d6 ⟨c6, c7, rfl, d7⟩
   refine ⟨_, rfl, ?_⟩
   have d8 : SP [] w0 d6 [Qk g9 52 #[(.int .i64 a), (.int .i64 q), (.int .u32 s), (.string ⟨List.toArray u⟩), (.int .i64 a0), (.string ⟨List.toArray a1⟩), (.string ⟨List.toArray a2⟩), (.string ⟨List.toArray a3⟩)], Ky b7 F7, Qk a5 118 #[(.string ⟨List.toArray (Z1 a)⟩), (.func (.func (Dm a)) #[] #[]), (.func (.func (Dn a)) #[] #[])], Qk b4 133 #[(.slice c6 (List.length a6.1) c7), (.bool a6.2)], Vu 9 Qn c6 c7 a6.1] := Qr b8 [4, 3] [0, 1, 2] rfl rfl d7 rfl
   clear d7
   refine iF ?_
   refine aQ ?_
   refine aR ?_
   refine iR 1 1 [(28, (pt b4 0))] ?_
   obtain ⟨a4, i5, H⟩ := Qa H
   refine iS 2 ?_
   refine cF 79 #[(.tmp 28)] #[132] 29 Tryz.call79 (U3 b4 c6 c7 a6.1 a6.2 d6 (Za d8 [3, 4] rfl rfl) a4 i5) ?_
   rintro e d9 ⟨e0, e1, rfl, e2⟩
   refine ⟨_, rfl, ?_⟩
   have e3 : SP [] w0 d9 [Qk g9 52 #[(.int .i64 a), (.int .i64 q), (.int .u32 s), (.string ⟨List.toArray u⟩), (.int .i64 a0), (.string ⟨List.toArray a1⟩), (.string ⟨List.toArray a2⟩), (.string ⟨List.toArray a3⟩)], Ky b7 F7, Qk a5 118 #[(.string ⟨List.toArray (Z1 a)⟩), (.func (.func (Dm a)) #[] #[]), (.func (.func (Dn a)) #[] #[])], Qk b4 133 #[(.slice e0 (List.length a6.1) e1), (.bool a6.2)], Vu 9 Qn e0 e1 a6.1] := Qr d8 [3, 4] [0, 1, 2] rfl rfl e2 rfl
   clear e2
   refine iR 1 3 [(6, (.string ⟨List.toArray a4⟩))] ?_
   refine iF ?_
   refine aQ ?_
   refine aQ ?_
   refine aR ?_
   refine iR 1 1 [(31, (.string ⟨List.toArray a4⟩))] ?_
   obtain ⟨c, i6, H⟩ := Qa H
   refine iS 2 ?_
   refine cF 31 #[(.tmp 31)] #[9] 32 Tryz.call31 (Ns  a4 d9 (Qt hL (SP.keeps e3)) c i6) ?_
   rintro e n5 ⟨rfl, e4⟩
   refine ⟨_, rfl, ?_⟩
   have i7 := SP.call e3 e4
   clear e4
   refine iR 3 5 [(30, (.tuple #[(.agg #[(.int .i64 c.1), (.int .i64 c.2.1), (.int .u32 c.2.2.1), (.string ⟨List.toArray c.2.2.2.1⟩), (.int .i64 c.2.2.2.2.1), (.string ⟨List.toArray c.2.2.2.2.2.1⟩), (.string ⟨List.toArray c.2.2.2.2.2.2.1⟩), (.string ⟨List.toArray c.2.2.2.2.2.2.2.1⟩)]), (.bool c.2.2.2.2.2.2.2.2)])), (33, (.agg #[(.int .i64 c.1), (.int .i64 c.2.1), (.int .u32 c.2.2.1), (.string ⟨List.toArray c.2.2.2.1⟩), (.int .i64 c.2.2.2.2.1), (.string ⟨List.toArray c.2.2.2.2.2.1⟩), (.string ⟨List.toArray c.2.2.2.2.2.2.1⟩), (.string ⟨List.toArray c.2.2.2.2.2.2.2.1⟩)])), (34, (.bool c.2.2.2.2.2.2.2.2))] ?_
   refine iS 6 ?_
   refine Qh.alloc (t := 52) (z := (.agg #[(.int .i64 0), (.int .i64 0), (.int .u32 0), (.string ⟨List.toArray ([] : List UInt8)⟩), (.int .i64 0), (.string ⟨List.toArray ([] : List UInt8)⟩), (.string ⟨List.toArray ([] : List UInt8)⟩), (.string ⟨List.toArray ([] : List UInt8)⟩)])) (d := (some 7)) (k := 5) K rfl K i7 ?_
   intro e5 n6 i8
   refine iS 7 ?_
   refine Qh.store (t := 52) (x := (.tmp 7)) (y := (.tmp 33)) (g := e5) (off := 0) (i := 5) (v := (.agg #[(.int .i64 c.1), (.int .i64 c.2.1), (.int .u32 c.2.2.1), (.string ⟨List.toArray c.2.2.2.1⟩), (.int .i64 c.2.2.2.2.1), (.string ⟨List.toArray c.2.2.2.2.2.1⟩), (.string ⟨List.toArray c.2.2.2.2.2.2.1⟩), (.string ⟨List.toArray c.2.2.2.2.2.2.2.1⟩)])) (cs' := #[(.int .i64 c.1), (.int .i64 c.2.1), (.int .u32 c.2.2.1), (.string ⟨List.toArray c.2.2.2.1⟩), (.int .i64 c.2.2.2.2.1), (.string ⟨List.toArray c.2.2.2.2.2.1⟩), (.string ⟨List.toArray c.2.2.2.2.2.2.1⟩), (.string ⟨List.toArray c.2.2.2.2.2.2.2.1⟩)]) (d := none) (k := 6) K rfl K K i8 rfl K ?_
   intro n7 c2
   refine iR 1 8 [(8, (.bool c.2.2.2.2.2.2.2.2))] ?_
   refine iF ?_
   refine aQ ?_
   refine At.join (fun ρ w => ∃ (b5 : Bool), Q7 ρ [(6, (.string ⟨List.toArray a4⟩)), (41, (.bool b5))] ∧ SP [] w0 w [] ∧ N8 a4 b5 = some r) ?_ ?_
   ·refine aR ?_
    refine iR 3 3 [(35, (.bool c.2.2.2.2.2.2.2.2)), (36, (.bool (!c.2.2.2.2.2.2.2.2))), (37, (.bool (!c.2.2.2.2.2.2.2.2)))] ?_
    refine In.guard (t := 37) (b := (!c.2.2.2.2.2.2.2.2)) K (fun c8 => ?_) (fun c8 => ?_)
    ·have H := ct H c8
     refine iR 4 7 [(38, undef), (39, undef), (40, undef), (41, (.bool true))] ?_
     refine iF ?_
     exact ⟨true, ⟨K, K, trivial⟩, SP.sel c2 [] rfl rfl, H⟩
    ·have H := cf H c8
     refine iS 4 ?_
     refine sL 52 7 e5 0 5 (.agg #[(.int .i64 c.1), (.int .i64 c.2.1), (.int .u32 c.2.2.1), (.string ⟨List.toArray c.2.2.2.1⟩), (.int .i64 c.2.2.2.2.1), (.string ⟨List.toArray c.2.2.2.2.2.1⟩), (.string ⟨List.toArray c.2.2.2.2.2.2.1⟩), (.string ⟨List.toArray c.2.2.2.2.2.2.2.1⟩)]) 38 c2 rfl ?_
     refine iS 5 ?_
     refine sL 52 1 g9 0 0 (.agg #[(.int .i64 a), (.int .i64 q), (.int .u32 s), (.string ⟨List.toArray u⟩), (.int .i64 a0), (.string ⟨List.toArray a1⟩), (.string ⟨List.toArray a2⟩), (.string ⟨List.toArray a3⟩)]) 39 c2 rfl ?_
     refine iS 6 ?_
     refine Db (op := .neq) (T := 52) (T' := 52) (x := (.tmp 38)) (y := (.tmp 39)) (vx := (.agg #[(.int .i64 c.1), (.int .i64 c.2.1), (.int .u32 c.2.2.1), (.string ⟨List.toArray c.2.2.2.1⟩), (.int .i64 c.2.2.2.2.1), (.string ⟨List.toArray c.2.2.2.2.2.1⟩), (.string ⟨List.toArray c.2.2.2.2.2.2.1⟩), (.string ⟨List.toArray c.2.2.2.2.2.2.2.1⟩)])) (vy := (.agg #[(.int .i64 a), (.int .i64 q), (.int .u32 s), (.string ⟨List.toArray u⟩), (.int .i64 a0), (.string ⟨List.toArray a1⟩), (.string ⟨List.toArray a2⟩), (.string ⟨List.toArray a3⟩)])) (v := (.bool (!((c.1 == a) && ((c.2.1 == q) && ((c.2.2.1 == s) && ((c.2.2.2.1 == u) && ((c.2.2.2.2.1 == a0) && ((c.2.2.2.2.2.1 == a1) && ((c.2.2.2.2.2.2.1 == a2) && (c.2.2.2.2.2.2.2.1 == a3))))))))))) (d := (some 40)) (k := 5) K rfl K K (by clear H; intro w; simp only [Gd]; go_simp; simp only [Gm, Nn, Re, Gd, Bool.and_true] <;> simp only [Bool.not_and]) ?_
     refine iR 1 7 [(41, (.bool (!((c.1 == a) && ((c.2.1 == q) && ((c.2.2.1 == s) && ((c.2.2.2.1 == u) && ((c.2.2.2.2.1 == a0) && ((c.2.2.2.2.2.1 == a1) && ((c.2.2.2.2.2.2.1 == a2) && (c.2.2.2.2.2.2.2.1 == a3)))))))))))] ?_
     refine iF ?_
     exact ⟨(!((c.1 == a) && ((c.2.1 == q) && ((c.2.2.1 == s) && ((c.2.2.2.1 == u) && ((c.2.2.2.2.1 == a0) && ((c.2.2.2.2.2.1 == a1) && ((c.2.2.2.2.2.2.1 == a2) && (c.2.2.2.2.2.2.2.1 == a3))))))))), ⟨K, K, trivial⟩, SP.sel c2 [] rfl rfl, H⟩
   ·rintro ρ n8 ⟨b5, hk, e6, H⟩
    unfold N8 at H
    first | refine At.known [(6, (.string ⟨List.toArray a4⟩)), (41, (.bool b5))] hk ?_ | rw [← Qc (l := [(6, (.string ⟨List.toArray a4⟩)), (41, (.bool b5))]) hk]
    refine Vm K (o := (.tmp 41)) K (b := b5) K (fun c9 => ?_) (fun c9 => ?_)
    ·have H := ct H c9
     refine aQ ?_
     refine aR ?_
     refine iR 1 1 [(2, (.string ⟨List.toArray ([] : List UInt8)⟩))] ?_
     refine iF ?_
     refine At.ret K ?_
     refine ⟨(.string ⟨List.toArray ([] : List UInt8)⟩), K, ?_⟩
     obtain rfl := Qb H
     exact ⟨rfl, SP.sel e6 [] rfl rfl⟩
    ·have H := cf H c9
     refine At.skip K ?_
     refine aQ ?_
     refine aR ?_
     refine iR 2 2 [(42, (.string ⟨List.toArray a4⟩)), (2, (.string ⟨List.toArray a4⟩))] ?_
     refine iF ?_
     refine At.ret K ?_
     refine ⟨(.string ⟨List.toArray a4⟩), K, ?_⟩
     obtain rfl := Qb H
     exact ⟨rfl, SP.sel e6 [] rfl rfl⟩
 ·have H := cf H b3
  refine aG [Mb, GEq (pt g9 0), GEq (.int .i64 a), GEq (.tuple #[(.agg #[(.string ⟨List.toArray ([] : List UInt8)⟩), .nilFunc, .nilFunc]), (.bool false)]), GEq (.tuple #[(.agg #[(.string ⟨List.toArray ([] : List UInt8)⟩), .nilFunc, .nilFunc]), (.bool false)]), GEq (.agg #[(.string ⟨List.toArray ([] : List UInt8)⟩), .nilFunc, .nilFunc]), GEq (.bool false), Mb, Mb, GEq (.bool false)] [0, 7, 8] [([], fun vs w => VL vs [] ∧ SP [] w0 w [Qk g9 52 #[(.int .i64 a), (.int .i64 q), (.int .u32 s), (.string ⟨List.toArray u⟩), (.int .i64 a0), (.string ⟨List.toArray a1⟩), (.string ⟨List.toArray a2⟩), (.string ⟨List.toArray a3⟩)]]), ([0], fun vs w => ∃ (b0 : Nat), VL vs [(.map (some b0))] ∧ SP [] w0 w [Qk g9 52 #[(.int .i64 a), (.int .i64 q), (.int .u32 s), (.string ⟨List.toArray u⟩), (.int .i64 a0), (.string ⟨List.toArray a1⟩), (.string ⟨List.toArray a2⟩), (.string ⟨List.toArray a3⟩)], Ky b0 F7]), ([7], fun vs w => ∃ (b9 : Nat), VL vs [(pt b9 0)] ∧ SP [] w0 w [Qk g9 52 #[(.int .i64 a), (.int .i64 q), (.int .u32 s), (.string ⟨List.toArray u⟩), (.int .i64 a0), (.string ⟨List.toArray a1⟩), (.string ⟨List.toArray a2⟩), (.string ⟨List.toArray a3⟩)], Qk b9 118 #[(.string ⟨List.toArray ([] : List UInt8)⟩), .nilFunc, .nilFunc]]), ([0, 7], fun vs w => ∃ (b1 : Nat), ∃ (b2 : Nat), VL vs [(.map (some b1)), (pt b2 0)] ∧ SP [] w0 w [Qk g9 52 #[(.int .i64 a), (.int .i64 q), (.int .u32 s), (.string ⟨List.toArray u⟩), (.int .i64 a0), (.string ⟨List.toArray a1⟩), (.string ⟨List.toArray a2⟩), (.string ⟨List.toArray a3⟩)], Ky b1 F7, Qk b2 118 #[(.string ⟨List.toArray ([] : List UInt8)⟩), .nilFunc, .nilFunc]]), ([0, 7, 8], fun vs w => ∃ (d0 : Nat), ∃ (c3 : Nat), VL vs [(.map (some d0)), (pt c3 0), undef] ∧ SP [] w0 w [Qk g9 52 #[(.int .i64 a), (.int .i64 q), (.int .u32 s), (.string ⟨List.toArray u⟩), (.int .i64 a0), (.string ⟨List.toArray a1⟩), (.string ⟨List.toArray a2⟩), (.string ⟨List.toArray a3⟩)], Ky d0 F7, Qk c3 118 #[(.string ⟨List.toArray ([] : List UInt8)⟩), .nilFunc, .nilFunc]])] 10 4 ⟨trivial, SP.drew d1⟩ ?_ ?_
  iterate 10 refine And.intro ?_ ?_
  exact trivial
  ·refine Owe.heavy K [(0, 1), (2, 3)] K (Qe ⟨K, K, ?_⟩ (Qe ⟨K, K, ?_⟩ Vl))
   ·rintro ρ' w' hs p ⟨n9, i9⟩
    refine kN [] trivial fun j => ?_
    refine cF 69 #[] #[] 10 Tryz.call69 (Ua   w'  c0 c1) ?_
    rintro e o0 ⟨j0, rfl, e7⟩
    refine ⟨_, rfl, ?_⟩
    have j1 := SP.call i9 e7
    clear e7
    refine ⟨_, Qg j, trivial, ?_⟩
    exact (Exists.intro j0 (And.intro (And.intro rfl (trivial)) (j1)))
   ·rintro ρ' w' hs p ⟨b9, ⟨j2, -⟩, j3⟩
    refine kN [] trivial fun j => ?_
    refine cF 69 #[] #[] 10 Tryz.call69 (Ua   w'  c0 c1) ?_
    rintro e o1 ⟨j4, rfl, e8⟩
    refine ⟨_, rfl, ?_⟩
    have j5 := SP.call j3 e8
    clear e8
    refine ⟨_, Qg j, trivial, ?_⟩
    exact (Exists.intro j4 (Exists.intro b9 (And.intro (And.intro rfl (And.intro j2 (trivial))) (SP.sel j5 [0, 2, 1] rfl rfl))))
  ·exact oV (hC (hS 1 (pt g9 0)) (h0)) (pt g9 0)
  ·refine Owe.light K [0, 1, 2, 3] K (Qe ?_ (Qe ?_ (Qe ?_ (Qe ?_ Vl))))
   ·rintro ρ' w' hs p ⟨o2, j6⟩
    refine kM (kc (kA p 1 11) k0) fun j => ?_
    refine sL 3 11 g9 0 0 (.int .i64 a) 12 j6 rfl ?_
    exact eK j
   ·rintro ρ' w' hs p ⟨b0, ⟨o3, -⟩, j7⟩
    refine kM (kc (kA p 1 11) k0) fun j => ?_
    refine sL 3 11 g9 0 0 (.int .i64 a) 12 j7 rfl ?_
    exact eK j
   ·rintro ρ' w' hs p ⟨b9, ⟨o4, -⟩, j8⟩
    refine kM (kc (kA p 1 11) k0) fun j => ?_
    refine sL 3 11 g9 0 0 (.int .i64 a) 12 j8 rfl ?_
    exact eK j
   ·rintro ρ' w' hs p ⟨b1, b2, ⟨o5, o6, -⟩, j9⟩
    refine kM (kc (kA p 1 11) k0) fun j => ?_
    refine sL 3 11 g9 0 0 (.int .i64 a) 12 j9 rfl ?_
    exact eK j
  ·refine Owe.light K [1, 3] K (Qe ?_ (Qe ?_ Vl))
   ·rintro ρ' w' hs p ⟨b0, ⟨k1, -⟩, k2⟩
    refine kN [(10, (.map (some b0))), (12, (.int .i64 a))] ⟨(Qv (h := 0) K).symm.trans k1, p 2 12 K, trivial⟩ fun j => ?_
    refine Hx (T := 113) (kt := 3) (et := 118) (m := b0) (L := F7) (k := (.int .i64 a)) (d := (.int .i64)) (x := (.tmp 10)) (ix := (.tmp 12)) (dst := (some 13)) (o := 3) (v := (.agg #[(.string ⟨List.toArray ([] : List UInt8)⟩), .nilFunc, .nilFunc])) K rfl K K K K (fun _ => K) K (Mi b3) (SP.get k2 (i := 1) rfl) ?_
    exact eK j
   ·rintro ρ' w' hs p ⟨b1, b2, ⟨k3, o7, -⟩, k4⟩
    refine kN [(10, (.map (some b1))), (12, (.int .i64 a))] ⟨(Qv (h := 0) K).symm.trans k3, p 2 12 K, trivial⟩ fun j => ?_
    refine Hx (T := 113) (kt := 3) (et := 118) (m := b1) (L := F7) (k := (.int .i64 a)) (d := (.int .i64)) (x := (.tmp 10)) (ix := (.tmp 12)) (dst := (some 13)) (o := 3) (v := (.agg #[(.string ⟨List.toArray ([] : List UInt8)⟩), .nilFunc, .nilFunc])) K rfl K K K K (fun _ => K) K (Mi b3) (SP.get k4 (i := 1) rfl) ?_
    exact eK j
  ·exact oV (hC (hA 3 13) (h0)) (.tuple #[(.agg #[(.string ⟨List.toArray ([] : List UInt8)⟩), .nilFunc, .nilFunc]), (.bool false)])
  ·exact oV (hC (hA 4 9) (h0)) (.agg #[(.string ⟨List.toArray ([] : List UInt8)⟩), .nilFunc, .nilFunc])
  ·exact oV (hC (hA 4 9) (h0)) (.bool false)
  ·refine Owe.heavy K [(0, 2), (1, 3)] K (Qe ⟨K, K, ?_⟩ (Qe ⟨K, K, ?_⟩ Vl))
   ·rintro ρ' w' hs p ⟨o8, k5⟩
    refine kN [] trivial fun j => ?_
    refine Qh.alloc (t := 118) (z := (.agg #[(.string ⟨List.toArray ([] : List UInt8)⟩), .nilFunc, .nilFunc])) (d := (some 3)) (k := 7) K rfl K k5 ?_
    intro k6 o9 k7
    refine ⟨_, Qg j, trivial, ?_⟩
    exact (Exists.intro k6 (And.intro (And.intro rfl (trivial)) (k7)))
   ·rintro ρ' w' hs p ⟨b0, ⟨k8, -⟩, k9⟩
    refine kN [] trivial fun j => ?_
    refine Qh.alloc (t := 118) (z := (.agg #[(.string ⟨List.toArray ([] : List UInt8)⟩), .nilFunc, .nilFunc])) (d := (some 3)) (k := 7) K rfl K k9 ?_
    intro l0 p0 l1
    refine ⟨_, Qg j, trivial, ?_⟩
    exact (Exists.intro b0 (Exists.intro l0 (And.intro (And.intro k8 (And.intro rfl (trivial))) (l1))))
  ·refine oH 3 4 ?_
   ·rintro ρ' w' hs p ⟨b1, b2, ⟨l2, e9, -⟩, l3⟩
    refine kN [(3, (pt b2 0)), (14, (.agg #[(.string ⟨List.toArray ([] : List UInt8)⟩), .nilFunc, .nilFunc]))] ⟨(Qv (h := 7) K).symm.trans e9, p 5 14 K, trivial⟩ fun j => ?_
    refine Qh.store (t := 118) (x := (.tmp 3)) (y := (.tmp 14)) (g := b2) (off := 0) (i := 2) (v := (.agg #[(.string ⟨List.toArray ([] : List UInt8)⟩), .nilFunc, .nilFunc])) (cs' := #[(.string ⟨List.toArray ([] : List UInt8)⟩), .nilFunc, .nilFunc]) (d := none) (k := 8) K rfl K K l3 rfl K ?_
    intro p1 l4
    refine ⟨_, Qg j, trivial, ?_⟩
    exact (Exists.intro b1 (Exists.intro b2 (And.intro (And.intro l2 (And.intro e9 (And.intro rfl (trivial)))) (l4))))
  ·exact oV (hC (hA 6 15) (h0)) (.bool false)
  ·rintro ρ' w' hs hf ⟨d0, c3, ⟨p2, l5, p3, -⟩, f0⟩
   refine V3 [(1, (pt g9 0)), (3, (pt c3 0)), (4, (.bool false))] ⟨(hs 1 K).trans K, (Qv (h := 7) K).symm.trans l5, hf 9 4 K, trivial⟩ ?_
   obtain ⟨p4, l6⟩ : ∃ x, w' = x := ⟨_, rfl⟩
   rw [l6] at f0 ⊢
   refine aQ ?_
   refine aQ ?_
   refine aR ?_
   refine iR 2 2 [(16, (.bool false)), (17, (.bool true))] ?_
   refine iF ?_
   refine Vm K (o := (.tmp 17)) K (b := true) K (fun f1 => ?_) (fun f1 => ?_)
   rotate_left
   ·cases f1
   refine aQ ?_
   refine aR ?_
   refine iR 1 1 [(2, (.string ⟨List.toArray ([] : List UInt8)⟩))] ?_
   refine iF ?_
   refine At.ret K ?_
   refine ⟨(.string ⟨List.toArray ([] : List UInt8)⟩), K, ?_⟩
   obtain rfl := Qb H
   exact ⟨rfl, SP.sel f0 [] rfl rfl⟩
def Jj (a : ((List (List UInt8)) × Bool)) (b : Bool) : Option ((List UInt8)) :=
  ((Q0 a.1 b).bind fun c => (some (c)))
def Jk (c : (List (List UInt8)) → Bool → Int → Int → Option ((List UInt8))) (d : (List (List UInt8))) (e : Int) (a : (Int × (List UInt8) × Bool × Bool)) (f : Bool) : Option ((List UInt8)) :=
  ((Up a.1).bind fun g => ((app g ([61] : List UInt8)).bind fun h => ((Y3 a.2.1).bind fun i => ((app h i).bind fun j => ((Rk a.2.2.1 ([43] : List UInt8)).bind fun k => ((app j k).bind fun l => ((Rk a.2.2.2 ([33] : List UInt8)).bind fun m => ((app l m).bind fun n => ((Q8 d f ([n] : List (List UInt8))).bind fun b => (c b.1 b.2 a.1 (IntKind.wrap .i64 (e + 1))))))))))))
def Jl (d : (List (List UInt8)) → Bool → Int → Int → Option ((List UInt8))) (e : (List (Int × (List UInt8) × Bool × Bool))) (c : (List (List UInt8))) (f : Bool) (g : Int) (a : Int) : Option ((List UInt8)) :=
  (cond (decide (a < ((List.length e : Nat) : Int))) ((idx e a).bind fun b => (cond f (Jk d c a b true) (cond (decide (b.1 ≤ g)) (Jk d c a b true) (Jk d c a b (decide (b.1 > 1099511627776)))))) ((Q0 c f).bind fun h => (some (h))))
def X5 (a : (List (Int × (List UInt8) × Bool × Bool))) : Nat → (List (List UInt8)) → Bool → Int → Int → Option ((List UInt8))
  | 0, _, _, _, _ => none
  | f + 1, b, c, d, e => Jl  (X5 a f) a b c d e
def Nt (b : Int) (c : Int) (d : Int) (e : (List (Int × (List UInt8) × Bool × Bool))) : Option ((List UInt8)) :=
  (cond (b != 0) ((Q8 ([] : List (List UInt8)) false ([([101, 114, 114] : List UInt8)] : List (List UInt8))).bind fun f => ((Vc f.1 f.2 b).bind fun a => (cond a.2 (Jj a true) (cond (c != 0) (Jj a true) (cond (d != 0) (Jj a true) (Jj a (decide (((List.length e : Nat) : Int) > 0)))))))) ((Q8 ([] : List (List UInt8)) false ([([111, 107] : List UInt8)] : List (List UInt8))).bind fun g => ((Vc g.1 g.2 c).bind fun h => ((Vc h.1 h.2 d).bind fun i => (X5 e Y1 i.1 i.2 (-1) 0)))))
set_option maxHeartbeats 40000000 in
theorem Ut (A5 : Option Addr) (c6 : Nat) (a8 : Int) (a3 : Int) (a4 : Int) (s : (List (Int × (List UInt8) × Bool × Bool))) (w0 : World) (hL : Gu w0) (g3 : RdT (Qf (Jw .i64) (Qf Qn (Qf Qm Qm))) w0 A5 c6 s) (r : ((List UInt8))) (H : Nt a8 a3 a4 s = some r) :
  Calls Tryz.prog 37 #[(.agg #[(.int .i64 a8), (.int .i64 a3), (.int .i64 a4), (.slice A5 (List.length s) c6)])] w0 (fun e w' => e = .returned (.string ⟨List.toArray r⟩) ∧ SP [] w0 w' []) := by
 unfold Nt at H
 refine Ql (n := 104) Tryz.func37 K K K ?_
 have j5 := Qy [] w0
 refine aQ ?_
 refine aR ?_
 refine iS 1 ?_
 refine Yi (t := 55) (x := (.tmp 0)) (v := (.agg #[(.int .i64 a8), (.int .i64 a3), (.int .i64 a4), (.slice A5 (List.length s) c6)])) (d := (some 1)) (k := 0) K rfl K j5 ?_
 intro g8 w9 j6
 refine iR 1 2 [(2, (.string ⟨List.toArray ([] : List UInt8)⟩))] ?_
 refine iF ?_
 refine aQ ?_
 refine aR ?_
 refine iR 1 1 [(7, (.agg #[(.slice none (List.length ([] : List (List UInt8))) 0), (.bool false)]))] ?_
 refine iS 2 ?_
 refine Yi (t := 133) (x := (.tmp 7)) (v := (.agg #[(.slice none (List.length ([] : List (List UInt8))) 0), (.bool false)])) (d := (some 8)) (k := 1) K rfl K j6 ?_
 intro j r9 d8
 refine iR 1 3 [(3, (pt j 0))] ?_
 refine iF ?_
 refine aQ ?_
 refine aQ ?_
 refine aR ?_
 refine iR 1 1 [(9, (pt g8 0))] ?_
 refine iS 2 ?_
 refine sL 27 9 g8 0 0 (.int .i64 a8) 10 d8 rfl ?_
 refine iR 1 3 [(11, (.bool (a8 != 0)))] ?_
 refine iF ?_
 refine Vm K (o := (.tmp 11)) K (b := (a8 != 0)) K (fun d9 => ?_) (fun d9 => ?_)
 ·have H := ct H d9
  refine aQ ?_
  refine aR ?_
  refine iR 1 1 [(12, (pt j 0))] ?_
  refine iS 2 ?_
  refine Vy (e := Qn) (T := 79) (E := 9) (len := 1) (parts := #[(0, (.const (.string ⟨List.toArray ([101, 114, 114] : List UInt8)⟩)))]) (cs := #[(.string ⟨List.toArray ([101, 114, 114] : List UInt8)⟩)]) ([([101, 114, 114] : List UInt8)] : List (List UInt8)) (d := (some 13)) (k := 1) K rfl (fun _ => K) d8 rfl rfl rfl rfl ?_
  intro d1 g4 j7
  obtain ⟨c1, j8, H⟩ := Qa H
  refine iS 3 ?_
  have e0 : SP [] w0 g4 [Qk g8 55 #[(.int .i64 a8), (.int .i64 a3), (.int .i64 a4), (.slice A5 (List.length s) c6)], Qk j 133 #[(.slice none (List.length ([] : List (List UInt8))) 0), (.bool false)], Vu 9 Qn (some ⟨d1, 0, none⟩) (List.length ([([101, 114, 114] : List UInt8)] : List (List UInt8))) ([([101, 114, 114] : List UInt8)] : List (List UInt8)), Vu 9 Qn none 0 ([] : List (List UInt8))] := X6 j7 9 Qn
  refine cF 84 #[(.tmp 12), (.tmp 13)] #[132, 79] 14 Tryz.call84 (V1 j none 0 (some ⟨d1, 0, none⟩) (List.length ([([101, 114, 114] : List UInt8)] : List (List UInt8))) ([] : List (List UInt8)) false ([([101, 114, 114] : List UInt8)] : List (List UInt8)) g4 (Za e0 [1, 3] rfl rfl) (fun w hm => (Q9 (SP.still e0 (l := [1, 3]) (i := 2) rfl rfl rfl hm))) c1 j8) ?_
  rintro e g5 ⟨e1, e2, rfl, g6⟩
  refine ⟨_, rfl, ?_⟩
  have d2 : SP [] w0 g5 [Qk g8 55 #[(.int .i64 a8), (.int .i64 a3), (.int .i64 a4), (.slice A5 (List.length s) c6)], Vu 9 Qn (some ⟨d1, 0, none⟩) (List.length ([([101, 114, 114] : List UInt8)] : List (List UInt8))) ([([101, 114, 114] : List UInt8)] : List (List UInt8)), Qk j 133 #[(.slice e1 (List.length c1.1) e2), (.bool c1.2)], Vu 9 Qn e1 e2 c1.1] := Qr e0 [1, 3] [0, 2] rfl rfl g6 rfl
  clear g6
  refine iF ?_
  refine aQ ?_
  refine aR ?_
  refine iR 2 2 [(15, (pt j 0)), (16, (pt g8 0))] ?_
  refine iS 3 ?_
  refine sL 27 16 g8 0 0 (.int .i64 a8) 17 d2 rfl ?_
  obtain ⟨a5, j9, H⟩ := Qa H
  refine iS 4 ?_
  refine cF 85 #[(.tmp 15), (.tmp 17)] #[132, 2] 18 Tryz.call85 (Vg j e1 e2 c1.1 c1.2 a8 g5 (fun w hm => Qt hL (No d2 (l := [2, 3]) rfl hm)) (Za d2 [2, 3] rfl rfl) a5 j9) ?_
  rintro e k1 ⟨b4, b5, rfl, g7⟩
  refine ⟨_, rfl, ?_⟩
  have b7 : SP [] w0 k1 [Qk g8 55 #[(.int .i64 a8), (.int .i64 a3), (.int .i64 a4), (.slice A5 (List.length s) c6)], Vu 9 Qn (some ⟨d1, 0, none⟩) (List.length ([([101, 114, 114] : List UInt8)] : List (List UInt8))) ([([101, 114, 114] : List UInt8)] : List (List UInt8)), Qk j 133 #[(.slice b4 (List.length a5.1) b5), (.bool a5.2)], Vu 9 Qn b4 b5 a5.1] := Qr d2 [2, 3] [0, 1] rfl rfl g7 rfl
  clear g7
  refine iF ?_
  refine aQ ?_
  refine At.join (fun ρ w => ∃ (c8 : Bool), Q7 ρ [(3, (pt j 0))] ∧ SP [] w0 w [Vu 9 Qn b4 b5 a5.1, Qk j 133 #[(.slice b4 (List.length a5.1) b5), (.bool c8)]] ∧ Jj a5 c8 = some r) ?_ ?_
  ·refine aR ?_
   refine iR 4 4 [(19, (pt j 0)), (20, (pt j 0)), (21, (pt j 0)), (22, (pt j 1))] ?_
   refine iS 5 ?_
   refine sL 4 22 j 1 2 (.bool a5.2) 23 b7 rfl ?_
   refine iR 1 6 [(24, (.bool a5.2))] ?_
   refine In.guard (t := 24) (b := a5.2) K (fun e3 => ?_) (fun e3 => ?_)
   ·have H := ct H e3
    refine iR 17 23 [(25, undef), (26, undef), (27, undef), (28, (.bool true)), (29, (.bool true)), (30, undef), (31, undef), (32, undef), (33, (.bool true)), (34, (.bool true)), (35, undef), (36, undef), (37, undef), (38, undef), (39, (.bool true)), (40, (pt j 0)), (41, (pt j 1))] ?_
    refine iS 24 ?_
    refine Qh.store (t := 4) (x := (.tmp 41)) (y := (.tmp 39)) (g := j) (off := 1) (i := 2) (v := (.bool true)) (cs' := #[(.slice b4 (List.length a5.1) b5), (.bool true)]) (d := none) (k := 23) K rfl K K b7 rfl K ?_
    intro s0 k2
    refine iF ?_
    exact ⟨true, ⟨K, trivial⟩, SP.sel k2 [3, 2] rfl rfl, H⟩
   ·have H := cf H e3
    refine iR 1 7 [(25, (pt g8 1))] ?_
    refine iS 8 ?_
    refine sL 3 25 g8 1 0 (.int .i64 a3) 26 b7 rfl ?_
    refine iR 3 11 [(27, (.bool (a3 != 0))), (28, (.bool (a3 != 0))), (29, (.bool (a3 != 0)))] ?_
    refine In.guard (t := 29) (b := (a3 != 0)) K (fun e4 => ?_) (fun e4 => ?_)
    ·have H := ct H e4
     refine iR 12 23 [(30, undef), (31, undef), (32, undef), (33, (.bool true)), (34, (.bool true)), (35, undef), (36, undef), (37, undef), (38, undef), (39, (.bool true)), (40, (pt j 0)), (41, (pt j 1))] ?_
     refine iS 24 ?_
     refine Qh.store (t := 4) (x := (.tmp 41)) (y := (.tmp 39)) (g := j) (off := 1) (i := 2) (v := (.bool true)) (cs' := #[(.slice b4 (List.length a5.1) b5), (.bool true)]) (d := none) (k := 23) K rfl K K b7 rfl K ?_
     intro s1 k3
     refine iF ?_
     exact ⟨true, ⟨K, trivial⟩, SP.sel k3 [3, 2] rfl rfl, H⟩
    ·have H := cf H e4
     refine iR 1 12 [(30, (pt g8 2))] ?_
     refine iS 13 ?_
     refine sL 3 30 g8 2 0 (.int .i64 a4) 31 b7 rfl ?_
     refine iR 3 16 [(32, (.bool (a4 != 0))), (33, (.bool (a4 != 0))), (34, (.bool (a4 != 0)))] ?_
     refine In.guard (t := 34) (b := (a4 != 0)) K (fun e5 => ?_) (fun e5 => ?_)
     ·have H := ct H e5
      refine iR 7 23 [(35, undef), (36, undef), (37, undef), (38, undef), (39, (.bool true)), (40, (pt j 0)), (41, (pt j 1))] ?_
      refine iS 24 ?_
      refine Qh.store (t := 4) (x := (.tmp 41)) (y := (.tmp 39)) (g := j) (off := 1) (i := 2) (v := (.bool true)) (cs' := #[(.slice b4 (List.length a5.1) b5), (.bool true)]) (d := none) (k := 23) K rfl K K b7 rfl K ?_
      intro s2 k4
      refine iF ?_
      exact ⟨true, ⟨K, trivial⟩, SP.sel k4 [3, 2] rfl rfl, H⟩
     ·have H := cf H e5
      refine iR 1 17 [(35, (pt g8 3))] ?_
      refine iS 18 ?_
      refine sL 53 35 g8 3 0 (.slice A5 (List.length s) c6) 36 b7 rfl ?_
      refine iR 5 23 [(37, (.int .i64 ((List.length s : Nat) : Int))), (38, (.bool (decide (((List.length s : Nat) : Int) > 0)))), (39, (.bool (decide (((List.length s : Nat) : Int) > 0)))), (40, (pt j 0)), (41, (pt j 1))] ?_
      refine iS 24 ?_
      refine Qh.store (t := 4) (x := (.tmp 41)) (y := (.tmp 39)) (g := j) (off := 1) (i := 2) (v := (.bool (decide (((List.length s : Nat) : Int) > 0)))) (cs' := #[(.slice b4 (List.length a5.1) b5), (.bool (decide (((List.length s : Nat) : Int) > 0)))]) (d := none) (k := 23) K rfl K K b7 rfl K ?_
      intro s3 k5
      refine iF ?_
      exact ⟨(decide (((List.length s : Nat) : Int) > 0)), ⟨K, trivial⟩, SP.sel k5 [3, 2] rfl rfl, H⟩
  ·rintro ρ k6 ⟨c8, hk, g9, H⟩
   unfold Jj at H
   first | refine At.known [(3, (pt j 0))] hk ?_ | rw [← Qc (l := [(3, (pt j 0))]) hk]
   refine aQ ?_
   refine aR ?_
   refine iR 1 1 [(42, (pt j 0))] ?_
   obtain ⟨e6, k7, H⟩ := Qa H
   refine iS 2 ?_
   refine cF 79 #[(.tmp 42)] #[132] 43 Tryz.call79 (U3 j b4 b5 a5.1 c8 k6 (Za g9 [1, 0] rfl rfl) e6 k7) ?_
   rintro e k8 ⟨h1, h2, rfl, h3⟩
   refine ⟨_, rfl, ?_⟩
   have k9 : SP [] w0 k8 [Qk j 133 #[(.slice h1 (List.length a5.1) h2), (.bool c8)], Vu 9 Qn h1 h2 a5.1] := Qr g9 [1, 0] [] rfl rfl h3 rfl
   clear h3
   refine iR 1 3 [(2, (.string ⟨List.toArray e6⟩))] ?_
   refine iF ?_
   refine At.ret K ?_
   refine ⟨(.string ⟨List.toArray e6⟩), K, ?_⟩
   obtain rfl := Qb H
   exact ⟨rfl, SP.sel k9 [] rfl rfl⟩
 ·have H := cf H d9
  refine At.skip K ?_
  refine aQ ?_
  refine aR ?_
  refine iR 1 1 [(44, (pt j 0))] ?_
  refine iS 2 ?_
  refine Vy (e := Qn) (T := 79) (E := 9) (len := 1) (parts := #[(0, (.const (.string ⟨List.toArray ([111, 107] : List UInt8)⟩)))]) (cs := #[(.string ⟨List.toArray ([111, 107] : List UInt8)⟩)]) ([([111, 107] : List UInt8)] : List (List UInt8)) (d := (some 45)) (k := 1) K rfl (fun _ => K) d8 rfl rfl rfl rfl ?_
  intro c9 h4 l0
  obtain ⟨c2, l1, H⟩ := Qa H
  refine iS 3 ?_
  have e7 : SP [] w0 h4 [Qk g8 55 #[(.int .i64 a8), (.int .i64 a3), (.int .i64 a4), (.slice A5 (List.length s) c6)], Qk j 133 #[(.slice none (List.length ([] : List (List UInt8))) 0), (.bool false)], Vu 9 Qn (some ⟨c9, 0, none⟩) (List.length ([([111, 107] : List UInt8)] : List (List UInt8))) ([([111, 107] : List UInt8)] : List (List UInt8)), Vu 9 Qn none 0 ([] : List (List UInt8))] := X6 l0 9 Qn
  refine cF 84 #[(.tmp 44), (.tmp 45)] #[132, 79] 46 Tryz.call84 (V1 j none 0 (some ⟨c9, 0, none⟩) (List.length ([([111, 107] : List UInt8)] : List (List UInt8))) ([] : List (List UInt8)) false ([([111, 107] : List UInt8)] : List (List UInt8)) h4 (Za e7 [1, 3] rfl rfl) (fun w hm => (Q9 (SP.still e7 (l := [1, 3]) (i := 2) rfl rfl rfl hm))) c2 l1) ?_
  rintro e h5 ⟨e8, e9, rfl, h6⟩
  refine ⟨_, rfl, ?_⟩
  have d3 : SP [] w0 h5 [Qk g8 55 #[(.int .i64 a8), (.int .i64 a3), (.int .i64 a4), (.slice A5 (List.length s) c6)], Vu 9 Qn (some ⟨c9, 0, none⟩) (List.length ([([111, 107] : List UInt8)] : List (List UInt8))) ([([111, 107] : List UInt8)] : List (List UInt8)), Qk j 133 #[(.slice e8 (List.length c2.1) e9), (.bool c2.2)], Vu 9 Qn e8 e9 c2.1] := Qr e7 [1, 3] [0, 2] rfl rfl h6 rfl
  clear h6
  refine iF ?_
  refine aQ ?_
  refine aR ?_
  refine iR 2 2 [(47, (pt j 0)), (48, (pt g8 1))] ?_
  refine iS 3 ?_
  refine sL 3 48 g8 1 0 (.int .i64 a3) 49 d3 rfl ?_
  obtain ⟨c3, l2, H⟩ := Qa H
  refine iS 4 ?_
  refine cF 85 #[(.tmp 47), (.tmp 49)] #[132, 2] 50 Tryz.call85 (Vg j e8 e9 c2.1 c2.2 a3 h5 (fun w hm => Qt hL (No d3 (l := [2, 3]) rfl hm)) (Za d3 [2, 3] rfl rfl) c3 l2) ?_
  rintro e h7 ⟨f0, f1, rfl, h8⟩
  refine ⟨_, rfl, ?_⟩
  have d4 : SP [] w0 h7 [Qk g8 55 #[(.int .i64 a8), (.int .i64 a3), (.int .i64 a4), (.slice A5 (List.length s) c6)], Vu 9 Qn (some ⟨c9, 0, none⟩) (List.length ([([111, 107] : List UInt8)] : List (List UInt8))) ([([111, 107] : List UInt8)] : List (List UInt8)), Qk j 133 #[(.slice f0 (List.length c3.1) f1), (.bool c3.2)], Vu 9 Qn f0 f1 c3.1] := Qr d3 [2, 3] [0, 1] rfl rfl h8 rfl
  clear h8
  refine iF ?_
  refine aQ ?_
  refine aR ?_
  refine iR 2 2 [(51, (pt j 0)), (52, (pt g8 2))] ?_
  refine iS 3 ?_
  refine sL 3 52 g8 2 0 (.int .i64 a4) 53 d4 rfl ?_
  obtain ⟨c4, l3, H⟩ := Qa H
  refine iS 4 ?_
  refine cF 85 #[(.tmp 51), (.tmp 53)] #[132, 2] 54 Tryz.call85 (Vg j f0 f1 c3.1 c3.2 a4 h7 (fun w hm => Qt hL (No d4 (l := [2, 3]) rfl hm)) (Za d4 [2, 3] rfl rfl) c4 l3) ?_
  rintro e l4 ⟨f2, f3, rfl, h9⟩
  refine ⟨_, rfl, ?_⟩
  have i0 : SP [] w0 l4 [Qk g8 55 #[(.int .i64 a8), (.int .i64 a3), (.int .i64 a4), (.slice A5 (List.length s) c6)], Vu 9 Qn (some ⟨c9, 0, none⟩) (List.length ([([111, 107] : List UInt8)] : List (List UInt8))) ([([111, 107] : List UInt8)] : List (List UInt8)), Qk j 133 #[(.slice f2 (List.length c4.1) f3), (.bool c4.2)], Vu 9 Qn f2 f3 c4.1] := Qr d4 [2, 3] [0, 1] rfl rfl h9 rfl
  clear h9
  refine iF ?_
  refine aQ ?_
  refine aR ?_
  refine iR 1 1 [(4, (.int .i64 (-1)))] ?_
  refine iF ?_
  refine aQ ?_
  refine aQ ?_
  refine aR ?_
  refine iR 1 1 [(55, (pt g8 3))] ?_
  refine iS 2 ?_
  refine sL 53 55 g8 3 0 (.slice A5 (List.length s) c6) 56 i0 rfl ?_
  refine iR 2 4 [(57, (.int .i64 ((List.length s : Nat) : Int))), (58, (.int .i64 0))] ?_
  refine iF ?_
  refine J2 K (id := 0) K ?_
  refine Du K (fun f5 ρ w => ∃ (u : (List (List UInt8))) (b2 : Bool) (b0 : Int) (a2 : Int) (a0 : Option Addr) (a1 : Nat), Q7 ρ [(3, (pt j 0)), (4, (.int .i64 b0)), (56, (.slice A5 (List.length s) c6)), (57, (.int .i64 ((List.length s : Nat) : Int))), (58, (.int .i64 a2))] ∧ SP [] w0 w [Vu 9 Qn a0 a1 u, Qk j 133 #[(.slice a0 (List.length u) a1), (.bool b2)]] ∧ X5 s f5 u b2 b0 a2 = some r) (by rintro ρ w ⟨u, b2, b0, a2, a0, a1, hk, hs, H⟩; cases H) ?_ Y1 ?_
  ·rintro f5 ρ l5 ⟨u, b2, b0, a2, a0, a1, hk, d0, H⟩
   refine At.known [(3, (pt j 0)), (4, (.int .i64 b0)), (56, (.slice A5 (List.length s) c6)), (57, (.int .i64 ((List.length s : Nat) : Int))), (58, (.int .i64 a2))] hk ?_
   replace H := (show Jl (X5 s f5) s u b2 b0 a2 = some r from H)
   unfold Jl at H
   refine aQ ?_
   refine aR ?_
   refine iR 1 1 [(59, (.bool (decide (a2 < ((List.length s : Nat) : Int)))))] ?_
   refine iF ?_
   refine aQ ?_
   refine Vm K (o := (.tmp 59)) K (b := (decide (a2 < ((List.length s : Nat) : Int)))) K (fun f4 => ?_) (fun f4 => ?_)
   ·have H := ct H f4
    refine At.skip K ?_
    refine aQ ?_
    refine J2 K (id := 1) K ?_
    refine aQ ?_
    refine aR ?_
    obtain ⟨f, i1, i2, l6, H⟩ := Vf H
    refine iS 1 ?_
    refine Z6 (e := (Qf (Jw .i64) (Qf Qn (Qf Qm Qm)))) (l := s) (A := A5) (c := c6) (T := 53) (E := 108) (x := (.tmp 56)) (ix := (.tmp 58)) (ki := .i64) (iz := a2) (d := (some 60)) (k := 0) K rfl K K K K (RdT.sp g3 d0) i1 i2 ?_
    intro l7 l8 l9 s4 hc1099
    refine iS 2 ?_
    refine Qh.cells (t := 108) (x := (.tmp 60)) (b := l7) (off := (l8 + Int.toNat a2 * (Qf (Jw .i64) (Qf Qn (Qf Qm Qm))).sz)) (xs := [(.int .i64 f.1), (.string ⟨List.toArray f.2.1⟩), (.bool f.2.2.1), (.bool f.2.2.2)]) (d := (some 61)) (k := 1) K rfl K K K (Bn (e := (Qf (Jw .i64) (Qf Qn (Qf Qm Qm)))) (Yr (RdT.sp g3 d0) l9 i1 i2) l6 rfl) ?_
    refine iS 3 ?_
    refine Qh.alloc (t := 108) (z := (.agg #[(.int .i64 0), (.string ⟨List.toArray ([] : List UInt8)⟩), (.bool false), (.bool false)])) (d := (some 6)) (k := 2) K rfl K d0 ?_
    intro q s5 m0
    refine iS 4 ?_
    refine Qh.store (t := 108) (x := (.tmp 6)) (y := (.tmp 61)) (g := q) (off := 0) (i := 2) (v := (.agg #[(.int .i64 f.1), (.string ⟨List.toArray f.2.1⟩), (.bool f.2.2.1), (.bool f.2.2.2)])) (cs' := #[(.int .i64 f.1), (.string ⟨List.toArray f.2.1⟩), (.bool f.2.2.1), (.bool f.2.2.2)]) (d := none) (k := 3) K rfl K K m0 rfl K ?_
    intro s6 c5
    refine iF ?_
    refine aQ ?_
    refine At.join (fun ρ w => ∃ (b3 : Bool), Q7 ρ [(3, (pt j 0)), (6, (pt q 0)), (56, (.slice A5 (List.length s) c6)), (57, (.int .i64 ((List.length s : Nat) : Int))), (58, (.int .i64 a2))] ∧ SP [] w0 w [Vu 9 Qn a0 a1 u, Qk j 133 #[(.slice a0 (List.length u) a1), (.bool b3)], Qk q 108 #[(.int .i64 f.1), (.string ⟨List.toArray f.2.1⟩), (.bool f.2.2.1), (.bool f.2.2.2)]] ∧ Jk (X5 s f5) u a2 f b3 = some r) ?_ ?_
    ·refine aR ?_
     refine iR 4 4 [(62, (pt j 0)), (63, (pt j 0)), (64, (pt j 0)), (65, (pt j 1))] ?_
     refine iS 5 ?_
     refine sL 4 65 j 1 1 (.bool b2) 66 c5 rfl ?_
     refine iR 1 6 [(67, (.bool b2))] ?_
     refine In.guard (t := 67) (b := b2) K (fun f6 => ?_) (fun f6 => ?_)
     ·have H := ct H f6
      refine iR 12 18 [(68, undef), (69, undef), (70, undef), (71, undef), (72, (.bool true)), (73, (.bool true)), (74, undef), (75, undef), (76, undef), (77, (.bool true)), (78, (pt j 0)), (79, (pt j 1))] ?_
      refine iS 19 ?_
      refine Qh.store (t := 4) (x := (.tmp 79)) (y := (.tmp 77)) (g := j) (off := 1) (i := 1) (v := (.bool true)) (cs' := #[(.slice a0 (List.length u) a1), (.bool true)]) (d := none) (k := 18) K rfl K K c5 rfl K ?_
      intro s7 m1
      refine iF ?_
      exact ⟨true, ⟨K, K, K, K, K, trivial⟩, SP.sel m1 [0, 1, 2] rfl rfl, H⟩
     ·have H := cf H f6
      refine iR 1 7 [(68, (pt q 0))] ?_
      refine iS 8 ?_
      refine sL 3 68 q 0 2 (.int .i64 f.1) 69 c5 rfl ?_
      refine iR 4 12 [(70, (.int .i64 b0)), (71, (.bool (decide (f.1 ≤ b0)))), (72, (.bool (decide (f.1 ≤ b0)))), (73, (.bool (decide (f.1 ≤ b0))))] ?_
      refine In.guard (t := 73) (b := (decide (f.1 ≤ b0))) K (fun f7 => ?_) (fun f7 => ?_)
      ·have H := ct H f7
       refine iR 6 18 [(74, undef), (75, undef), (76, undef), (77, (.bool true)), (78, (pt j 0)), (79, (pt j 1))] ?_
       refine iS 19 ?_
       refine Qh.store (t := 4) (x := (.tmp 79)) (y := (.tmp 77)) (g := j) (off := 1) (i := 1) (v := (.bool true)) (cs' := #[(.slice a0 (List.length u) a1), (.bool true)]) (d := none) (k := 18) K rfl K K c5 rfl K ?_
       intro s8 m2
       refine iF ?_
       exact ⟨true, ⟨K, K, K, K, K, trivial⟩, SP.sel m2 [0, 1, 2] rfl rfl, H⟩
      ·have H := cf H f7
       refine iR 1 13 [(74, (pt q 0))] ?_
       refine iS 14 ?_
       refine sL 3 74 q 0 2 (.int .i64 f.1) 75 c5 rfl ?_
       refine iR 4 18 [(76, (.bool (decide (f.1 > 1099511627776)))), (77, (.bool (decide (f.1 > 1099511627776)))), (78, (pt j 0)), (79, (pt j 1))] ?_
       refine iS 19 ?_
       refine Qh.store (t := 4) (x := (.tmp 79)) (y := (.tmp 77)) (g := j) (off := 1) (i := 1) (v := (.bool (decide (f.1 > 1099511627776)))) (cs' := #[(.slice a0 (List.length u) a1), (.bool (decide (f.1 > 1099511627776)))]) (d := none) (k := 18) K rfl K K c5 rfl K ?_
       intro s9 m3
       refine iF ?_
       exact ⟨(decide (f.1 > 1099511627776)), ⟨K, K, K, K, K, trivial⟩, SP.sel m3 [0, 1, 2] rfl rfl, H⟩
    ·rintro ρ t0 ⟨b3, hk, i3, H⟩
     unfold Jk at H
     first | refine At.known [(3, (pt j 0)), (6, (pt q 0)), (56, (.slice A5 (List.length s) c6)), (57, (.int .i64 ((List.length s : Nat) : Int))), (58, (.int .i64 a2))] hk ?_ | rw [← Qc (l := [(3, (pt j 0)), (6, (pt q 0)), (56, (.slice A5 (List.length s) c6)), (57, (.int .i64 ((List.length s : Nat) : Int))), (58, (.int .i64 a2))]) hk]
     refine aQ ?_
     refine aR ?_
     refine iR 1 1 [(80, (pt q 0))] ?_
     refine iS 2 ?_
     refine sL 3 80 q 0 2 (.int .i64 f.1) 81 i3 rfl ?_
     refine iR 1 3 [(4, (.int .i64 f.1))] ?_
     refine iF ?_
     obtain ⟨a6, m4, H⟩ := Qa H
     obtain ⟨hl1130, H⟩ := Vb H
     obtain ⟨b8, hyl1129⟩ : ∃ y, a6 ++ ([61] : List UInt8) = y := ⟨_, rfl⟩
     rw [hyl1129] at H
     obtain ⟨a9, m5, H⟩ := Qa H
     obtain ⟨hl1138, H⟩ := Vb H
     obtain ⟨c7, hyl1137⟩ : ∃ y, b8 ++ a9 = y := ⟨_, rfl⟩
     rw [hyl1137] at H
     obtain ⟨b1, m6, H⟩ := Qa H
     obtain ⟨hl1146, H⟩ := Vb H
     obtain ⟨d5, hyl1145⟩ : ∃ y, c7 ++ b1 = y := ⟨_, rfl⟩
     rw [hyl1145] at H
     obtain ⟨b9, m7, H⟩ := Qa H
     obtain ⟨hl1154, H⟩ := Vb H
     obtain ⟨a7, hyl1153⟩ : ∃ y, d5 ++ b9 = y := ⟨_, rfl⟩
     rw [hyl1153] at H
     obtain ⟨b6, m8, H⟩ := Qa H
     refine aG [GEq (pt j 0), GEq (pt q 0), GEq (.int .i64 f.1), GEq (.string ⟨List.toArray a6⟩), GEq (.string ⟨List.toArray b8⟩), GEq (pt q 1), GEq (.string ⟨List.toArray f.2.1⟩), GEq (.string ⟨List.toArray a9⟩), GEq (.string ⟨List.toArray c7⟩), GEq (pt q 2), GEq (.bool f.2.2.1), GEq (.string ⟨List.toArray b1⟩), GEq (.string ⟨List.toArray d5⟩), GEq (pt q 3), GEq (.bool f.2.2.2), GEq (.string ⟨List.toArray b9⟩), GEq (.string ⟨List.toArray a7⟩), Mb, GEq (.tuple #[])] [3, 7, 11, 15, 17, 18] [([], fun vs w => VL vs [] ∧ SP [] w0 w [Vu 9 Qn a0 a1 u, Qk j 133 #[(.slice a0 (List.length u) a1), (.bool b3)], Qk q 108 #[(.int .i64 f.1), (.string ⟨List.toArray f.2.1⟩), (.bool f.2.2.1), (.bool f.2.2.2)]]), ([3], fun vs w => VL vs [(.string ⟨List.toArray a6⟩)] ∧ SP [] w0 w [Vu 9 Qn a0 a1 u, Qk j 133 #[(.slice a0 (List.length u) a1), (.bool b3)], Qk q 108 #[(.int .i64 f.1), (.string ⟨List.toArray f.2.1⟩), (.bool f.2.2.1), (.bool f.2.2.2)]]), ([3, 7], fun vs w => VL vs [(.string ⟨List.toArray a6⟩), (.string ⟨List.toArray a9⟩)] ∧ SP [] w0 w [Vu 9 Qn a0 a1 u, Qk j 133 #[(.slice a0 (List.length u) a1), (.bool b3)], Qk q 108 #[(.int .i64 f.1), (.string ⟨List.toArray f.2.1⟩), (.bool f.2.2.1), (.bool f.2.2.2)]]), ([3, 7, 11], fun vs w => VL vs [(.string ⟨List.toArray a6⟩), (.string ⟨List.toArray a9⟩), (.string ⟨List.toArray b1⟩)] ∧ SP [] w0 w [Vu 9 Qn a0 a1 u, Qk j 133 #[(.slice a0 (List.length u) a1), (.bool b3)], Qk q 108 #[(.int .i64 f.1), (.string ⟨List.toArray f.2.1⟩), (.bool f.2.2.1), (.bool f.2.2.2)]]), ([3, 7, 11, 15], fun vs w => VL vs [(.string ⟨List.toArray a6⟩), (.string ⟨List.toArray a9⟩), (.string ⟨List.toArray b1⟩), (.string ⟨List.toArray b9⟩)] ∧ SP [] w0 w [Vu 9 Qn a0 a1 u, Qk j 133 #[(.slice a0 (List.length u) a1), (.bool b3)], Qk q 108 #[(.int .i64 f.1), (.string ⟨List.toArray f.2.1⟩), (.bool f.2.2.1), (.bool f.2.2.2)]]), ([3, 7, 11, 15, 17], fun vs w => ∃ (c0 : Nat), VL vs [(.string ⟨List.toArray a6⟩), (.string ⟨List.toArray a9⟩), (.string ⟨List.toArray b1⟩), (.string ⟨List.toArray b9⟩), (.slice (some ⟨c0, 0, none⟩) (List.length ([a7] : List (List UInt8))) (List.length ([a7] : List (List UInt8))))] ∧ SP [] w0 w [Vu 9 Qn a0 a1 u, Qk j 133 #[(.slice a0 (List.length u) a1), (.bool b3)], Qk q 108 #[(.int .i64 f.1), (.string ⟨List.toArray f.2.1⟩), (.bool f.2.2.1), (.bool f.2.2.2)], Vu 9 Qn (some ⟨c0, 0, none⟩) (List.length ([a7] : List (List UInt8))) ([a7] : List (List UInt8))]), ([3, 7, 11, 15, 17, 18], fun vs w => ∃ (f8 : Nat), ∃ (d6 : Option Addr), ∃ (d7 : Nat), VL vs [(.string ⟨List.toArray a6⟩), (.string ⟨List.toArray a9⟩), (.string ⟨List.toArray b1⟩), (.string ⟨List.toArray b9⟩), (.slice (some ⟨f8, 0, none⟩) (List.length ([a7] : List (List UInt8))) (List.length ([a7] : List (List UInt8)))), (.tuple #[])] ∧ SP [] w0 w [Qk q 108 #[(.int .i64 f.1), (.string ⟨List.toArray f.2.1⟩), (.bool f.2.2.1), (.bool f.2.2.2)], Vu 9 Qn (some ⟨f8, 0, none⟩) (List.length ([a7] : List (List UInt8))) ([a7] : List (List UInt8)), Qk j 133 #[(.slice d6 (List.length b6.1) d7), (.bool b6.2)], Vu 9 Qn d6 d7 b6.1])] 19 6 ⟨trivial, SP.drew i3⟩ ?_ ?_
     iterate 19 refine And.intro ?_ ?_
     exact trivial
     ·exact oV (hC (hS 3 (pt j 0)) (h0)) (pt j 0)
     ·exact oV (hC (hS 6 (pt q 0)) (h0)) (pt q 0)
     ·refine oL 0 ?_
      ·rintro ρ' w' hs p ⟨t1, m9⟩
       refine kM (kc (kA p 1 83) k0) fun m => ?_
       refine sL 3 83 q 0 2 (.int .i64 f.1) 84 m9 rfl ?_
       exact eK m
     ·refine oH 0 1 ?_
      ·rintro ρ' w' hs p ⟨t2, i4⟩
       refine kM (kc (kA p 2 84) k0) fun m => ?_
       refine cF 59 #[(.tmp 84)] #[2] 85 Tryz.call59 (Gg  f.1 w' (Qt hL (SP.keeps i4)) a6 m4) ?_
       rintro e t3 ⟨rfl, i5⟩
       refine ⟨_, rfl, ?_⟩
       have n0 := SP.call i4 i5
       clear i5
       refine ⟨_, Qg m, rfl, ?_⟩
       exact (And.intro (And.intro rfl (trivial)) (n0))
     ·refine Owe.light K [1, 2, 3, 4] K (Qe ?_ (Qe ?_ (Qe ?_ (Qe ?_ Vl))))
      ·rintro ρ' w' hs p ⟨⟨n1, -⟩, t4⟩
       refine kN [(85, (.string ⟨List.toArray a6⟩))] ⟨(Qv (h := 3) K).symm.trans n1, trivial⟩ fun m => ?_
       refine Qi (T := 9) (T' := 9) (x := (.tmp 85)) (y := (.const (.string ⟨List.toArray ([61] : List UInt8)⟩))) (a := a6) (b := ([61] : List UInt8)) (d := (some 86)) (k := 4) K rfl K K hl1130 ?_
       rw [hyl1129]
       exact eK m
      ·rintro ρ' w' hs p ⟨⟨n2, t5, -⟩, t6⟩
       refine kN [(85, (.string ⟨List.toArray a6⟩))] ⟨(Qv (h := 3) K).symm.trans n2, trivial⟩ fun m => ?_
       refine Qi (T := 9) (T' := 9) (x := (.tmp 85)) (y := (.const (.string ⟨List.toArray ([61] : List UInt8)⟩))) (a := a6) (b := ([61] : List UInt8)) (d := (some 86)) (k := 4) K rfl K K hl1130 ?_
       rw [hyl1129]
       exact eK m
      ·rintro ρ' w' hs p ⟨⟨n3, t7, t8, -⟩, t9⟩
       refine kN [(85, (.string ⟨List.toArray a6⟩))] ⟨(Qv (h := 3) K).symm.trans n3, trivial⟩ fun m => ?_
       refine Qi (T := 9) (T' := 9) (x := (.tmp 85)) (y := (.const (.string ⟨List.toArray ([61] : List UInt8)⟩))) (a := a6) (b := ([61] : List UInt8)) (d := (some 86)) (k := 4) K rfl K K hl1130 ?_
       rw [hyl1129]
       exact eK m
      ·rintro ρ' w' hs p ⟨⟨n4, u0, u1, u2, -⟩, u3⟩
       refine kN [(85, (.string ⟨List.toArray a6⟩))] ⟨(Qv (h := 3) K).symm.trans n4, trivial⟩ fun m => ?_
       refine Qi (T := 9) (T' := 9) (x := (.tmp 85)) (y := (.const (.string ⟨List.toArray ([61] : List UInt8)⟩))) (a := a6) (b := ([61] : List UInt8)) (d := (some 86)) (k := 4) K rfl K K hl1130 ?_
       rw [hyl1129]
       exact eK m
     ·exact oV (hC (hS 6 (pt q 0)) (h0)) (pt q 1)
     ·refine Owe.light K [0, 1] K (Qe ?_ (Qe ?_ Vl))
      ·rintro ρ' w' hs p ⟨u4, n5⟩
       refine kM (kc (kA p 5 87) k0) fun m => ?_
       refine sL 9 87 q 1 2 (.string ⟨List.toArray f.2.1⟩) 88 n5 rfl ?_
       exact eK m
      ·rintro ρ' w' hs p ⟨⟨u5, -⟩, n6⟩
       refine kM (kc (kA p 5 87) k0) fun m => ?_
       refine sL 9 87 q 1 2 (.string ⟨List.toArray f.2.1⟩) 88 n6 rfl ?_
       exact eK m
     ·refine oH 1 2 ?_
      ·rintro ρ' w' hs p ⟨⟨n7, -⟩, n8⟩
       refine kM (kc (kA p 6 88) k0) fun m => ?_
       refine cF 86 #[(.tmp 88)] #[9] 89 Tryz.call86 (J7  f.2.1 w'  a9 m5) ?_
       rintro e u6 ⟨rfl, i6⟩
       refine ⟨_, rfl, ?_⟩
       have n9 := SP.call n8 i6
       clear i6
       refine ⟨_, Qg m, rfl, ?_⟩
       exact (And.intro (And.intro n7 (And.intro rfl (trivial))) (n9))
     ·refine Owe.light K [2, 3, 4] K (Qe ?_ (Qe ?_ (Qe ?_ Vl)))
      ·rintro ρ' w' hs p ⟨⟨u7, o0, -⟩, u8⟩
       refine kN [(86, (.string ⟨List.toArray b8⟩)), (89, (.string ⟨List.toArray a9⟩))] ⟨p 4 86 K, (Qv (h := 7) K).symm.trans o0, trivial⟩ fun m => ?_
       refine Qi (T := 9) (T' := 9) (x := (.tmp 86)) (y := (.tmp 89)) (a := b8) (b := a9) (d := (some 90)) (k := 8) K rfl K K hl1138 ?_
       rw [hyl1137]
       exact eK m
      ·rintro ρ' w' hs p ⟨⟨u9, o1, v0, -⟩, v1⟩
       refine kN [(86, (.string ⟨List.toArray b8⟩)), (89, (.string ⟨List.toArray a9⟩))] ⟨p 4 86 K, (Qv (h := 7) K).symm.trans o1, trivial⟩ fun m => ?_
       refine Qi (T := 9) (T' := 9) (x := (.tmp 86)) (y := (.tmp 89)) (a := b8) (b := a9) (d := (some 90)) (k := 8) K rfl K K hl1138 ?_
       rw [hyl1137]
       exact eK m
      ·rintro ρ' w' hs p ⟨⟨v2, o2, v3, v4, -⟩, v5⟩
       refine kN [(86, (.string ⟨List.toArray b8⟩)), (89, (.string ⟨List.toArray a9⟩))] ⟨p 4 86 K, (Qv (h := 7) K).symm.trans o2, trivial⟩ fun m => ?_
       refine Qi (T := 9) (T' := 9) (x := (.tmp 86)) (y := (.tmp 89)) (a := b8) (b := a9) (d := (some 90)) (k := 8) K rfl K K hl1138 ?_
       rw [hyl1137]
       exact eK m
     ·exact oV (hC (hS 6 (pt q 0)) (h0)) (pt q 2)
     ·refine Owe.light K [0, 1, 2] K (Qe ?_ (Qe ?_ (Qe ?_ Vl)))
      ·rintro ρ' w' hs p ⟨v6, o3⟩
       refine kM (kc (kA p 9 91) k0) fun m => ?_
       refine sL 4 91 q 2 2 (.bool f.2.2.1) 92 o3 rfl ?_
       exact eK m
      ·rintro ρ' w' hs p ⟨⟨v7, -⟩, o4⟩
       refine kM (kc (kA p 9 91) k0) fun m => ?_
       refine sL 4 91 q 2 2 (.bool f.2.2.1) 92 o4 rfl ?_
       exact eK m
      ·rintro ρ' w' hs p ⟨⟨v8, v9, -⟩, o5⟩
       refine kM (kc (kA p 9 91) k0) fun m => ?_
       refine sL 4 91 q 2 2 (.bool f.2.2.1) 92 o5 rfl ?_
       exact eK m
     ·refine oH 2 3 ?_
      ·rintro ρ' w' hs p ⟨⟨o6, o7, -⟩, o8⟩
       refine kM (kc (kA p 10 92) k0) fun m => ?_
       refine cF 87 #[(.tmp 92), (.const (.string ⟨List.toArray ([43] : List UInt8)⟩))] #[4, 9] 93 Tryz.call87 (D2  f.2.2.1 ([43] : List UInt8) w'  b1 m6) ?_
       rintro e w1 ⟨rfl, i7⟩
       refine ⟨_, rfl, ?_⟩
       have o9 := SP.call o8 i7
       clear i7
       refine ⟨_, Qg m, rfl, ?_⟩
       exact (And.intro (And.intro o6 (And.intro o7 (And.intro rfl (trivial)))) (o9))
     ·refine Owe.light K [3, 4] K (Qe ?_ (Qe ?_ Vl))
      ·rintro ρ' w' hs p ⟨⟨w2, w3, p0, -⟩, w4⟩
       refine kN [(90, (.string ⟨List.toArray c7⟩)), (93, (.string ⟨List.toArray b1⟩))] ⟨p 8 90 K, (Qv (h := 11) K).symm.trans p0, trivial⟩ fun m => ?_
       refine Qi (T := 9) (T' := 9) (x := (.tmp 90)) (y := (.tmp 93)) (a := c7) (b := b1) (d := (some 94)) (k := 12) K rfl K K hl1146 ?_
       rw [hyl1145]
       exact eK m
      ·rintro ρ' w' hs p ⟨⟨w5, w6, p1, w7, -⟩, w8⟩
       refine kN [(90, (.string ⟨List.toArray c7⟩)), (93, (.string ⟨List.toArray b1⟩))] ⟨p 8 90 K, (Qv (h := 11) K).symm.trans p1, trivial⟩ fun m => ?_
       refine Qi (T := 9) (T' := 9) (x := (.tmp 90)) (y := (.tmp 93)) (a := c7) (b := b1) (d := (some 94)) (k := 12) K rfl K K hl1146 ?_
       rw [hyl1145]
       exact eK m
     ·exact oV (hC (hS 6 (pt q 0)) (h0)) (pt q 3)
     ·refine Owe.light K [0, 1, 2, 3] K (Qe ?_ (Qe ?_ (Qe ?_ (Qe ?_ Vl))))
      ·rintro ρ' w' hs p ⟨x0, p2⟩
       refine kM (kc (kA p 13 95) k0) fun m => ?_
       refine sL 4 95 q 3 2 (.bool f.2.2.2) 96 p2 rfl ?_
       exact eK m
      ·rintro ρ' w' hs p ⟨⟨x1, -⟩, p3⟩
       refine kM (kc (kA p 13 95) k0) fun m => ?_
       refine sL 4 95 q 3 2 (.bool f.2.2.2) 96 p3 rfl ?_
       exact eK m
      ·rintro ρ' w' hs p ⟨⟨x2, x3, -⟩, p4⟩
       refine kM (kc (kA p 13 95) k0) fun m => ?_
       refine sL 4 95 q 3 2 (.bool f.2.2.2) 96 p4 rfl ?_
       exact eK m
      ·rintro ρ' w' hs p ⟨⟨x4, x5, x6, -⟩, p5⟩
       refine kM (kc (kA p 13 95) k0) fun m => ?_
       refine sL 4 95 q 3 2 (.bool f.2.2.2) 96 p5 rfl ?_
       exact eK m
     ·refine oH 3 4 ?_
      ·rintro ρ' w' hs p ⟨⟨p6, p7, p8, -⟩, p9⟩
       refine kM (kc (kA p 14 96) k0) fun m => ?_
       refine cF 87 #[(.tmp 96), (.const (.string ⟨List.toArray ([33] : List UInt8)⟩))] #[4, 9] 97 Tryz.call87 (D2  f.2.2.2 ([33] : List UInt8) w'  b9 m7) ?_
       rintro e x7 ⟨rfl, i8⟩
       refine ⟨_, rfl, ?_⟩
       have q0 := SP.call p9 i8
       clear i8
       refine ⟨_, Qg m, rfl, ?_⟩
       exact (And.intro (And.intro p6 (And.intro p7 (And.intro p8 (And.intro rfl (trivial))))) (q0))
     ·refine oL 4 ?_
      ·rintro ρ' w' hs p ⟨⟨x8, x9, y0, q1, -⟩, y1⟩
       refine kN [(94, (.string ⟨List.toArray d5⟩)), (97, (.string ⟨List.toArray b9⟩))] ⟨p 12 94 K, (Qv (h := 15) K).symm.trans q1, trivial⟩ fun m => ?_
       refine Qi (T := 9) (T' := 9) (x := (.tmp 94)) (y := (.tmp 97)) (a := d5) (b := b9) (d := (some 98)) (k := 16) K rfl K K hl1154 ?_
       rw [hyl1153]
       exact eK m
     ·refine oH 4 5 ?_
      ·rintro ρ' w' hs p ⟨⟨q2, q3, q4, q5, -⟩, q6⟩
       refine kM (kc (kA p 16 98) k0) fun m => ?_
       refine Vy (e := Qn) (T := 79) (E := 9) (len := 1) (parts := #[(0, (.tmp 98))]) (cs := #[(.string ⟨List.toArray a7⟩)]) ([a7] : List (List UInt8)) (d := (some 99)) (k := 17) K rfl (fun _ => K) q6 rfl rfl rfl rfl ?_
       intro q7 y2 q8
       refine ⟨_, Qg m, trivial, ?_⟩
       exact (Exists.intro q7 (And.intro (And.intro q2 (And.intro q3 (And.intro q4 (And.intro q5 (And.intro rfl (trivial)))))) (q8)))
     ·refine oH 5 6 ?_
      ·rintro ρ' w' hs p ⟨c0, ⟨q9, r0, r1, r2, i9, -⟩, f9⟩
       refine kN [(82, (pt j 0)), (99, (.slice (some ⟨c0, 0, none⟩) (List.length ([a7] : List (List UInt8))) (List.length ([a7] : List (List UInt8)))))] ⟨p 0 82 K, (Qv (h := 17) K).symm.trans i9, trivial⟩ fun m => ?_
       refine cF 84 #[(.tmp 82), (.tmp 99)] #[132, 79] 100 Tryz.call84 (V1 j a0 a1 (some ⟨c0, 0, none⟩) (List.length ([a7] : List (List UInt8))) u b3 ([a7] : List (List UInt8)) w' (Za f9 [1, 0] rfl rfl) (fun w hm => (Q9 (SP.still f9 (l := [1, 0]) (i := 3) rfl rfl rfl hm))) b6 m8) ?_
       rintro e r3 ⟨g0, g1, rfl, j0⟩
       refine ⟨_, rfl, ?_⟩
       have r4 : SP [] w0 r3 [Qk q 108 #[(.int .i64 f.1), (.string ⟨List.toArray f.2.1⟩), (.bool f.2.2.1), (.bool f.2.2.2)], Vu 9 Qn (some ⟨c0, 0, none⟩) (List.length ([a7] : List (List UInt8))) ([a7] : List (List UInt8)), Qk j 133 #[(.slice g0 (List.length b6.1) g1), (.bool b6.2)], Vu 9 Qn g0 g1 b6.1] := Qr f9 [1, 0] [2, 3] rfl rfl j0 rfl
       clear j0
       refine ⟨_, Qg m, rfl, ?_⟩
       exact (Exists.intro c0 (Exists.intro g0 (Exists.intro g1 (And.intro (And.intro q9 (And.intro r0 (And.intro r1 (And.intro r2 (And.intro i9 (And.intro rfl (trivial))))))) (r4)))))
     ·rintro ρ' w' hs hf ⟨f8, d6, d7, ⟨y3, y4, y5, y6, y7, y8, -⟩, j1⟩
      refine V3 [(3, (pt j 0)), (4, (.int .i64 f.1)), (56, (.slice A5 (List.length s) c6)), (57, (.int .i64 ((List.length s : Nat) : Int))), (58, (.int .i64 a2))] ⟨(hs 3 K).trans K, (hs 4 K).trans K, (hs 56 K).trans K, (hs 57 K).trans K, (hs 58 K).trans K, trivial⟩ ?_
      obtain ⟨y9, r5⟩ : ∃ x, w' = x := ⟨_, rfl⟩
      rw [r5] at j1 ⊢
      refine aR ?_
      refine iR 2 2 [(101, (.int .i64 (IntKind.wrap .i64 (a2 + 1)))), (58, (.int .i64 (IntKind.wrap .i64 (a2 + 1))))] ?_
      refine iF ?_
      exact ⟨b6.1, b6.2, f.1, (IntKind.wrap .i64 (a2 + 1)), d6, d7, ⟨K, K, K, K, K, trivial⟩, SP.sel j1 [3, 2] rfl rfl, H⟩
   ·have H := cf H f4
    refine At.exit K (id := 0) K ?_
    refine aQ ?_
    refine aR ?_
    refine iR 1 1 [(102, (pt j 0))] ?_
    obtain ⟨g2, r6, H⟩ := Qa H
    refine iS 2 ?_
    refine cF 79 #[(.tmp 102)] #[132] 103 Tryz.call79 (U3 j a0 a1 u b2 l5 (Za d0 [1, 0] rfl rfl) g2 r6) ?_
    rintro e r7 ⟨j2, j3, rfl, j4⟩
    refine ⟨_, rfl, ?_⟩
    have r8 : SP [] w0 r7 [Qk j 133 #[(.slice j2 (List.length u) j3), (.bool b2)], Vu 9 Qn j2 j3 u] := Qr d0 [1, 0] [] rfl rfl j4 rfl
    clear j4
    refine iR 1 3 [(2, (.string ⟨List.toArray g2⟩))] ?_
    refine iF ?_
    refine At.ret K ?_
    refine ⟨(.string ⟨List.toArray g2⟩), K, ?_⟩
    obtain rfl := Qb H
    exact ⟨rfl, SP.sel r8 [] rfl rfl⟩
  ·exact ⟨c4.1, c4.2, (-1), 0, f2, f3, ⟨K, K, K, K, K, trivial⟩, SP.sel i0 [3, 2] rfl rfl, H⟩
def Ng (a : Bool) (b : Int) (c : Int) (d : Int) (e : (List (Int × (List UInt8) × Bool × Bool))) : Option (Int × Int × Int × (List (Int × (List UInt8) × Bool × Bool)) × Bool) :=
  (cond a (some (0, 0, 0, ([] : List (Int × (List UInt8) × Bool × Bool)), false)) (some (b, c, d, e, true)))
def J0 (a : (Int × (List (List UInt8)) × Bool)) (b : Bool) : Option (Int × Int × Int × (List (Int × (List UInt8) × Bool × Bool)) × Bool) :=
  (Ng b a.1 0 0 ([] : List (Int × (List UInt8) × Bool × Bool)))
def Nh (a : Bool) (b : Int) (c : Int) (d : Int) (e : (List (Int × (List UInt8) × Bool × Bool))) : Option (Int × Int × Int × (List (Int × (List UInt8) × Bool × Bool)) × Bool) :=
  (Ng a b c d e)
def J1 (b : (List (List UInt8)) → Bool → Int → Int → Int → (List (Int × (List UInt8) × Bool × Bool)) → Int → Option (Int × Int × Int × (List (Int × (List UInt8) × Bool × Bool)) × Bool)) (c : Int) (d : Int) (e : Int) (f : (List (Int × (List UInt8) × Bool × Bool))) (a : (Int × (List UInt8) × Bool × Bool × (List (List UInt8)) × Bool)) (g : Bool) : Option (Int × Int × Int × (List (Int × (List UInt8) × Bool × Bool)) × Bool) :=
  ((app f ([(a.1, a.2.1, a.2.2.1, a.2.2.2.1)] : List (Int × (List UInt8) × Bool × Bool))).bind fun h => (b a.2.2.2.2.1 g c d e h a.1))
def Yz (f : (List (List UInt8)) → Bool → Int → Int → Int → (List (Int × (List UInt8) × Bool × Bool)) → Int → Option (Int × Int × Int × (List (Int × (List UInt8) × Bool × Bool)) × Bool)) (g : (List (List UInt8))) (h : Bool) (b : Int) (c : Int) (d : Int) (e : (List (Int × (List UInt8) × Bool × Bool))) (i : Int) : Option (Int × Int × Int × (List (Int × (List UInt8) × Bool × Bool)) × Bool) :=
  (cond (decide (((List.length g : Nat) : Int) > 0)) ((Jn g h).bind fun a => (cond a.2.2.2.2.2 (J1 f b c d e a true) (J1 f b c d e a (decide (a.1 ≤ i))))) (Nh h b c d e))
def Xj  : Nat → (List (List UInt8)) → Bool → Int → Int → Int → (List (Int × (List UInt8) × Bool × Bool)) → Int → Option (Int × Int × Int × (List (Int × (List UInt8) × Bool × Bool)) × Bool)
  | 0, _, _, _, _, _, _, _ => none
  | f + 1, a, b, c, d, e, g, h => Yz  (Xj  f) a b c d e g h
def Nu (p1 : (List UInt8)) : Option (Int × Int × Int × (List (Int × (List UInt8) × Bool × Bool)) × Bool) :=
  ((U7 p1 ([32] : List UInt8)).bind fun z8 => ((Ve z8 false).bind fun a => (cond (a.1 == ([101, 114, 114] : List UInt8)) ((Vd a.2.1 a.2.2).bind fun b => (cond b.2.2 (J0 b true) (cond (b.1 == 0) (J0 b true) (J0 b (decide (((List.length b.2.1 : Nat) : Int) > 0)))))) (cond (a.1 == ([111, 107] : List UInt8)) ((Vd a.2.1 a.2.2).bind fun c => ((Vd c.2.1 c.2.2).bind fun d => (Xj  Y1 d.2.1 d.2.2 0 c.1 d.1 ([] : List (Int × (List UInt8) × Bool × Bool)) (-1)))) (Nh true 0 0 0 ([] : List (Int × (List UInt8) × Bool × Bool)))))))
set_option maxHeartbeats 40000000 in
theorem Rn  (p1 : (List UInt8)) (w0 : World) (hL : Gu w0)  (r : (Int × Int × Int × (List (Int × (List UInt8) × Bool × Bool)) × Bool)) (H : Nu p1 = some r) :
  Calls Tryz.prog 33 #[(.string ⟨List.toArray p1⟩)] w0 (fun e w' => ∃ (A2 : Option Addr) (c3 : Nat), e = .returned (.tuple #[(.agg #[(.int .i64 r.1), (.int .i64 r.2.1), (.int .i64 r.2.2.1), (.slice A2 (List.length r.2.2.2.1) c3)]), (.bool r.2.2.2.2)]) ∧ SP [] w0 w' [Vu 108 (Qf (Jw .i64) (Qf Qn (Qf Qm Qm))) A2 c3 r.2.2.2.1]) := by
 unfold Nu at H
 refine Ql (n := 85) Tryz.func33 K K K ?_
 have i1 := Qy [] w0
 refine aQ ?_
 refine aR ?_
 refine iS 1 ?_
 refine Qh.alloc (t := 55) (z := (.agg #[(.int .i64 0), (.int .i64 0), (.int .i64 0), (.slice none (List.length ([] : List (Int × (List UInt8) × Bool × Bool))) 0)])) (d := (some 2)) (k := 0) K rfl K i1 ?_
 intro g4 w5 i2
 refine iR 1 2 [(3, (.bool false))] ?_
 refine iF ?_
 refine aQ ?_
 refine aR ?_
 refine iR 1 1 [(8, (.string ⟨List.toArray p1⟩))] ?_
 obtain ⟨z8, i3, H⟩ := Qa H
 refine iS 2 ?_
 refine cF 67 #[(.tmp 8), (.const (.string ⟨List.toArray ([32] : List UInt8)⟩))] #[9, 9] 9 Tryz.call67 (R9  p1 ([32] : List UInt8) w5  z8 i3) ?_
 rintro e l6 ⟨c9, d0, rfl, g8⟩
 refine ⟨_, rfl, ?_⟩
 have i4 := SP.call i2 g8
 clear g8
 refine iR 1 3 [(10, (.agg #[(.slice c9 (List.length z8) d0), (.bool false)]))] ?_
 refine iS 4 ?_
 refine Yi (t := 112) (x := (.tmp 10)) (v := (.agg #[(.slice c9 (List.length z8) d0), (.bool false)])) (d := (some 11)) (k := 3) K rfl K i4 ?_
 intro f l7 i5
 refine iR 1 5 [(4, (pt f 0))] ?_
 refine iF ?_
 refine aQ ?_
 refine aR ?_
 refine iS 1 ?_
 refine Qh.alloc (t := 55) (z := (.agg #[(.int .i64 0), (.int .i64 0), (.int .i64 0), (.slice none (List.length ([] : List (Int × (List UInt8) × Bool × Bool))) 0)])) (d := (some 5)) (k := 0) K rfl K i5 ?_
 intro j g9 i6
 refine iF ?_
 refine aQ ?_
 refine aQ ?_
 refine aR ?_
 refine iR 1 1 [(12, (pt f 0))] ?_
 obtain ⟨q, i7, H⟩ := Qa H
 refine iS 2 ?_
 have h1 : SP [] w0 g9 [Qk g4 55 #[(.int .i64 0), (.int .i64 0), (.int .i64 0), (.slice none (List.length ([] : List (Int × (List UInt8) × Bool × Bool))) 0)], rdE Qn c9 d0 z8, Qk f 112 #[(.slice c9 (List.length z8) d0), (.bool false)], Qk j 55 #[(.int .i64 0), (.int .i64 0), (.int .i64 0), (.slice none (List.length ([] : List (Int × (List UInt8) × Bool × Bool))) 0)]] := Mc i6 (i := 1) rfl
 refine cF 68 #[(.tmp 12)] #[109] 13 Tryz.call68 (V7 f c9 d0 z8 false g9 (Za h1 [2, 1] rfl rfl) q i7) ?_
 rintro e f1 ⟨c5, c6, rfl, h2⟩
 refine ⟨_, rfl, ?_⟩
 have b8 : SP [] w0 f1 [Qk g4 55 #[(.int .i64 0), (.int .i64 0), (.int .i64 0), (.slice none (List.length ([] : List (Int × (List UInt8) × Bool × Bool))) 0)], Qk j 55 #[(.int .i64 0), (.int .i64 0), (.int .i64 0), (.slice none (List.length ([] : List (Int × (List UInt8) × Bool × Bool))) 0)], Qk f 112 #[(.slice c5 (List.length q.2.1) c6), (.bool q.2.2)], rdE Qn c5 c6 q.2.1] := Qr h1 [2, 1] [0, 3] rfl rfl h2 rfl
 clear h2
 refine iF ?_
 refine J2 K (id := 0) K ?_
 refine aQ ?_
 refine aR ?_
 refine iS 1 ?_
 refine Qu (op := .eql) (T := 9) (T' := 9) (x := (.tmp 13)) (y := (.const (.string ⟨List.toArray ([101, 114, 114] : List UInt8)⟩))) (a := q.1) (b := ([101, 114, 114] : List UInt8)) (r := (.bool (q.1 == ([101, 114, 114] : List UInt8)))) (d := (some 18)) (k := 0) K rfl K K rfl ?_
 refine iR 1 2 [(17, (.bool (q.1 == ([101, 114, 114] : List UInt8))))] ?_
 refine iF ?_
 refine At.join (fun ρ w => ∃ (d1 : (List (List UInt8))) (c7 : Bool) (b5 : Int) (b6 : Int) (b7 : Int) (a7 : (List (Int × (List UInt8) × Bool × Bool))) (d2 : Option Addr) (d3 : Nat) (a8 : Option Addr) (a9 : Nat), Q7 ρ [(2, (pt g4 0)), (4, (pt f 0)), (5, (pt j 0))] ∧ SP [] w0 w [Qk g4 55 #[(.int .i64 0), (.int .i64 0), (.int .i64 0), (.slice none (List.length ([] : List (Int × (List UInt8) × Bool × Bool))) 0)], rdE Qn d2 d3 d1, Qk f 112 #[(.slice d2 (List.length d1) d3), (.bool c7)], Vu 108 (Qf (Jw .i64) (Qf Qn (Qf Qm Qm))) a8 a9 a7, Qk j 55 #[(.int .i64 b5), (.int .i64 b6), (.int .i64 b7), (.slice a8 (List.length a7) a9)]] ∧ Ng c7 b5 b6 b7 a7 = some r) ?_ ?_
 ·refine Vm K (o := (.tmp 17)) K (b := (q.1 == ([101, 114, 114] : List UInt8))) K (fun f2 => ?_) (fun f2 => ?_)
  ·have H := ct H f2
   refine aQ ?_
   refine aR ?_
   refine iR 1 1 [(19, (pt f 0))] ?_
   obtain ⟨p, i8, H⟩ := Qa H
   refine iS 2 ?_
   refine cF 76 #[(.tmp 19)] #[109] 20 Tryz.call76 (Vh f c5 c6 q.2.1 q.2.2 f1 (fun w hm => Qt hL (No b8 (l := [2, 3]) rfl hm)) (Za b8 [2, 3] rfl rfl) p i8) ?_
   rintro e i9 ⟨b2, b3, rfl, h3⟩
   refine ⟨_, rfl, ?_⟩
   have j0 : SP [] w0 i9 [Qk g4 55 #[(.int .i64 0), (.int .i64 0), (.int .i64 0), (.slice none (List.length ([] : List (Int × (List UInt8) × Bool × Bool))) 0)], Qk j 55 #[(.int .i64 0), (.int .i64 0), (.int .i64 0), (.slice none (List.length ([] : List (Int × (List UInt8) × Bool × Bool))) 0)], Qk f 112 #[(.slice b2 (List.length p.2.1) b3), (.bool p.2.2)], rdE Qn b2 b3 p.2.1] := Qr b8 [2, 3] [0, 1] rfl rfl h3 rfl
   clear h3
   refine iR 1 3 [(21, (pt j 0))] ?_
   refine iS 4 ?_
   refine Qh.store (t := 27) (x := (.tmp 21)) (y := (.tmp 20)) (g := j) (off := 0) (i := 1) (v := (.int .i64 p.1)) (cs' := #[(.int .i64 p.1), (.int .i64 0), (.int .i64 0), (.slice none (List.length ([] : List (Int × (List UInt8) × Bool × Bool))) 0)]) (d := none) (k := 3) K rfl K K j0 rfl K ?_
   intro l8 c8
   refine iF ?_
   refine At.join (fun ρ w => ∃ (d6 : Bool), Q7 ρ [(2, (pt g4 0)), (4, (pt f 0)), (5, (pt j 0))] ∧ SP [] w0 w [Qk g4 55 #[(.int .i64 0), (.int .i64 0), (.int .i64 0), (.slice none (List.length ([] : List (Int × (List UInt8) × Bool × Bool))) 0)], rdE Qn b2 b3 p.2.1, Qk f 112 #[(.slice b2 (List.length p.2.1) b3), (.bool d6)], Qk j 55 #[(.int .i64 p.1), (.int .i64 0), (.int .i64 0), (.slice none (List.length ([] : List (Int × (List UInt8) × Bool × Bool))) 0)]] ∧ J0 p d6 = some r) ?_ ?_
   ·refine aR ?_
    refine iR 4 4 [(22, (pt f 0)), (23, (pt f 0)), (24, (pt f 0)), (25, (pt f 1))] ?_
    refine iS 5 ?_
    refine sL 4 25 f 1 2 (.bool p.2.2) 26 c8 rfl ?_
    refine iR 1 6 [(27, (.bool p.2.2))] ?_
    refine In.guard (t := 27) (b := p.2.2) K (fun f3 => ?_) (fun f3 => ?_)
    ·have H := ct H f3
     refine iR 14 20 [(28, undef), (29, undef), (30, undef), (31, (.bool true)), (32, (.bool true)), (33, undef), (34, undef), (35, undef), (36, undef), (37, undef), (38, undef), (39, (.bool true)), (40, (pt f 0)), (41, (pt f 1))] ?_
     refine iS 21 ?_
     refine Qh.store (t := 4) (x := (.tmp 41)) (y := (.tmp 39)) (g := f) (off := 1) (i := 2) (v := (.bool true)) (cs' := #[(.slice b2 (List.length p.2.1) b3), (.bool true)]) (d := none) (k := 20) K rfl K K c8 rfl K ?_
     intro l9 j1
     refine iF ?_
     exact ⟨true, ⟨K, K, K, trivial⟩, SP.sel j1 [0, 3, 2, 1] rfl rfl, H⟩
    ·have H := cf H f3
     refine iR 1 7 [(28, (pt j 0))] ?_
     refine iS 8 ?_
     refine sL 27 28 j 0 1 (.int .i64 p.1) 29 c8 rfl ?_
     refine iR 3 11 [(30, (.bool (p.1 == 0))), (31, (.bool (p.1 == 0))), (32, (.bool (p.1 == 0)))] ?_
     refine In.guard (t := 32) (b := (p.1 == 0)) K (fun f4 => ?_) (fun f4 => ?_)
     ·have H := ct H f4
      refine iR 9 20 [(33, undef), (34, undef), (35, undef), (36, undef), (37, undef), (38, undef), (39, (.bool true)), (40, (pt f 0)), (41, (pt f 1))] ?_
      refine iS 21 ?_
      refine Qh.store (t := 4) (x := (.tmp 41)) (y := (.tmp 39)) (g := f) (off := 1) (i := 2) (v := (.bool true)) (cs' := #[(.slice b2 (List.length p.2.1) b3), (.bool true)]) (d := none) (k := 20) K rfl K K c8 rfl K ?_
      intro m0 j2
      refine iF ?_
      exact ⟨true, ⟨K, K, K, trivial⟩, SP.sel j2 [0, 3, 2, 1] rfl rfl, H⟩
     ·have H := cf H f4
      refine iR 3 14 [(33, (pt f 0)), (34, (pt f 0)), (35, (pt f 0))] ?_
      refine iS 15 ?_
      refine sL 79 35 f 0 2 (.slice b2 (List.length p.2.1) b3) 36 c8 rfl ?_
      refine iR 5 20 [(37, (.int .i64 ((List.length p.2.1 : Nat) : Int))), (38, (.bool (decide (((List.length p.2.1 : Nat) : Int) > 0)))), (39, (.bool (decide (((List.length p.2.1 : Nat) : Int) > 0)))), (40, (pt f 0)), (41, (pt f 1))] ?_
      refine iS 21 ?_
      refine Qh.store (t := 4) (x := (.tmp 41)) (y := (.tmp 39)) (g := f) (off := 1) (i := 2) (v := (.bool (decide (((List.length p.2.1 : Nat) : Int) > 0)))) (cs' := #[(.slice b2 (List.length p.2.1) b3), (.bool (decide (((List.length p.2.1 : Nat) : Int) > 0)))]) (d := none) (k := 20) K rfl K K c8 rfl K ?_
      intro m1 j3
      refine iF ?_
      exact ⟨(decide (((List.length p.2.1 : Nat) : Int) > 0)), ⟨K, K, K, trivial⟩, SP.sel j3 [0, 3, 2, 1] rfl rfl, H⟩
   ·rintro ρ m2 ⟨d6, hk, j4, H⟩
    unfold J0 at H
    first | refine At.known [(2, (pt g4 0)), (4, (pt f 0)), (5, (pt j 0))] hk ?_ | rw [← Qc (l := [(2, (pt g4 0)), (4, (pt f 0)), (5, (pt j 0))]) hk]
    exact ⟨p.2.1, d6, p.1, 0, 0, ([] : List (Int × (List UInt8) × Bool × Bool)), b2, b3, none, 0, ⟨K, K, K, trivial⟩, SP.sel (X6 j4 108 (Qf (Jw .i64) (Qf Qn (Qf Qm Qm)))) [0, 1, 2, 4, 3] rfl rfl, H⟩
  ·have H := cf H f2
   refine aQ ?_
   refine aR ?_
   refine iS 1 ?_
   refine Qu (op := .eql) (T := 9) (T' := 9) (x := (.tmp 13)) (y := (.const (.string ⟨List.toArray ([111, 107] : List UInt8)⟩))) (a := q.1) (b := ([111, 107] : List UInt8)) (r := (.bool (q.1 == ([111, 107] : List UInt8)))) (d := (some 43)) (k := 0) K rfl K K rfl ?_
   refine iR 1 2 [(42, (.bool (q.1 == ([111, 107] : List UInt8))))] ?_
   refine iF ?_
   refine At.join (fun ρ w => ∃ (d7 : (List (List UInt8))) (d8 : Bool) (d9 : Int) (e0 : Int) (e1 : Int) (d4 : (List (Int × (List UInt8) × Bool × Bool))) (e2 : Option Addr) (e3 : Nat) (e4 : Option Addr) (e5 : Nat), Q7 ρ [(2, (pt g4 0)), (4, (pt f 0)), (5, (pt j 0))] ∧ SP [] w0 w [Qk g4 55 #[(.int .i64 0), (.int .i64 0), (.int .i64 0), (.slice none (List.length ([] : List (Int × (List UInt8) × Bool × Bool))) 0)], rdE Qn e2 e3 d7, Qk f 112 #[(.slice e2 (List.length d7) e3), (.bool d8)], Vu 108 (Qf (Jw .i64) (Qf Qn (Qf Qm Qm))) e4 e5 d4, Qk j 55 #[(.int .i64 d9), (.int .i64 e0), (.int .i64 e1), (.slice e4 (List.length d4) e5)]] ∧ Nh d8 d9 e0 e1 d4 = some r) ?_ ?_
   ·refine Vm K (o := (.tmp 42)) K (b := (q.1 == ([111, 107] : List UInt8))) K (fun f5 => ?_) (fun f5 => ?_)
    ·have H := ct H f5
     refine aQ ?_
     refine aR ?_
     refine iR 1 1 [(44, (pt f 0))] ?_
     obtain ⟨b0, j5, H⟩ := Qa H
     refine iS 2 ?_
     refine cF 76 #[(.tmp 44)] #[109] 45 Tryz.call76 (Vh f c5 c6 q.2.1 q.2.2 f1 (fun w hm => Qt hL (No b8 (l := [2, 3]) rfl hm)) (Za b8 [2, 3] rfl rfl) b0 j5) ?_
     rintro e h4 ⟨f6, f7, rfl, h5⟩
     refine ⟨_, rfl, ?_⟩
     have f8 : SP [] w0 h4 [Qk g4 55 #[(.int .i64 0), (.int .i64 0), (.int .i64 0), (.slice none (List.length ([] : List (Int × (List UInt8) × Bool × Bool))) 0)], Qk j 55 #[(.int .i64 0), (.int .i64 0), (.int .i64 0), (.slice none (List.length ([] : List (Int × (List UInt8) × Bool × Bool))) 0)], Qk f 112 #[(.slice f6 (List.length b0.2.1) f7), (.bool b0.2.2)], rdE Qn f6 f7 b0.2.1] := Qr b8 [2, 3] [0, 1] rfl rfl h5 rfl
     clear h5
     refine iR 1 3 [(46, (pt f 0))] ?_
     obtain ⟨b4, j6, H⟩ := Qa H
     refine iS 4 ?_
     refine cF 76 #[(.tmp 46)] #[109] 47 Tryz.call76 (Vh f f6 f7 b0.2.1 b0.2.2 h4 (fun w hm => Qt hL (No f8 (l := [2, 3]) rfl hm)) (Za f8 [2, 3] rfl rfl) b4 j6) ?_
     rintro e j7 ⟨f9, g0, rfl, h6⟩
     refine ⟨_, rfl, ?_⟩
     have j8 : SP [] w0 j7 [Qk g4 55 #[(.int .i64 0), (.int .i64 0), (.int .i64 0), (.slice none (List.length ([] : List (Int × (List UInt8) × Bool × Bool))) 0)], Qk j 55 #[(.int .i64 0), (.int .i64 0), (.int .i64 0), (.slice none (List.length ([] : List (Int × (List UInt8) × Bool × Bool))) 0)], Qk f 112 #[(.slice f9 (List.length b4.2.1) g0), (.bool b4.2.2)], rdE Qn f9 g0 b4.2.1] := Qr f8 [2, 3] [0, 1] rfl rfl h6 rfl
     clear h6
     refine iR 1 5 [(48, (pt j 1))] ?_
     refine iS 6 ?_
     refine Qh.store (t := 3) (x := (.tmp 48)) (y := (.tmp 45)) (g := j) (off := 1) (i := 1) (v := (.int .i64 b0.1)) (cs' := #[(.int .i64 0), (.int .i64 b0.1), (.int .i64 0), (.slice none (List.length ([] : List (Int × (List UInt8) × Bool × Bool))) 0)]) (d := none) (k := 5) K rfl K K j8 rfl K ?_
     intro m3 j9
     refine iR 1 7 [(49, (pt j 2))] ?_
     refine iS 8 ?_
     refine Qh.store (t := 3) (x := (.tmp 49)) (y := (.tmp 47)) (g := j) (off := 2) (i := 1) (v := (.int .i64 b4.1)) (cs' := #[(.int .i64 0), (.int .i64 b0.1), (.int .i64 b4.1), (.slice none (List.length ([] : List (Int × (List UInt8) × Bool × Bool))) 0)]) (d := none) (k := 7) K rfl K K j9 rfl K ?_
     intro m4 k1
     refine iF ?_
     refine aQ ?_
     refine aR ?_
     refine iR 1 1 [(6, (.int .i64 (-1)))] ?_
     refine iF ?_
     refine J2 K (id := 1) K ?_
     refine Du K (fun e6 ρ w => ∃ (a0 : (List (List UInt8))) (b9 : Bool) (a2 : Int) (a3 : Int) (a4 : Int) (u : (List (Int × (List UInt8) × Bool × Bool))) (a1 : Int) (c0 : Option Addr) (c1 : Nat) (a5 : Option Addr) (a6 : Nat), Q7 ρ [(2, (pt g4 0)), (4, (pt f 0)), (5, (pt j 0)), (6, (.int .i64 a1))] ∧ SP [] w0 w [Qk g4 55 #[(.int .i64 0), (.int .i64 0), (.int .i64 0), (.slice none (List.length ([] : List (Int × (List UInt8) × Bool × Bool))) 0)], rdE Qn c0 c1 a0, Qk f 112 #[(.slice c0 (List.length a0) c1), (.bool b9)], Vu 108 (Qf (Jw .i64) (Qf Qn (Qf Qm Qm))) a5 a6 u, Qk j 55 #[(.int .i64 a2), (.int .i64 a3), (.int .i64 a4), (.slice a5 (List.length u) a6)]] ∧ Xj  e6 a0 b9 a2 a3 a4 u a1 = some r) (by rintro ρ w ⟨a0, b9, a2, a3, a4, u, a1, c0, c1, a5, a6, hk, hs, H⟩; cases H) ?_ Y1 ?_
     ·rintro e6 ρ k2 ⟨a0, b9, a2, a3, a4, u, a1, c0, c1, a5, a6, hk, d5, H⟩
      refine At.known [(2, (pt g4 0)), (4, (pt f 0)), (5, (pt j 0)), (6, (.int .i64 a1))] hk ?_
      replace H := (show Yz (Xj e6) a0 b9 a2 a3 a4 u a1 = some r from H)
      unfold Yz at H
      refine aQ ?_
      refine aQ ?_
      refine aR ?_
      refine iR 3 3 [(50, (pt f 0)), (51, (pt f 0)), (52, (pt f 0))] ?_
      refine iS 4 ?_
      refine sL 79 52 f 0 2 (.slice c0 (List.length a0) c1) 53 d5 rfl ?_
      refine iR 2 6 [(54, (.int .i64 ((List.length a0 : Nat) : Int))), (55, (.bool (decide (((List.length a0 : Nat) : Int) > 0))))] ?_
      refine iF ?_
      refine Vm K (o := (.tmp 55)) K (b := (decide (((List.length a0 : Nat) : Int) > 0))) K (fun g1 => ?_) (fun g1 => ?_)
      ·have H := ct H g1
       refine At.skip K ?_
       refine J2 K (id := 2) K ?_
       refine aQ ?_
       refine aR ?_
       refine iR 1 1 [(56, (pt f 0))] ?_
       obtain ⟨h, k3, H⟩ := Qa H
       refine iS 2 ?_
       refine cF 77 #[(.tmp 56)] #[109] 57 Tryz.call77 (D7 f c0 c1 a0 b9 k2 (fun w hm => Qt hL (No d5 (l := [2, 1]) rfl hm)) (Za d5 [2, 1] rfl rfl) h k3) ?_
       rintro e k4 ⟨c2, c4, rfl, h7⟩
       refine ⟨_, rfl, ?_⟩
       have k5 : SP [] w0 k4 [Qk g4 55 #[(.int .i64 0), (.int .i64 0), (.int .i64 0), (.slice none (List.length ([] : List (Int × (List UInt8) × Bool × Bool))) 0)], Vu 108 (Qf (Jw .i64) (Qf Qn (Qf Qm Qm))) a5 a6 u, Qk j 55 #[(.int .i64 a2), (.int .i64 a3), (.int .i64 a4), (.slice a5 (List.length u) a6)], Qk f 112 #[(.slice c2 (List.length h.2.2.2.2.1) c4), (.bool h.2.2.2.2.2)], rdE Qn c2 c4 h.2.2.2.2.1] := Qr d5 [2, 1] [0, 3, 4] rfl rfl h7 rfl
       clear h7
       refine iS 3 ?_
       refine Qh.alloc (t := 108) (z := (.agg #[(.int .i64 0), (.string ⟨List.toArray ([] : List UInt8)⟩), (.bool false), (.bool false)])) (d := (some 7)) (k := 2) K rfl K k5 ?_
       intro b1 m5 k6
       refine iS 4 ?_
       refine Qh.store (t := 108) (x := (.tmp 7)) (y := (.tmp 57)) (g := b1) (off := 0) (i := 5) (v := (.agg #[(.int .i64 h.1), (.string ⟨List.toArray h.2.1⟩), (.bool h.2.2.1), (.bool h.2.2.2.1)])) (cs' := #[(.int .i64 h.1), (.string ⟨List.toArray h.2.1⟩), (.bool h.2.2.1), (.bool h.2.2.2.1)]) (d := none) (k := 3) K rfl K K k6 rfl K ?_
       intro m6 e7
       refine iF ?_
       refine aQ ?_
       refine At.join (fun ρ w => ∃ (e8 : Bool), Q7 ρ [(2, (pt g4 0)), (4, (pt f 0)), (5, (pt j 0)), (7, (pt b1 0))] ∧ SP [] w0 w [Qk g4 55 #[(.int .i64 0), (.int .i64 0), (.int .i64 0), (.slice none (List.length ([] : List (Int × (List UInt8) × Bool × Bool))) 0)], rdE Qn c2 c4 h.2.2.2.2.1, Qk f 112 #[(.slice c2 (List.length h.2.2.2.2.1) c4), (.bool e8)], Vu 108 (Qf (Jw .i64) (Qf Qn (Qf Qm Qm))) a5 a6 u, Qk j 55 #[(.int .i64 a2), (.int .i64 a3), (.int .i64 a4), (.slice a5 (List.length u) a6)], Qk b1 108 #[(.int .i64 h.1), (.string ⟨List.toArray h.2.1⟩), (.bool h.2.2.1), (.bool h.2.2.2.1)]] ∧ J1 (Xj e6) a2 a3 a4 u h e8 = some r) ?_ ?_
       ·refine aR ?_
        refine iR 4 4 [(58, (pt f 0)), (59, (pt f 0)), (60, (pt f 0)), (61, (pt f 1))] ?_
        refine iS 5 ?_
        refine sL 4 61 f 1 3 (.bool h.2.2.2.2.2) 62 e7 rfl ?_
        refine iR 1 6 [(63, (.bool h.2.2.2.2.2))] ?_
        refine In.guard (t := 63) (b := h.2.2.2.2.2) K (fun g2 => ?_) (fun g2 => ?_)
        ·have H := ct H g2
         refine iR 7 13 [(64, undef), (65, undef), (66, undef), (67, undef), (68, (.bool true)), (69, (pt f 0)), (70, (pt f 1))] ?_
         refine iS 14 ?_
         refine Qh.store (t := 4) (x := (.tmp 70)) (y := (.tmp 68)) (g := f) (off := 1) (i := 3) (v := (.bool true)) (cs' := #[(.slice c2 (List.length h.2.2.2.2.1) c4), (.bool true)]) (d := none) (k := 13) K rfl K K e7 rfl K ?_
         intro m7 k7
         refine iF ?_
         exact ⟨true, ⟨K, K, K, K, trivial⟩, SP.sel k7 [0, 4, 3, 1, 2, 5] rfl rfl, H⟩
        ·have H := cf H g2
         refine iR 1 7 [(64, (pt b1 0))] ?_
         refine iS 8 ?_
         refine sL 3 64 b1 0 5 (.int .i64 h.1) 65 e7 rfl ?_
         refine iR 5 13 [(66, (.int .i64 a1)), (67, (.bool (decide (h.1 ≤ a1)))), (68, (.bool (decide (h.1 ≤ a1)))), (69, (pt f 0)), (70, (pt f 1))] ?_
         refine iS 14 ?_
         refine Qh.store (t := 4) (x := (.tmp 70)) (y := (.tmp 68)) (g := f) (off := 1) (i := 3) (v := (.bool (decide (h.1 ≤ a1)))) (cs' := #[(.slice c2 (List.length h.2.2.2.2.1) c4), (.bool (decide (h.1 ≤ a1)))]) (d := none) (k := 13) K rfl K K e7 rfl K ?_
         intro m8 k8
         refine iF ?_
         exact ⟨(decide (h.1 ≤ a1)), ⟨K, K, K, K, trivial⟩, SP.sel k8 [0, 4, 3, 1, 2, 5] rfl rfl, H⟩
       ·rintro ρ m9 ⟨e8, hk, e9, H⟩
        unfold J1 at H
        first | refine At.known [(2, (pt g4 0)), (4, (pt f 0)), (5, (pt j 0)), (7, (pt b1 0))] hk ?_ | rw [← Qc (l := [(2, (pt g4 0)), (4, (pt f 0)), (5, (pt j 0)), (7, (pt b1 0))]) hk]
        refine aQ ?_
        refine aR ?_
        refine iR 1 1 [(71, (pt b1 0))] ?_
        refine iS 2 ?_
        refine sL 3 71 b1 0 5 (.int .i64 h.1) 72 e9 rfl ?_
        refine iR 1 3 [(6, (.int .i64 h.1))] ?_
        refine iF ?_
        refine aR ?_
        refine iR 1 1 [(73, (pt j 3))] ?_
        refine iS 2 ?_
        refine sL 53 73 j 3 4 (.slice a5 (List.length u) a6) 74 e9 rfl ?_
        refine iS 3 ?_
        refine sL 108 7 b1 0 5 (.agg #[(.int .i64 h.1), (.string ⟨List.toArray h.2.1⟩), (.bool h.2.2.1), (.bool h.2.2.2.1)]) 75 e9 rfl ?_
        refine iS 4 ?_
        refine Vy (e := (Qf (Jw .i64) (Qf Qn (Qf Qm Qm)))) (T := 53) (E := 108) (len := 1) (parts := #[(0, (.tmp 75))]) (cs := #[(.int .i64 h.1), (.string ⟨List.toArray h.2.1⟩), (.bool h.2.2.1), (.bool h.2.2.2.1)]) ([(h.1, h.2.1, h.2.2.1, h.2.2.2.1)] : List (Int × (List UInt8) × Bool × Bool)) (d := (some 76)) (k := 3) K rfl (fun _ => K) e9 rfl rfl rfl rfl ?_
        intro k9 n0 h8
        obtain ⟨hl1096, H⟩ := Vb H
        obtain ⟨g3, hyl1097⟩ : ∃ y, u ++ ([(h.1, h.2.1, h.2.2.1, h.2.2.2.1)] : List (Int × (List UInt8) × Bool × Bool)) = y := ⟨_, rfl⟩
        rw [hyl1097] at H
        refine iS 5 ?_
        refine Qh.append (e := (Qf (Jw .i64) (Qf Qn (Qf Qm Qm)))) (l := u) (m := ([(h.1, h.2.1, h.2.2.1, h.2.2.2.1)] : List (Int × (List UInt8) × Bool × Bool))) (A := a5) (c := a6) (T := 53) (TX := 53) (E := 108) (b := 32) (s := (.tmp 74)) (x := (.tmp 76)) (i := 3) (vx := (.slice (some ⟨k9, 0, none⟩) (List.length ([(h.1, h.2.1, h.2.2.1, h.2.2.2.1)] : List (Int × (List UInt8) × Bool × Bool))) (List.length ([(h.1, h.2.1, h.2.2.1, h.2.2.2.1)] : List (Int × (List UInt8) × Bool × Bool))))) (d := (some 77)) (k := 4) K rfl K K K K rfl h8 rfl (Ep (E := 108) K (Q9 (SP.get h8 (i := 6) rfl))) hl1096 ?_
        rw [hyl1097]
        intro g5 g6 n1 l0
        refine iR 1 6 [(78, (pt j 3))] ?_
        refine iS 7 ?_
        refine Qh.store (t := 53) (x := (.tmp 78)) (y := (.tmp 77)) (g := j) (off := 3) (i := 4) (v := (.slice g5 (List.length g3) g6)) (cs' := #[(.int .i64 a2), (.int .i64 a3), (.int .i64 a4), (.slice g5 (List.length g3) g6)]) (d := none) (k := 6) K rfl K K l0 rfl K ?_
        intro n2 l1
        refine iF ?_
        exact ⟨h.2.2.2.2.1, e8, a2, a3, a4, g3, h.1, c2, c4, g5, g6, ⟨K, K, K, K, trivial⟩, SP.sel l1 [0, 1, 2, 3, 4] rfl rfl, H⟩
      ·have H := cf H g1
       refine At.exit K (id := 1) K ?_
       exact ⟨a0, b9, a2, a3, a4, u, c0, c1, a5, a6, ⟨K, K, K, trivial⟩, SP.sel d5 [0, 1, 2, 3, 4] rfl rfl, H⟩
     ·exact ⟨b4.2.1, b4.2.2, 0, b0.1, b4.1, ([] : List (Int × (List UInt8) × Bool × Bool)), (-1), f9, g0, none, 0, ⟨K, K, K, K, trivial⟩, SP.sel (X6 k1 108 (Qf (Jw .i64) (Qf Qn (Qf Qm Qm)))) [0, 3, 2, 4, 1] rfl rfl, H⟩
    ·have H := cf H f5
     refine aR ?_
     refine iR 3 3 [(14, (pt f 0)), (15, (pt f 0)), (16, (pt f 1))] ?_
     refine iS 4 ?_
     refine Qh.store (t := 4) (x := (.tmp 16)) (y := (.const (.bool true))) (g := f) (off := 1) (i := 2) (v := (.bool true)) (cs' := #[(.slice c5 (List.length q.2.1) c6), (.bool true)]) (d := none) (k := 3) K rfl K K b8 rfl K ?_
     intro n3 l2
     refine iF ?_
     exact ⟨q.2.1, true, 0, 0, 0, ([] : List (Int × (List UInt8) × Bool × Bool)), c5, c6, none, 0, ⟨K, K, K, trivial⟩, SP.sel (X6 l2 108 (Qf (Jw .i64) (Qf Qn (Qf Qm Qm)))) [0, 3, 2, 4, 1] rfl rfl, H⟩
   ·rintro ρ n4 ⟨d7, d8, d9, e0, e1, d4, e2, e3, e4, e5, hk, l3, H⟩
    unfold Nh at H
    first | refine At.known [(2, (pt g4 0)), (4, (pt f 0)), (5, (pt j 0))] hk ?_ | rw [← Qc (l := [(2, (pt g4 0)), (4, (pt f 0)), (5, (pt j 0))]) hk]
    exact ⟨d7, d8, d9, e0, e1, d4, e2, e3, e4, e5, ⟨K, K, K, trivial⟩, SP.sel l3 [0, 1, 2, 3, 4] rfl rfl, H⟩
 ·rintro ρ n5 ⟨d1, c7, b5, b6, b7, a7, d2, d3, a8, a9, hk, f0, H⟩
  unfold Ng at H
  first | refine At.known [(2, (pt g4 0)), (4, (pt f 0)), (5, (pt j 0))] hk ?_ | rw [← Qc (l := [(2, (pt g4 0)), (4, (pt f 0)), (5, (pt j 0))]) hk]
  refine aQ ?_
  refine aQ ?_
  refine aR ?_
  refine iR 3 3 [(79, (pt f 0)), (80, (pt f 0)), (81, (pt f 1))] ?_
  refine iS 4 ?_
  refine sL 4 81 f 1 2 (.bool c7) 82 f0 rfl ?_
  refine iF ?_
  refine Vm K (o := (.tmp 82)) K (b := c7) K (fun g7 => ?_) (fun g7 => ?_)
  ·have H := ct H g7
   refine aQ ?_
   refine aR ?_
   refine iR 1 1 [(83, (.agg #[(.int .i64 0), (.int .i64 0), (.int .i64 0), (.slice none (List.length ([] : List (Int × (List UInt8) × Bool × Bool))) 0)]))] ?_
   refine iS 2 ?_
   refine Qh.store (t := 55) (x := (.tmp 2)) (y := (.tmp 83)) (g := g4) (off := 0) (i := 0) (v := (.agg #[(.int .i64 0), (.int .i64 0), (.int .i64 0), (.slice none (List.length ([] : List (Int × (List UInt8) × Bool × Bool))) 0)])) (cs' := #[(.int .i64 0), (.int .i64 0), (.int .i64 0), (.slice none (List.length ([] : List (Int × (List UInt8) × Bool × Bool))) 0)]) (d := none) (k := 1) K rfl K K f0 rfl K ?_
   intro l4 h9
   refine iR 1 3 [(3, (.bool false))] ?_
   refine iF ?_
   refine At.ret K ?_
   have l5 : SP [] w0 l4 [Qk g4 55 #[(.int .i64 0), (.int .i64 0), (.int .i64 0), (.slice none (List.length ([] : List (Int × (List UInt8) × Bool × Bool))) 0)], rdE Qn d2 d3 d1, Qk f 112 #[(.slice d2 (List.length d1) d3), (.bool c7)], Vu 108 (Qf (Jw .i64) (Qf Qn (Qf Qm Qm))) a8 a9 a7, Qk j 55 #[(.int .i64 b5), (.int .i64 b6), (.int .i64 b7), (.slice a8 (List.length a7) a9)], Vu 108 (Qf (Jw .i64) (Qf Qn (Qf Qm Qm))) none 0 ([] : List (Int × (List UInt8) × Bool × Bool))] := X6 h9 108 (Qf (Jw .i64) (Qf Qn (Qf Qm Qm)))
   refine ⟨(.tuple #[(.agg #[(.int .i64 0), (.int .i64 0), (.int .i64 0), (.slice none (List.length ([] : List (Int × (List UInt8) × Bool × Bool))) 0)]), (.bool false)]), Ex K (Gt (a := 2) (t := 55) (g := g4) (off := 0) K (SP.get h9 (i := 0) rfl) K) (Dz (t := 3) K), ?_⟩
   obtain rfl := Qb H
   exact ⟨none, 0, rfl, SP.sel l5 [5] rfl rfl⟩
  ·have H := cf H g7
   refine At.skip K ?_
   refine aQ ?_
   refine aR ?_
   refine iS 1 ?_
   refine sL 55 5 j 0 4 (.agg #[(.int .i64 b5), (.int .i64 b6), (.int .i64 b7), (.slice a8 (List.length a7) a9)]) 84 f0 rfl ?_
   refine iS 2 ?_
   refine Qh.store (t := 55) (x := (.tmp 2)) (y := (.tmp 84)) (g := g4) (off := 0) (i := 0) (v := (.agg #[(.int .i64 b5), (.int .i64 b6), (.int .i64 b7), (.slice a8 (List.length a7) a9)])) (cs' := #[(.int .i64 b5), (.int .i64 b6), (.int .i64 b7), (.slice a8 (List.length a7) a9)]) (d := none) (k := 1) K rfl K K f0 rfl K ?_
   intro n6 i0
   refine iR 1 3 [(3, (.bool true))] ?_
   refine iF ?_
   refine At.ret K ?_
   refine ⟨(.tuple #[(.agg #[(.int .i64 b5), (.int .i64 b6), (.int .i64 b7), (.slice a8 (List.length a7) a9)]), (.bool true)]), Ex K (Gt (a := 2) (t := 55) (g := g4) (off := 0) K (SP.get i0 (i := 0) rfl) K) (Dz (t := 3) K), ?_⟩
   obtain rfl := Qb H
   exact ⟨a8, a9, rfl, SP.sel i0 [3] rfl rfl⟩
end Go.Proofs.YtoflbpmbkmephaaGreatDoor
namespace Go.Proofs.YtoflbpmbkmephaaGreatDoor
open Go.RowKit
def Ze (e : Int → Option (Bool)) (d : (List (Int × (List UInt8) × Bool × Bool))) (f : (List (Int × (List UInt8) × Bool × Bool))) (a : Int) : Option (Bool) :=
  (cond (decide (a < ((List.length d : Nat) : Int))) ((idx d a).bind fun b => ((idx f a).bind fun c => (cond (!((b.1 == c.1) && ((b.2.1 == c.2.1) && ((b.2.2.1 == c.2.2.1) && (b.2.2.2 == c.2.2.2))))) (some (false)) (e (IntKind.wrap .i64 (a + 1)))))) (some (true)))
def Zf (a : (List (Int × (List UInt8) × Bool × Bool))) (b : (List (Int × (List UInt8) × Bool × Bool))) : Nat → Int → Option (Bool)
  | 0, _ => none
  | f + 1, c => Ze  (Zf a b f) a b c
def Zg (a : (List (Int × (List UInt8) × Bool × Bool))) (b : (List (Int × (List UInt8) × Bool × Bool))) (c : Bool) : Option (Bool) :=
  (cond c (some (false)) (Zf a b Y1 0))
def Yd (c : Int) (d : Int) (e : Int) (a : (List (Int × (List UInt8) × Bool × Bool))) (f : Int) (g : Int) (h : Int) (b : (List (Int × (List UInt8) × Bool × Bool))) : Option (Bool) :=
  (cond (c != f) (Zg a b true) (cond (d != g) (Zg a b true) (cond (e != h) (Zg a b true) (Zg a b (((List.length a : Nat) : Int) != ((List.length b : Nat) : Int))))))
set_option maxHeartbeats 40000000 in
theorem Uj (A5 : Option Addr) (c6 : Nat) (u : Option Addr) (a3 : Nat) (a4 : Int) (z : Int) (a0 : Int) (h : (List (Int × (List UInt8) × Bool × Bool))) (a5 : Int) (a1 : Int) (a2 : Int) (m : (List (Int × (List UInt8) × Bool × Bool))) (w0 : World) (b5 : RdT (Qf (Jw .i64) (Qf Qn (Qf Qm Qm))) w0 A5 c6 h) (b6 : RdT (Qf (Jw .i64) (Qf Qn (Qf Qm Qm))) w0 u a3 m) (r : (Bool)) (H : Yd a4 z a0 h a5 a1 a2 m = some r) :
  Calls Tryz.prog 39 #[(.agg #[(.int .i64 a4), (.int .i64 z), (.int .i64 a0), (.slice A5 (List.length h) c6)]), (.agg #[(.int .i64 a5), (.int .i64 a1), (.int .i64 a2), (.slice u (List.length m) a3)])] w0 (fun e w' => e = .returned (.bool r) ∧ SP [] w0 w' []) := by
 unfold Yd at H
 refine Ql (n := 52) Tryz.func39 K K K ?_
 have c2 := Qy [] w0
 refine aQ ?_
 refine aR ?_
 refine iS 1 ?_
 refine Yi (t := 55) (x := (.tmp 0)) (v := (.agg #[(.int .i64 a4), (.int .i64 z), (.int .i64 a0), (.slice A5 (List.length h) c6)])) (d := (some 2)) (k := 0) K rfl K c2 ?_
 intro i e8 c3
 refine iS 2 ?_
 refine Yi (t := 55) (x := (.tmp 1)) (v := (.agg #[(.int .i64 a5), (.int .i64 a1), (.int .i64 a2), (.slice u (List.length m) a3)])) (d := (some 3)) (k := 1) K rfl K c3 ?_
 intro j e9 s
 refine iR 1 3 [(4, (.bool false))] ?_
 refine iF ?_
 refine aQ ?_
 refine aQ ?_
 refine At.join (fun ρ w => ∃ (a6 : Bool), Q7 ρ [(2, (pt i 0)), (3, (pt j 0)), (33, (.bool a6))] ∧ SP [] w0 w [Qk i 55 #[(.int .i64 a4), (.int .i64 z), (.int .i64 a0), (.slice A5 (List.length h) c6)], Qk j 55 #[(.int .i64 a5), (.int .i64 a1), (.int .i64 a2), (.slice u (List.length m) a3)]] ∧ Zg h m a6 = some r) ?_ ?_
 ·refine aR ?_
  refine iR 1 1 [(6, (pt i 0))] ?_
  refine iS 2 ?_
  refine sL 27 6 i 0 0 (.int .i64 a4) 7 s rfl ?_
  refine iR 1 3 [(8, (pt j 0))] ?_
  refine iS 4 ?_
  refine sL 27 8 j 0 1 (.int .i64 a5) 9 s rfl ?_
  refine iR 2 6 [(10, (.bool (a4 != a5))), (11, (.bool (a4 != a5)))] ?_
  refine In.guard (t := 11) (b := (a4 != a5)) K (fun a7 => ?_) (fun a7 => ?_)
  ·have H := ct H a7
   refine iR 22 28 [(12, undef), (13, undef), (14, undef), (15, undef), (16, undef), (17, (.bool true)), (18, (.bool true)), (19, undef), (20, undef), (21, undef), (22, undef), (23, undef), (24, (.bool true)), (25, (.bool true)), (26, undef), (27, undef), (28, undef), (29, undef), (30, undef), (31, undef), (32, undef), (33, (.bool true))] ?_
   refine iF ?_
   exact ⟨true, ⟨K, K, K, trivial⟩, SP.sel s [0, 1] rfl rfl, H⟩
  ·have H := cf H a7
   refine iR 1 7 [(12, (pt i 1))] ?_
   refine iS 8 ?_
   refine sL 3 12 i 1 0 (.int .i64 z) 13 s rfl ?_
   refine iR 1 9 [(14, (pt j 1))] ?_
   refine iS 10 ?_
   refine sL 3 14 j 1 1 (.int .i64 a1) 15 s rfl ?_
   refine iR 3 13 [(16, (.bool (z != a1))), (17, (.bool (z != a1))), (18, (.bool (z != a1)))] ?_
   refine In.guard (t := 18) (b := (z != a1)) K (fun a8 => ?_) (fun a8 => ?_)
   ·have H := ct H a8
    refine iR 15 28 [(19, undef), (20, undef), (21, undef), (22, undef), (23, undef), (24, (.bool true)), (25, (.bool true)), (26, undef), (27, undef), (28, undef), (29, undef), (30, undef), (31, undef), (32, undef), (33, (.bool true))] ?_
    refine iF ?_
    exact ⟨true, ⟨K, K, K, trivial⟩, SP.sel s [0, 1] rfl rfl, H⟩
   ·have H := cf H a8
    refine iR 1 14 [(19, (pt i 2))] ?_
    refine iS 15 ?_
    refine sL 3 19 i 2 0 (.int .i64 a0) 20 s rfl ?_
    refine iR 1 16 [(21, (pt j 2))] ?_
    refine iS 17 ?_
    refine sL 3 21 j 2 1 (.int .i64 a2) 22 s rfl ?_
    refine iR 3 20 [(23, (.bool (a0 != a2))), (24, (.bool (a0 != a2))), (25, (.bool (a0 != a2)))] ?_
    refine In.guard (t := 25) (b := (a0 != a2)) K (fun a9 => ?_) (fun a9 => ?_)
    ·have H := ct H a9
     refine iR 8 28 [(26, undef), (27, undef), (28, undef), (29, undef), (30, undef), (31, undef), (32, undef), (33, (.bool true))] ?_
     refine iF ?_
     exact ⟨true, ⟨K, K, K, trivial⟩, SP.sel s [0, 1] rfl rfl, H⟩
    ·have H := cf H a9
     refine iR 1 21 [(26, (pt i 3))] ?_
     refine iS 22 ?_
     refine sL 53 26 i 3 0 (.slice A5 (List.length h) c6) 27 s rfl ?_
     refine iR 2 24 [(28, (.int .i64 ((List.length h : Nat) : Int))), (29, (pt j 3))] ?_
     refine iS 25 ?_
     refine sL 53 29 j 3 1 (.slice u (List.length m) a3) 30 s rfl ?_
     refine iR 3 28 [(31, (.int .i64 ((List.length m : Nat) : Int))), (32, (.bool (((List.length h : Nat) : Int) != ((List.length m : Nat) : Int)))), (33, (.bool (((List.length h : Nat) : Int) != ((List.length m : Nat) : Int))))] ?_
     refine iF ?_
     exact ⟨(((List.length h : Nat) : Int) != ((List.length m : Nat) : Int)), ⟨K, K, K, trivial⟩, SP.sel s [0, 1] rfl rfl, H⟩
 ·rintro ρ f0 ⟨a6, hk, b7, H⟩
  unfold Zg at H
  first | refine At.known [(2, (pt i 0)), (3, (pt j 0)), (33, (.bool a6))] hk ?_ | rw [← Qc (l := [(2, (pt i 0)), (3, (pt j 0)), (33, (.bool a6))]) hk]
  refine Vm K (o := (.tmp 33)) K (b := a6) K (fun b0 => ?_) (fun b0 => ?_)
  ·have H := ct H b0
   refine aQ ?_
   refine aR ?_
   refine iR 1 1 [(4, (.bool false))] ?_
   refine iF ?_
   refine At.ret K ?_
   refine ⟨(.bool false), K, ?_⟩
   obtain rfl := Qb H
   exact ⟨rfl, SP.sel b7 [] rfl rfl⟩
  ·have H := cf H b0
   refine At.skip K ?_
   refine aQ ?_
   refine aQ ?_
   refine aR ?_
   refine iR 1 1 [(5, (.int .i64 0))] ?_
   refine iF ?_
   refine J2 K (id := 0) K ?_
   refine Du K (fun f2 ρ w => ∃ (g : Int), Q7 ρ [(2, (pt i 0)), (3, (pt j 0)), (5, (.int .i64 g))] ∧ SP [] w0 w [Qk i 55 #[(.int .i64 a4), (.int .i64 z), (.int .i64 a0), (.slice A5 (List.length h) c6)], Qk j 55 #[(.int .i64 a5), (.int .i64 a1), (.int .i64 a2), (.slice u (List.length m) a3)]] ∧ Zf h m f2 g = some r) (by rintro ρ w ⟨g, hk, hs, H⟩; cases H) ?_ Y1 ?_
   ·rintro f2 ρ f1 ⟨g, hk, b1, H⟩
    refine At.known [(2, (pt i 0)), (3, (pt j 0)), (5, (.int .i64 g))] hk ?_
    replace H := (show Ze (Zf h m f2) h m g = some r from H)
    unfold Ze at H
    refine aQ ?_
    refine aQ ?_
    refine aR ?_
    refine iR 2 2 [(34, (.int .i64 g)), (35, (pt i 3))] ?_
    refine iS 3 ?_
    refine sL 53 35 i 3 0 (.slice A5 (List.length h) c6) 36 b1 rfl ?_
    refine iR 2 5 [(37, (.int .i64 ((List.length h : Nat) : Int))), (38, (.bool (decide (g < ((List.length h : Nat) : Int)))))] ?_
    refine iF ?_
    refine Vm K (o := (.tmp 38)) K (b := (decide (g < ((List.length h : Nat) : Int)))) K (fun b2 => ?_) (fun b2 => ?_)
    ·have H := ct H b2
     refine At.skip K ?_
     refine aQ ?_
     refine J2 K (id := 1) K ?_
     refine aQ ?_
     obtain ⟨a, b8, b9, c4, H⟩ := Vf H
     obtain ⟨f, c0, c1, c5, H⟩ := Vf H
     refine aG [GEq (pt i 3), GEq (.slice A5 (List.length h) c6), GEq (.int .i64 g), El A5 (Qf (Jw .i64) (Qf Qn (Qf Qm Qm))).sz g, GEq (.agg #[(.int .i64 a.1), (.string ⟨List.toArray a.2.1⟩), (.bool a.2.2.1), (.bool a.2.2.2)]), GEq (pt j 3), GEq (.slice u (List.length m) a3), GEq (.int .i64 g), El u (Qf (Jw .i64) (Qf Qn (Qf Qm Qm))).sz g, GEq (.agg #[(.int .i64 f.1), (.string ⟨List.toArray f.2.1⟩), (.bool f.2.2.1), (.bool f.2.2.2)]), GEq (.bool (!((a.1 == f.1) && ((a.2.1 == f.2.1) && ((a.2.2.1 == f.2.2.1) && (a.2.2.2 == f.2.2.2))))))] [] (tG [] w0 [Qk i 55 #[(.int .i64 a4), (.int .i64 z), (.int .i64 a0), (.slice A5 (List.length h) c6)], Qk j 55 #[(.int .i64 a5), (.int .i64 a1), (.int .i64 a2), (.slice u (List.length m) a3)]] [([], [])]) 11 0 ⟨trivial, SP.drew b1⟩ ?_ ?_
     iterate 11 refine And.intro ?_ ?_
     exact trivial
     ·exact oV (hC (hS 2 (pt i 0)) (h0)) (pt i 3)
     ·refine oL 0 ?_
      ·rintro ρ' w' hs p ⟨f3, c7⟩
       refine kM (kc (kA p 0 41) k0) fun q => ?_
       refine sL 53 41 i 3 0 (.slice A5 (List.length h) c6) 42 c7 rfl ?_
       exact eK q
     ·exact oV (hC (hS 5 (.int .i64 g)) (h0)) (.int .i64 g)
     ·refine oL 0 ?_
      ·rintro ρ' w' hs p ⟨f4, c8⟩
       refine kM (kc (kA p 1 42) (kc (kA p 2 43) k0)) fun q => ?_
       refine Z6 (e := (Qf (Jw .i64) (Qf Qn (Qf Qm Qm)))) (l := h) (A := A5) (c := c6) (T := 53) (E := 108) (x := (.tmp 42)) (ix := (.tmp 43)) (ki := .i64) (iz := g) (d := (some 44)) (k := 3) K rfl K K K K (RdT.sp b5 c8) b8 b9 ?_
       intro c9 d0 d1 f5 hc165
       exact ⟨rfl, _, Qg q, ⟨c9, d0, d1, rfl⟩⟩
     ·refine oL 0 ?_
      ·rintro ρ' w' hs p ⟨f6, d2⟩
       obtain ⟨d3, d4, d5, d6⟩ := p 3 44 K
       refine kM (kc d6 k0) fun q => ?_
       refine Qh.cells (t := 108) (x := (.tmp 44)) (b := d3) (off := (d4 + Int.toNat g * (Qf (Jw .i64) (Qf Qn (Qf Qm Qm))).sz)) (xs := [(.int .i64 a.1), (.string ⟨List.toArray a.2.1⟩), (.bool a.2.2.1), (.bool a.2.2.2)]) (d := (some 45)) (k := 4) K rfl K K K (Bn (e := (Qf (Jw .i64) (Qf Qn (Qf Qm Qm)))) (Yr (RdT.sp b5 d2) d5 b8 b9) c4 rfl) ?_
       exact eK q
     ·exact oV (hC (hS 3 (pt j 0)) (h0)) (pt j 3)
     ·refine oL 0 ?_
      ·rintro ρ' w' hs p ⟨f7, d7⟩
       refine kM (kc (kA p 5 46) k0) fun q => ?_
       refine sL 53 46 j 3 1 (.slice u (List.length m) a3) 47 d7 rfl ?_
       exact eK q
     ·exact oV (hC (hS 5 (.int .i64 g)) (h0)) (.int .i64 g)
     ·refine oL 0 ?_
      ·rintro ρ' w' hs p ⟨f8, d8⟩
       refine kM (kc (kA p 6 47) (kc (kA p 7 48) k0)) fun q => ?_
       refine Z6 (e := (Qf (Jw .i64) (Qf Qn (Qf Qm Qm)))) (l := m) (A := u) (c := a3) (T := 53) (E := 108) (x := (.tmp 47)) (ix := (.tmp 48)) (ki := .i64) (iz := g) (d := (some 49)) (k := 8) K rfl K K K K (RdT.sp b6 d8) c0 c1 ?_
       intro d9 e0 e1 f9 hc179
       exact ⟨rfl, _, Qg q, ⟨d9, e0, e1, rfl⟩⟩
     ·refine oL 0 ?_
      ·rintro ρ' w' hs p ⟨g0, e2⟩
       obtain ⟨e3, e4, e5, e6⟩ := p 8 49 K
       refine kM (kc e6 k0) fun q => ?_
       refine Qh.cells (t := 108) (x := (.tmp 49)) (b := e3) (off := (e4 + Int.toNat g * (Qf (Jw .i64) (Qf Qn (Qf Qm Qm))).sz)) (xs := [(.int .i64 f.1), (.string ⟨List.toArray f.2.1⟩), (.bool f.2.2.1), (.bool f.2.2.2)]) (d := (some 50)) (k := 9) K rfl K K K (Bn (e := (Qf (Jw .i64) (Qf Qn (Qf Qm Qm)))) (Yr (RdT.sp b6 e2) e5 c0 c1) c5 rfl) ?_
       exact eK q
     ·refine oL 0 ?_
      ·rintro ρ' w' hs p ⟨g1, g2⟩
       refine kM (kc (kA p 4 45) (kc (kA p 9 50) k0)) fun q => ?_
       refine Db (op := .neq) (T := 108) (T' := 108) (x := (.tmp 45)) (y := (.tmp 50)) (vx := (.agg #[(.int .i64 a.1), (.string ⟨List.toArray a.2.1⟩), (.bool a.2.2.1), (.bool a.2.2.2)])) (vy := (.agg #[(.int .i64 f.1), (.string ⟨List.toArray f.2.1⟩), (.bool f.2.2.1), (.bool f.2.2.2)])) (v := (.bool (!((a.1 == f.1) && ((a.2.1 == f.2.1) && ((a.2.2.1 == f.2.2.1) && (a.2.2.2 == f.2.2.2))))))) (d := (some 51)) (k := 10) K rfl K K (by clear H; intro w; simp only [Gd]; go_simp; simp only [Gm, Nn, Re, Gd, Bool.and_true] <;> simp only [Bool.not_and]) ?_
       exact eK q
     ·rintro ρ' w' hs hf ⟨g3, b3⟩
      refine V3 [(2, (pt i 0)), (3, (pt j 0)), (5, (.int .i64 g)), (51, (.bool (!((a.1 == f.1) && ((a.2.1 == f.2.1) && ((a.2.2.1 == f.2.2.1) && (a.2.2.2 == f.2.2.2)))))))] ⟨(hs 2 K).trans K, (hs 3 K).trans K, (hs 5 K).trans K, hf 10 51 K, trivial⟩ ?_
      obtain ⟨g4, e7⟩ : ∃ x, w' = x := ⟨_, rfl⟩
      rw [e7] at b3 ⊢
      refine Vm K (o := (.tmp 51)) K (b := (!((a.1 == f.1) && ((a.2.1 == f.2.1) && ((a.2.2.1 == f.2.2.1) && (a.2.2.2 == f.2.2.2)))))) K (fun b4 => ?_) (fun b4 => ?_)
      ·have H := ct H b4
       refine aQ ?_
       refine aR ?_
       refine iR 1 1 [(4, (.bool false))] ?_
       refine iF ?_
       refine At.ret K ?_
       refine ⟨(.bool false), K, ?_⟩
       obtain rfl := Qb H
       exact ⟨rfl, SP.sel b3 [] rfl rfl⟩
      ·have H := cf H b4
       refine At.skip K ?_
       refine aR ?_
       refine iR 3 3 [(39, (.int .i64 g)), (40, (.int .i64 (IntKind.wrap .i64 (g + 1)))), (5, (.int .i64 (IntKind.wrap .i64 (g + 1))))] ?_
       refine iF ?_
       exact ⟨(IntKind.wrap .i64 (g + 1)), ⟨K, K, K, trivial⟩, SP.sel b3 [0, 1] rfl rfl, H⟩
    ·have H := cf H b2
     refine At.exit K (id := 0) K ?_
     refine aQ ?_
     refine aR ?_
     refine iR 1 1 [(4, (.bool true))] ?_
     refine iF ?_
     refine At.ret K ?_
     refine ⟨(.bool true), K, ?_⟩
     obtain rfl := Qb H
     exact ⟨rfl, SP.sel b1 [] rfl rfl⟩
   ·exact ⟨0, ⟨K, K, K, trivial⟩, SP.sel b7 [0, 1] rfl rfl, H⟩
def Q1 (a : Bool) : Option (Bool) :=
  (some (a))
def Gi  : Option (Bool) :=
  ((Jz ([98, 121, 116, 101, 115, 32, 51, 32, 54, 49, 54, 50, 32, 45] : List UInt8)).bind fun z8 => ((Jz ([98, 121, 116, 101, 115, 32, 51, 32, 54, 49, 54, 50] : List UInt8)).bind fun b => ((Nu ([111, 107, 32, 50, 32, 48, 32, 49, 61, 54, 49, 43, 32, 51, 61, 45, 33] : List UInt8)).bind fun a => ((Nu ([111, 107, 32, 50, 32, 48, 32, 51, 61, 45, 32, 49, 61, 45] : List UInt8)).bind fun c => ((Us 2 3 0 ([97, 98] : List UInt8) 0 ([] : List UInt8) ([] : List UInt8) ([] : List UInt8)).bind fun d => (cond (d == ([98, 121, 116, 101, 115, 32, 51, 32, 54, 49, 54, 50, 32, 45] : List UInt8)) (cond z8.2.2.2.2.2.2.2.2 (cond ((z8.1 == 2) && ((z8.2.1 == 3) && ((z8.2.2.1 == 0) && ((z8.2.2.2.1 == ([97, 98] : List UInt8)) && ((z8.2.2.2.2.1 == 0) && ((z8.2.2.2.2.2.1 == ([] : List UInt8)) && ((z8.2.2.2.2.2.2.1 == ([] : List UInt8)) && (z8.2.2.2.2.2.2.2.1 == ([] : List UInt8))))))))) (cond (!b.2.2.2.2.2.2.2.2) ((Nt 0 2 0 ([(1, ([97] : List UInt8), true, false), (3, ([] : List UInt8), false, true)] : List (Int × (List UInt8) × Bool × Bool))).bind fun e => (cond (e == ([111, 107, 32, 50, 32, 48, 32, 49, 61, 54, 49, 43, 32, 51, 61, 45, 33] : List UInt8)) (cond a.2.2.2.2 ((Yd a.1 a.2.1 a.2.2.1 a.2.2.2.1 0 2 0 ([(1, ([97] : List UInt8), true, false), (3, ([] : List UInt8), false, true)] : List (Int × (List UInt8) × Bool × Bool))).bind fun f => (cond f (cond (!c.2.2.2.2) ((Nt 3 0 0 ([] : List (Int × (List UInt8) × Bool × Bool))).bind fun g => (cond (g == ([101, 114, 114, 32, 51] : List UInt8)) ((Us 0 0 0 ([] : List UInt8) 0 ([] : List UInt8) ([] : List UInt8) ([] : List UInt8)).bind fun h => (cond (h == ([] : List UInt8)) ((Us 9 0 0 ([] : List UInt8) 0 ([] : List UInt8) ([] : List UInt8) ([] : List UInt8)).bind fun i => (Q1 (i == ([100, 114, 97, 105, 110] : List UInt8)))) (Q1 false))) (Q1 false))) (Q1 false)) (Q1 false))) (Q1 false)) (Q1 false))) (Q1 false)) (Q1 false)) (Q1 false)) (Q1 false)))))))
set_option maxHeartbeats 40000000 in
theorem Bv   (w0 : World) (hL : Gu w0)  (r : (Bool)) (H : Gi  = some r) :
  Calls Tryz.prog 28 #[] w0 (fun e w' => e = .returned (.bool r) ∧ SP [] w0 w' []) := by
 unfold Gi at H
 refine Ql (n := 79) Tryz.func28 K K K ?_
 have d9 := Qy [] w0
 refine aQ ?_
 refine aR ?_
 refine iR 1 1 [(0, (.bool false))] ?_
 refine iF ?_
 refine aQ ?_
 refine aR ?_
 refine iR 1 1 [(11, (.agg #[(.int .i64 2), (.int .i64 3), (.int .u32 0), (.string ⟨List.toArray ([97, 98] : List UInt8)⟩), (.int .i64 0), (.string ⟨List.toArray ([] : List UInt8)⟩), (.string ⟨List.toArray ([] : List UInt8)⟩), (.string ⟨List.toArray ([] : List UInt8)⟩)]))] ?_
 refine iS 2 ?_
 refine Qh.alloc (t := 52) (z := (.agg #[(.int .i64 0), (.int .i64 0), (.int .u32 0), (.string ⟨List.toArray ([] : List UInt8)⟩), (.int .i64 0), (.string ⟨List.toArray ([] : List UInt8)⟩), (.string ⟨List.toArray ([] : List UInt8)⟩), (.string ⟨List.toArray ([] : List UInt8)⟩)])) (d := (some 1)) (k := 1) K rfl K d9 ?_
 intro g1 w2 e0
 refine iS 3 ?_
 refine Qh.store (t := 52) (x := (.tmp 1)) (y := (.tmp 11)) (g := g1) (off := 0) (i := 0) (v := (.agg #[(.int .i64 2), (.int .i64 3), (.int .u32 0), (.string ⟨List.toArray ([97, 98] : List UInt8)⟩), (.int .i64 0), (.string ⟨List.toArray ([] : List UInt8)⟩), (.string ⟨List.toArray ([] : List UInt8)⟩), (.string ⟨List.toArray ([] : List UInt8)⟩)])) (cs' := #[(.int .i64 2), (.int .i64 3), (.int .u32 0), (.string ⟨List.toArray ([97, 98] : List UInt8)⟩), (.int .i64 0), (.string ⟨List.toArray ([] : List UInt8)⟩), (.string ⟨List.toArray ([] : List UInt8)⟩), (.string ⟨List.toArray ([] : List UInt8)⟩)]) (d := none) (k := 2) K rfl K K e0 rfl K ?_
 intro w5 c2
 refine iF ?_
 refine aQ ?_
 refine aR ?_
 obtain ⟨z8, e1, H⟩ := Qa H
 refine iS 1 ?_
 refine cF 31 #[(.const (.string ⟨List.toArray ([98, 121, 116, 101, 115, 32, 51, 32, 54, 49, 54, 50, 32, 45] : List UInt8)⟩))] #[9] 13 Tryz.call31 (Ns  ([98, 121, 116, 101, 115, 32, 51, 32, 54, 49, 54, 50, 32, 45] : List UInt8) w5 (Qt hL (SP.keeps c2)) z8 e1) ?_
 rintro e h6 ⟨rfl, c3⟩
 refine ⟨_, rfl, ?_⟩
 have e2 := SP.call c2 c3
 clear c3
 refine iR 3 4 [(12, (.tuple #[(.agg #[(.int .i64 z8.1), (.int .i64 z8.2.1), (.int .u32 z8.2.2.1), (.string ⟨List.toArray z8.2.2.2.1⟩), (.int .i64 z8.2.2.2.2.1), (.string ⟨List.toArray z8.2.2.2.2.2.1⟩), (.string ⟨List.toArray z8.2.2.2.2.2.2.1⟩), (.string ⟨List.toArray z8.2.2.2.2.2.2.2.1⟩)]), (.bool z8.2.2.2.2.2.2.2.2)])), (14, (.agg #[(.int .i64 z8.1), (.int .i64 z8.2.1), (.int .u32 z8.2.2.1), (.string ⟨List.toArray z8.2.2.2.1⟩), (.int .i64 z8.2.2.2.2.1), (.string ⟨List.toArray z8.2.2.2.2.2.1⟩), (.string ⟨List.toArray z8.2.2.2.2.2.2.1⟩), (.string ⟨List.toArray z8.2.2.2.2.2.2.2.1⟩)])), (15, (.bool z8.2.2.2.2.2.2.2.2))] ?_
 refine iS 5 ?_
 refine Qh.alloc (t := 52) (z := (.agg #[(.int .i64 0), (.int .i64 0), (.int .u32 0), (.string ⟨List.toArray ([] : List UInt8)⟩), (.int .i64 0), (.string ⟨List.toArray ([] : List UInt8)⟩), (.string ⟨List.toArray ([] : List UInt8)⟩), (.string ⟨List.toArray ([] : List UInt8)⟩)])) (d := (some 2)) (k := 4) K rfl K e2 ?_
 intro c4 h7 e3
 refine iS 6 ?_
 refine Qh.store (t := 52) (x := (.tmp 2)) (y := (.tmp 14)) (g := c4) (off := 0) (i := 1) (v := (.agg #[(.int .i64 z8.1), (.int .i64 z8.2.1), (.int .u32 z8.2.2.1), (.string ⟨List.toArray z8.2.2.2.1⟩), (.int .i64 z8.2.2.2.2.1), (.string ⟨List.toArray z8.2.2.2.2.2.1⟩), (.string ⟨List.toArray z8.2.2.2.2.2.2.1⟩), (.string ⟨List.toArray z8.2.2.2.2.2.2.2.1⟩)])) (cs' := #[(.int .i64 z8.1), (.int .i64 z8.2.1), (.int .u32 z8.2.2.1), (.string ⟨List.toArray z8.2.2.2.1⟩), (.int .i64 z8.2.2.2.2.1), (.string ⟨List.toArray z8.2.2.2.2.2.1⟩), (.string ⟨List.toArray z8.2.2.2.2.2.2.1⟩), (.string ⟨List.toArray z8.2.2.2.2.2.2.2.1⟩)]) (d := none) (k := 5) K rfl K K e3 rfl K ?_
 intro e4 c5
 refine iR 1 7 [(3, (.bool z8.2.2.2.2.2.2.2.2))] ?_
 refine iF ?_
 refine aQ ?_
 refine aR ?_
 obtain ⟨c, e5, H⟩ := Qa H
 refine iS 1 ?_
 refine cF 31 #[(.const (.string ⟨List.toArray ([98, 121, 116, 101, 115, 32, 51, 32, 54, 49, 54, 50] : List UInt8)⟩))] #[9] 17 Tryz.call31 (Ns  ([98, 121, 116, 101, 115, 32, 51, 32, 54, 49, 54, 50] : List UInt8) e4 (Qt hL (SP.keeps c5)) c e5) ?_
 rintro e h8 ⟨rfl, c6⟩
 refine ⟨_, rfl, ?_⟩
 have e6 := SP.call c5 c6
 clear c6
 refine iR 3 4 [(16, (.tuple #[(.agg #[(.int .i64 c.1), (.int .i64 c.2.1), (.int .u32 c.2.2.1), (.string ⟨List.toArray c.2.2.2.1⟩), (.int .i64 c.2.2.2.2.1), (.string ⟨List.toArray c.2.2.2.2.2.1⟩), (.string ⟨List.toArray c.2.2.2.2.2.2.1⟩), (.string ⟨List.toArray c.2.2.2.2.2.2.2.1⟩)]), (.bool c.2.2.2.2.2.2.2.2)])), (18, (.agg #[(.int .i64 c.1), (.int .i64 c.2.1), (.int .u32 c.2.2.1), (.string ⟨List.toArray c.2.2.2.1⟩), (.int .i64 c.2.2.2.2.1), (.string ⟨List.toArray c.2.2.2.2.2.1⟩), (.string ⟨List.toArray c.2.2.2.2.2.2.1⟩), (.string ⟨List.toArray c.2.2.2.2.2.2.2.1⟩)])), (19, (.bool c.2.2.2.2.2.2.2.2))] ?_
 refine iS 5 ?_
 refine Qh.alloc (t := 52) (z := (.agg #[(.int .i64 0), (.int .i64 0), (.int .u32 0), (.string ⟨List.toArray ([] : List UInt8)⟩), (.int .i64 0), (.string ⟨List.toArray ([] : List UInt8)⟩), (.string ⟨List.toArray ([] : List UInt8)⟩), (.string ⟨List.toArray ([] : List UInt8)⟩)])) (d := (some 4)) (k := 4) K rfl K e6 ?_
 intro e7 h9 e8
 refine iS 6 ?_
 refine Qh.store (t := 52) (x := (.tmp 4)) (y := (.tmp 18)) (g := e7) (off := 0) (i := 2) (v := (.agg #[(.int .i64 c.1), (.int .i64 c.2.1), (.int .u32 c.2.2.1), (.string ⟨List.toArray c.2.2.2.1⟩), (.int .i64 c.2.2.2.2.1), (.string ⟨List.toArray c.2.2.2.2.2.1⟩), (.string ⟨List.toArray c.2.2.2.2.2.2.1⟩), (.string ⟨List.toArray c.2.2.2.2.2.2.2.1⟩)])) (cs' := #[(.int .i64 c.1), (.int .i64 c.2.1), (.int .u32 c.2.2.1), (.string ⟨List.toArray c.2.2.2.1⟩), (.int .i64 c.2.2.2.2.1), (.string ⟨List.toArray c.2.2.2.2.2.1⟩), (.string ⟨List.toArray c.2.2.2.2.2.2.1⟩), (.string ⟨List.toArray c.2.2.2.2.2.2.2.1⟩)]) (d := none) (k := 5) K rfl K K e8 rfl K ?_
 intro i0 e9
 refine iR 1 7 [(5, (.bool c.2.2.2.2.2.2.2.2))] ?_
 refine iF ?_
 refine aQ ?_
 refine aR ?_
 refine iR 2 2 [(20, (.agg #[(.int .i64 1), (.string ⟨List.toArray ([97] : List UInt8)⟩), (.bool true), (.bool false)])), (21, (.agg #[(.int .i64 3), (.string ⟨List.toArray ([] : List UInt8)⟩), (.bool false), (.bool true)]))] ?_
 refine iS 3 ?_
 refine Vy (e := (Qf (Jw .i64) (Qf Qn (Qf Qm Qm)))) (T := 53) (E := 108) (len := 2) (parts := #[(0, (.tmp 20)), (1, (.tmp 21))]) (cs := #[(.int .i64 1), (.string ⟨List.toArray ([97] : List UInt8)⟩), (.bool true), (.bool false), (.int .i64 3), (.string ⟨List.toArray ([] : List UInt8)⟩), (.bool false), (.bool true)]) ([(1, ([97] : List UInt8), true, false), (3, ([] : List UInt8), false, true)] : List (Int × (List UInt8) × Bool × Bool)) (d := (some 22)) (k := 2) K rfl (fun _ => K) e9 rfl rfl rfl rfl ?_
 intro m i1 f0
 refine iR 1 4 [(23, (.agg #[(.int .i64 0), (.int .i64 2), (.int .i64 0), (.slice (some ⟨m, 0, none⟩) (List.length ([(1, ([97] : List UInt8), true, false), (3, ([] : List UInt8), false, true)] : List (Int × (List UInt8) × Bool × Bool))) (List.length ([(1, ([97] : List UInt8), true, false), (3, ([] : List UInt8), false, true)] : List (Int × (List UInt8) × Bool × Bool))))]))] ?_
 refine iS 5 ?_
 refine Qh.alloc (t := 55) (z := (.agg #[(.int .i64 0), (.int .i64 0), (.int .i64 0), (.slice none (List.length ([] : List (Int × (List UInt8) × Bool × Bool))) 0)])) (d := (some 6)) (k := 4) K rfl K f0 ?_
 intro a8 i2 f1
 refine iS 6 ?_
 refine Qh.store (t := 55) (x := (.tmp 6)) (y := (.tmp 23)) (g := a8) (off := 0) (i := 4) (v := (.agg #[(.int .i64 0), (.int .i64 2), (.int .i64 0), (.slice (some ⟨m, 0, none⟩) (List.length ([(1, ([97] : List UInt8), true, false), (3, ([] : List UInt8), false, true)] : List (Int × (List UInt8) × Bool × Bool))) (List.length ([(1, ([97] : List UInt8), true, false), (3, ([] : List UInt8), false, true)] : List (Int × (List UInt8) × Bool × Bool))))])) (cs' := #[(.int .i64 0), (.int .i64 2), (.int .i64 0), (.slice (some ⟨m, 0, none⟩) (List.length ([(1, ([97] : List UInt8), true, false), (3, ([] : List UInt8), false, true)] : List (Int × (List UInt8) × Bool × Bool))) (List.length ([(1, ([97] : List UInt8), true, false), (3, ([] : List UInt8), false, true)] : List (Int × (List UInt8) × Bool × Bool))))]) (d := none) (k := 5) K rfl K K f1 rfl K ?_
 intro f2 c7
 refine iF ?_
 refine aQ ?_
 refine aR ?_
 obtain ⟨f, f3, H⟩ := Qa H
 refine iS 1 ?_
 refine cF 33 #[(.const (.string ⟨List.toArray ([111, 107, 32, 50, 32, 48, 32, 49, 61, 54, 49, 43, 32, 51, 61, 45, 33] : List UInt8)⟩))] #[9] 25 Tryz.call33 (Rn  ([111, 107, 32, 50, 32, 48, 32, 49, 61, 54, 49, 43, 32, 51, 61, 45, 33] : List UInt8) f2 (Qt hL (SP.keeps c7)) f f3) ?_
 rintro e i3 ⟨p, q, rfl, c8⟩
 refine ⟨_, rfl, ?_⟩
 have f4 := SP.call c7 c8
 clear c8
 refine iR 3 4 [(24, (.tuple #[(.agg #[(.int .i64 f.1), (.int .i64 f.2.1), (.int .i64 f.2.2.1), (.slice p (List.length f.2.2.2.1) q)]), (.bool f.2.2.2.2)])), (26, (.agg #[(.int .i64 f.1), (.int .i64 f.2.1), (.int .i64 f.2.2.1), (.slice p (List.length f.2.2.2.1) q)])), (27, (.bool f.2.2.2.2))] ?_
 refine iS 5 ?_
 refine Qh.alloc (t := 55) (z := (.agg #[(.int .i64 0), (.int .i64 0), (.int .i64 0), (.slice none (List.length ([] : List (Int × (List UInt8) × Bool × Bool))) 0)])) (d := (some 7)) (k := 4) K rfl K f4 ?_
 intro c9 i4 f5
 refine iS 6 ?_
 refine Qh.store (t := 55) (x := (.tmp 7)) (y := (.tmp 26)) (g := c9) (off := 0) (i := 6) (v := (.agg #[(.int .i64 f.1), (.int .i64 f.2.1), (.int .i64 f.2.2.1), (.slice p (List.length f.2.2.2.1) q)])) (cs' := #[(.int .i64 f.1), (.int .i64 f.2.1), (.int .i64 f.2.2.1), (.slice p (List.length f.2.2.2.1) q)]) (d := none) (k := 5) K rfl K K f5 rfl K ?_
 intro f6 d0
 refine iR 1 7 [(8, (.bool f.2.2.2.2))] ?_
 refine iF ?_
 refine aQ ?_
 refine aR ?_
 obtain ⟨h, f7, H⟩ := Qa H
 refine iS 1 ?_
 refine cF 33 #[(.const (.string ⟨List.toArray ([111, 107, 32, 50, 32, 48, 32, 51, 61, 45, 32, 49, 61, 45] : List UInt8)⟩))] #[9] 29 Tryz.call33 (Rn  ([111, 107, 32, 50, 32, 48, 32, 51, 61, 45, 32, 49, 61, 45] : List UInt8) f6 (Qt hL (SP.keeps d0)) h f7) ?_
 rintro e i5 ⟨a4, a5, rfl, d1⟩
 refine ⟨_, rfl, ?_⟩
 have f8 := SP.call d0 d1
 clear d1
 refine iR 3 4 [(28, (.tuple #[(.agg #[(.int .i64 h.1), (.int .i64 h.2.1), (.int .i64 h.2.2.1), (.slice a4 (List.length h.2.2.2.1) a5)]), (.bool h.2.2.2.2)])), (30, (.agg #[(.int .i64 h.1), (.int .i64 h.2.1), (.int .i64 h.2.2.1), (.slice a4 (List.length h.2.2.2.1) a5)])), (31, (.bool h.2.2.2.2))] ?_
 refine iS 5 ?_
 refine Qh.alloc (t := 55) (z := (.agg #[(.int .i64 0), (.int .i64 0), (.int .i64 0), (.slice none (List.length ([] : List (Int × (List UInt8) × Bool × Bool))) 0)])) (d := (some 9)) (k := 4) K rfl K f8 ?_
 intro f9 i6 g0
 refine iS 6 ?_
 refine Qh.store (t := 55) (x := (.tmp 9)) (y := (.tmp 30)) (g := f9) (off := 0) (i := 8) (v := (.agg #[(.int .i64 h.1), (.int .i64 h.2.1), (.int .i64 h.2.2.1), (.slice a4 (List.length h.2.2.2.1) a5)])) (cs' := #[(.int .i64 h.1), (.int .i64 h.2.1), (.int .i64 h.2.2.1), (.slice a4 (List.length h.2.2.2.1) a5)]) (d := none) (k := 5) K rfl K K g0 rfl K ?_
 intro g2 a9
 refine iR 1 7 [(10, (.bool h.2.2.2.2))] ?_
 refine iF ?_
 refine aQ ?_
 refine At.join (fun ρ w => ∃ (s : Bool), Q7 ρ [(0, (.bool s))] ∧ SP [] w0 w [] ∧ Q1 s = some r) ?_ ?_
 ·refine aR ?_
  refine iS 1 ?_
  refine sL 52 1 g1 0 0 (.agg #[(.int .i64 2), (.int .i64 3), (.int .u32 0), (.string ⟨List.toArray ([97, 98] : List UInt8)⟩), (.int .i64 0), (.string ⟨List.toArray ([] : List UInt8)⟩), (.string ⟨List.toArray ([] : List UInt8)⟩), (.string ⟨List.toArray ([] : List UInt8)⟩)]) 32 a9 rfl ?_
  obtain ⟨a3, g3, H⟩ := Qa H
  refine iS 2 ?_
  refine cF 35 #[(.tmp 32)] #[52] 33 Tryz.call35 (Z0  2 3 0 ([97, 98] : List UInt8) 0 ([] : List UInt8) ([] : List UInt8) ([] : List UInt8) g2 (Qt hL (SP.keeps a9)) a3 g3) ?_
  rintro e g4 ⟨rfl, d2⟩
  refine ⟨_, rfl, ?_⟩
  have j := SP.call a9 d2
  clear d2
  refine iS 3 ?_
  refine Qu (op := .eql) (T := 9) (T' := 9) (x := (.tmp 33)) (y := (.const (.string ⟨List.toArray ([98, 121, 116, 101, 115, 32, 51, 32, 54, 49, 54, 50, 32, 45] : List UInt8)⟩))) (a := a3) (b := ([98, 121, 116, 101, 115, 32, 51, 32, 54, 49, 54, 50, 32, 45] : List UInt8)) (r := (.bool (a3 == ([98, 121, 116, 101, 115, 32, 51, 32, 54, 49, 54, 50, 32, 45] : List UInt8)))) (d := (some 34)) (k := 2) K rfl K K rfl ?_
  refine iR 1 4 [(35, (.bool (a3 == ([98, 121, 116, 101, 115, 32, 51, 32, 54, 49, 54, 50, 32, 45] : List UInt8))))] ?_
  refine In.guard (t := 35) (b := (a3 == ([98, 121, 116, 101, 115, 32, 51, 32, 54, 49, 54, 50, 32, 45] : List UInt8))) K (fun b0 => ?_) (fun b0 => ?_)
  ·have H := ct H b0
   refine iR 3 7 [(36, (.bool z8.2.2.2.2.2.2.2.2)), (37, (.bool z8.2.2.2.2.2.2.2.2)), (38, (.bool z8.2.2.2.2.2.2.2.2))] ?_
   refine In.guard (t := 38) (b := z8.2.2.2.2.2.2.2.2) K (fun b1 => ?_) (fun b1 => ?_)
   ·have H := ct H b1
    refine iS 8 ?_
    refine sL 52 2 c4 0 1 (.agg #[(.int .i64 z8.1), (.int .i64 z8.2.1), (.int .u32 z8.2.2.1), (.string ⟨List.toArray z8.2.2.2.1⟩), (.int .i64 z8.2.2.2.2.1), (.string ⟨List.toArray z8.2.2.2.2.2.1⟩), (.string ⟨List.toArray z8.2.2.2.2.2.2.1⟩), (.string ⟨List.toArray z8.2.2.2.2.2.2.2.1⟩)]) 39 j rfl ?_
    refine iS 9 ?_
    refine sL 52 1 g1 0 0 (.agg #[(.int .i64 2), (.int .i64 3), (.int .u32 0), (.string ⟨List.toArray ([97, 98] : List UInt8)⟩), (.int .i64 0), (.string ⟨List.toArray ([] : List UInt8)⟩), (.string ⟨List.toArray ([] : List UInt8)⟩), (.string ⟨List.toArray ([] : List UInt8)⟩)]) 40 j rfl ?_
    refine iS 10 ?_
    refine Db (op := .eql) (T := 52) (T' := 52) (x := (.tmp 39)) (y := (.tmp 40)) (vx := (.agg #[(.int .i64 z8.1), (.int .i64 z8.2.1), (.int .u32 z8.2.2.1), (.string ⟨List.toArray z8.2.2.2.1⟩), (.int .i64 z8.2.2.2.2.1), (.string ⟨List.toArray z8.2.2.2.2.2.1⟩), (.string ⟨List.toArray z8.2.2.2.2.2.2.1⟩), (.string ⟨List.toArray z8.2.2.2.2.2.2.2.1⟩)])) (vy := (.agg #[(.int .i64 2), (.int .i64 3), (.int .u32 0), (.string ⟨List.toArray ([97, 98] : List UInt8)⟩), (.int .i64 0), (.string ⟨List.toArray ([] : List UInt8)⟩), (.string ⟨List.toArray ([] : List UInt8)⟩), (.string ⟨List.toArray ([] : List UInt8)⟩)])) (v := (.bool ((z8.1 == 2) && ((z8.2.1 == 3) && ((z8.2.2.1 == 0) && ((z8.2.2.2.1 == ([97, 98] : List UInt8)) && ((z8.2.2.2.2.1 == 0) && ((z8.2.2.2.2.2.1 == ([] : List UInt8)) && ((z8.2.2.2.2.2.2.1 == ([] : List UInt8)) && (z8.2.2.2.2.2.2.2.1 == ([] : List UInt8))))))))))) (d := (some 41)) (k := 9) K rfl K K (by clear H; intro w; simp only [Gd]; go_simp; simp only [Gm, Nn, Re, Gd, Bool.and_true] <;> simp only [Bool.not_and]) ?_
    refine iR 2 12 [(42, (.bool ((z8.1 == 2) && ((z8.2.1 == 3) && ((z8.2.2.1 == 0) && ((z8.2.2.2.1 == ([97, 98] : List UInt8)) && ((z8.2.2.2.2.1 == 0) && ((z8.2.2.2.2.2.1 == ([] : List UInt8)) && ((z8.2.2.2.2.2.2.1 == ([] : List UInt8)) && (z8.2.2.2.2.2.2.2.1 == ([] : List UInt8))))))))))), (43, (.bool ((z8.1 == 2) && ((z8.2.1 == 3) && ((z8.2.2.1 == 0) && ((z8.2.2.2.1 == ([97, 98] : List UInt8)) && ((z8.2.2.2.2.1 == 0) && ((z8.2.2.2.2.2.1 == ([] : List UInt8)) && ((z8.2.2.2.2.2.2.1 == ([] : List UInt8)) && (z8.2.2.2.2.2.2.2.1 == ([] : List UInt8)))))))))))] ?_
    refine In.guard (t := 43) (b := ((z8.1 == 2) && ((z8.2.1 == 3) && ((z8.2.2.1 == 0) && ((z8.2.2.2.1 == ([97, 98] : List UInt8)) && ((z8.2.2.2.2.1 == 0) && ((z8.2.2.2.2.2.1 == ([] : List UInt8)) && ((z8.2.2.2.2.2.2.1 == ([] : List UInt8)) && (z8.2.2.2.2.2.2.2.1 == ([] : List UInt8)))))))))) K (fun b2 => ?_) (fun b2 => ?_)
    ·have H := ct H b2
     refine iR 4 16 [(44, (.bool c.2.2.2.2.2.2.2.2)), (45, (.bool (!c.2.2.2.2.2.2.2.2))), (46, (.bool (!c.2.2.2.2.2.2.2.2))), (47, (.bool (!c.2.2.2.2.2.2.2.2)))] ?_
     refine In.guard (t := 47) (b := (!c.2.2.2.2.2.2.2.2)) K (fun b3 => ?_) (fun b3 => ?_)
     ·have H := ct H b3
      refine iS 17 ?_
      refine sL 55 6 a8 0 4 (.agg #[(.int .i64 0), (.int .i64 2), (.int .i64 0), (.slice (some ⟨m, 0, none⟩) (List.length ([(1, ([97] : List UInt8), true, false), (3, ([] : List UInt8), false, true)] : List (Int × (List UInt8) × Bool × Bool))) (List.length ([(1, ([97] : List UInt8), true, false), (3, ([] : List UInt8), false, true)] : List (Int × (List UInt8) × Bool × Bool))))]) 48 j rfl ?_
      obtain ⟨u, g5, H⟩ := Qa H
      refine iS 18 ?_
      refine cF 37 #[(.tmp 48)] #[55] 49 Tryz.call37 (Ut (some ⟨m, 0, none⟩) (List.length ([(1, ([97] : List UInt8), true, false), (3, ([] : List UInt8), false, true)] : List (Int × (List UInt8) × Bool × Bool))) 0 2 0 ([(1, ([97] : List UInt8), true, false), (3, ([] : List UInt8), false, true)] : List (Int × (List UInt8) × Bool × Bool)) g4 (Qt hL (SP.keeps j)) (Q9 (SP.get j (i := 3) rfl)) u g5) ?_
      rintro e g6 ⟨rfl, d3⟩
      refine ⟨_, rfl, ?_⟩
      have o := SP.call j d3
      clear d3
      refine iS 19 ?_
      refine Qu (op := .eql) (T := 9) (T' := 9) (x := (.tmp 49)) (y := (.const (.string ⟨List.toArray ([111, 107, 32, 50, 32, 48, 32, 49, 61, 54, 49, 43, 32, 51, 61, 45, 33] : List UInt8)⟩))) (a := u) (b := ([111, 107, 32, 50, 32, 48, 32, 49, 61, 54, 49, 43, 32, 51, 61, 45, 33] : List UInt8)) (r := (.bool (u == ([111, 107, 32, 50, 32, 48, 32, 49, 61, 54, 49, 43, 32, 51, 61, 45, 33] : List UInt8)))) (d := (some 50)) (k := 18) K rfl K K rfl ?_
      refine iR 2 21 [(51, (.bool (u == ([111, 107, 32, 50, 32, 48, 32, 49, 61, 54, 49, 43, 32, 51, 61, 45, 33] : List UInt8)))), (52, (.bool (u == ([111, 107, 32, 50, 32, 48, 32, 49, 61, 54, 49, 43, 32, 51, 61, 45, 33] : List UInt8))))] ?_
      refine In.guard (t := 52) (b := (u == ([111, 107, 32, 50, 32, 48, 32, 49, 61, 54, 49, 43, 32, 51, 61, 45, 33] : List UInt8))) K (fun b4 => ?_) (fun b4 => ?_)
      ·have H := ct H b4
       refine iR 3 24 [(53, (.bool f.2.2.2.2)), (54, (.bool f.2.2.2.2)), (55, (.bool f.2.2.2.2))] ?_
       refine In.guard (t := 55) (b := f.2.2.2.2) K (fun b5 => ?_) (fun b5 => ?_)
       ·have H := ct H b5
        refine iS 25 ?_
        refine sL 55 7 c9 0 6 (.agg #[(.int .i64 f.1), (.int .i64 f.2.1), (.int .i64 f.2.2.1), (.slice p (List.length f.2.2.2.1) q)]) 56 o rfl ?_
        refine iS 26 ?_
        refine sL 55 6 a8 0 4 (.agg #[(.int .i64 0), (.int .i64 2), (.int .i64 0), (.slice (some ⟨m, 0, none⟩) (List.length ([(1, ([97] : List UInt8), true, false), (3, ([] : List UInt8), false, true)] : List (Int × (List UInt8) × Bool × Bool))) (List.length ([(1, ([97] : List UInt8), true, false), (3, ([] : List UInt8), false, true)] : List (Int × (List UInt8) × Bool × Bool))))]) 57 o rfl ?_
        obtain ⟨a6, g7, H⟩ := Qa H
        refine iS 27 ?_
        refine cF 39 #[(.tmp 56), (.tmp 57)] #[55, 55] 58 Tryz.call39 (Uj p q (some ⟨m, 0, none⟩) (List.length ([(1, ([97] : List UInt8), true, false), (3, ([] : List UInt8), false, true)] : List (Int × (List UInt8) × Bool × Bool))) f.1 f.2.1 f.2.2.1 f.2.2.2.1 0 2 0 ([(1, ([97] : List UInt8), true, false), (3, ([] : List UInt8), false, true)] : List (Int × (List UInt8) × Bool × Bool)) g6 (Q9 (SP.get o (i := 5) rfl)) (Q9 (SP.get o (i := 3) rfl)) a6 g7) ?_
        rintro e d4 ⟨rfl, d5⟩
        refine ⟨_, rfl, ?_⟩
        have a7 := SP.call o d5
        clear d5
        refine iR 2 29 [(59, (.bool a6)), (60, (.bool a6))] ?_
        refine In.guard (t := 60) (b := a6) K (fun b6 => ?_) (fun b6 => ?_)
        ·have H := ct H b6
         refine iR 4 33 [(61, (.bool h.2.2.2.2)), (62, (.bool (!h.2.2.2.2))), (63, (.bool (!h.2.2.2.2))), (64, (.bool (!h.2.2.2.2)))] ?_
         refine In.guard (t := 64) (b := (!h.2.2.2.2)) K (fun b7 => ?_) (fun b7 => ?_)
         ·have H := ct H b7
          refine iR 1 34 [(65, (.agg #[(.int .i64 3), (.int .i64 0), (.int .i64 0), (.slice none (List.length ([] : List (Int × (List UInt8) × Bool × Bool))) 0)]))] ?_
          obtain ⟨a0, g8, H⟩ := Qa H
          refine iS 35 ?_
          refine cF 37 #[(.tmp 65)] #[55] 66 Tryz.call37 (Ut none 0 3 0 0 ([] : List (Int × (List UInt8) × Bool × Bool)) d4 (Qt hL (SP.keeps a7)) (RdT.nil (Qf (Jw .i64) (Qf Qn (Qf Qm Qm))) d4) a0 g8) ?_
          rintro e g9 ⟨rfl, d6⟩
          refine ⟨_, rfl, ?_⟩
          have b8 := SP.call a7 d6
          clear d6
          refine iS 36 ?_
          refine Qu (op := .eql) (T := 9) (T' := 9) (x := (.tmp 66)) (y := (.const (.string ⟨List.toArray ([101, 114, 114, 32, 51] : List UInt8)⟩))) (a := a0) (b := ([101, 114, 114, 32, 51] : List UInt8)) (r := (.bool (a0 == ([101, 114, 114, 32, 51] : List UInt8)))) (d := (some 67)) (k := 35) K rfl K K rfl ?_
          refine iR 2 38 [(68, (.bool (a0 == ([101, 114, 114, 32, 51] : List UInt8)))), (69, (.bool (a0 == ([101, 114, 114, 32, 51] : List UInt8))))] ?_
          refine In.guard (t := 69) (b := (a0 == ([101, 114, 114, 32, 51] : List UInt8))) K (fun b9 => ?_) (fun b9 => ?_)
          ·have H := ct H b9
           refine iR 1 39 [(70, (.agg #[(.int .i64 0), (.int .i64 0), (.int .u32 0), (.string ⟨List.toArray ([] : List UInt8)⟩), (.int .i64 0), (.string ⟨List.toArray ([] : List UInt8)⟩), (.string ⟨List.toArray ([] : List UInt8)⟩), (.string ⟨List.toArray ([] : List UInt8)⟩)]))] ?_
           obtain ⟨a1, h1, H⟩ := Qa H
           refine iS 40 ?_
           refine cF 35 #[(.tmp 70)] #[52] 71 Tryz.call35 (Z0  0 0 0 ([] : List UInt8) 0 ([] : List UInt8) ([] : List UInt8) ([] : List UInt8) g9 (Qt hL (SP.keeps b8)) a1 h1) ?_
           rintro e h2 ⟨rfl, d7⟩
           refine ⟨_, rfl, ?_⟩
           have c0 := SP.call b8 d7
           clear d7
           refine iS 41 ?_
           refine Qu (op := .eql) (T := 9) (T' := 9) (x := (.tmp 71)) (y := (.const (.string ⟨List.toArray ([] : List UInt8)⟩))) (a := a1) (b := ([] : List UInt8)) (r := (.bool (a1 == ([] : List UInt8)))) (d := (some 72)) (k := 40) K rfl K K rfl ?_
           refine iR 2 43 [(73, (.bool (a1 == ([] : List UInt8)))), (74, (.bool (a1 == ([] : List UInt8))))] ?_
           refine In.guard (t := 74) (b := (a1 == ([] : List UInt8))) K (fun c1 => ?_) (fun c1 => ?_)
           ·have H := ct H c1
            refine iR 1 44 [(75, (.agg #[(.int .i64 9), (.int .i64 0), (.int .u32 0), (.string ⟨List.toArray ([] : List UInt8)⟩), (.int .i64 0), (.string ⟨List.toArray ([] : List UInt8)⟩), (.string ⟨List.toArray ([] : List UInt8)⟩), (.string ⟨List.toArray ([] : List UInt8)⟩)]))] ?_
            obtain ⟨a2, h3, H⟩ := Qa H
            refine iS 45 ?_
            refine cF 35 #[(.tmp 75)] #[52] 76 Tryz.call35 (Z0  9 0 0 ([] : List UInt8) 0 ([] : List UInt8) ([] : List UInt8) ([] : List UInt8) h2 (Qt hL (SP.keeps c0)) a2 h3) ?_
            rintro e i7 ⟨rfl, d8⟩
            refine ⟨_, rfl, ?_⟩
            have h4 := SP.call c0 d8
            clear d8
            refine iS 46 ?_
            refine Qu (op := .eql) (T := 9) (T' := 9) (x := (.tmp 76)) (y := (.const (.string ⟨List.toArray ([100, 114, 97, 105, 110] : List UInt8)⟩))) (a := a2) (b := ([100, 114, 97, 105, 110] : List UInt8)) (r := (.bool (a2 == ([100, 114, 97, 105, 110] : List UInt8)))) (d := (some 77)) (k := 45) K rfl K K rfl ?_
            refine iR 2 48 [(78, (.bool (a2 == ([100, 114, 97, 105, 110] : List UInt8)))), (0, (.bool (a2 == ([100, 114, 97, 105, 110] : List UInt8))))] ?_
            refine iF ?_
            exact ⟨(a2 == ([100, 114, 97, 105, 110] : List UInt8)), ⟨K, trivial⟩, SP.sel h4 [] rfl rfl, H⟩
           ·have H := cf H c1
            refine iR 5 48 [(75, undef), (76, undef), (77, undef), (78, (.bool false)), (0, (.bool false))] ?_
            refine iF ?_
            exact ⟨false, ⟨K, trivial⟩, SP.sel c0 [] rfl rfl, H⟩
          ·have H := cf H b9
           refine iR 10 48 [(70, undef), (71, undef), (72, undef), (73, (.bool false)), (74, (.bool false)), (75, undef), (76, undef), (77, undef), (78, (.bool false)), (0, (.bool false))] ?_
           refine iF ?_
           exact ⟨false, ⟨K, trivial⟩, SP.sel b8 [] rfl rfl, H⟩
         ·have H := cf H b7
          refine iR 15 48 [(65, undef), (66, undef), (67, undef), (68, (.bool false)), (69, (.bool false)), (70, undef), (71, undef), (72, undef), (73, (.bool false)), (74, (.bool false)), (75, undef), (76, undef), (77, undef), (78, (.bool false)), (0, (.bool false))] ?_
          refine iF ?_
          exact ⟨false, ⟨K, trivial⟩, SP.sel a7 [] rfl rfl, H⟩
        ·have H := cf H b6
         refine iR 19 48 [(61, undef), (62, undef), (63, (.bool false)), (64, (.bool false)), (65, undef), (66, undef), (67, undef), (68, (.bool false)), (69, (.bool false)), (70, undef), (71, undef), (72, undef), (73, (.bool false)), (74, (.bool false)), (75, undef), (76, undef), (77, undef), (78, (.bool false)), (0, (.bool false))] ?_
         refine iF ?_
         exact ⟨false, ⟨K, trivial⟩, SP.sel a7 [] rfl rfl, H⟩
       ·have H := cf H b5
        refine iR 24 48 [(56, undef), (57, undef), (58, undef), (59, (.bool false)), (60, (.bool false)), (61, undef), (62, undef), (63, (.bool false)), (64, (.bool false)), (65, undef), (66, undef), (67, undef), (68, (.bool false)), (69, (.bool false)), (70, undef), (71, undef), (72, undef), (73, (.bool false)), (74, (.bool false)), (75, undef), (76, undef), (77, undef), (78, (.bool false)), (0, (.bool false))] ?_
        refine iF ?_
        exact ⟨false, ⟨K, trivial⟩, SP.sel o [] rfl rfl, H⟩
      ·have H := cf H b4
       refine iR 27 48 [(53, undef), (54, (.bool false)), (55, (.bool false)), (56, undef), (57, undef), (58, undef), (59, (.bool false)), (60, (.bool false)), (61, undef), (62, undef), (63, (.bool false)), (64, (.bool false)), (65, undef), (66, undef), (67, undef), (68, (.bool false)), (69, (.bool false)), (70, undef), (71, undef), (72, undef), (73, (.bool false)), (74, (.bool false)), (75, undef), (76, undef), (77, undef), (78, (.bool false)), (0, (.bool false))] ?_
       refine iF ?_
       exact ⟨false, ⟨K, trivial⟩, SP.sel o [] rfl rfl, H⟩
     ·have H := cf H b3
      refine iR 32 48 [(48, undef), (49, undef), (50, undef), (51, (.bool false)), (52, (.bool false)), (53, undef), (54, (.bool false)), (55, (.bool false)), (56, undef), (57, undef), (58, undef), (59, (.bool false)), (60, (.bool false)), (61, undef), (62, undef), (63, (.bool false)), (64, (.bool false)), (65, undef), (66, undef), (67, undef), (68, (.bool false)), (69, (.bool false)), (70, undef), (71, undef), (72, undef), (73, (.bool false)), (74, (.bool false)), (75, undef), (76, undef), (77, undef), (78, (.bool false)), (0, (.bool false))] ?_
      refine iF ?_
      exact ⟨false, ⟨K, trivial⟩, SP.sel j [] rfl rfl, H⟩
    ·have H := cf H b2
     refine iR 36 48 [(44, undef), (45, undef), (46, (.bool false)), (47, (.bool false)), (48, undef), (49, undef), (50, undef), (51, (.bool false)), (52, (.bool false)), (53, undef), (54, (.bool false)), (55, (.bool false)), (56, undef), (57, undef), (58, undef), (59, (.bool false)), (60, (.bool false)), (61, undef), (62, undef), (63, (.bool false)), (64, (.bool false)), (65, undef), (66, undef), (67, undef), (68, (.bool false)), (69, (.bool false)), (70, undef), (71, undef), (72, undef), (73, (.bool false)), (74, (.bool false)), (75, undef), (76, undef), (77, undef), (78, (.bool false)), (0, (.bool false))] ?_
     refine iF ?_
     exact ⟨false, ⟨K, trivial⟩, SP.sel j [] rfl rfl, H⟩
   ·have H := cf H b1
    refine iR 41 48 [(39, undef), (40, undef), (41, undef), (42, (.bool false)), (43, (.bool false)), (44, undef), (45, undef), (46, (.bool false)), (47, (.bool false)), (48, undef), (49, undef), (50, undef), (51, (.bool false)), (52, (.bool false)), (53, undef), (54, (.bool false)), (55, (.bool false)), (56, undef), (57, undef), (58, undef), (59, (.bool false)), (60, (.bool false)), (61, undef), (62, undef), (63, (.bool false)), (64, (.bool false)), (65, undef), (66, undef), (67, undef), (68, (.bool false)), (69, (.bool false)), (70, undef), (71, undef), (72, undef), (73, (.bool false)), (74, (.bool false)), (75, undef), (76, undef), (77, undef), (78, (.bool false)), (0, (.bool false))] ?_
    refine iF ?_
    exact ⟨false, ⟨K, trivial⟩, SP.sel j [] rfl rfl, H⟩
  ·have H := cf H b0
   refine iR 44 48 [(36, undef), (37, (.bool false)), (38, (.bool false)), (39, undef), (40, undef), (41, undef), (42, (.bool false)), (43, (.bool false)), (44, undef), (45, undef), (46, (.bool false)), (47, (.bool false)), (48, undef), (49, undef), (50, undef), (51, (.bool false)), (52, (.bool false)), (53, undef), (54, (.bool false)), (55, (.bool false)), (56, undef), (57, undef), (58, undef), (59, (.bool false)), (60, (.bool false)), (61, undef), (62, undef), (63, (.bool false)), (64, (.bool false)), (65, undef), (66, undef), (67, undef), (68, (.bool false)), (69, (.bool false)), (70, undef), (71, undef), (72, undef), (73, (.bool false)), (74, (.bool false)), (75, undef), (76, undef), (77, undef), (78, (.bool false)), (0, (.bool false))] ?_
   refine iF ?_
   exact ⟨false, ⟨K, trivial⟩, SP.sel j [] rfl rfl, H⟩
 ·rintro ρ i8 ⟨s, hk, h5, H⟩
  unfold Q1 at H
  first | refine At.known [(0, (.bool s))] hk ?_ | rw [← Qc (l := [(0, (.bool s))]) hk]
  refine At.ret K ?_
  refine ⟨(.bool s), K, ?_⟩
  obtain rfl := Qb H
  exact ⟨rfl, SP.sel h5 [] rfl rfl⟩
def Nv (e : Int) (f : Int) (g : Int) (a : (List UInt8)) (h : Int) (b : (List UInt8)) (c : (List UInt8)) (d : (List UInt8)) : Option (Bool) :=
  (some ((decide ((IntKind.wrap .i64 ((IntKind.wrap .i64 ((IntKind.wrap .i64 (((List.length a : Nat) : Int) + ((List.length b : Nat) : Int))) + ((List.length c : Nat) : Int))) + ((List.length d : Nat) : Int))) > 9000))))
set_option maxHeartbeats 40000000 in
theorem Bg  (h : Int) (i : Int) (j : Int) (a : (List UInt8)) (l : Int) (b : (List UInt8)) (c : (List UInt8)) (f : (List UInt8)) (w0 : World)  (r : (Bool)) (H : Nv h i j a l b c f = some r) :
  Calls Tryz.prog 29 #[(.agg #[(.int .i64 h), (.int .i64 i), (.int .u32 j), (.string ⟨List.toArray a⟩), (.int .i64 l), (.string ⟨List.toArray b⟩), (.string ⟨List.toArray c⟩), (.string ⟨List.toArray f⟩)])] w0 (fun e w' => e = .returned (.bool r) ∧ SP [] w0 w' []) := by
 unfold Nv at H
 refine Ql (n := 19) Tryz.func29 K K K ?_
 have m := Qy [] w0
 refine aQ ?_
 refine aR ?_
 refine iS 1 ?_
 refine Yi (t := 52) (x := (.tmp 0)) (v := (.agg #[(.int .i64 h), (.int .i64 i), (.int .u32 j), (.string ⟨List.toArray a⟩), (.int .i64 l), (.string ⟨List.toArray b⟩), (.string ⟨List.toArray c⟩), (.string ⟨List.toArray f⟩)])) (d := (some 1)) (k := 0) K rfl K m ?_
 intro g9 o g
 refine iR 1 2 [(2, (.bool false))] ?_
 refine iF ?_
 refine aQ ?_
 refine aR ?_
 refine iR 1 1 [(3, (pt g9 3))] ?_
 refine iS 2 ?_
 refine sL 9 3 g9 3 0 (.string ⟨List.toArray a⟩) 4 g rfl ?_
 refine iR 2 4 [(5, (.int .i64 ((List.length a : Nat) : Int))), (6, (pt g9 5))] ?_
 refine iS 5 ?_
 refine sL 9 6 g9 5 0 (.string ⟨List.toArray b⟩) 7 g rfl ?_
 refine iR 3 8 [(8, (.int .i64 ((List.length b : Nat) : Int))), (9, (.int .i64 (IntKind.wrap .i64 (((List.length a : Nat) : Int) + ((List.length b : Nat) : Int))))), (10, (pt g9 6))] ?_
 refine iS 9 ?_
 refine sL 9 10 g9 6 0 (.string ⟨List.toArray c⟩) 11 g rfl ?_
 refine iR 3 12 [(12, (.int .i64 ((List.length c : Nat) : Int))), (13, (.int .i64 (IntKind.wrap .i64 ((IntKind.wrap .i64 (((List.length a : Nat) : Int) + ((List.length b : Nat) : Int))) + ((List.length c : Nat) : Int))))), (14, (pt g9 7))] ?_
 refine iS 13 ?_
 refine sL 9 14 g9 7 0 (.string ⟨List.toArray f⟩) 15 g rfl ?_
 refine iR 4 17 [(16, (.int .i64 ((List.length f : Nat) : Int))), (17, (.int .i64 (IntKind.wrap .i64 ((IntKind.wrap .i64 ((IntKind.wrap .i64 (((List.length a : Nat) : Int) + ((List.length b : Nat) : Int))) + ((List.length c : Nat) : Int))) + ((List.length f : Nat) : Int))))), (18, (.bool (decide ((IntKind.wrap .i64 ((IntKind.wrap .i64 ((IntKind.wrap .i64 (((List.length a : Nat) : Int) + ((List.length b : Nat) : Int))) + ((List.length c : Nat) : Int))) + ((List.length f : Nat) : Int))) > 9000)))), (2, (.bool (decide ((IntKind.wrap .i64 ((IntKind.wrap .i64 ((IntKind.wrap .i64 (((List.length a : Nat) : Int) + ((List.length b : Nat) : Int))) + ((List.length c : Nat) : Int))) + ((List.length f : Nat) : Int))) > 9000))))] ?_
 refine iF ?_
 refine At.ret K ?_
 refine ⟨(.bool (decide ((IntKind.wrap .i64 ((IntKind.wrap .i64 ((IntKind.wrap .i64 (((List.length a : Nat) : Int) + ((List.length b : Nat) : Int))) + ((List.length c : Nat) : Int))) + ((List.length f : Nat) : Int))) > 9000))), K, ?_⟩
 obtain rfl := Qb H
 exact ⟨rfl, SP.sel g [] rfl rfl⟩
def Zq (d : Int → Int → Option (Bool)) (e : (List (Int × (List UInt8) × Bool × Bool))) (a : Int) (b : Int) (f : Bool) : Option (Bool) :=
  (cond f ((idx e b).bind fun c => (d (IntKind.wrap .i64 (a + (if 9000 < ((List.length c.2.1 : Nat) : Int) then 9000 else ((List.length c.2.1 : Nat) : Int)))) (IntKind.wrap .i64 (b + 1)))) (some ((decide (a ≥ 9000)))))
def V8 (d : Int → Int → Option (Bool)) (a : (List (Int × (List UInt8) × Bool × Bool))) (b : Int) (c : Int) : Option (Bool) :=
  (cond (decide (c < ((List.length a : Nat) : Int))) (Zq d a b c (decide (b < 9000))) (Zq d a b c false))
def Vn (a : (List (Int × (List UInt8) × Bool × Bool))) : Nat → Int → Int → Option (Bool)
  | 0, _, _ => none
  | f + 1, b, c => V8  (Vn a f) a b c
def Ue (b : Int) (c : Int) (d : Int) (a : (List (Int × (List UInt8) × Bool × Bool))) : Option (Bool) :=
  (Vn a Y1 ((List.length a : Nat) : Int) 0)
set_option maxHeartbeats 40000000 in
theorem Dq (A5 : Option Addr) (c6 : Nat) (m : Int) (p : Int) (q : Int) (a : (List (Int × (List UInt8) × Bool × Bool))) (w0 : World) (a0 : RdT (Qf (Jw .i64) (Qf Qn (Qf Qm Qm))) w0 A5 c6 a) (r : (Bool)) (H : Ue m p q a = some r) :
  Calls Tryz.prog 30 #[(.agg #[(.int .i64 m), (.int .i64 p), (.int .i64 q), (.slice A5 (List.length a) c6)])] w0 (fun e w' => e = .returned (.bool r) ∧ SP [] w0 w' []) := by
 unfold Ue at H
 refine Ql (n := 31) Tryz.func30 K K K ?_
 have a6 := Qy [] w0
 refine aQ ?_
 refine aR ?_
 refine iS 1 ?_
 refine Yi (t := 55) (x := (.tmp 0)) (v := (.agg #[(.int .i64 m), (.int .i64 p), (.int .i64 q), (.slice A5 (List.length a) c6)])) (d := (some 1)) (k := 0) K rfl K a6 ?_
 intro g8 w9 a1
 refine iR 1 2 [(2, (.bool false))] ?_
 refine iF ?_
 refine aQ ?_
 refine aR ?_
 refine iR 1 1 [(5, (pt g8 3))] ?_
 refine iS 2 ?_
 refine sL 53 5 g8 3 0 (.slice A5 (List.length a) c6) 6 a1 rfl ?_
 refine iR 2 4 [(7, (.int .i64 ((List.length a : Nat) : Int))), (3, (.int .i64 ((List.length a : Nat) : Int)))] ?_
 refine iF ?_
 refine aQ ?_
 refine aQ ?_
 refine aR ?_
 refine iR 1 1 [(4, (.int .i64 0))] ?_
 refine iF ?_
 refine J2 K (id := 0) K ?_
 refine Du K (fun f3 ρ w => ∃ (f : Int) (g : Int), Q7 ρ [(1, (pt g8 0)), (3, (.int .i64 f)), (4, (.int .i64 g))] ∧ SP [] w0 w [Qk g8 55 #[(.int .i64 m), (.int .i64 p), (.int .i64 q), (.slice A5 (List.length a) c6)]] ∧ Vn a f3 f g = some r) (by rintro ρ w ⟨f, g, hk, hs, H⟩; cases H) ?_ Y1 ?_
 ·rintro f3 ρ a9 ⟨f, g, hk, u, H⟩
  refine At.known [(1, (pt g8 0)), (3, (.int .i64 f)), (4, (.int .i64 g))] hk ?_
  replace H := (show V8 (Vn a f3) a f g = some r from H)
  unfold V8 at H
  refine aQ ?_
  refine aQ ?_
  refine At.join (fun ρ w => ∃ (i : Bool), Q7 ρ [(1, (pt g8 0)), (3, (.int .i64 f)), (4, (.int .i64 g)), (16, (.bool i))] ∧ SP [] w0 w [Qk g8 55 #[(.int .i64 m), (.int .i64 p), (.int .i64 q), (.slice A5 (List.length a) c6)]] ∧ Zq (Vn a f3) a f g i = some r) ?_ ?_
  ·refine aR ?_
   refine iR 2 2 [(8, (.int .i64 g)), (9, (pt g8 3))] ?_
   refine iS 3 ?_
   refine sL 53 9 g8 3 0 (.slice A5 (List.length a) c6) 10 u rfl ?_
   refine iR 3 6 [(11, (.int .i64 ((List.length a : Nat) : Int))), (12, (.bool (decide (g < ((List.length a : Nat) : Int))))), (13, (.bool (decide (g < ((List.length a : Nat) : Int)))))] ?_
   refine In.guard (t := 13) (b := (decide (g < ((List.length a : Nat) : Int)))) K (fun y => ?_) (fun y => ?_)
   ·have H := ct H y
    refine iR 3 9 [(14, (.int .i64 f)), (15, (.bool (decide (f < 9000)))), (16, (.bool (decide (f < 9000))))] ?_
    refine iF ?_
    exact ⟨(decide (f < 9000)), ⟨K, K, K, K, trivial⟩, SP.sel u [0] rfl rfl, H⟩
   ·have H := cf H y
    refine iR 3 9 [(14, undef), (15, undef), (16, (.bool false))] ?_
    refine iF ?_
    exact ⟨false, ⟨K, K, K, K, trivial⟩, SP.sel u [0] rfl rfl, H⟩
  ·rintro ρ b0 ⟨i, hk, s, H⟩
   unfold Zq at H
   first | refine At.known [(1, (pt g8 0)), (3, (.int .i64 f)), (4, (.int .i64 g)), (16, (.bool i))] hk ?_ | rw [← Qc (l := [(1, (pt g8 0)), (3, (.int .i64 f)), (4, (.int .i64 g)), (16, (.bool i))]) hk]
   refine Vm K (o := (.tmp 16)) K (b := i) K (fun z => ?_) (fun z => ?_)
   ·have H := ct H z
    refine At.skip K ?_
    refine aQ ?_
    refine J2 K (id := 1) K ?_
    refine aR ?_
    refine iR 2 2 [(19, (.int .i64 f)), (20, (pt g8 3))] ?_
    refine iS 3 ?_
    refine sL 53 20 g8 3 0 (.slice A5 (List.length a) c6) 21 s rfl ?_
    refine iR 1 4 [(22, (.int .i64 g))] ?_
    obtain ⟨h, a2, a3, a7, H⟩ := Vf H
    refine iS 5 ?_
    refine Z6 (e := (Qf (Jw .i64) (Qf Qn (Qf Qm Qm)))) (l := a) (A := A5) (c := c6) (T := 53) (E := 108) (x := (.tmp 21)) (ix := (.tmp 22)) (ki := .i64) (iz := g) (d := (some 23)) (k := 4) K rfl K K K K (RdT.sp a0 s) a2 a3 ?_
    intro a4 a5 a8 b1 hc59
    refine iR 1 6 [(24, (.pointer (some ⟨a4, (a5 + Int.toNat g * (Qf (Jw .i64) (Qf Qn (Qf Qm Qm))).sz + 1), none⟩)))] ?_
    refine iS 7 ?_
    refine sC 9 24 a4 (a5 + Int.toNat g * (Qf (Jw .i64) (Qf Qn (Qf Qm Qm))).sz + 1) (.string ⟨List.toArray h.2.1⟩) 25 (J3 (e := (Qf (Jw .i64) (Qf Qn (Qf Qm Qm)))) (Yr (RdT.sp a0 s) a8 a2 a3) a7 (j := 1) rfl) ?_
    refine iR 4 11 [(26, (.int .i64 ((List.length h.2.1 : Nat) : Int))), (27, (.int .i64 (if 9000 < ((List.length h.2.1 : Nat) : Int) then 9000 else ((List.length h.2.1 : Nat) : Int)))), (28, (.int .i64 (IntKind.wrap .i64 (f + (if 9000 < ((List.length h.2.1 : Nat) : Int) then 9000 else ((List.length h.2.1 : Nat) : Int)))))), (3, (.int .i64 (IntKind.wrap .i64 (f + (if 9000 < ((List.length h.2.1 : Nat) : Int) then 9000 else ((List.length h.2.1 : Nat) : Int))))))] ?_
    refine iF ?_
    refine aR ?_
    refine iR 3 3 [(17, (.int .i64 g)), (18, (.int .i64 (IntKind.wrap .i64 (g + 1)))), (4, (.int .i64 (IntKind.wrap .i64 (g + 1))))] ?_
    refine iF ?_
    exact ⟨(IntKind.wrap .i64 (f + (if 9000 < ((List.length h.2.1 : Nat) : Int) then 9000 else ((List.length h.2.1 : Nat) : Int)))), (IntKind.wrap .i64 (g + 1)), ⟨K, K, K, trivial⟩, SP.sel s [0] rfl rfl, H⟩
   ·have H := cf H z
    refine At.exit K (id := 0) K ?_
    refine aQ ?_
    refine aR ?_
    refine iR 3 3 [(29, (.int .i64 f)), (30, (.bool (decide (f ≥ 9000)))), (2, (.bool (decide (f ≥ 9000))))] ?_
    refine iF ?_
    refine At.ret K ?_
    refine ⟨(.bool (decide (f ≥ 9000))), K, ?_⟩
    obtain rfl := Qb H
    exact ⟨rfl, SP.sel s [] rfl rfl⟩
 ·exact ⟨((List.length a : Nat) : Int), 0, ⟨K, K, K, trivial⟩, SP.sel a1 [0] rfl rfl, H⟩
end Go.Proofs.YtoflbpmbkmephaaGreatDoor
namespace Go.Proofs.YtoflbpmbkmephaaGreatDoor
open Go.RowKit
def V4 (a : Int → Option (Bool)) (b : Int) (c : Bool) : Option (Bool) :=
  (cond c (some (false)) (a (IntKind.wrap .i64 (b + 1))))
def Vo (a : Int → Option (Bool)) (b : Int) (c : UInt8) (d : Bool) : Option (Bool) :=
  (cond (!d) (cond (decide (((c).toNat : Int) < 97)) (cond (decide (((c).toNat : Int) < 48)) (V4 a b true) (V4 a b (decide (((c).toNat : Int) > 57)))) (cond (decide (((c).toNat : Int) > 122)) (cond (decide (((c).toNat : Int) < 48)) (V4 a b true) (V4 a b (decide (((c).toNat : Int) > 57)))) (V4 a b false))) (V4 a b false))
def Yt (b : Int → Option (Bool)) (a : Bool) : Option (Bool) :=
  (some (a))
def Z8 (b : Int → Option (Bool)) (p1 : (List UInt8)) (a : Int) : Option (Bool) :=
  (cond (decide (a < ((List.length p1 : Nat) : Int))) ((idx p1 a).bind fun c => (cond (((c).toNat : Int) == 45) (cond (decide (a > 0)) (Vo b a c (decide (a < (IntKind.wrap .i64 (((List.length p1 : Nat) : Int) - 1))))) (Vo b a c false)) (Vo b a c false))) (cond (decide (((List.length p1 : Nat) : Int) ≥ 1)) (Yt b (decide (((List.length p1 : Nat) : Int) ≤ 20))) (Yt b false)))
def Qs (p1 : (List UInt8)) : Nat → Int → Option (Bool)
  | 0, _ => none
  | f + 1, a => Z8  (Qs p1 f) p1 a
def Zh (p1 : (List UInt8)) : Option (Bool) :=
  (Qs p1 Y1 0)
theorem Xk  (p1 : (List UInt8)) (w0 : World)  (r : (Bool)) (H : Zh p1 = some r) :
  Calls Tryz.prog 75 #[(.string ⟨List.toArray p1⟩)] w0 (fun e w' => e = .returned (.bool r) ∧ SP [] w0 w' []) := by
 unfold Zh at H
 refine Ql (n := 54) Tryz.func75 K K K ?_
 have a5 := Qy [] w0
 refine aQ ?_
 refine aR ?_
 refine iR 1 1 [(2, (.bool false))] ?_
 refine iF ?_
 refine aQ ?_
 refine aQ ?_
 refine aR ?_
 refine iR 1 1 [(3, (.int .i64 0))] ?_
 refine iF ?_
 refine J2 K (id := 0) K ?_
 refine Du K (fun f7 ρ w => ∃ (f : Int), Q7 ρ [(0, (.string ⟨List.toArray p1⟩)), (3, (.int .i64 f))] ∧ SP [] w0 w [] ∧ Qs p1 f7 f = some r) (by rintro ρ w ⟨f, hk, hs, H⟩; cases H) ?_ Y1 ?_
 ·rintro f7 ρ a9 ⟨f, hk, m, H⟩
  refine At.known [(0, (.string ⟨List.toArray p1⟩)), (3, (.int .i64 f))] hk ?_
  replace H := (show Z8 (Qs p1 f7) p1 f = some r from H)
  unfold Z8 at H
  refine aQ ?_
  refine aQ ?_
  refine aR ?_
  refine iR 4 4 [(6, (.int .i64 f)), (7, (.string ⟨List.toArray p1⟩)), (8, (.int .i64 ((List.length p1 : Nat) : Int))), (9, (.bool (decide (f < ((List.length p1 : Nat) : Int)))))] ?_
  refine iF ?_
  refine Vm K (o := (.tmp 9)) K (b := (decide (f < ((List.length p1 : Nat) : Int)))) K (fun p => ?_) (fun p => ?_)
  ·have H := ct H p
   refine At.skip K ?_
   refine aQ ?_
   refine J2 K (id := 1) K ?_
   refine aQ ?_
   refine aR ?_
   refine iR 2 2 [(12, (.string ⟨List.toArray p1⟩)), (13, (.int .i64 f))] ?_
   obtain ⟨c, a6, b0, a7, H⟩ := Vf H
   refine iS 3 ?_
   refine Zd (a := p1) (u := c) (T := 9) (x := (.tmp 12)) (ix := (.tmp 13)) (ki := .i64) (iz := f) (d := (some 14)) (k := 2) K rfl K K K a6 a7 ?_
   refine iR 1 4 [(4, (.int .u8 ((c).toNat : Int)))] ?_
   refine iF ?_
   refine aQ ?_
   refine At.join (fun ρ w => ∃ (g : Bool), Q7 ρ [(0, (.string ⟨List.toArray p1⟩)), (3, (.int .i64 f)), (4, (.int .u8 ((c).toNat : Int))), (5, (.bool g))] ∧ SP [] w0 w [] ∧ Vo (Qs p1 f7) f c g = some r) ?_ ?_
   ·refine aR ?_
    refine iR 3 3 [(15, (.int .u8 ((c).toNat : Int))), (16, (.bool (((c).toNat : Int) == 45))), (17, (.bool (((c).toNat : Int) == 45)))] ?_
    refine In.guard (t := 17) (b := (((c).toNat : Int) == 45)) K (fun q => ?_) (fun q => ?_)
    ·have H := ct H q
     refine iR 4 7 [(18, (.int .i64 f)), (19, (.bool (decide (f > 0)))), (20, (.bool (decide (f > 0)))), (21, (.bool (decide (f > 0))))] ?_
     refine In.guard (t := 21) (b := (decide (f > 0))) K (fun s => ?_) (fun s => ?_)
     ·have H := ct H s
      refine iR 7 14 [(22, (.int .i64 f)), (23, (.string ⟨List.toArray p1⟩)), (24, (.int .i64 ((List.length p1 : Nat) : Int))), (25, (.int .i64 (IntKind.wrap .i64 (((List.length p1 : Nat) : Int) - 1)))), (26, (.bool (decide (f < (IntKind.wrap .i64 (((List.length p1 : Nat) : Int) - 1)))))), (27, (.bool (decide (f < (IntKind.wrap .i64 (((List.length p1 : Nat) : Int) - 1)))))), (5, (.bool (decide (f < (IntKind.wrap .i64 (((List.length p1 : Nat) : Int) - 1))))))] ?_
      refine iF ?_
      exact ⟨(decide (f < (IntKind.wrap .i64 (((List.length p1 : Nat) : Int) - 1)))), ⟨K, K, K, K, trivial⟩, SP.sel m [] rfl rfl, H⟩
     ·have H := cf H s
      refine iR 7 14 [(22, undef), (23, undef), (24, undef), (25, undef), (26, undef), (27, (.bool false)), (5, (.bool false))] ?_
      refine iF ?_
      exact ⟨false, ⟨K, K, K, K, trivial⟩, SP.sel m [] rfl rfl, H⟩
    ·have H := cf H q
     refine iR 11 14 [(18, undef), (19, undef), (20, (.bool false)), (21, (.bool false)), (22, undef), (23, undef), (24, undef), (25, undef), (26, undef), (27, (.bool false)), (5, (.bool false))] ?_
     refine iF ?_
     exact ⟨false, ⟨K, K, K, K, trivial⟩, SP.sel m [] rfl rfl, H⟩
   ·rintro ρ b1 ⟨g, hk, h, H⟩
    unfold Vo at H
    first | refine At.known [(0, (.string ⟨List.toArray p1⟩)), (3, (.int .i64 f)), (4, (.int .u8 ((c).toNat : Int))), (5, (.bool g))] hk ?_ | rw [← Qc (l := [(0, (.string ⟨List.toArray p1⟩)), (3, (.int .i64 f)), (4, (.int .u8 ((c).toNat : Int))), (5, (.bool g))]) hk]
    refine aQ ?_
    refine At.join (fun ρ w => ∃ (i : Bool), Q7 ρ [(0, (.string ⟨List.toArray p1⟩)), (3, (.int .i64 f)), (45, (.bool i))] ∧ SP [] w0 w [] ∧ V4 (Qs p1 f7) f i = some r) ?_ ?_
    ·refine aR ?_
     refine iR 3 3 [(28, (.bool g)), (29, (.bool (!g))), (30, (.bool (!g)))] ?_
     refine In.guard (t := 30) (b := (!g)) K (fun v => ?_) (fun v => ?_)
     ·have H := ct H v
      refine iR 3 6 [(31, (.int .u8 ((c).toNat : Int))), (32, (.bool (decide (((c).toNat : Int) < 97)))), (33, (.bool (decide (((c).toNat : Int) < 97))))] ?_
      refine In.guard (t := 33) (b := (decide (((c).toNat : Int) < 97))) K (fun y => ?_) (fun y => ?_)
      ·have H := ct H y
       refine iR 8 14 [(34, undef), (35, undef), (36, (.bool true)), (37, (.bool true)), (38, (.bool true)), (39, (.int .u8 ((c).toNat : Int))), (40, (.bool (decide (((c).toNat : Int) < 48)))), (41, (.bool (decide (((c).toNat : Int) < 48))))] ?_
       refine In.guard (t := 41) (b := (decide (((c).toNat : Int) < 48))) K (fun z => ?_) (fun z => ?_)
       ·have H := ct H z
        refine iR 4 18 [(42, undef), (43, undef), (44, (.bool true)), (45, (.bool true))] ?_
        refine iF ?_
        exact ⟨true, ⟨K, K, K, trivial⟩, SP.sel h [] rfl rfl, H⟩
       ·have H := cf H z
        refine iR 4 18 [(42, (.int .u8 ((c).toNat : Int))), (43, (.bool (decide (((c).toNat : Int) > 57)))), (44, (.bool (decide (((c).toNat : Int) > 57)))), (45, (.bool (decide (((c).toNat : Int) > 57))))] ?_
        refine iF ?_
        exact ⟨(decide (((c).toNat : Int) > 57)), ⟨K, K, K, trivial⟩, SP.sel h [] rfl rfl, H⟩
      ·have H := cf H y
       refine iR 5 11 [(34, (.int .u8 ((c).toNat : Int))), (35, (.bool (decide (((c).toNat : Int) > 122)))), (36, (.bool (decide (((c).toNat : Int) > 122)))), (37, (.bool (decide (((c).toNat : Int) > 122)))), (38, (.bool (decide (((c).toNat : Int) > 122))))] ?_
       refine In.guard (t := 38) (b := (decide (((c).toNat : Int) > 122))) K (fun a0 => ?_) (fun a0 => ?_)
       ·have H := ct H a0
        refine iR 3 14 [(39, (.int .u8 ((c).toNat : Int))), (40, (.bool (decide (((c).toNat : Int) < 48)))), (41, (.bool (decide (((c).toNat : Int) < 48))))] ?_
        refine In.guard (t := 41) (b := (decide (((c).toNat : Int) < 48))) K (fun a1 => ?_) (fun a1 => ?_)
        ·have H := ct H a1
         refine iR 4 18 [(42, undef), (43, undef), (44, (.bool true)), (45, (.bool true))] ?_
         refine iF ?_
         exact ⟨true, ⟨K, K, K, trivial⟩, SP.sel h [] rfl rfl, H⟩
        ·have H := cf H a1
         refine iR 4 18 [(42, (.int .u8 ((c).toNat : Int))), (43, (.bool (decide (((c).toNat : Int) > 57)))), (44, (.bool (decide (((c).toNat : Int) > 57)))), (45, (.bool (decide (((c).toNat : Int) > 57))))] ?_
         refine iF ?_
         exact ⟨(decide (((c).toNat : Int) > 57)), ⟨K, K, K, trivial⟩, SP.sel h [] rfl rfl, H⟩
       ·have H := cf H a0
        refine iR 7 18 [(39, undef), (40, undef), (41, undef), (42, undef), (43, undef), (44, undef), (45, (.bool false))] ?_
        refine iF ?_
        exact ⟨false, ⟨K, K, K, trivial⟩, SP.sel h [] rfl rfl, H⟩
     ·have H := cf H v
      refine iR 15 18 [(31, undef), (32, undef), (33, undef), (34, undef), (35, undef), (36, undef), (37, (.bool false)), (38, (.bool false)), (39, undef), (40, undef), (41, undef), (42, undef), (43, undef), (44, undef), (45, (.bool false))] ?_
      refine iF ?_
      exact ⟨false, ⟨K, K, K, trivial⟩, SP.sel h [] rfl rfl, H⟩
    ·rintro ρ b2 ⟨i, hk, a4, H⟩
     unfold V4 at H
     first | refine At.known [(0, (.string ⟨List.toArray p1⟩)), (3, (.int .i64 f)), (45, (.bool i))] hk ?_ | rw [← Qc (l := [(0, (.string ⟨List.toArray p1⟩)), (3, (.int .i64 f)), (45, (.bool i))]) hk]
     refine Vm K (o := (.tmp 45)) K (b := i) K (fun a2 => ?_) (fun a2 => ?_)
     ·have H := ct H a2
      refine aQ ?_
      refine aR ?_
      refine iR 1 1 [(2, (.bool false))] ?_
      refine iF ?_
      refine At.ret K ?_
      refine ⟨(.bool false), K, ?_⟩
      obtain rfl := Qb H
      exact ⟨rfl, SP.sel a4 [] rfl rfl⟩
     ·have H := cf H a2
      refine At.skip K ?_
      refine aR ?_
      refine iR 3 3 [(10, (.int .i64 f)), (11, (.int .i64 (IntKind.wrap .i64 (f + 1)))), (3, (.int .i64 (IntKind.wrap .i64 (f + 1))))] ?_
      refine iF ?_
      exact ⟨(IntKind.wrap .i64 (f + 1)), ⟨K, K, trivial⟩, SP.sel a4 [] rfl rfl, H⟩
  ·have H := cf H p
   refine At.exit K (id := 0) K ?_
   refine aQ ?_
   refine At.join (fun ρ w => ∃ (j : Bool), Q7 ρ [(2, (.bool j))] ∧ SP [] w0 w [] ∧ Yt (Qs p1 f7) j = some r) ?_ ?_
   ·refine aR ?_
    refine iR 4 4 [(46, (.string ⟨List.toArray p1⟩)), (47, (.int .i64 ((List.length p1 : Nat) : Int))), (48, (.bool (decide (((List.length p1 : Nat) : Int) ≥ 1)))), (49, (.bool (decide (((List.length p1 : Nat) : Int) ≥ 1))))] ?_
    refine In.guard (t := 49) (b := (decide (((List.length p1 : Nat) : Int) ≥ 1))) K (fun a3 => ?_) (fun a3 => ?_)
    ·have H := ct H a3
     refine iR 5 9 [(50, (.string ⟨List.toArray p1⟩)), (51, (.int .i64 ((List.length p1 : Nat) : Int))), (52, (.bool (decide (((List.length p1 : Nat) : Int) ≤ 20)))), (53, (.bool (decide (((List.length p1 : Nat) : Int) ≤ 20)))), (2, (.bool (decide (((List.length p1 : Nat) : Int) ≤ 20))))] ?_
     refine iF ?_
     exact ⟨(decide (((List.length p1 : Nat) : Int) ≤ 20)), ⟨K, trivial⟩, SP.sel m [] rfl rfl, H⟩
    ·have H := cf H a3
     refine iR 5 9 [(50, undef), (51, undef), (52, undef), (53, (.bool false)), (2, (.bool false))] ?_
     refine iF ?_
     exact ⟨false, ⟨K, trivial⟩, SP.sel m [] rfl rfl, H⟩
   ·rintro ρ b3 ⟨j, hk, a8, H⟩
    unfold Yt at H
    first | refine At.known [(2, (.bool j))] hk ?_ | rw [← Qc (l := [(2, (.bool j))]) hk]
    refine At.ret K ?_
    refine ⟨(.bool j), K, ?_⟩
    obtain rfl := Qb H
    exact ⟨rfl, SP.sel a8 [] rfl rfl⟩
 ·exact ⟨0, ⟨K, K, trivial⟩, SP.sel a5 [] rfl rfl, H⟩
def Ye (a : (List UInt8) → Int → Option ((List UInt8))) (b : Int) (c : (List UInt8)) : Option ((List UInt8)) :=
  (a c (IntKind.wrap .i64 (b - 1)))
def Z9 (b : (List UInt8) → Int → Option ((List UInt8))) (p1 : Int) (c : (List UInt8)) (a : Int) : Option ((List UInt8)) :=
  (cond (decide (a ≥ 0)) ((chk (decide (0 ≤ (IntKind.wrap .i64 (8 * a))))).bind fun _ => ((X9 (IntKind.wrap .i64 (Int.tmod (Ia .u32 p1 (IntKind.wrap .i64 (8 * a))) 256))).bind fun e => ((app c e).bind fun d => (cond (decide (a > 0)) ((app d ([46] : List UInt8)).bind fun f => (Ye b a f)) (Ye b a d))))) (some (c)))
def V5 (p1 : Int) : Nat → (List UInt8) → Int → Option ((List UInt8))
  | 0, _, _ => none
  | f + 1, a, b => Z9  (V5 p1 f) p1 a b
def Jc (p1 : Int) : Option ((List UInt8)) :=
  (V5 p1 Y1 ([] : List UInt8) 3)
theorem Bw  (p1 : Int) (w0 : World)  (r : ((List UInt8))) (H : Jc p1 = some r) :
  Calls Tryz.prog 80 #[(.int .u32 p1)] w0 (fun e w' => e = .returned (.string ⟨List.toArray r⟩) ∧ SP [] w0 w' []) := by
 unfold Jc at H
 refine Ql (n := 23) Tryz.func80 K K K ?_
 have u := Qy [] w0
 refine aQ ?_
 refine aR ?_
 refine iR 1 1 [(2, (.string ⟨List.toArray ([] : List UInt8)⟩))] ?_
 refine iF ?_
 refine aQ ?_
 refine aR ?_
 refine iR 1 1 [(3, (.string ⟨List.toArray ([] : List UInt8)⟩))] ?_
 refine iF ?_
 refine aQ ?_
 refine aQ ?_
 refine aR ?_
 refine iR 1 1 [(4, (.int .i64 3))] ?_
 refine iF ?_
 refine J2 K (id := 0) K ?_
 refine Du K (fun f3 ρ w => ∃ (f : (List UInt8)) (c : Int), Q7 ρ [(0, (.int .u32 p1)), (3, (.string ⟨List.toArray f⟩)), (4, (.int .i64 c))] ∧ SP [] w0 w [] ∧ V5 p1 f3 f c = some r) (by rintro ρ w ⟨f, c, hk, hs, H⟩; cases H) ?_ Y1 ?_
 ·rintro f3 ρ z ⟨f, c, hk, p, H⟩
  refine At.known [(0, (.int .u32 p1)), (3, (.string ⟨List.toArray f⟩)), (4, (.int .i64 c))] hk ?_
  replace H := (show Z9 (V5 p1 f3) p1 f c = some r from H)
  unfold Z9 at H
  refine aQ ?_
  refine aQ ?_
  refine aR ?_
  refine iR 2 2 [(5, (.int .i64 c)), (6, (.bool (decide (c ≥ 0))))] ?_
  refine iF ?_
  refine Vm K (o := (.tmp 6)) K (b := (decide (c ≥ 0))) K (fun i => ?_) (fun i => ?_)
  ·have H := ct H i
   refine At.skip K ?_
   refine aQ ?_
   refine J2 K (id := 1) K ?_
   refine aQ ?_
   refine aR ?_
   refine iR 4 4 [(9, (.string ⟨List.toArray f⟩)), (10, (.int .u32 p1)), (11, (.int .i64 c)), (12, (.int .i64 (IntKind.wrap .i64 (8 * c))))] ?_
   obtain ⟨hl47, H⟩ := Dx H
   refine iS 5 ?_
   refine Qh.shift (op := .shr) (T := 50) (T' := 3) (x := (.tmp 10)) (y := (.tmp 12)) (kx := .u32) (ky := .i64) (a := p1) (b := (IntKind.wrap .i64 (8 * c))) (v := (.int .u32 (Ia .u32 p1 (IntKind.wrap .i64 (8 * c))))) (d := (some 13)) (k := 4) K rfl K K (of_decide_eq_true hl47) rfl ?_
   refine iR 2 7 [(14, (.int .u32 (Int.tmod (Ia .u32 p1 (IntKind.wrap .i64 (8 * c))) 256))), (15, (.int .i64 (IntKind.wrap .i64 (Int.tmod (Ia .u32 p1 (IntKind.wrap .i64 (8 * c))) 256))))] ?_
   obtain ⟨j, a0, H⟩ := Qa H
   refine iS 8 ?_
   refine cF 110 #[(.tmp 15)] #[2] 16 Tryz.call110 (Gr  (IntKind.wrap .i64 (Int.tmod (Ia .u32 p1 (IntKind.wrap .i64 (8 * c))) 256)) z  j a0) ?_
   rintro e a2 ⟨rfl, q⟩
   refine ⟨_, rfl, ?_⟩
   have s := SP.call p q
   clear q
   obtain ⟨hl55, H⟩ := Vb H
   obtain ⟨h, hyl54⟩ : ∃ y, f ++ j = y := ⟨_, rfl⟩
   rw [hyl54] at H
   refine iS 9 ?_
   refine Qi (T := 9) (T' := 9) (x := (.tmp 9)) (y := (.tmp 16)) (a := f) (b := j) (d := (some 17)) (k := 8) K rfl K K hl55 ?_
   rw [hyl54]
   refine iR 1 10 [(3, (.string ⟨List.toArray h⟩))] ?_
   refine iF ?_
   refine aQ ?_
   refine aR ?_
   refine iR 2 2 [(18, (.int .i64 c)), (19, (.bool (decide (c > 0))))] ?_
   refine iF ?_
   refine At.join (fun ρ w => ∃ (g : (List UInt8)), Q7 ρ [(0, (.int .u32 p1)), (3, (.string ⟨List.toArray g⟩)), (4, (.int .i64 c))] ∧ SP [] w0 w [] ∧ Ye (V5 p1 f3) c g = some r) ?_ ?_
   ·refine Vm K (o := (.tmp 19)) K (b := (decide (c > 0))) K (fun m => ?_) (fun m => ?_)
    ·have H := ct H m
     refine aR ?_
     refine iR 1 1 [(20, (.string ⟨List.toArray h⟩))] ?_
     obtain ⟨hl64, H⟩ := Vb H
     obtain ⟨t, hyl63⟩ : ∃ y, h ++ ([46] : List UInt8) = y := ⟨_, rfl⟩
     rw [hyl63] at H
     refine iS 2 ?_
     refine Qi (T := 9) (T' := 9) (x := (.tmp 20)) (y := (.const (.string ⟨List.toArray ([46] : List UInt8)⟩))) (a := h) (b := ([46] : List UInt8)) (d := (some 21)) (k := 1) K rfl K K hl64 ?_
     rw [hyl63]
     refine iR 1 3 [(3, (.string ⟨List.toArray t⟩))] ?_
     refine iF ?_
     exact ⟨t, ⟨K, K, K, trivial⟩, SP.sel s [] rfl rfl, H⟩
    ·have H := cf H m
     refine At.skip K ?_
     exact ⟨h, ⟨K, K, K, trivial⟩, SP.sel s [] rfl rfl, H⟩
   ·rintro ρ a3 ⟨g, hk, a1, H⟩
    unfold Ye at H
    first | refine At.known [(0, (.int .u32 p1)), (3, (.string ⟨List.toArray g⟩)), (4, (.int .i64 c))] hk ?_ | rw [← Qc (l := [(0, (.int .u32 p1)), (3, (.string ⟨List.toArray g⟩)), (4, (.int .i64 c))]) hk]
    refine aR ?_
    refine iR 3 3 [(7, (.int .i64 c)), (8, (.int .i64 (IntKind.wrap .i64 (c - 1)))), (4, (.int .i64 (IntKind.wrap .i64 (c - 1))))] ?_
    refine iF ?_
    exact ⟨g, (IntKind.wrap .i64 (c - 1)), ⟨K, K, K, trivial⟩, SP.sel a1 [] rfl rfl, H⟩
  ·have H := cf H i
   refine At.exit K (id := 0) K ?_
   refine aQ ?_
   refine aR ?_
   refine iR 2 2 [(22, (.string ⟨List.toArray f⟩)), (2, (.string ⟨List.toArray f⟩))] ?_
   refine iF ?_
   refine At.ret K ?_
   refine ⟨(.string ⟨List.toArray f⟩), K, ?_⟩
   obtain rfl := Qb H
   exact ⟨rfl, SP.sel p [] rfl rfl⟩
 ·exact ⟨([] : List UInt8), 3, ⟨K, K, K, trivial⟩, SP.sel u [] rfl rfl, H⟩
def Xq (b : Int → Option ((List UInt8) × (List UInt8) × Bool)) (p1 : (List UInt8)) (p2 : UInt8) (a : Int) : Option ((List UInt8) × (List UInt8) × Bool) :=
  (cond (decide (a < ((List.length p1 : Nat) : Int))) ((idx p1 a).bind fun c => (cond (((c).toNat : Int) == ((p2).toNat : Int)) ((sub p1 0 a).bind fun d => ((sub p1 (IntKind.wrap .i64 (a + 1)) ((List.length p1 : Nat) : Int)).bind fun e => (some (d, e, true)))) (b (IntKind.wrap .i64 (a + 1))))) (some (p1, ([] : List UInt8), false)))
def Xr (p1 : (List UInt8)) (p2 : UInt8) : Nat → Int → Option ((List UInt8) × (List UInt8) × Bool)
  | 0, _ => none
  | f + 1, a => Xq  (Xr p1 p2 f) p1 p2 a
def Ni (p1 : (List UInt8)) (p2 : UInt8) : Option ((List UInt8) × (List UInt8) × Bool) :=
  (Xr p1 p2 Y1 0)
theorem Cj  (p1 : (List UInt8)) (p2 : UInt8) (w0 : World)  (r : ((List UInt8) × (List UInt8) × Bool)) (H : Ni p1 p2 = some r) :
  Calls Tryz.prog 134 #[(.string ⟨List.toArray p1⟩), (.int .u8 ((p2).toNat : Int))] w0 (fun e w' => e = .returned (.tuple #[(.string ⟨List.toArray r.1⟩), (.string ⟨List.toArray r.2.1⟩), (.bool r.2.2)]) ∧ SP [] w0 w' []) := by
 unfold Ni at H
 refine Ql (n := 27) Tryz.func134 K K K ?_
 have v := Qy [] w0
 refine aQ ?_
 refine aR ?_
 refine iR 3 3 [(4, (.string ⟨List.toArray ([] : List UInt8)⟩)), (5, (.string ⟨List.toArray ([] : List UInt8)⟩)), (6, (.bool false))] ?_
 refine iF ?_
 refine aQ ?_
 refine aQ ?_
 refine aR ?_
 refine iR 1 1 [(7, (.int .i64 0))] ?_
 refine iF ?_
 refine J2 K (id := 0) K ?_
 refine Du K (fun f1 ρ w => ∃ (c : Int), Q7 ρ [(0, (.string ⟨List.toArray p1⟩)), (1, (.int .u8 ((p2).toNat : Int))), (7, (.int .i64 c))] ∧ SP [] w0 w [] ∧ Xr p1 p2 f1 c = some r) (by rintro ρ w ⟨c, hk, hs, H⟩; cases H) ?_ Y1 ?_
 ·rintro f1 ρ a8 ⟨c, hk, l, H⟩
  refine At.known [(0, (.string ⟨List.toArray p1⟩)), (1, (.int .u8 ((p2).toNat : Int))), (7, (.int .i64 c))] hk ?_
  replace H := (show Xq (Xr p1 p2 f1) p1 p2 c = some r from H)
  unfold Xq at H
  refine aQ ?_
  refine aQ ?_
  refine aR ?_
  refine iR 4 4 [(8, (.int .i64 c)), (9, (.string ⟨List.toArray p1⟩)), (10, (.int .i64 ((List.length p1 : Nat) : Int))), (11, (.bool (decide (c < ((List.length p1 : Nat) : Int)))))] ?_
  refine iF ?_
  refine Vm K (o := (.tmp 11)) K (b := (decide (c < ((List.length p1 : Nat) : Int)))) K (fun m => ?_) (fun m => ?_)
  ·have H := ct H m
   refine At.skip K ?_
   refine aQ ?_
   refine J2 K (id := 1) K ?_
   refine aQ ?_
   refine aR ?_
   refine iR 2 2 [(14, (.string ⟨List.toArray p1⟩)), (15, (.int .i64 c))] ?_
   obtain ⟨p, z, a9, a0, H⟩ := Vf H
   refine iS 3 ?_
   refine Zd (a := p1) (u := p) (T := 9) (x := (.tmp 14)) (ix := (.tmp 15)) (ki := .i64) (iz := c) (d := (some 16)) (k := 2) K rfl K K K z a0 ?_
   refine iR 2 5 [(17, (.int .u8 ((p2).toNat : Int))), (18, (.bool (((p).toNat : Int) == ((p2).toNat : Int))))] ?_
   refine iF ?_
   refine Vm K (o := (.tmp 18)) K (b := (((p).toNat : Int) == ((p2).toNat : Int))) K (fun q => ?_) (fun q => ?_)
   ·have H := ct H q
    refine aQ ?_
    obtain ⟨a1, a2, a3, H⟩ := Nm H
    obtain ⟨f, hyl58⟩ : ∃ y, (List.drop (Int.toNat 0) (List.take (Int.toNat c) p1)) = y := ⟨_, rfl⟩
    rw [hyl58] at H
    obtain ⟨a4, a5, a6, H⟩ := Nm H
    obtain ⟨g, hyl62⟩ : ∃ y, (List.drop (Int.toNat (IntKind.wrap .i64 (c + 1))) (List.take (Int.toNat ((List.length p1 : Nat) : Int)) p1)) = y := ⟨_, rfl⟩
    rw [hyl62] at H
    refine aG [GEq (.string ⟨List.toArray p1⟩), GEq (.int .i64 c), GEq (.string ⟨List.toArray f⟩), GEq (.string ⟨List.toArray p1⟩), GEq (.int .i64 c), GEq (.int .i64 (IntKind.wrap .i64 (c + 1))), GEq (.string ⟨List.toArray g⟩), GEq (.string ⟨List.toArray f⟩), GEq (.string ⟨List.toArray g⟩), GEq (.bool true)] [] (tG [] w0 [] [([], [])]) 10 0 ⟨trivial, SP.drew l⟩ ?_ ?_
    iterate 10 refine And.intro ?_ ?_
    exact trivial
    ·exact oV (hC (hS 0 (.string ⟨List.toArray p1⟩)) (h0)) (.string ⟨List.toArray p1⟩)
    ·exact oV (hC (hS 7 (.int .i64 c)) (h0)) (.int .i64 c)
    ·refine oL 0 ?_
     ·rintro ρ' w' hs h ⟨b0, b1⟩
      refine kM (kc (kA h 0 19) (kc (kA h 1 20) k0)) fun s => ?_
      refine Xf (a := p1) (T := 9) (x := (.tmp 19)) (lo := none) (hi := (some (.tmp 20))) (i := 0) (j := c) (d := (some 21)) (k := 2) K rfl K K rfl ⟨.i64, K⟩ a1 a2 a3 ?_
      rw [hyl58]
      exact eK s
    ·exact oV (hC (hS 0 (.string ⟨List.toArray p1⟩)) (h0)) (.string ⟨List.toArray p1⟩)
    ·exact oV (hC (hS 7 (.int .i64 c)) (h0)) (.int .i64 c)
    ·exact oV (hC (hA 4 23) (h0)) (.int .i64 (IntKind.wrap .i64 (c + 1)))
    ·refine oL 0 ?_
     ·rintro ρ' w' hs h ⟨b2, b3⟩
      refine kM (kc (kA h 3 22) (kc (kA h 5 24) k0)) fun s => ?_
      refine Xf (a := p1) (T := 9) (x := (.tmp 22)) (lo := (some (.tmp 24))) (hi := none) (i := (IntKind.wrap .i64 (c + 1))) (j := ((List.length p1 : Nat) : Int)) (d := (some 25)) (k := 6) K rfl K K ⟨.i64, K⟩ rfl a4 a5 a6 ?_
      rw [hyl62]
      exact eK s
    ·exact oV (hC (hA 2 21) (h0)) (.string ⟨List.toArray f⟩)
    ·exact oV (hC (hA 6 25) (h0)) (.string ⟨List.toArray g⟩)
    ·exact Owe.run K [] trivial (.bool true) (fun _ _ => K) rfl
    ·rintro ρ' w' hs hf ⟨b4, t⟩
     refine V3 [(4, (.string ⟨List.toArray f⟩)), (5, (.string ⟨List.toArray g⟩)), (6, (.bool true))] ⟨hf 7 4 K, hf 8 5 K, hf 9 6 K, trivial⟩ ?_
     obtain ⟨b5, a7⟩ : ∃ x, w' = x := ⟨_, rfl⟩
     rw [a7] at t ⊢
     refine At.ret K ?_
     refine ⟨(.tuple #[(.string ⟨List.toArray f⟩), (.string ⟨List.toArray g⟩), (.bool true)]), K, ?_⟩
     obtain rfl := Qb H
     exact ⟨rfl, SP.sel t [] rfl rfl⟩
   ·have H := cf H q
    refine At.skip K ?_
    refine aR ?_
    refine iR 3 3 [(12, (.int .i64 c)), (13, (.int .i64 (IntKind.wrap .i64 (c + 1)))), (7, (.int .i64 (IntKind.wrap .i64 (c + 1))))] ?_
    refine iF ?_
    exact ⟨(IntKind.wrap .i64 (c + 1)), ⟨K, K, K, trivial⟩, SP.sel l [] rfl rfl, H⟩
  ·have H := cf H m
   refine At.exit K (id := 0) K ?_
   refine aQ ?_
   refine aR ?_
   refine iR 4 4 [(26, (.string ⟨List.toArray p1⟩)), (4, (.string ⟨List.toArray p1⟩)), (5, (.string ⟨List.toArray ([] : List UInt8)⟩)), (6, (.bool false))] ?_
   refine iF ?_
   refine At.ret K ?_
   refine ⟨(.tuple #[(.string ⟨List.toArray p1⟩), (.string ⟨List.toArray ([] : List UInt8)⟩), (.bool false)]), K, ?_⟩
   obtain rfl := Qb H
   exact ⟨rfl, SP.sel l [] rfl rfl⟩
 ·exact ⟨0, ⟨K, K, K, trivial⟩, SP.sel v [] rfl rfl, H⟩
def Yf (a : (List UInt8) → Int → Int → Option (Int × Bool)) (b : Int) (c : Int) (d : ((List UInt8) × (List UInt8) × Bool)) (e : (Int × Bool)) (f : Bool) : Option (Int × Bool) :=
  (cond f (some (0, false)) (a d.2.1 (IntKind.wrap .u32 ((IntKind.wrap .u32 (256 * b)) + (IntKind.wrap .u32 e.1))) (IntKind.wrap .i64 (c + 1))))
def Ja (e : (List UInt8) → Int → Int → Option (Int × Bool)) (f : (List UInt8)) (d : Int) (a : Int) : Option (Int × Bool) :=
  (cond (decide (a < 4)) ((Ni f (46 : UInt8)).bind fun b => ((Zo b.1).bind fun c => (cond (!c.2) (Yf e d a b c true) (cond (decide (c.1 > 255)) (Yf e d a b c true) (Yf e d a b c (!(b.2.2 == (decide (a < 3))))))))) (some (d, true)))
def Xa  : Nat → (List UInt8) → Int → Int → Option (Int × Bool)
  | 0, _, _, _ => none
  | f + 1, a, b, c => Ja  (Xa  f) a b c
def Uu (p1 : (List UInt8)) : Option (Int × Bool) :=
  (Xa  Y1 p1 0 0)
theorem Bx  (p1 : (List UInt8)) (w0 : World)  (r : (Int × Bool)) (H : Uu p1 = some r) :
  Calls Tryz.prog 73 #[(.string ⟨List.toArray p1⟩)] w0 (fun e w' => e = .returned (.tuple #[(.int .u32 r.1), (.bool r.2)]) ∧ SP [] w0 w' []) := by
 unfold Uu at H
 refine Ql (n := 45) Tryz.func73 K K K ?_
 have x := Qy [] w0
 refine aQ ?_
 refine aR ?_
 refine iR 2 2 [(2, (.int .u32 0)), (3, (.bool false))] ?_
 refine iF ?_
 refine aQ ?_
 refine aR ?_
 refine iR 1 1 [(4, (.int .u32 0))] ?_
 refine iF ?_
 refine aQ ?_
 refine aQ ?_
 refine aR ?_
 refine iR 1 1 [(5, (.int .i64 0))] ?_
 refine iF ?_
 refine J2 K (id := 0) K ?_
 refine Du K (fun f3 ρ w => ∃ (g : (List UInt8)) (f : Int) (d : Int), Q7 ρ [(0, (.string ⟨List.toArray g⟩)), (4, (.int .u32 f)), (5, (.int .i64 d))] ∧ SP [] w0 w [] ∧ Xa  f3 g f d = some r) (by rintro ρ w ⟨g, f, d, hk, hs, H⟩; cases H) ?_ Y1 ?_
 ·rintro f3 ρ y ⟨g, f, d, hk, q, H⟩
  refine At.known [(0, (.string ⟨List.toArray g⟩)), (4, (.int .u32 f)), (5, (.int .i64 d))] hk ?_
  replace H := (show Ja (Xa f3) g f d = some r from H)
  unfold Ja at H
  refine aQ ?_
  refine aQ ?_
  refine aR ?_
  refine iR 2 2 [(11, (.int .i64 d)), (12, (.bool (decide (d < 4))))] ?_
  refine iF ?_
  refine Vm K (o := (.tmp 12)) K (b := (decide (d < 4))) K (fun i => ?_) (fun i => ?_)
  ·have H := ct H i
   refine At.skip K ?_
   refine aQ ?_
   refine J2 K (id := 1) K ?_
   refine aQ ?_
   refine aR ?_
   refine iR 1 1 [(16, (.string ⟨List.toArray g⟩))] ?_
   obtain ⟨c, z, H⟩ := Qa H
   refine iS 2 ?_
   refine cF 134 #[(.tmp 16), (.const (.int .u8 (46)))] #[9, 5] 17 Tryz.call134 (Cj  g (46 : UInt8) y  c z) ?_
   rintro e a0 ⟨rfl, s⟩
   refine ⟨_, rfl, ?_⟩
   have a1 := SP.call q s
   clear s
   refine iR 7 9 [(15, (.tuple #[(.string ⟨List.toArray c.1⟩), (.string ⟨List.toArray c.2.1⟩), (.bool c.2.2)])), (18, (.string ⟨List.toArray c.1⟩)), (19, (.string ⟨List.toArray c.2.1⟩)), (20, (.bool c.2.2)), (6, (.string ⟨List.toArray c.1⟩)), (7, (.string ⟨List.toArray c.2.1⟩)), (8, (.bool c.2.2))] ?_
   refine iF ?_
   refine aQ ?_
   refine aR ?_
   refine iR 1 1 [(22, (.string ⟨List.toArray c.1⟩))] ?_
   obtain ⟨a, a2, H⟩ := Qa H
   refine iS 2 ?_
   refine cF 71 #[(.tmp 22)] #[9] 23 Tryz.call71 (Z4  c.1 a0  a a2) ?_
   rintro e a3 ⟨rfl, u⟩
   refine ⟨_, rfl, ?_⟩
   have j := SP.call a1 u
   clear u
   refine iR 5 7 [(21, (.tuple #[(.int .i64 a.1), (.bool a.2)])), (24, (.int .i64 a.1)), (25, (.bool a.2)), (9, (.int .i64 a.1)), (10, (.bool a.2))] ?_
   refine iF ?_
   refine aQ ?_
   refine aQ ?_
   refine At.join (fun ρ w => ∃ (h : Bool), Q7 ρ [(4, (.int .u32 f)), (5, (.int .i64 d)), (7, (.string ⟨List.toArray c.2.1⟩)), (9, (.int .i64 a.1)), (37, (.bool h))] ∧ SP [] w0 w [] ∧ Yf (Xa f3) f d c a h = some r) ?_ ?_
   ·refine aR ?_
    refine iR 3 3 [(26, (.bool a.2)), (27, (.bool (!a.2))), (28, (.bool (!a.2)))] ?_
    refine In.guard (t := 28) (b := (!a.2)) K (fun k => ?_) (fun k => ?_)
    ·have H := ct H k
     refine iR 9 12 [(29, undef), (30, undef), (31, (.bool true)), (32, (.bool true)), (33, undef), (34, undef), (35, undef), (36, undef), (37, (.bool true))] ?_
     refine iF ?_
     exact ⟨true, ⟨K, K, K, K, K, trivial⟩, SP.sel j [] rfl rfl, H⟩
    ·have H := cf H k
     refine iR 4 7 [(29, (.int .i64 a.1)), (30, (.bool (decide (a.1 > 255)))), (31, (.bool (decide (a.1 > 255)))), (32, (.bool (decide (a.1 > 255))))] ?_
     refine In.guard (t := 32) (b := (decide (a.1 > 255))) K (fun m => ?_) (fun m => ?_)
     ·have H := ct H m
      refine iR 5 12 [(33, undef), (34, undef), (35, undef), (36, undef), (37, (.bool true))] ?_
      refine iF ?_
      exact ⟨true, ⟨K, K, K, K, K, trivial⟩, SP.sel j [] rfl rfl, H⟩
     ·have H := cf H m
      refine iR 5 12 [(33, (.bool c.2.2)), (34, (.int .i64 d)), (35, (.bool (decide (d < 3)))), (36, (.bool (!(c.2.2 == (decide (d < 3)))))), (37, (.bool (!(c.2.2 == (decide (d < 3))))))] ?_
      refine iF ?_
      exact ⟨(!(c.2.2 == (decide (d < 3)))), ⟨K, K, K, K, K, trivial⟩, SP.sel j [] rfl rfl, H⟩
   ·rintro ρ a4 ⟨h, hk, v, H⟩
    unfold Yf at H
    first | refine At.known [(4, (.int .u32 f)), (5, (.int .i64 d)), (7, (.string ⟨List.toArray c.2.1⟩)), (9, (.int .i64 a.1)), (37, (.bool h))] hk ?_ | rw [← Qc (l := [(4, (.int .u32 f)), (5, (.int .i64 d)), (7, (.string ⟨List.toArray c.2.1⟩)), (9, (.int .i64 a.1)), (37, (.bool h))]) hk]
    refine Vm K (o := (.tmp 37)) K (b := h) K (fun p => ?_) (fun p => ?_)
    ·have H := ct H p
     refine aQ ?_
     refine aR ?_
     refine iR 2 2 [(2, (.int .u32 0)), (3, (.bool false))] ?_
     refine iF ?_
     refine At.ret K ?_
     refine ⟨(.tuple #[(.int .u32 0), (.bool false)]), K, ?_⟩
     obtain rfl := Qb H
     exact ⟨rfl, SP.sel v [] rfl rfl⟩
    ·have H := cf H p
     refine At.skip K ?_
     refine aQ ?_
     refine aR ?_
     refine iR 6 6 [(38, (.int .u32 f)), (39, (.int .u32 (IntKind.wrap .u32 (256 * f)))), (40, (.int .i64 a.1)), (41, (.int .u32 (IntKind.wrap .u32 a.1))), (42, (.int .u32 (IntKind.wrap .u32 ((IntKind.wrap .u32 (256 * f)) + (IntKind.wrap .u32 a.1))))), (4, (.int .u32 (IntKind.wrap .u32 ((IntKind.wrap .u32 (256 * f)) + (IntKind.wrap .u32 a.1)))))] ?_
     refine iF ?_
     refine aR ?_
     refine iR 2 2 [(43, (.string ⟨List.toArray c.2.1⟩)), (0, (.string ⟨List.toArray c.2.1⟩))] ?_
     refine iF ?_
     refine aR ?_
     refine iR 3 3 [(13, (.int .i64 d)), (14, (.int .i64 (IntKind.wrap .i64 (d + 1)))), (5, (.int .i64 (IntKind.wrap .i64 (d + 1))))] ?_
     refine iF ?_
     exact ⟨c.2.1, (IntKind.wrap .u32 ((IntKind.wrap .u32 (256 * f)) + (IntKind.wrap .u32 a.1))), (IntKind.wrap .i64 (d + 1)), ⟨K, K, K, trivial⟩, SP.sel v [] rfl rfl, H⟩
  ·have H := cf H i
   refine At.exit K (id := 0) K ?_
   refine aQ ?_
   refine aR ?_
   refine iR 3 3 [(44, (.int .u32 f)), (2, (.int .u32 f)), (3, (.bool true))] ?_
   refine iF ?_
   refine At.ret K ?_
   refine ⟨(.tuple #[(.int .u32 f), (.bool true)]), K, ?_⟩
   obtain rfl := Qb H
   exact ⟨rfl, SP.sel q [] rfl rfl⟩
 ·exact ⟨p1, 0, 0, ⟨K, K, K, trivial⟩, SP.sel x [] rfl rfl, H⟩
end Go.Proofs.YtoflbpmbkmephaaGreatDoor
namespace Go.Proofs.YtoflbpmbkmephaaGreatDoor
open Go.RowKit
def Uf (p1 : UInt8) (v8 : Bool) : Option (UInt8) :=
  (cond v8 (some ((B6 (IntKind.wrap .u8 ((IntKind.wrap .u8 (((p1).toNat : Int) - 97)) + 10))))) (some ((16 : UInt8))))
def Ug (p1 : UInt8) (v3 : Bool) : Option (UInt8) :=
  (cond v3 (some ((B6 (IntKind.wrap .u8 (((p1).toNat : Int) - 48))))) (cond (decide (((p1).toNat : Int) ≥ 97)) (Uf p1 (decide (((p1).toNat : Int) ≤ 102))) (Uf p1 false)))
def Y0 (p1 : UInt8) : Option (UInt8) :=
  (cond (decide (((p1).toNat : Int) ≥ 48)) (Ug p1 (decide (((p1).toNat : Int) ≤ 57))) (Ug p1 false))
theorem G9  (p1 : UInt8) (w0 : World)  (r : (UInt8)) (H : Y0 p1 = some r) :
  Calls Tryz.prog 146 #[(.int .u8 ((p1).toNat : Int))] w0 (fun e w' => e = .returned (.int .u8 ((r).toNat : Int)) ∧ SP [] w0 w' []) := by
 unfold Y0 at H
 refine Ql (n := 20) Tryz.func146 K K K ?_
 have h := Qy [] w0
 refine aQ ?_
 refine aR ?_
 refine iR 1 1 [(2, (.int .u8 0))] ?_
 refine iF ?_
 refine aQ ?_
 refine aQ ?_
 refine At.join (fun ρ w => ∃ (v3 : Bool), Q7 ρ [(0, (.int .u8 ((p1).toNat : Int))), (8, (.bool v3))] ∧ SP [] w0 w [] ∧ Ug p1 v3 = some r) ?_ ?_
 ·refine aR ?_
  refine iR 3 3 [(3, (.int .u8 ((p1).toNat : Int))), (4, (.bool (decide (((p1).toNat : Int) ≥ 48)))), (5, (.bool (decide (((p1).toNat : Int) ≥ 48))))] ?_
  refine In.guard (t := 5) (b := (decide (((p1).toNat : Int) ≥ 48))) K (fun a => ?_) (fun a => ?_)
  ·have H := ct H a
   refine iR 3 6 [(6, (.int .u8 ((p1).toNat : Int))), (7, (.bool (decide (((p1).toNat : Int) ≤ 57)))), (8, (.bool (decide (((p1).toNat : Int) ≤ 57))))] ?_
   refine iF ?_
   exact ⟨(decide (((p1).toNat : Int) ≤ 57)), ⟨K, K, trivial⟩, SP.sel h [] rfl rfl, H⟩
  ·have H := cf H a
   refine iR 3 6 [(6, undef), (7, undef), (8, (.bool false))] ?_
   refine iF ?_
   exact ⟨false, ⟨K, K, trivial⟩, SP.sel h [] rfl rfl, H⟩
 ·rintro ρ w4 ⟨v3, hk, c, H⟩
  unfold Ug at H
  first | refine At.known [(0, (.int .u8 ((p1).toNat : Int))), (8, (.bool v3))] hk ?_ | rw [← Qc (l := [(0, (.int .u8 ((p1).toNat : Int))), (8, (.bool v3))]) hk]
  refine Vm K (o := (.tmp 8)) K (b := v3) K (fun d => ?_) (fun d => ?_)
  ·have H := ct H d
   refine aQ ?_
   refine aR ?_
   refine iR 3 3 [(9, (.int .u8 ((p1).toNat : Int))), (10, (.int .u8 (IntKind.wrap .u8 (((p1).toNat : Int) - 48)))), (2, (.int .u8 (IntKind.wrap .u8 (((p1).toNat : Int) - 48))))] ?_
   refine iF ?_
   refine At.ret K ?_
   refine ⟨(.int .u8 (IntKind.wrap .u8 (((p1).toNat : Int) - 48))), K, ?_⟩
   obtain rfl := Qb H
   exact ⟨(by simp only [I1 (Fh _)]), SP.sel c [] rfl rfl⟩
  ·have H := cf H d
   refine At.skip K ?_
   refine aQ ?_
   refine aQ ?_
   refine At.join (fun ρ w => ∃ (v8 : Bool), Q7 ρ [(0, (.int .u8 ((p1).toNat : Int))), (16, (.bool v8))] ∧ SP [] w0 w [] ∧ Uf p1 v8 = some r) ?_ ?_
   ·refine aR ?_
    refine iR 3 3 [(11, (.int .u8 ((p1).toNat : Int))), (12, (.bool (decide (((p1).toNat : Int) ≥ 97)))), (13, (.bool (decide (((p1).toNat : Int) ≥ 97))))] ?_
    refine In.guard (t := 13) (b := (decide (((p1).toNat : Int) ≥ 97))) K (fun f => ?_) (fun f => ?_)
    ·have H := ct H f
     refine iR 3 6 [(14, (.int .u8 ((p1).toNat : Int))), (15, (.bool (decide (((p1).toNat : Int) ≤ 102)))), (16, (.bool (decide (((p1).toNat : Int) ≤ 102))))] ?_
     refine iF ?_
     exact ⟨(decide (((p1).toNat : Int) ≤ 102)), ⟨K, K, trivial⟩, SP.sel c [] rfl rfl, H⟩
    ·have H := cf H f
     refine iR 3 6 [(14, undef), (15, undef), (16, (.bool false))] ?_
     refine iF ?_
     exact ⟨false, ⟨K, K, trivial⟩, SP.sel c [] rfl rfl, H⟩
   ·rintro ρ w9 ⟨v8, hk, i, H⟩
    unfold Uf at H
    first | refine At.known [(0, (.int .u8 ((p1).toNat : Int))), (16, (.bool v8))] hk ?_ | rw [← Qc (l := [(0, (.int .u8 ((p1).toNat : Int))), (16, (.bool v8))]) hk]
    refine Vm K (o := (.tmp 16)) K (b := v8) K (fun g => ?_) (fun g => ?_)
    ·have H := ct H g
     refine aQ ?_
     refine aR ?_
     refine iR 4 4 [(17, (.int .u8 ((p1).toNat : Int))), (18, (.int .u8 (IntKind.wrap .u8 (((p1).toNat : Int) - 97)))), (19, (.int .u8 (IntKind.wrap .u8 ((IntKind.wrap .u8 (((p1).toNat : Int) - 97)) + 10)))), (2, (.int .u8 (IntKind.wrap .u8 ((IntKind.wrap .u8 (((p1).toNat : Int) - 97)) + 10))))] ?_
     refine iF ?_
     refine At.ret K ?_
     refine ⟨(.int .u8 (IntKind.wrap .u8 ((IntKind.wrap .u8 (((p1).toNat : Int) - 97)) + 10))), K, ?_⟩
     obtain rfl := Qb H
     exact ⟨(by simp only [I1 (Fh _)]), SP.sel i [] rfl rfl⟩
    ·have H := cf H g
     refine At.skip K ?_
     refine aQ ?_
     refine aR ?_
     refine iR 1 1 [(2, (.int .u8 16))] ?_
     refine iF ?_
     refine At.ret K ?_
     refine ⟨(.int .u8 16), K, ?_⟩
     obtain rfl := Qb H
     exact ⟨rfl, SP.sel i [] rfl rfl⟩
def Zt (a : (List UInt8) → Int → Option ((List UInt8) × Bool)) (b : (List UInt8)) (c : Int) (d : (UInt8)) (e : (UInt8)) (f : Bool) : Option ((List UInt8) × Bool) :=
  (cond f (some (([] : List UInt8), false)) ((app b ([(B6 (IntKind.wrap .u8 ((IntKind.wrap .u8 (16 * ((d).toNat : Int))) + ((e).toNat : Int))))] : List UInt8)).bind fun g => (a g (IntKind.wrap .i64 (c + 2)))))
def Zu (e : (List UInt8) → Int → Option ((List UInt8) × Bool)) (p1 : (List UInt8)) (b : (List UInt8)) (a : Int) : Option ((List UInt8) × Bool) :=
  (cond (decide (a < ((List.length p1 : Nat) : Int))) ((idx p1 a).bind fun f => ((Y0 f).bind fun c => ((idx p1 (IntKind.wrap .i64 (a + 1))).bind fun g => ((Y0 g).bind fun d => (cond (decide (((c).toNat : Int) > 15)) (Zt e b a c d true) (Zt e b a c d (decide (((d).toNat : Int) > 15)))))))) (some (b, true)))
def Zc (p1 : (List UInt8)) : Nat → (List UInt8) → Int → Option ((List UInt8) × Bool)
  | 0, _, _ => none
  | f + 1, a, b => Zu  (Zc p1 f) p1 a b
def Ub (p1 : (List UInt8)) : Option ((List UInt8) × Bool) :=
  (cond ((Int.tmod ((List.length p1 : Nat) : Int) 2) == 1) (some (([] : List UInt8), false)) (Zc p1 Y1 ([] : List UInt8) 0))
theorem Bh  (p1 : (List UInt8)) (w0 : World)  (r : ((List UInt8) × Bool)) (H : Ub p1 = some r) :
  Calls Tryz.prog 95 #[(.string ⟨List.toArray p1⟩)] w0 (fun e w' => ∃ (A2 : Option Addr) (c3 : Nat), e = .returned (.tuple #[(.slice A2 (List.length r.1) c3), (.bool r.2)]) ∧ SP [] w0 w' [Vu 5 eU8 A2 c3 r.1]) := by
 unfold Ub at H
 refine Ql (n := 41) Tryz.func95 K K K ?_
 have a3 := Qy [] w0
 refine aQ ?_
 refine aR ?_
 refine iR 2 2 [(2, (.slice none (List.length ([] : List UInt8)) 0)), (3, (.bool false))] ?_
 refine iF ?_
 refine aQ ?_
 refine aR ?_
 refine iR 1 1 [(4, (.slice none (List.length ([] : List UInt8)) 0))] ?_
 refine iF ?_
 refine aQ ?_
 refine aQ ?_
 refine aR ?_
 refine iR 4 4 [(8, (.string ⟨List.toArray p1⟩)), (9, (.int .i64 ((List.length p1 : Nat) : Int))), (10, (.int .i64 (Int.tmod ((List.length p1 : Nat) : Int) 2))), (11, (.bool ((Int.tmod ((List.length p1 : Nat) : Int) 2) == 1)))] ?_
 refine iF ?_
 refine Vm K (o := (.tmp 11)) K (b := ((Int.tmod ((List.length p1 : Nat) : Int) 2) == 1)) K (fun z => ?_) (fun z => ?_)
 ·have H := ct H z
  refine aQ ?_
  refine aR ?_
  refine iR 2 2 [(2, (.slice none (List.length ([] : List UInt8)) 0)), (3, (.bool false))] ?_
  refine iF ?_
  refine At.ret K ?_
  have b5 : SP [] w0 w0 [Vu 5 eU8 none 0 ([] : List UInt8)] := X6 a3 5 eU8
  refine ⟨(.tuple #[(.slice none (List.length ([] : List UInt8)) 0), (.bool false)]), K, ?_⟩
  obtain rfl := Qb H
  exact ⟨none, 0, rfl, SP.sel b5 [0] rfl rfl⟩
 ·have H := cf H z
  refine At.skip K ?_
  refine aQ ?_
  refine aQ ?_
  refine aR ?_
  refine iR 1 1 [(5, (.int .i64 0))] ?_
  refine iF ?_
  refine J2 K (id := 0) K ?_
  refine Du K (fun f3 ρ w => ∃ (g : (List UInt8)) (f : Int) (p : Option Addr) (q : Nat), Q7 ρ [(0, (.string ⟨List.toArray p1⟩)), (4, (.slice p (List.length g) q)), (5, (.int .i64 f))] ∧ SP [] w0 w [Vu 5 eU8 p q g] ∧ Zc p1 f3 g f = some r) (by rintro ρ w ⟨g, f, p, q, hk, hs, H⟩; cases H) ?_ Y1 ?_
  ·rintro f3 ρ b6 ⟨g, f, p, q, hk, a4, H⟩
   refine At.known [(0, (.string ⟨List.toArray p1⟩)), (4, (.slice p (List.length g) q)), (5, (.int .i64 f))] hk ?_
   replace H := (show Zu (Zc p1 f3) p1 g f = some r from H)
   unfold Zu at H
   refine aQ ?_
   refine aQ ?_
   refine aR ?_
   refine iR 4 4 [(12, (.int .i64 f)), (13, (.string ⟨List.toArray p1⟩)), (14, (.int .i64 ((List.length p1 : Nat) : Int))), (15, (.bool (decide (f < ((List.length p1 : Nat) : Int)))))] ?_
   refine iF ?_
   refine Vm K (o := (.tmp 15)) K (b := (decide (f < ((List.length p1 : Nat) : Int)))) K (fun a0 => ?_) (fun a0 => ?_)
   ·have H := ct H a0
    refine At.skip K ?_
    refine aQ ?_
    refine J2 K (id := 1) K ?_
    refine aQ ?_
    refine aR ?_
    refine iR 2 2 [(18, (.string ⟨List.toArray p1⟩)), (19, (.int .i64 f))] ?_
    obtain ⟨a5, b7, d0, b8, H⟩ := Vf H
    refine iS 3 ?_
    refine Zd (a := p1) (u := a5) (T := 9) (x := (.tmp 18)) (ix := (.tmp 19)) (ki := .i64) (iz := f) (d := (some 20)) (k := 2) K rfl K K K b7 b8 ?_
    obtain ⟨h, b9, H⟩ := Qa H
    refine iS 4 ?_
    refine cF 146 #[(.tmp 20)] #[5] 21 Tryz.call146 (G9  a5 b6  h b9) ?_
    rintro e c0 ⟨rfl, a6⟩
    refine ⟨_, rfl, ?_⟩
    have c1 := SP.call a4 a6
    clear a6
    refine iR 1 5 [(6, (.int .u8 ((h).toNat : Int)))] ?_
    refine iF ?_
    refine aQ ?_
    refine aR ?_
    refine iR 3 3 [(22, (.string ⟨List.toArray p1⟩)), (23, (.int .i64 f)), (24, (.int .i64 (IntKind.wrap .i64 (f + 1))))] ?_
    obtain ⟨a7, c2, d1, c4, H⟩ := Vf H
    refine iS 4 ?_
    refine Zd (a := p1) (u := a7) (T := 9) (x := (.tmp 22)) (ix := (.tmp 24)) (ki := .i64) (iz := (IntKind.wrap .i64 (f + 1))) (d := (some 25)) (k := 3) K rfl K K K c2 c4 ?_
    obtain ⟨j, c5, H⟩ := Qa H
    refine iS 5 ?_
    refine cF 146 #[(.tmp 25)] #[5] 26 Tryz.call146 (G9  a7 c0  j c5) ?_
    rintro e d2 ⟨rfl, a8⟩
    refine ⟨_, rfl, ?_⟩
    have a9 := SP.call c1 a8
    clear a8
    refine iR 1 6 [(7, (.int .u8 ((j).toNat : Int)))] ?_
    refine iF ?_
    refine aQ ?_
    refine aQ ?_
    refine At.join (fun ρ w => ∃ (v : Bool), Q7 ρ [(0, (.string ⟨List.toArray p1⟩)), (4, (.slice p (List.length g) q)), (5, (.int .i64 f)), (6, (.int .u8 ((h).toNat : Int))), (7, (.int .u8 ((j).toNat : Int))), (32, (.bool v))] ∧ SP [] w0 w [Vu 5 eU8 p q g] ∧ Zt (Zc p1 f3) g f h j v = some r) ?_ ?_
    ·refine aR ?_
     refine iR 3 3 [(27, (.int .u8 ((h).toNat : Int))), (28, (.bool (decide (((h).toNat : Int) > 15)))), (29, (.bool (decide (((h).toNat : Int) > 15))))] ?_
     refine In.guard (t := 29) (b := (decide (((h).toNat : Int) > 15))) K (fun a1 => ?_) (fun a1 => ?_)
     ·have H := ct H a1
      refine iR 3 6 [(30, undef), (31, undef), (32, (.bool true))] ?_
      refine iF ?_
      exact ⟨true, ⟨K, K, K, K, K, K, trivial⟩, SP.sel a9 [0] rfl rfl, H⟩
     ·have H := cf H a1
      refine iR 3 6 [(30, (.int .u8 ((j).toNat : Int))), (31, (.bool (decide (((j).toNat : Int) > 15)))), (32, (.bool (decide (((j).toNat : Int) > 15))))] ?_
      refine iF ?_
      exact ⟨(decide (((j).toNat : Int) > 15)), ⟨K, K, K, K, K, K, trivial⟩, SP.sel a9 [0] rfl rfl, H⟩
    ·rintro ρ c6 ⟨v, hk, b0, H⟩
     unfold Zt at H
     first | refine At.known [(0, (.string ⟨List.toArray p1⟩)), (4, (.slice p (List.length g) q)), (5, (.int .i64 f)), (6, (.int .u8 ((h).toNat : Int))), (7, (.int .u8 ((j).toNat : Int))), (32, (.bool v))] hk ?_ | rw [← Qc (l := [(0, (.string ⟨List.toArray p1⟩)), (4, (.slice p (List.length g) q)), (5, (.int .i64 f)), (6, (.int .u8 ((h).toNat : Int))), (7, (.int .u8 ((j).toNat : Int))), (32, (.bool v))]) hk]
     refine Vm K (o := (.tmp 32)) K (b := v) K (fun a2 => ?_) (fun a2 => ?_)
     ·have H := ct H a2
      refine aQ ?_
      refine aR ?_
      refine iR 2 2 [(2, (.slice none (List.length ([] : List UInt8)) 0)), (3, (.bool false))] ?_
      refine iF ?_
      refine At.ret K ?_
      have c7 : SP [] w0 c6 [Vu 5 eU8 p q g, Vu 5 eU8 none 0 ([] : List UInt8)] := X6 b0 5 eU8
      refine ⟨(.tuple #[(.slice none (List.length ([] : List UInt8)) 0), (.bool false)]), K, ?_⟩
      obtain rfl := Qb H
      exact ⟨none, 0, rfl, SP.sel c7 [1] rfl rfl⟩
     ·have H := cf H a2
      refine At.skip K ?_
      refine aR ?_
      refine iR 5 5 [(33, (.slice p (List.length g) q)), (34, (.int .u8 ((h).toNat : Int))), (35, (.int .u8 (IntKind.wrap .u8 (16 * ((h).toNat : Int))))), (36, (.int .u8 ((j).toNat : Int))), (37, (.int .u8 (IntKind.wrap .u8 ((IntKind.wrap .u8 (16 * ((h).toNat : Int))) + ((j).toNat : Int)))))] ?_
      refine iS 6 ?_
      refine Vy (e := eU8) (T := 48) (E := 5) (len := 1) (parts := #[(0, (.tmp 37))]) (cs := #[(.int .u8 (IntKind.wrap .u8 ((IntKind.wrap .u8 (16 * ((h).toNat : Int))) + ((j).toNat : Int))))]) ([(B6 (IntKind.wrap .u8 ((IntKind.wrap .u8 (16 * ((h).toNat : Int))) + ((j).toNat : Int))))] : List UInt8) (d := (some 38)) (k := 5) K rfl (fun _ => K) b0 (Dk (Or.inr ⟨rfl, (Fh _)⟩) rfl) rfl rfl rfl ?_
      intro c8 d3 b1
      obtain ⟨hl129, H⟩ := Vb H
      obtain ⟨b2, hyl130⟩ : ∃ y, g ++ ([(B6 (IntKind.wrap .u8 ((IntKind.wrap .u8 (16 * ((h).toNat : Int))) + ((j).toNat : Int))))] : List UInt8) = y := ⟨_, rfl⟩
      rw [hyl130] at H
      refine iS 7 ?_
      refine Qh.append (e := eU8) (l := g) (m := ([(B6 (IntKind.wrap .u8 ((IntKind.wrap .u8 (16 * ((h).toNat : Int))) + ((j).toNat : Int))))] : List UInt8)) (A := p) (c := q) (T := 48) (TX := 48) (E := 5) (b := 1) (s := (.tmp 33)) (x := (.tmp 38)) (i := 0) (vx := (.slice (some ⟨c8, 0, none⟩) (List.length ([(B6 (IntKind.wrap .u8 ((IntKind.wrap .u8 (16 * ((h).toNat : Int))) + ((j).toNat : Int))))] : List UInt8)) (List.length ([(B6 (IntKind.wrap .u8 ((IntKind.wrap .u8 (16 * ((h).toNat : Int))) + ((j).toNat : Int))))] : List UInt8)))) (d := (some 39)) (k := 6) K rfl K K K K rfl b1 rfl (Ep (E := 5) K (Q9 (SP.get b1 (i := 1) rfl))) hl129 ?_
      rw [hyl130]
      intro b3 b4 d4 c9
      refine iR 1 8 [(4, (.slice b3 (List.length b2) b4))] ?_
      refine iF ?_
      refine aR ?_
      refine iR 3 3 [(16, (.int .i64 f)), (17, (.int .i64 (IntKind.wrap .i64 (f + 2)))), (5, (.int .i64 (IntKind.wrap .i64 (f + 2))))] ?_
      refine iF ?_
      exact ⟨b2, (IntKind.wrap .i64 (f + 2)), b3, b4, ⟨K, K, K, trivial⟩, SP.sel c9 [0] rfl rfl, H⟩
   ·have H := cf H a0
    refine At.exit K (id := 0) K ?_
    refine aQ ?_
    refine aR ?_
    refine iR 3 3 [(40, (.slice p (List.length g) q)), (2, (.slice p (List.length g) q)), (3, (.bool true))] ?_
    refine iF ?_
    refine At.ret K ?_
    refine ⟨(.tuple #[(.slice p (List.length g) q), (.bool true)]), K, ?_⟩
    obtain rfl := Qb H
    exact ⟨p, q, rfl, SP.sel a4 [0] rfl rfl⟩
  ·exact ⟨([] : List UInt8), 0, none, 0, ⟨K, K, K, trivial⟩, SP.sel (X6 a3 5 eU8) [0] rfl rfl, H⟩
def Xs (c : (List UInt8) → Int → Option ((List UInt8))) (p1 : (List UInt8)) (b : (List UInt8)) (a : Int) : Option ((List UInt8)) :=
  (cond (decide (a < ((List.length p1 : Nat) : Int))) ((idx p1 a).bind fun d => ((idx ([48, 49, 50, 51, 52, 53, 54, 55, 56, 57, 97, 98, 99, 100, 101, 102] : List UInt8) (IntKind.wrap .u8 (Int.tdiv ((d).toNat : Int) 16))).bind fun e => ((idx p1 a).bind fun f => ((idx ([48, 49, 50, 51, 52, 53, 54, 55, 56, 57, 97, 98, 99, 100, 101, 102] : List UInt8) (Int.tmod ((f).toNat : Int) 16)).bind fun g => ((app b ([e, g] : List UInt8)).bind fun h => (c h (IntKind.wrap .i64 (a + 1)))))))) (some (b)))
def Xt (p1 : (List UInt8)) : Nat → (List UInt8) → Int → Option ((List UInt8))
  | 0, _, _ => none
  | f + 1, a, b => Xs  (Xt p1 f) p1 a b
def Gq (p1 : (List UInt8)) : Option ((List UInt8)) :=
  (Xt p1 Y1 ([] : List UInt8) 0)
theorem Ck (A2 : Option Addr) (c3 : Nat) (p1 : (List UInt8)) (w0 : World) (b0 : RdT eU8 w0 A2 c3 p1) (r : ((List UInt8))) (H : Gq p1 = some r) :
  Calls Tryz.prog 66 #[(.slice A2 (List.length p1) c3)] w0 (fun e w' => e = .returned (.string ⟨List.toArray r⟩) ∧ SP [] w0 w' []) := by
 unfold Gq at H
 refine Ql (n := 31) Tryz.func66 K K K ?_
 have c4 := Qy [] w0
 refine aQ ?_
 refine aR ?_
 refine iR 1 1 [(2, (.string ⟨List.toArray ([] : List UInt8)⟩))] ?_
 refine iF ?_
 refine aQ ?_
 refine aR ?_
 refine iR 1 1 [(3, (.string ⟨List.toArray ([48, 49, 50, 51, 52, 53, 54, 55, 56, 57, 97, 98, 99, 100, 101, 102] : List UInt8)⟩))] ?_
 refine iF ?_
 refine aQ ?_
 refine aR ?_
 refine iR 1 1 [(4, (.slice none (List.length ([] : List UInt8)) 0))] ?_
 refine iF ?_
 refine aQ ?_
 refine aQ ?_
 refine aR ?_
 refine iR 1 1 [(5, (.int .i64 0))] ?_
 refine iF ?_
 refine J2 K (id := 0) K ?_
 refine Du K (fun f1 ρ w => ∃ (t : (List UInt8)) (f : Int) (a0 : Option Addr) (a1 : Nat), Q7 ρ [(0, (.slice A2 (List.length p1) c3)), (3, (.string ⟨List.toArray ([48, 49, 50, 51, 52, 53, 54, 55, 56, 57, 97, 98, 99, 100, 101, 102] : List UInt8)⟩)), (4, (.slice a0 (List.length t) a1)), (5, (.int .i64 f))] ∧ SP [] w0 w [Vu 5 eU8 a0 a1 t] ∧ Xt p1 f1 t f = some r) (by rintro ρ w ⟨t, f, a0, a1, hk, hs, H⟩; cases H) ?_ Y1 ?_
 ·rintro f1 ρ g0 ⟨t, f, a0, a1, hk, b2, H⟩
  refine At.known [(0, (.slice A2 (List.length p1) c3)), (3, (.string ⟨List.toArray ([48, 49, 50, 51, 52, 53, 54, 55, 56, 57, 97, 98, 99, 100, 101, 102] : List UInt8)⟩)), (4, (.slice a0 (List.length t) a1)), (5, (.int .i64 f))] hk ?_
  replace H := (show Xs (Xt p1 f1) p1 t f = some r from H)
  unfold Xs at H
  refine aQ ?_
  refine aQ ?_
  refine aR ?_
  refine iR 4 4 [(6, (.int .i64 f)), (7, (.slice A2 (List.length p1) c3)), (8, (.int .i64 ((List.length p1 : Nat) : Int))), (9, (.bool (decide (f < ((List.length p1 : Nat) : Int)))))] ?_
  refine iF ?_
  refine Vm K (o := (.tmp 9)) K (b := (decide (f < ((List.length p1 : Nat) : Int)))) K (fun b3 => ?_) (fun b3 => ?_)
  ·have H := ct H b3
   refine At.skip K ?_
   refine aQ ?_
   refine J2 K (id := 1) K ?_
   obtain ⟨a8, b5, b6, c5, H⟩ := Vf H
   obtain ⟨g, c6, g1, c7, H⟩ := Vf H
   obtain ⟨a9, b7, b8, c8, H⟩ := Vf H
   obtain ⟨p, c9, g2, d0, H⟩ := Vf H
   obtain ⟨hl270, H⟩ := Vb H
   obtain ⟨a2, hyl271⟩ : ∃ y, t ++ ([g, p] : List UInt8) = y := ⟨_, rfl⟩
   rw [hyl271] at H
   refine aG [GEq (.slice a0 (List.length t) a1), GEq (.string ⟨List.toArray ([48, 49, 50, 51, 52, 53, 54, 55, 56, 57, 97, 98, 99, 100, 101, 102] : List UInt8)⟩), GEq (.slice A2 (List.length p1) c3), GEq (.int .i64 f), El A2 eU8.sz f, GEq (.int .u8 ((a8).toNat : Int)), GEq (.int .u8 (IntKind.wrap .u8 (Int.tdiv ((a8).toNat : Int) 16))), GEq (.int .u8 ((g).toNat : Int)), GEq (.string ⟨List.toArray ([48, 49, 50, 51, 52, 53, 54, 55, 56, 57, 97, 98, 99, 100, 101, 102] : List UInt8)⟩), GEq (.slice A2 (List.length p1) c3), GEq (.int .i64 f), El A2 eU8.sz f, GEq (.int .u8 ((a9).toNat : Int)), GEq (.int .u8 (Int.tmod ((a9).toNat : Int) 16)), GEq (.int .u8 ((p).toNat : Int)), Mb, Mb, Mb] [15, 16, 17] [([], fun vs w => VL vs [] ∧ SP [] w0 w [Vu 5 eU8 a0 a1 t]), ([15], fun vs w => ∃ (a3 : Nat), VL vs [(.slice (some ⟨a3, 0, none⟩) (List.length ([g, p] : List UInt8)) (List.length ([g, p] : List UInt8)))] ∧ SP [] w0 w [Vu 5 eU8 a0 a1 t, Vu 5 eU8 (some ⟨a3, 0, none⟩) (List.length ([g, p] : List UInt8)) ([g, p] : List UInt8)]), ([15, 16], fun vs w => ∃ (b1 : Nat), ∃ (a4 : Option Addr), ∃ (a5 : Nat), VL vs [(.slice (some ⟨b1, 0, none⟩) (List.length ([g, p] : List UInt8)) (List.length ([g, p] : List UInt8))), (.slice a4 (List.length a2) a5)] ∧ SP [] w0 w [Vu 5 eU8 a4 a5 a2, Vu 5 eU8 (some ⟨b1, 0, none⟩) (List.length ([g, p] : List UInt8)) ([g, p] : List UInt8)]), ([15, 16, 17], fun vs w => ∃ (b4 : Nat), ∃ (a6 : Option Addr), ∃ (a7 : Nat), VL vs [(.slice (some ⟨b4, 0, none⟩) (List.length ([g, p] : List UInt8)) (List.length ([g, p] : List UInt8))), (.slice a6 (List.length a2) a7), (.slice a6 (List.length a2) a7)] ∧ SP [] w0 w [Vu 5 eU8 a6 a7 a2, Vu 5 eU8 (some ⟨b4, 0, none⟩) (List.length ([g, p] : List UInt8)) ([g, p] : List UInt8)])] 18 3 ⟨trivial, SP.drew b2⟩ ?_ ?_
   iterate 18 refine And.intro ?_ ?_
   exact trivial
   ·exact oV (hC (hS 4 (.slice a0 (List.length t) a1)) (h0)) (.slice a0 (List.length t) a1)
   ·exact oV (hC (hS 3 (.string ⟨List.toArray ([48, 49, 50, 51, 52, 53, 54, 55, 56, 57, 97, 98, 99, 100, 101, 102] : List UInt8)⟩)) (h0)) (.string ⟨List.toArray ([48, 49, 50, 51, 52, 53, 54, 55, 56, 57, 97, 98, 99, 100, 101, 102] : List UInt8)⟩)
   ·exact oV (hC (hS 0 (.slice A2 (List.length p1) c3)) (h0)) (.slice A2 (List.length p1) c3)
   ·exact oV (hC (hS 5 (.int .i64 f)) (h0)) (.int .i64 f)
   ·refine oL 0 ?_
    ·rintro ρ' w' hs q ⟨g3, d1⟩
     refine kM (kc (kA q 2 14) (kc (kA q 3 15) k0)) fun z => ?_
     refine Z6 (e := eU8) (l := p1) (A := A2) (c := c3) (T := 48) (E := 5) (x := (.tmp 14)) (ix := (.tmp 15)) (ki := .i64) (iz := f) (d := (some 16)) (k := 4) K rfl K K K K (RdT.sp b0 d1) b5 b6 ?_
     intro d2 d3 d4 g4 hc303
     exact ⟨rfl, _, Qg z, ⟨d2, d3, d4, rfl⟩⟩
   ·refine oL 0 ?_
    ·rintro ρ' w' hs q ⟨g5, d5⟩
     obtain ⟨d6, d7, d8, d9⟩ := q 4 16 K
     refine kM (kc d9 k0) fun z => ?_
     refine sC 5 16 d6 (d7 + Int.toNat f * eU8.sz) (.int .u8 ((a8).toNat : Int)) 17 (J3 (e := eU8) (Yr (RdT.sp b0 d5) d8 b5 b6) c5 (j := 0) rfl) ?_
     exact eK z
   ·exact oV (hC (hA 5 17) (h0)) (.int .u8 (IntKind.wrap .u8 (Int.tdiv ((a8).toNat : Int) 16)))
   ·refine oL 0 ?_
    ·rintro ρ' w' hs q ⟨g6, g7⟩
     refine kM (kc (kA q 1 13) (kc (kA q 6 18) k0)) fun z => ?_
     refine Zd (a := ([48, 49, 50, 51, 52, 53, 54, 55, 56, 57, 97, 98, 99, 100, 101, 102] : List UInt8)) (u := g) (T := 9) (x := (.tmp 13)) (ix := (.tmp 18)) (ki := .u8) (iz := (IntKind.wrap .u8 (Int.tdiv ((a8).toNat : Int) 16))) (d := (some 19)) (k := 7) K rfl K K K c6 c7 ?_
     exact eK z
   ·exact oV (hC (hS 3 (.string ⟨List.toArray ([48, 49, 50, 51, 52, 53, 54, 55, 56, 57, 97, 98, 99, 100, 101, 102] : List UInt8)⟩)) (h0)) (.string ⟨List.toArray ([48, 49, 50, 51, 52, 53, 54, 55, 56, 57, 97, 98, 99, 100, 101, 102] : List UInt8)⟩)
   ·exact oV (hC (hS 0 (.slice A2 (List.length p1) c3)) (h0)) (.slice A2 (List.length p1) c3)
   ·exact oV (hC (hS 5 (.int .i64 f)) (h0)) (.int .i64 f)
   ·refine oL 0 ?_
    ·rintro ρ' w' hs q ⟨g8, e0⟩
     refine kM (kc (kA q 9 21) (kc (kA q 10 22) k0)) fun z => ?_
     refine Z6 (e := eU8) (l := p1) (A := A2) (c := c3) (T := 48) (E := 5) (x := (.tmp 21)) (ix := (.tmp 22)) (ki := .i64) (iz := f) (d := (some 23)) (k := 11) K rfl K K K K (RdT.sp b0 e0) b7 b8 ?_
     intro e1 e2 e3 g9 hc317
     exact ⟨rfl, _, Qg z, ⟨e1, e2, e3, rfl⟩⟩
   ·refine oL 0 ?_
    ·rintro ρ' w' hs q ⟨h1, e4⟩
     obtain ⟨e5, e6, e7, e8⟩ := q 11 23 K
     refine kM (kc e8 k0) fun z => ?_
     refine sC 5 23 e5 (e6 + Int.toNat f * eU8.sz) (.int .u8 ((a9).toNat : Int)) 24 (J3 (e := eU8) (Yr (RdT.sp b0 e4) e7 b7 b8) c8 (j := 0) rfl) ?_
     exact eK z
   ·exact oV (hC (hA 12 24) (h0)) (.int .u8 (Int.tmod ((a9).toNat : Int) 16))
   ·refine oL 0 ?_
    ·rintro ρ' w' hs q ⟨h2, h3⟩
     refine kM (kc (kA q 8 20) (kc (kA q 13 25) k0)) fun z => ?_
     refine Zd (a := ([48, 49, 50, 51, 52, 53, 54, 55, 56, 57, 97, 98, 99, 100, 101, 102] : List UInt8)) (u := p) (T := 9) (x := (.tmp 20)) (ix := (.tmp 25)) (ki := .u8) (iz := (Int.tmod ((a9).toNat : Int) 16)) (d := (some 26)) (k := 14) K rfl K K K c9 d0 ?_
     exact eK z
   ·refine oH 0 1 ?_
    ·rintro ρ' w' hs q ⟨h4, e9⟩
     refine kM (kc (kA q 7 19) (kc (kA q 14 26) k0)) fun z => ?_
     refine Vy (e := eU8) (T := 48) (E := 5) (len := 2) (parts := #[(0, (.tmp 19)), (1, (.tmp 26))]) (cs := #[(.int .u8 ((g).toNat : Int)), (.int .u8 ((p).toNat : Int))]) ([g, p] : List UInt8) (d := (some 27)) (k := 15) K rfl (fun _ => K) e9 (Dk (Or.inl rfl) (Dk (Or.inl rfl) rfl)) rfl rfl rfl ?_
     intro f0 h5 f2
     refine ⟨_, Qg z, trivial, ?_⟩
     exact (Exists.intro f0 (And.intro (And.intro rfl (trivial)) (f2)))
   ·refine oH 1 2 ?_
    ·rintro ρ' w' hs q ⟨a3, ⟨b9, -⟩, c0⟩
     refine kN [(12, (.slice a0 (List.length t) a1)), (27, (.slice (some ⟨a3, 0, none⟩) (List.length ([g, p] : List UInt8)) (List.length ([g, p] : List UInt8))))] ⟨q 0 12 K, (Qv (h := 15) K).symm.trans b9, trivial⟩ fun z => ?_
     refine Qh.append (e := eU8) (l := t) (m := ([g, p] : List UInt8)) (A := a0) (c := a1) (T := 48) (TX := 48) (E := 5) (b := 1) (s := (.tmp 12)) (x := (.tmp 27)) (i := 0) (vx := (.slice (some ⟨a3, 0, none⟩) (List.length ([g, p] : List UInt8)) (List.length ([g, p] : List UInt8)))) (d := (some 28)) (k := 16) K rfl K K K K rfl c0 rfl (Ep (E := 5) K (Q9 (SP.get c0 (i := 1) rfl))) hl270 ?_
     rw [hyl271]
     intro f3 f4 h6 f5
     refine ⟨_, Qg z, trivial, ?_⟩
     exact (Exists.intro a3 (Exists.intro f3 (Exists.intro f4 (And.intro (And.intro b9 (And.intro rfl (trivial))) (f5)))))
   ·refine oH 2 3 ?_
    ·rintro ρ' w' hs q ⟨b1, a4, a5, ⟨f6, c1, -⟩, f7⟩
     refine kN [(28, (.slice a4 (List.length a2) a5))] ⟨(Qv (h := 16) K).symm.trans c1, trivial⟩ fun z => ?_
     refine Qh.run (k := 17) (v := (.slice a4 (List.length a2) a5)) K ?_
     refine ⟨_, Qg z, trivial, ?_⟩
     exact (Exists.intro b1 (Exists.intro a4 (Exists.intro a5 (And.intro (And.intro f6 (And.intro c1 (And.intro rfl (trivial)))) (f7)))))
   ·rintro ρ' w' hs hf ⟨b4, a6, a7, ⟨h7, h8, f8, -⟩, c2⟩
    refine V3 [(0, (.slice A2 (List.length p1) c3)), (3, (.string ⟨List.toArray ([48, 49, 50, 51, 52, 53, 54, 55, 56, 57, 97, 98, 99, 100, 101, 102] : List UInt8)⟩)), (4, (.slice a6 (List.length a2) a7)), (5, (.int .i64 f))] ⟨(hs 0 K).trans K, (hs 3 K).trans K, (Qv (h := 17) K).symm.trans f8, (hs 5 K).trans K, trivial⟩ ?_
    obtain ⟨h9, f9⟩ : ∃ x, w' = x := ⟨_, rfl⟩
    rw [f9] at c2 ⊢
    refine aR ?_
    refine iR 3 3 [(10, (.int .i64 f)), (11, (.int .i64 (IntKind.wrap .i64 (f + 1)))), (5, (.int .i64 (IntKind.wrap .i64 (f + 1))))] ?_
    refine iF ?_
    exact ⟨a2, (IntKind.wrap .i64 (f + 1)), a6, a7, ⟨K, K, K, K, trivial⟩, SP.sel c2 [0] rfl rfl, H⟩
  ·have H := cf H b3
   refine At.exit K (id := 0) K ?_
   refine aQ ?_
   refine aR ?_
   refine iR 1 1 [(29, (.slice a0 (List.length t) a1))] ?_
   refine iS 2 ?_
   refine Dh (T := 48) (S' := 9) (E := 5) (x := (.tmp 29)) (A := a0) (c := a1) (l := t) (d := (some 30)) (k := 1) K rfl K K K K (Q9 (SP.get b2 (i := 0) rfl)) ?_
   refine iR 1 3 [(2, (.string ⟨List.toArray t⟩))] ?_
   refine iF ?_
   refine At.ret K ?_
   refine ⟨(.string ⟨List.toArray t⟩), K, ?_⟩
   obtain rfl := Qb H
   exact ⟨rfl, SP.sel b2 [] rfl rfl⟩
 ·exact ⟨([] : List UInt8), 0, none, 0, ⟨K, K, K, K, trivial⟩, SP.sel (X6 c4 5 eU8) [0] rfl rfl, H⟩
end Go.Proofs.YtoflbpmbkmephaaGreatDoor
