/- Walks of wire: Get, the function itself. (Printed by tools/gen_wireget.py.) -/
import Derived.Test.YtjpchjbbfbmjgaaWireD
namespace Go.Proofs.Ytjpchjbbfbmjgaa
set_option linter.unusedSimpArgs false
set_option linter.unusedVariables false
open Go.RowKit
set_option maxRecDepth 100000 in
set_option maxHeartbeats 2000000 in
theorem wget_any {A : Option Addr} {n c : Nat} {l : List UInt8} (w : World) (h : Rd w A n c l) :
    Calls Try.prog 11 #[.slice A n c] w fun e w' => e = .returned (wgetV (wgetL l)) ∧ Below w.heap.size w w' := by
  have hlen := h.len
  have hcap := h.cap
  have hnc := h.le
  unfold maxLen at hcap
  cases l with
  | nil =>
    simp only [List.length_nil] at hlen
    subst hlen
    clear h
    go_enter Try.func11, Try.ntmps11
    go_wp2
    exact bodyPost_ret (v := wgetV none) (by simp [results, Try.results11, go_sem, wgetV, msgV]) rfl ⟨rfl, (Below.refl _ _).alloc (Nat.le_refl _) _⟩
  | cons x r =>
    have hx := x.toNat_lt
    simp only [List.length_cons] at hlen
    obtain ⟨b, off, rfl, hb, hcell⟩ := h.2.2.2 (by omega)
    have hA : ∀ a, (some ⟨b, off, none⟩ : Option Addr) = some a → a.block < w.heap.size := fun a h => by cases h; exact hb
    have hc0 := hcell 0 (by omega)
    simp only [Nat.add_zero, List.getD_cons_zero] at hc0
    have hz : ((n : Int) == 0) = false := by simp; omega
    have hpos : (0 : Int) < (n : Int) := by omega
    have h1n : (1 : Int) ≤ (n : Int) := by omega
    have H := Lib.hid h
    have HA := Lib.hid hA
    clear hcell h hlen hA
    go_enter Try.func11, Try.ntmps11
    go_wp2_with (refine wpList_slice_lb rfl (.tmp 21) (.const (.int .i64 1)) rfl rfl rfl ((H.out.alloc _).alloc _) HA.out (i := 1) rfl (by omega) ?_; intro A' hr' hA')
    have hord : w.heap.size < w.heap.size + 1 ∧ w.heap.size + 1 < w.heap.size + 1 + 1 ∧ w.heap.size + 1 + 1 < w.heap.size + 1 + 1 + 1 ∧ w.heap.size + 1 + 1 + 1 < w.heap.size + 1 + 1 + 1 + 1 ∧ w.heap.size + 1 + 1 + 1 + 1 < w.heap.size + 1 + 1 + 1 + 1 + 1 ∧ w.heap.size + 1 + 1 + 1 + 1 + 1 < w.heap.size + 1 + 1 + 1 + 1 + 1 + 1 := by omega
    have HORD := Lib.hid hord
    have HA' := Lib.hid hA'
    clear hord hA'
    go_loopw [32] (fun i wr => ∃ j : Nat, j ≤ 4 ∧ i = .int .i64 j ∧ LoopSt w wr (w.heap.size + 1) (w.heap.size + 1 + 1) (w.heap.size + 1 + 1 + 1) (w.heap.size + 1 + 1 + 1 + 1) (w.heap.size + 1 + 1 + 1 + 1 + 1) (w.heap.size + 1 + 1 + 1 + 1 + 1 + 1) x.toNat (gsJ x.toNat r j)) (fun i _ => 4 - (intOf i).toNat)
    case atStart =>
      refine ⟨0, by omega, rfl, HORD.out, ?_, ?_, ?_, ⟨A', n - 1, c - 1, ?_, ?_, HA'.out⟩, ?_, ?_, ?_, ?_⟩
      · repeat (first | exact Below.refl _ _ | refine Below.alloc ?_ (by first | exact Nat.le_refl _ | (simp; done) | (simp; omega)) _)
      · repeat (first | exact Blk.newAt (by simp) | refine Blk.alloc ?_ _)
      · show Blk _ _ _ #[.int .i64 (x.toNat : Int), .string ⟨#[]⟩, .string ⟨#[]⟩, .int .i64 0, .int .i64 0]
        repeat (first | exact Blk.newAt (by simp) | refine Blk.alloc ?_ _)
      · repeat (first | exact Blk.newAt (by simp) | refine Blk.alloc ?_ _)
      · exact (((((hr'.alloc _).alloc _).alloc _).alloc _).alloc _)
      · show Blk _ _ _ #[.bool true]
        repeat (first | exact Blk.newAt (by simp) | refine Blk.alloc ?_ _)
      · repeat (first | exact Blk.newAt (by simp) | refine Blk.alloc ?_ _)
      · repeat (first | exact Blk.newAt (by simp) | refine Blk.alloc ?_ _)
      · repeat (first | exact Blk.newAt (by simp) | refine Blk.alloc ?_ _)
    case round =>
      obtain ⟨j, hj, rfl, hst⟩ := hrel
      have hsz := hst.row.lt
      have hck := hst.msg.cell 0
      simp only [List.getElem?_toArray, List.getElem?_cons_zero] at hck
      have HST := Lib.hid hst
      clear hst
      by_cases hlt4 : j < 4
      · have hjs : j = 0 ∨ j = 1 ∨ j = 2 ∨ j = 3 := by omega
        rcases hjs with rfl | rfl | rfl | rfl
        · have hcq := HST.out.row.cell 0
          simp only [List.getElem?_toArray, List.getElem?_cons_zero, List.getElem?_cons_succ] at hcq
          have ht := bitA x.toNat
          cases hX : hasA x.toNat with
          | false =>
            rw [hX] at ht
            have hgs : gsJ x.toNat r 1 = gsJ x.toNat r 0 := by simp [gsJ, gs1, hX]
            have HGS := Lib.hid hgs
            clear hX hgs
            go_wp2_with (go_at_call 25; refine (kind_any _ _).mono ?_; rintro e w5 ⟨rfl, hb5⟩; have HB5 := Lib.hid hb5; clear hb5)
            go_roundw
            case rel => exact ⟨1, by omega, by go_num, by rw [HGS.out]; exact HST.out.call HB5.out⟩
            case measure => simp [intOf]
          | true =>
            rw [hX] at ht
            have hgs : gsJ x.toNat r 1 = stA (gsJ x.toNat r 0) := by simp [gsJ, gs1, hX]
            have HGS := Lib.hid hgs
            clear hX hgs
            go_wp2_with (first | (go_at_call 25; refine (kind_any _ _).mono ?_; rintro e w5 ⟨rfl, hb5⟩; have HB5 := Lib.hid hb5; clear hb5) | (go_at_call 21; refine (partA_st (HST.out.call HB5.out)).mono ?_; rintro e w6 ⟨rfl, hst6⟩; have HST6 := Lib.hid hst6; clear hst6))
            go_roundw
            case rel => exact ⟨1, by omega, by go_num, by rw [HGS.out]; exact HST6.out⟩
            case measure => simp [intOf]
        · have hcq := HST.out.row.cell 1
          simp only [List.getElem?_toArray, List.getElem?_cons_zero, List.getElem?_cons_succ] at hcq
          have ht := bitB x.toNat
          cases hX : hasB x.toNat with
          | false =>
            rw [hX] at ht
            have hgs : gsJ x.toNat r 2 = gsJ x.toNat r 1 := by simp [gsJ, gs2, hX]
            have HGS := Lib.hid hgs
            clear hX hgs
            go_wp2_with (go_at_call 25; refine (kind_any _ _).mono ?_; rintro e w5 ⟨rfl, hb5⟩; have HB5 := Lib.hid hb5; clear hb5)
            go_roundw
            case rel => exact ⟨2, by omega, by go_num, by rw [HGS.out]; exact HST.out.call HB5.out⟩
            case measure => simp [intOf]
          | true =>
            rw [hX] at ht
            have hgs : gsJ x.toNat r 2 = stB (gsJ x.toNat r 1) := by simp [gsJ, gs2, hX]
            have HGS := Lib.hid hgs
            clear hX hgs
            go_wp2_with (first | (go_at_call 25; refine (kind_any _ _).mono ?_; rintro e w5 ⟨rfl, hb5⟩; have HB5 := Lib.hid hb5; clear hb5) | (go_at_call 22; refine (partB_st (HST.out.call HB5.out)).mono ?_; rintro e w6 ⟨rfl, hst6⟩; have HST6 := Lib.hid hst6; clear hst6))
            go_roundw
            case rel => exact ⟨2, by omega, by go_num, by rw [HGS.out]; exact HST6.out⟩
            case measure => simp [intOf]
        · have hcq := HST.out.row.cell 2
          simp only [List.getElem?_toArray, List.getElem?_cons_zero, List.getElem?_cons_succ] at hcq
          have ht := bitN x.toNat
          cases hX : hasN x.toNat with
          | false =>
            rw [hX] at ht
            have hgs : gsJ x.toNat r 3 = gsJ x.toNat r 2 := by simp [gsJ, gs3, hX]
            have HGS := Lib.hid hgs
            clear hX hgs
            go_wp2_with (go_at_call 25; refine (kind_any _ _).mono ?_; rintro e w5 ⟨rfl, hb5⟩; have HB5 := Lib.hid hb5; clear hb5)
            go_roundw
            case rel => exact ⟨3, by omega, by go_num, by rw [HGS.out]; exact HST.out.call HB5.out⟩
            case measure => simp [intOf]
          | true =>
            rw [hX] at ht
            have hgs : gsJ x.toNat r 3 = stN (gsJ x.toNat r 2) := by simp [gsJ, gs3, hX]
            have HGS := Lib.hid hgs
            clear hX hgs
            go_wp2_with (first | (go_at_call 25; refine (kind_any _ _).mono ?_; rintro e w5 ⟨rfl, hb5⟩; have HB5 := Lib.hid hb5; clear hb5) | (go_at_call 23; refine (partN_st (HST.out.call HB5.out)).mono ?_; rintro e w6 ⟨rfl, hst6⟩; have HST6 := Lib.hid hst6; clear hst6))
            go_roundw
            case rel => exact ⟨3, by omega, by go_num, by rw [HGS.out]; exact HST6.out⟩
            case measure => simp [intOf]
        · have hcq := HST.out.row.cell 3
          simp only [List.getElem?_toArray, List.getElem?_cons_zero, List.getElem?_cons_succ] at hcq
          have ht := bitM x.toNat
          cases hX : hasM x.toNat with
          | false =>
            rw [hX] at ht
            have hgs : gsJ x.toNat r 4 = gsJ x.toNat r 3 := by simp [gsJ, gs4, hX]
            have HGS := Lib.hid hgs
            clear hX hgs
            go_wp2_with (go_at_call 25; refine (kind_any _ _).mono ?_; rintro e w5 ⟨rfl, hb5⟩; have HB5 := Lib.hid hb5; clear hb5)
            go_roundw
            case rel => exact ⟨4, by omega, by go_num, by rw [HGS.out]; exact HST.out.call HB5.out⟩
            case measure => simp [intOf]
          | true =>
            rw [hX] at ht
            have hgs : gsJ x.toNat r 4 = stM (gsJ x.toNat r 3) := by simp [gsJ, gs4, hX]
            have HGS := Lib.hid hgs
            clear hX hgs
            go_wp2_with (first | (go_at_call 25; refine (kind_any _ _).mono ?_; rintro e w5 ⟨rfl, hb5⟩; have HB5 := Lib.hid hb5; clear hb5) | (go_at_call 24; refine (partM_st (HST.out.call HB5.out)).mono ?_; rintro e w6 ⟨rfl, hst6⟩; have HST6 := Lib.hid hst6; clear hst6))
            go_roundw
            case rel => exact ⟨4, by omega, by go_num, by rw [HGS.out]; exact HST6.out⟩
            case measure => simp [intOf]
      · obtain rfl : j = 4 := by omega
        have hK := wgetK_gs (x.toNat : Int) r
        obtain ⟨hsa, hsb⟩ := gs4_size (x.toNat : Int) r
        have hst : LoopSt w wr (w.heap.size + 1) (w.heap.size + 1 + 1) (w.heap.size + 1 + 1 + 1) (w.heap.size + 1 + 1 + 1 + 1) (w.heap.size + 1 + 1 + 1 + 1 + 1) (w.heap.size + 1 + 1 + 1 + 1 + 1 + 1) x.toNat (gs4 x.toNat r) := HST.out
        generalize gs4 (x.toNat : Int) r = S at hK hst hsa hsb
        clear HST
        obtain ⟨A1, n1, c1, hrest, hrd, hAb⟩ := hst.rest
        have hc1 := hst.fine.cell 0
        have hc2 := hrest.cell 0
        simp only [List.getElem?_toArray, List.getElem?_cons_zero] at hc1 hc2
        have hm := fun i => hst.msg.cell i
        have hm0 := hm 0
        have hm1 := hm 1
        have hm2 := hm 2
        have hm3 := hm 3
        have hm4 := hm 4
        have hres := fun i => hst.res.cell i
        have hr0 := hres 0
        have hr1 := hres 1
        have hr2 := hres 2
        have hr3 := hres 3
        have hr4 := hres 4
        simp only [List.getElem?_toArray, List.getElem?_cons_zero, List.getElem?_cons_succ] at hm0 hm1 hm2 hm3 hm4 hr0 hr1 hr2 hr3 hr4
        have hf0 := hst.res.frozen 0
        have hf1 := hst.res.frozen 1
        have hf2 := hst.res.frozen 2
        have hf3 := hst.res.frozen 3
        have hf4 := hst.res.frozen 4
        have hlen1 := hrd.len
        have HST := Lib.hid hst
        have HK := Lib.hid hK
        clear hK hst hrest hrd hm hres hck hAb
        cases hfine : S.fine with
        | false =>
          have hres : wgetL (x :: r) = none := by show wgetK _ _ = none; rw [HK.out, if_neg (by rw [hfine]; simp)]
          have HRes := Lib.hid hres
          rw [hfine] at hc1
          clear hres hfine hlen1
          go_wp2
          refine bodyPost_ret (v := wgetV none) (by simp [results, Try.results11, go_sem, hr0, hr1, hr2, hr3, hr4, wgetV, msgV]) rfl ⟨by rw [HRes.out], ?_⟩
          exact below_five HST.out.below _ _ _ _ _
        | true =>
          rw [hfine] at hc1
          by_cases hn1 : n1 = 0
          · subst hn1
            have hre : S.rest = [] := List.eq_nil_of_length_eq_zero hlen1
            have hsa' : S.a.size ≤ maxLen := by unfold maxLen; omega
            have hsb' : S.b.size ≤ maxLen := by unfold maxLen; omega
            cases hR : rightB x.toNat S.a S.b S.n S.m with
            | false =>
              have hres : wgetL (x :: r) = none := by show wgetK _ _ = none; rw [HK.out, if_neg (by rw [hR]; simp)]
              have HRes := Lib.hid hres
              have HR := Lib.hid hR
              clear hres hfine hlen1 hre hR
              go_wp2_with (go_at_call 13; refine (right_any _ _ _ _ _ _ hsa' hsb').mono ?_; rintro e w7 ⟨rfl, hb7⟩; rw [HR.out]; have hst7 := HST.out.call hb7; have HST7 := Lib.hid hst7; obtain ⟨u0, u1, u2, u3, u4, g0, g1, g2, g3, g4⟩ := hst7.resCells; clear hst7 hb7)
              refine bodyPost_ret (v := wgetV none) (by simp [results, Try.results11, go_sem, u0, u1, u2, u3, u4, wgetV, msgV]) rfl ⟨by rw [HRes.out], ?_⟩
              exact below_five HST7.out.below _ _ _ _ _
            | true =>
              have hres : wgetL (x :: r) = some ⟨x.toNat, S.a, S.b, S.n, S.m⟩ := by show wgetK _ _ = _; rw [HK.out, if_pos ⟨hfine, hre, hR⟩]
              have HRes := Lib.hid hres
              have HR := Lib.hid hR
              clear hres hfine hlen1 hre hR
              go_wp2_with (go_at_call 13; refine (right_any _ _ _ _ _ _ hsa' hsb').mono ?_; rintro e w7 ⟨rfl, hb7⟩; rw [HR.out]; have hst7 := HST.out.call hb7; have HST7 := Lib.hid hst7; obtain ⟨u0, u1, u2, u3, u4, g0, g1, g2, g3, g4⟩ := hst7.resCells; obtain ⟨p0, p1, p2, p3, p4⟩ := hst7.msgCells; clear hst7 hb7)
              refine bodyPost_ret (v := wgetV (some ⟨x.toNat, S.a, S.b, S.n, S.m⟩)) (by simp [results, Try.results11, go_sem, u0, u1, u2, u3, u4, wgetV, msgV, msgOf]) rfl ⟨by rw [HRes.out], ?_⟩
              exact below_five HST7.out.below _ _ _ _ _
          · have hn1' : (0 : Int) < (n1 : Int) := by omega
            have hres : wgetL (x :: r) = none := by show wgetK _ _ = none; rw [HK.out, if_neg (by intro h; rw [h.2.1] at hlen1; simp at hlen1; omega)]
            have HRes := Lib.hid hres
            clear hres hfine hlen1 hn1
            go_wp2
            refine bodyPost_ret (v := wgetV none) (by simp [results, Try.results11, go_sem, hr0, hr1, hr2, hr3, hr4, wgetV, msgV]) rfl ⟨by rw [HRes.out], ?_⟩
            exact below_five HST.out.below _ _ _ _ _
end Go.Proofs.Ytjpchjbbfbmjgaa
