/- Walks of the laws of wire: WireKinds. -/
import Derived.Test.YtjpchjbbfbmjgaaWireL
namespace Go.Proofs.Ytjpchjbbfbmjgaa
set_option linter.unusedSimpArgs false
set_option linter.unusedVariables false
open Go.RowKit
/-- how many of the numbers -3, .., j - 4 are so -/
def cnt (p : Int → Bool) : Nat → Int
  | 0 => 0
  | j + 1 => cnt p j + (if p ((j : Int) - 3) then 1 else 0)
def oneB (k : Int) : Bool := isKind k && (hasA k || hasB k || hasN k)
theorem cnt_bound (p : Int → Bool) (j : Nat) : 0 ≤ cnt p j ∧ cnt p j ≤ j := by
  induction j with
  | zero => simp [cnt]
  | succ j ih => unfold cnt; split <;> omega
theorem cnt_kinds : cnt isKind 23 = 14 := by decide +kernel
theorem cnt_ones : cnt oneB 23 = 12 := by decide +kernel
theorem wordB_no (h : Bool) : wordB ⟨#[]⟩ h = true := by cases h <;> decide
theorem wordB_some {s : ByteArray} (h64 : s.size ≤ 64) (hne : 0 < s.size) (h : Bool) : wordB s h = h := by
  have : s.data.toList.isEmpty = false := by
    cases hs : s.data.toList with
    | nil =>
      have : s.data.size = 0 := by rw [← Array.length_toList, hs]; rfl
      have h2 : s.size = s.data.size := rfl
      omega
    | cons => rfl
  simp [wordB, h64, this]
theorem numB_no (h : Bool) : numB 0 h = true := by simp [numB]
theorem numB_some {n : Int} (h0 : 0 < n) (hm : n ≤ 1099511627776) (h : Bool) : numB n h = h := by
  have e : (n == 0) = false := by simp; omega
  have h1 : decide (0 ≤ n) = true := decide_eq_true (by omega)
  have h2 : decide (n ≤ 1099511627776) = true := decide_eq_true hm
  simp only [numB, e, h1, h2, Bool.true_and, Bool.or_false]
/-- no kind has two texts and a number, nor the second text and a number -/
theorem no_bn (k : Int) : (hasB k && hasN k) = false ∧ (hasB k && hasM k) = false := by
  unfold hasB hasN hasM
  rcases kbits_cases k with ⟨_, e⟩ | ⟨_, e⟩
  · rw [e]; decide
  · simp at e
    rcases e with e | e | e | e | e | e | e <;> rw [e] <;> decide
section
variable {a b : ByteArray} {n m : Int} (ha : a.size ≤ 64) (ha0 : 0 < a.size) (hb : b.size ≤ 64) (hb0 : 0 < b.size) (hn0 : 0 < n) (hn : n ≤ 1099511627776) (hm0 : 0 < m) (hm : m ≤ 1099511627776)
include ha ha0 in
theorem rk_a (k : Int) : rightB k a ⟨#[]⟩ 0 0 = (isKind k && hasA k) := by simp [rightB, wordB_no, numB_no, wordB_some ha ha0]
include hb hb0 in
theorem rk_b (k : Int) : rightB k ⟨#[]⟩ b 0 0 = (isKind k && hasB k) := by simp [rightB, wordB_no, numB_no, wordB_some hb hb0]
include hn hn0 in
theorem rk_n (k : Int) : rightB k ⟨#[]⟩ ⟨#[]⟩ n 0 = (isKind k && hasN k) := by simp [rightB, wordB_no, numB_no, numB_some hn0 hn]
theorem rk_0 (k : Int) : rightB k ⟨#[]⟩ ⟨#[]⟩ 0 0 = isKind k := by simp [rightB, wordB_no, numB_no]
include ha ha0 hb hb0 hn0 hn in
theorem rk_abn (k : Int) : rightB k a b n 0 = false := by
  have := (no_bn k).1
  simp only [rightB, wordB_no, numB_no, wordB_some ha ha0, wordB_some hb hb0, numB_some hn0 hn, Bool.and_true]
  cases hB : hasB k <;> cases hN : hasN k <;> simp_all
include hb hb0 hn0 hn in
theorem rk_bn (k : Int) : rightB k ⟨#[]⟩ b n 0 = false := by
  have := (no_bn k).1
  simp only [rightB, wordB_no, numB_no, wordB_some hb hb0, numB_some hn0 hn, Bool.and_true, Bool.true_and]
  cases hB : hasB k <;> cases hN : hasN k <;> simp_all
include hb hb0 hm0 hm in
theorem rk_bm (k : Int) : rightB k ⟨#[]⟩ b 0 m = false := by
  have := (no_bn k).2
  simp only [rightB, wordB_no, numB_no, wordB_some hb hb0, numB_some hm0 hm, Bool.and_true, Bool.true_and]
  cases hB : hasB k <;> cases hM : hasM k <;> simp_all
end
theorem pos_of_some {s : ByteArray} (h : s.toList.isEmpty = false) : 0 < s.size := by
  rw [ByteArray.toList_eq] at h
  have h2 : s.size = s.data.toList.length := by rw [Array.length_toList]; rfl
  cases hs : s.data.toList with
  | nil => rw [hs] at h; cases h
  | cons c r => rw [h2, hs]; simp
set_option maxRecDepth 100000 in
set_option maxHeartbeats 1000000 in
theorem wirekinds_any (a b : ByteArray) (n m : Int) (w : World) (ha : a.size ≤ maxLen) (hb : b.size ≤ maxLen) (hn0 : 0 ≤ n) (hn1 : n ≤ 4294967295) (hm0 : 0 ≤ m) (hm1 : m ≤ 4294967295) :
    Calls Try.prog 5 #[.string a, .string b, .int .u32 n, .int .u32 m] w fun e w' => e = .returned (.bool true) ∧ Below w.heap.size w w' := by
  go_enter Try.func5, Try.ntmps5
  go_wp2_with fail
  refine (head_any _).mono ?_
  rintro e w1 ⟨rfl, B1⟩
  cases g1 : decide ((64 : Int) < (a.size : Int)) with
  | true =>
    go_wp2_with fail
    all_goals (go_ret; exact ⟨rfl, B1⟩)
  | false =>
    cases g2 : decide ((64 : Int) < (b.size : Int)) with
    | true =>
      go_wp2_with fail
      all_goals (go_ret; exact ⟨rfl, B1⟩)
    | false =>
      cases g3 : a.toList.isEmpty with
      | true =>
        go_wp2_with fail
        all_goals (go_ret; exact ⟨rfl, B1⟩)
      | false =>
        cases g4 : b.toList.isEmpty with
        | true =>
          go_wp2_with fail
          all_goals (go_ret; exact ⟨rfl, B1⟩)
        | false =>
          cases g5 : (n == 0) with
          | true =>
            go_wp2_with fail
            all_goals (go_ret; exact ⟨rfl, B1⟩)
          | false =>
            cases g6 : (m == 0) with
            | true =>
              go_wp2_with fail
              all_goals (go_ret; exact ⟨rfl, B1⟩)
            | false =>
              have a0 : 0 < a.size := pos_of_some g3
              have b0 : 0 < b.size := pos_of_some g4
              have a64 : a.size ≤ 64 := by simp at g1; omega
              have b64 : b.size ≤ 64 := by simp at g2; omega
              have n0 : 0 < n := by simp at g5; omega
              have m0 : 0 < m := by simp at g6; omega
              have nm : n ≤ 1099511627776 := by omega
              have mm : m ≤ 1099511627776 := by omega
              have sz0 : (ByteArray.mk #[]).size ≤ maxLen := mlen _ (by decide)
              go_wp2_with fail
              clear g1 g2 g3 g4 g5 g6
              go_loopw [10, 11, 12] (fun x y z wr => ∃ j : Nat, j ≤ 23 ∧ x = .int .i64 (cnt oneB j) ∧ y = .int .i64 (cnt isKind j) ∧ z = .int .i64 ((j : Int) - 3) ∧ Below w.heap.size w wr) (fun _ _ z _ => (20 - intOf z).toNat)
              case atStart => exact ⟨0, by omega, rfl, rfl, rfl, B1⟩
              case round =>
                obtain ⟨j, hj, rfl, rfl, rfl, BR⟩ := hrel
                have hX := cnt_bound oneB j
                have hY := cnt_bound isKind j
                obtain ⟨k, hk⟩ : ∃ k : Int, k = (j : Int) - 3 := ⟨_, rfl⟩
                have hO : cnt oneB (j + 1) = cnt oneB j + (if oneB k then 1 else 0) := by rw [hk]; rfl
                have hI : cnt isKind (j + 1) = cnt isKind j + (if isKind k then 1 else 0) := by rw [hk]; rfl
                by_cases hlt : j < 23
                · have hk20 : k < 20 := by omega
                  have hkm : -3 ≤ k := by omega
                  rw [← hk]
                  have HO := Lib.hid hO
                  have HI := Lib.hid hI
                  have HK := Lib.hid hk
                  clear hO hI hk
                  generalize cnt oneB j = X at *
                  generalize cnt isKind j = Y at *
                  go_wp2_with fail
                  refine (right_any k 0 0 ⟨#[]⟩ ⟨#[]⟩ _ sz0 sz0).mono ?_
                  rintro e wA ⟨rfl, bwA⟩
                  rw [rk_0]
                  have BA := BR.trans (bwA.mono BR.size)
                  clear bwA
                  cases hK : isKind k with
                  | true =>
                    go_wp2_with fail
                    refine (right_any k 0 0 a ⟨#[]⟩ _ ha sz0).mono ?_
                    rintro e wB ⟨rfl, bwB⟩
                    rw [rk_a a64 a0, hK]
                    have BB := BA.trans (bwB.mono BA.size)
                    clear bwB
                    cases hA : hasA k with
                    | true =>
                      go_wp2_with fail
                      refine (right_any k n 0 a b _ ha hb).mono ?_
                      rintro e wE ⟨rfl, bwE⟩
                      rw [rk_abn a64 a0 b64 b0 n0 nm]
                      have BE := BB.trans (bwE.mono BB.size)
                      clear bwE
                      go_wp2_with fail
                      refine (right_any k n 0 ⟨#[]⟩ b _ sz0 hb).mono ?_
                      rintro e wF ⟨rfl, bwF⟩
                      rw [rk_bn b64 b0 n0 nm]
                      have BF := BE.trans (bwF.mono BE.size)
                      clear bwF
                      go_wp2_with fail
                      refine (right_any k 0 m ⟨#[]⟩ b _ sz0 hb).mono ?_
                      rintro e wG ⟨rfl, bwG⟩
                      rw [rk_bm b64 b0 m0 mm]
                      have BG := BF.trans (bwG.mono BF.size)
                      clear bwG
                      go_wp2_with fail
                      go_roundw
                      case rel => exact ⟨j + 1, by omega, by rw [HO.out]; first | (simp only [oneB, hK, hA]; done) | (simp only [oneB, hK, hA]; simp; done) | (simp only [oneB, hK, hA]; go_num), by first | (rw [HI.out, hK]; done) | (rw [HI.out, hK]; simp; done) | (rw [HI.out, hK]; go_num), by have hk := HK.out; go_num, BG⟩
                      case measure => simp [intOf]; omega
                    | false =>
                      go_wp2_with fail
                      refine (right_any k 0 0 ⟨#[]⟩ b _ sz0 hb).mono ?_
                      rintro e wC ⟨rfl, bwC⟩
                      rw [rk_b b64 b0, hK]
                      have BC := BB.trans (bwC.mono BB.size)
                      clear bwC
                      cases hB : hasB k with
                      | true =>
                        go_wp2_with fail
                        refine (right_any k n 0 a b _ ha hb).mono ?_
                        rintro e wE ⟨rfl, bwE⟩
                        rw [rk_abn a64 a0 b64 b0 n0 nm]
                        have BE := BC.trans (bwE.mono BC.size)
                        clear bwE
                        go_wp2_with fail
                        refine (right_any k n 0 ⟨#[]⟩ b _ sz0 hb).mono ?_
                        rintro e wF ⟨rfl, bwF⟩
                        rw [rk_bn b64 b0 n0 nm]
                        have BF := BE.trans (bwF.mono BE.size)
                        clear bwF
                        go_wp2_with fail
                        refine (right_any k 0 m ⟨#[]⟩ b _ sz0 hb).mono ?_
                        rintro e wG ⟨rfl, bwG⟩
                        rw [rk_bm b64 b0 m0 mm]
                        have BG := BF.trans (bwG.mono BF.size)
                        clear bwG
                        go_wp2_with fail
                        go_roundw
                        case rel => exact ⟨j + 1, by omega, by rw [HO.out]; first | (simp only [oneB, hK, hA, hB]; done) | (simp only [oneB, hK, hA, hB]; simp; done) | (simp only [oneB, hK, hA, hB]; go_num), by first | (rw [HI.out, hK]; done) | (rw [HI.out, hK]; simp; done) | (rw [HI.out, hK]; go_num), by have hk := HK.out; go_num, BG⟩
                        case measure => simp [intOf]; omega
                      | false =>
                        go_wp2_with fail
                        refine (right_any k n 0 ⟨#[]⟩ ⟨#[]⟩ _ sz0 sz0).mono ?_
                        rintro e wD ⟨rfl, bwD⟩
                        rw [rk_n n0 nm, hK]
                        have BD := BC.trans (bwD.mono BC.size)
                        clear bwD
                        cases hN : hasN k with
                        | true =>
                          go_wp2_with fail
                          refine (right_any k n 0 a b _ ha hb).mono ?_
                          rintro e wE ⟨rfl, bwE⟩
                          rw [rk_abn a64 a0 b64 b0 n0 nm]
                          have BE := BD.trans (bwE.mono BD.size)
                          clear bwE
                          go_wp2_with fail
                          refine (right_any k n 0 ⟨#[]⟩ b _ sz0 hb).mono ?_
                          rintro e wF ⟨rfl, bwF⟩
                          rw [rk_bn b64 b0 n0 nm]
                          have BF := BE.trans (bwF.mono BE.size)
                          clear bwF
                          go_wp2_with fail
                          refine (right_any k 0 m ⟨#[]⟩ b _ sz0 hb).mono ?_
                          rintro e wG ⟨rfl, bwG⟩
                          rw [rk_bm b64 b0 m0 mm]
                          have BG := BF.trans (bwG.mono BF.size)
                          clear bwG
                          go_wp2_with fail
                          go_roundw
                          case rel => exact ⟨j + 1, by omega, by rw [HO.out]; first | (simp only [oneB, hK, hA, hB, hN]; done) | (simp only [oneB, hK, hA, hB, hN]; simp; done) | (simp only [oneB, hK, hA, hB, hN]; go_num), by first | (rw [HI.out, hK]; done) | (rw [HI.out, hK]; simp; done) | (rw [HI.out, hK]; go_num), by have hk := HK.out; go_num, BG⟩
                          case measure => simp [intOf]; omega
                        | false =>
                          go_wp2_with fail
                          refine (right_any k n 0 a b _ ha hb).mono ?_
                          rintro e wE ⟨rfl, bwE⟩
                          rw [rk_abn a64 a0 b64 b0 n0 nm]
                          have BE := BD.trans (bwE.mono BD.size)
                          clear bwE
                          go_wp2_with fail
                          refine (right_any k n 0 ⟨#[]⟩ b _ sz0 hb).mono ?_
                          rintro e wF ⟨rfl, bwF⟩
                          rw [rk_bn b64 b0 n0 nm]
                          have BF := BE.trans (bwF.mono BE.size)
                          clear bwF
                          go_wp2_with fail
                          refine (right_any k 0 m ⟨#[]⟩ b _ sz0 hb).mono ?_
                          rintro e wG ⟨rfl, bwG⟩
                          rw [rk_bm b64 b0 m0 mm]
                          have BG := BF.trans (bwG.mono BF.size)
                          clear bwG
                          go_wp2_with fail
                          go_roundw
                          case rel => exact ⟨j + 1, by omega, by rw [HO.out]; first | (simp only [oneB, hK, hA, hB, hN]; done) | (simp only [oneB, hK, hA, hB, hN]; simp; done) | (simp only [oneB, hK, hA, hB, hN]; go_num), by first | (rw [HI.out, hK]; done) | (rw [HI.out, hK]; simp; done) | (rw [HI.out, hK]; go_num), by have hk := HK.out; go_num, BG⟩
                          case measure => simp [intOf]; omega
                  | false =>
                    go_wp2_with fail
                    refine (right_any k 0 0 a ⟨#[]⟩ _ ha sz0).mono ?_
                    rintro e wB ⟨rfl, bwB⟩
                    rw [rk_a a64 a0, hK]
                    have BB := BA.trans (bwB.mono BA.size)
                    clear bwB
                    go_wp2_with fail
                    refine (right_any k 0 0 ⟨#[]⟩ b _ sz0 hb).mono ?_
                    rintro e wC ⟨rfl, bwC⟩
                    rw [rk_b b64 b0, hK]
                    have BC := BB.trans (bwC.mono BB.size)
                    clear bwC
                    go_wp2_with fail
                    refine (right_any k n 0 ⟨#[]⟩ ⟨#[]⟩ _ sz0 sz0).mono ?_
                    rintro e wD ⟨rfl, bwD⟩
                    rw [rk_n n0 nm, hK]
                    have BD := BC.trans (bwD.mono BC.size)
                    clear bwD
                    go_wp2_with fail
                    refine (right_any k n 0 a b _ ha hb).mono ?_
                    rintro e wE ⟨rfl, bwE⟩
                    rw [rk_abn a64 a0 b64 b0 n0 nm]
                    have BE := BD.trans (bwE.mono BD.size)
                    clear bwE
                    go_wp2_with fail
                    refine (right_any k n 0 ⟨#[]⟩ b _ sz0 hb).mono ?_
                    rintro e wF ⟨rfl, bwF⟩
                    rw [rk_bn b64 b0 n0 nm]
                    have BF := BE.trans (bwF.mono BE.size)
                    clear bwF
                    go_wp2_with fail
                    refine (right_any k 0 m ⟨#[]⟩ b _ sz0 hb).mono ?_
                    rintro e wG ⟨rfl, bwG⟩
                    rw [rk_bm b64 b0 m0 mm]
                    have BG := BF.trans (bwG.mono BF.size)
                    clear bwG
                    go_wp2_with fail
                    go_roundw
                    case rel => exact ⟨j + 1, by omega, by rw [HO.out]; first | (simp only [oneB, hK, Bool.false_and]; done) | (simp only [oneB, hK, Bool.false_and]; simp; done) | (simp only [oneB, hK, Bool.false_and]; go_num), by first | (rw [HI.out, hK]; done) | (rw [HI.out, hK]; simp; done) | (rw [HI.out, hK]; go_num), by have hk := HK.out; go_num, BG⟩
                    case measure => simp [intOf]; omega
                · have h23 : j = 23 := by omega
                  subst h23
                  have hk20 : k = 20 := by omega
                  rw [cnt_ones, cnt_kinds, ← hk, hk20]
                  go_wp2_with fail
                  go_ret
                  exact ⟨rfl, BR⟩
end Go.Proofs.Ytjpchjbbfbmjgaa
