/- Walks of the document's answer to layer 1: Text, Read, Put, Get. -/
import Derived.Test.YtjpchjbbfbmjgaaNumD
namespace Go.Proofs.Ytjpchjbbfbmjgaa
set_option linter.unusedSimpArgs false
set_option linter.unusedVariables false
open Go.RowKit
set_option maxHeartbeats 400000 in
theorem rtext_any (s : ByteArray) (w : World) (hs : s.size ≤ maxLen) :
    Calls Try.prog 34 #[.string s] w (RetOw w (textL s.data.toList)) := by
  unfold maxLen at hs
  have hsz : s.data.toList.length = s.size := by rw [Array.length_toList]; rfl
  by_cases h : 255 < s.size
  · have h' : (255 : Int) < s.size := by omega
    have ht : textL s.data.toList = [] := by unfold textL; rw [hsz, if_pos h]
    rw [ht]
    clear hsz ht
    go_enter Try.func34, Try.ntmps34
    go_wp2
    go_ret
    exact RetOw.mk (Ow.nil _ _) (Below.refl _ _)
  · have h' : ¬ (255 : Int) < s.size := by omega
    have ht : textL s.data.toList = [UInt8.ofNat s.size] ++ s.data.toList := by unfold textL; rw [hsz, if_neg h]; rfl
    rw [ht]
    have HS := Lib.hid hsz
    clear hsz ht
    go_enter Try.func34, Try.ntmps34
    go_wp2_with (at_builtin; refine wpList_append_ow rfl (.tmp 9) (.tmp 10) rfl (B := w.heap.size) (l := [UInt8.ofNat s.size]) (m := s.data.toList) ?hown (src_string s) ?hlen (by simp) ?_)
    case hown => exact Ow.lit w _ [UInt8.ofNat s.size] (Nat.le_refl _) (by simp [maxLen]) (by simp [bV]; omega)
    case hlen => omega
    intro v' w1 hown1 hgrow1 _
    go_wp2
    go_ret
    exact RetOw.mk hown1 (((Below.refl _ _).alloc (Nat.le_refl _) _).grown hgrow1 (by simp) (by rintro k hk; injection hk with hk; subst hk; exact Nat.le_refl _))

set_option maxHeartbeats 400000 in
theorem rread_any {A : Option Addr} {n c : Nat} {l : List UInt8} (w : World) (h : Rd w A n c l) :
    Calls Try.prog 28 #[.slice A n c] w fun e w' => e = .returned (readR (readL l)) ∧ w = w' := by
  have hlen := h.len
  have hcap := h.cap
  have hnc := h.le
  unfold maxLen at hcap
  cases l with
  | nil =>
    simp only [List.length_nil] at hlen
    subst hlen
    clear h
    go_enter Try.func28, Try.ntmps28
    go_wp2
    go_ret3
    exact ⟨rfl, rfl⟩
  | cons x r =>
    have hx := x.toNat_lt
    simp only [List.length_cons] at hlen
    obtain ⟨b, off, rfl, hb, hcell⟩ := h.2.2.2 (by omega)
    have hc0 := hcell 0 (by omega)
    simp only [Nat.add_zero, List.getD_cons_zero] at hc0
    have hz : ((n : Int) == 0) = false := by simp; omega
    have hpos : (0 : Int) < (n : Int) := by omega
    by_cases hlt : r.length < x.toNat
    · have hr : readL (x :: r) = none := by rw [readL, if_pos hlt]
      rw [hr]
      have hgt : (n : Int) - 1 < (x.toNat : Int) := by omega
      clear hr hcell h hlen
      go_enter Try.func28, Try.ntmps28
      go_wp2
      go_ret3
      exact ⟨rfl, rfl⟩
    · have hr : readL (x :: r) = some (r.take x.toNat, x.toNat + 1) := by rw [readL, if_neg hlt]
      rw [hr]
      have hgt : ¬ (n : Int) - 1 < (x.toNat : Int) := by omega
      have hgt2 : (x.toNat : Int) + 1 ≤ (n : Int) := by omega
      have H := Lib.hid h
      have Hl := Lib.hid hlen
      clear hr hcell h hlen
      go_enter Try.func28, Try.ntmps28
      go_wp2_with (first | (refine wpList_slice_lh rfl (.tmp 24) (.const (.int .i64 1)) (.tmp 25) rfl rfl rfl rfl H.out (i := 1) (j := x.toNat + 1) (by omega) (by omega) (by omega) (by omega) ?_; intro A' hr') | (refine wpList_convert_rd rfl (.tmp 26) rfl rfl (by assumption) ?_))
      go_ret3
      exact ⟨by simp [readR], rfl⟩

theorem digs_six {m : Nat} (h0 : m ≠ 0) (hm : m < 128 ^ 6) : digs 6 m = digs 6 (m / 128) ++ [m % 128] := by
  have : m / 128 < 128 ^ 5 := Nat.div_lt_of_lt_mul (by omega)
  rw [digs_pos h0, show digs 6 (m / 128) = digs 5 (m / 128) from digs_more 5 1 _ this]
set_option maxRecDepth 100000 in
set_option maxHeartbeats 1000000 in
theorem rput_any (n : Int) (w : World) :
    Calls Try.prog 35 #[.int .i64 n] w (RetOw w (putL n)) := by
  by_cases h0 : n < 0
  · have hp : putL n = [] := by unfold putL; rw [if_neg (by omega)]
    rw [hp]
    clear hp
    go_enter Try.func35, Try.ntmps35
    go_wp2
    go_ret
    exact RetOw.mk (Ow.nil _ _) (Below.refl _ _)
  · have h0' : 0 ≤ n := by omega
    by_cases h1 : 1099511627776 < n
    · have hp : putL n = [] := by unfold putL; rw [if_neg (by omega)]
      rw [hp]
      clear hp
      go_enter Try.func35, Try.ntmps35
      go_wp2
      go_ret
      exact RetOw.mk (Ow.nil _ _) (Below.refl _ _)
    · have hp : putL n = putN n.toNat := by unfold putL; rw [if_pos (by omega)]
      rw [hp]
      obtain ⟨N, rfl⟩ := Int.eq_ofNat_of_zero_le h0'
      simp only [Int.toNat_natCast]
      have hN : N ≤ 1099511627776 := by omega
      have hlast : ((N % 128 : Nat) : Int) = (N : Int) % 128 := by omega
      clear hp
      go_enter Try.func35, Try.ntmps35
      go_wp2
      go_loopw [0, 3] (fun u v wr => ∃ (m : Nat) (L : List UInt8), m ≤ 1099511627776 ∧ u = .int .i64 m ∧ Ow wr w.heap.size v L ∧ Below w.heap.size w wr ∧ Hid ((digs 6 m).map hi ++ L = putN N)) (fun u _ _ => (intOf u).toNat)
      case atStart =>
        refine ⟨N / 128, [UInt8.ofNat (N % 128)], by omega, by simp, Ow.lit w _ _ (Nat.le_refl _) (by simp [maxLen]) (by simp [bV]; omega), (Below.refl _ _).alloc (Nat.le_refl _) _, Lib.hid rfl⟩
      case round =>
        obtain ⟨m, L, hm, rfl, hown, hbel, hdig⟩ := hrel
        have hlen : L.length ≤ 7 := by
          have := congrArg List.length hdig.out
          have h7 := putN_length_le N
          simp at this
          omega
        have hsz := hbel.size
        have HO := Lib.hid hown
        have HB := Lib.hid hbel
        obtain ⟨A, c, rfl⟩ := hown.shape
        clear hown hbel
        by_cases hm0 : m = 0
        · subst hm0
          have hL : L = putN N := by
            have := hdig.out
            rw [digs_zero] at this
            simpa using this
          have HL := Lib.hid hL
          clear hL
          go_wp2
          go_ret
          exact RetOw.mk (by rw [← HL.out]; exact HO.out) HB.out
        · have hmp : (0 : Int) < (m : Int) := by omega
          have hrem : ((m % 128 : Nat) : Int) = (m : Int) % 128 := by omega
          have hx : Value.int IntKind.u8 ((m : Int) % 128 + 128) = .int .u8 ((hi (m % 128)).toNat : Int) := by
            congr 1
            simp [hi]
            omega
          have HX := Lib.hid hx
          clear hx
          go_wp2_with (at_builtin; refine wpList_append_ow rfl (.tmp 24) (.tmp 25) rfl (B := w.heap.size) (l := [hi (m % 128)]) (m := L) (Ow.lit wr _ _ hsz (by simp [maxLen]) (by simp only [bV, List.map_cons, List.map_nil]; rw [← HX.out])) (src_rd (HO.out.alloc _).rd.1) (by simp; omega) (by simp; omega) ?_; intro v' w1 hown1 hgrow1 _)
          go_roundw
          case rel =>
            refine ⟨m / 128, hi (m % 128) :: L, by omega, by simp, hown1, ?_, ?_⟩
            · exact (HB.out.alloc hsz _).grown hgrow1 (by simp; omega) (by rintro k hk; injection hk with hk; subst hk; exact hsz)
            · refine Lib.hid ?_
              rw [← hdig.out, digs_six hm0 (by omega)]
              simp
          case measure => simp [intOf]; omega
theorem low_of_all {l : List UInt8} {k : Nat} (hk : k = l.length ∨ k = 6) (hkl : k ≤ l.length) (hk6 : k ≤ 6) (h : ∀ j, j < k → ¬ (l.getD j 0).toNat < 128) : low l = none := by
  unfold low
  rw [List.findIdx?_eq_none_iff]
  intro x hx
  obtain ⟨j, hj, rfl⟩ := List.mem_iff_getElem.1 hx
  simp only [List.length_take] at hj
  have := h j (by omega)
  simp only [List.getD, List.getElem?_eq_getElem (show j < l.length by omega), Option.getD_some] at this
  simpa using this
theorem low_of_some {l : List UInt8} {k : Nat} (hkl : k < l.length) (hk6 : k < 6) (h : ∀ j, j < k → ¬ (l.getD j 0).toNat < 128) (hx : (l.getD k 0).toNat < 128) : low l = some k := by
  unfold low
  rw [List.findIdx?_eq_some_iff_getElem]
  refine ⟨by simp; omega, ?_, fun j hj => ?_⟩
  · simpa [List.getD, List.getElem?_eq_getElem hkl] using hx
  · have := h j hj
    simpa [List.getD, List.getElem?_eq_getElem (show j < l.length by omega)] using this
set_option maxRecDepth 100000 in
set_option maxHeartbeats 1000000 in
theorem rget_any {A : Option Addr} {n c : Nat} {l : List UInt8} (w : World) (h : Rd w A n c l) :
    Calls Try.prog 29 #[.slice A n c] w fun e w' => e = .returned (getR (getL l)) ∧ w = w' := by
  have hlen := h.len
  have hcap := h.cap
  have hnc := h.le
  unfold maxLen at hcap
  have H := Lib.hid h
  have Hl := Lib.hid hlen
  clear h hlen
  go_enter Try.func29, Try.ntmps29
  go_wp2
  go_loop [5, 6] (fun v i => ∃ k : Nat, k ≤ 6 ∧ k ≤ n ∧ i = .int .i64 k ∧ v = .int .i64 (val (l.take k) : Nat) ∧ Hid (0 < k → l.headD 0 ≠ 128) ∧ Hid (∀ j, j < k → ¬ (l.getD j 0).toNat < 128)) (fun _ i => 6 - (intOf i).toNat)
  case atStart => exact ⟨0, by omega, Nat.zero_le _, rfl, rfl, Lib.hid (fun h => absurd h (by omega)), Lib.hid (fun j hj => absurd hj (by omega))⟩
  case round =>
    obtain ⟨k, hk6, hkn, rfl, rfl, hne, hall⟩ := hrel
    obtain ⟨V, hV⟩ : ∃ V, V = val (l.take k) := ⟨_, rfl⟩
    rw [← hV]
    have hVlt : V < 128 ^ 6 := by
      have := val_lt (l.take k)
      rw [← hV, List.length_take] at this
      exact Nat.lt_of_lt_of_le this (Nat.pow_le_pow_right (by omega) (by omega))
    have HV := Lib.hid hV
    clear hV
    by_cases hend : k = n ∨ k = 6
    · have hr : getL l = none := by
        unfold getL
        rw [low_of_all (by rw [Hl.out]; exact hend) (by rw [Hl.out]; exact hkn) hk6 hall.out]
      have HR := Lib.hid hr
      clear hr
      by_cases hkn' : k < n
      · have hk6' : ¬ (k : Int) < 6 := by omega
        clear hend
        go_wp2
        go_ret3
        exact ⟨by rw [HR.out]; rfl, rfl⟩
      · clear hend
        go_wp2
        go_ret3
        exact ⟨by rw [HR.out]; rfl, rfl⟩
    · have hkn' : k < n := by omega
      have hk6' : (k : Int) < 6 := by omega
      clear hend
      obtain ⟨b, off, rfl, hb, hcell⟩ := H.out.2.2.2 (by omega)
      have hck := hcell k hkn'
      obtain ⟨y, hy⟩ : ∃ y, y = l.getD k 0 := ⟨_, rfl⟩
      rw [← hy] at hck
      have HY := Lib.hid hy
      clear hcell hy
      have hylt := y.toNat_lt
      have hkl : k < l.length := by rw [Hl.out]; exact hkn'
      have hyk : y = l[k] := by rw [HY.out]; simp [List.getD, List.getElem?_eq_getElem hkl]
      have hval : val (l.take (k + 1)) = 128 * V + y.toNat % 128 := by rw [List.take_succ_eq_append_getElem hkl, val_snoc, ← HV.out, ← hyk]
      have HVal := Lib.hid hval
      clear hval hyk
      by_cases hbad : k = 0 ∧ y = 128
      · obtain ⟨hk0, hy128⟩ := hbad
        have hr : getL l = none := by
          have hh : l.headD 0 = 128 := by rw [← hy128, HY.out, hk0]; cases l <;> rfl
          unfold getL
          split
          · rfl
          · rw [if_pos (.inl hh)]
        have HR := Lib.hid hr
        have hkz : ((k : Int) == 0) = true := by simp [hk0]
        have hyb : ((y.toNat : Int) == 128) = true := by rw [hy128]; rfl
        clear hr hk0 hy128
        go_wp2
        go_ret3
        exact ⟨by rw [HR.out]; rfl, rfl⟩
      · have hne' : l.headD 0 ≠ 128 := by
          by_cases hk0 : 0 < k
          · exact hne.out hk0
          · obtain rfl : k = 0 := by omega
            intro hh
            refine hbad ⟨rfl, ?_⟩
            rw [HY.out, ← hh]
            cases l <;> rfl
        have HNE := Lib.hid hne'
        clear hne'
        have htest : k = 0 → ((y.toNat : Int) == 128) = false := by
          intro hk0
          simp only [beq_eq_false_iff_ne]
          intro h
          exact hbad ⟨hk0, UInt8.toNat.inj (show y.toNat = 128 by omega)⟩
        have HT := Lib.hid htest
        clear htest hbad
        have finish : ∀ (hlowY : ¬ y.toNat < 128), Hid (∀ j, j < k + 1 → ¬ (l.getD j 0).toNat < 128) := fun hlowY => Lib.hid fun j hj => by
          by_cases hjk : j = k
          · subst hjk; rw [← HY.out]; exact hlowY
          · exact hall.out j (by omega)
        have HF := Lib.hid finish
        clear finish
        have hres : y.toNat < 128 → getL l = if maxNum < 128 * V + y.toNat % 128 then none else some (128 * V + y.toNat % 128, k + 1) := fun hlowY => by
          unfold getL
          rw [low_of_some hkl (by omega) hall.out (by rw [← HY.out]; exact hlowY)]
          simp only []
          rw [HVal.out]
          by_cases hbig : maxNum < 128 * V + y.toNat % 128
          · rw [if_pos (.inr hbig), if_pos hbig]
          · rw [if_neg (by intro h; rcases h with h | h; exact HNE.out h; exact hbig h), if_neg hbig]
        have HRes := Lib.hid hres
        clear hres hkl
        have hV1 : (V : Int) ≤ 4398046511104 := by omega
        have hr128 : (y.toNat : Int) % 128 = ((y.toNat % 128 : Nat) : Int) := by omega
        obtain ⟨d, hd⟩ : ∃ d, d = y.toNat % 128 := ⟨_, rfl⟩
        rw [← hd] at hr128
        have hd1 : d < 128 := by omega
        have HD := Lib.hid hd
        clear hd hVlt
        by_cases hk0 : k = 0
        · have hkz : ((k : Int) == 0) = true := by simp [hk0]
          have hyb : ((y.toNat : Int) == 128) = false := HT.out hk0
          clear hk0
          by_cases hlowY : y.toNat < 128
          · have hlow' : (y.toNat : Int) < 128 := by omega
            have HR2 := Lib.hid (HRes.out hlowY)
            by_cases hbig : maxNum < 128 * V + d
            · have hbig' : (1099511627776 : Int) < 128 * (V : Int) + (d : Int) := by unfold maxNum at hbig; omega
              have HR3 : Hid (getL l = none) := Lib.hid (by rw [HR2.out, ← HD.out, if_pos hbig])
              clear hbig hlowY
              go_wp2
              go_ret3
              exact ⟨by rw [HR3.out]; rfl, rfl⟩
            · have hbig' : ¬ (1099511627776 : Int) < 128 * (V : Int) + (d : Int) := by unfold maxNum at hbig; omega
              have HR3 : Hid (getL l = some (128 * V + d, k + 1)) := Lib.hid (by rw [HR2.out, ← HD.out, if_neg hbig])
              clear hbig hlowY
              go_wp2
              go_ret3
              exact ⟨by rw [HR3.out]; simp [getR], rfl⟩
          · have hlow' : ¬ (y.toNat : Int) < 128 := by omega
            have HF2 := HF.out hlowY
            clear hlowY
            go_wp2
            go_round
            case rel => exact ⟨k + 1, by omega, by omega, by go_num, by rw [HVal.out, ← HD.out]; simp, Lib.hid (fun _ => HNE.out), HF2⟩
            case measure => simp [intOf]; omega
        · have hkz : ((k : Int) == 0) = false := by simp [hk0]
          clear hk0
          by_cases hlowY : y.toNat < 128
          · have hlow' : (y.toNat : Int) < 128 := by omega
            have HR2 := Lib.hid (HRes.out hlowY)
            by_cases hbig : maxNum < 128 * V + d
            · have hbig' : (1099511627776 : Int) < 128 * (V : Int) + (d : Int) := by unfold maxNum at hbig; omega
              have HR3 : Hid (getL l = none) := Lib.hid (by rw [HR2.out, ← HD.out, if_pos hbig])
              clear hbig hlowY
              go_wp2
              go_ret3
              exact ⟨by rw [HR3.out]; rfl, rfl⟩
            · have hbig' : ¬ (1099511627776 : Int) < 128 * (V : Int) + (d : Int) := by unfold maxNum at hbig; omega
              have HR3 : Hid (getL l = some (128 * V + d, k + 1)) := Lib.hid (by rw [HR2.out, ← HD.out, if_neg hbig])
              clear hbig hlowY
              go_wp2
              go_ret3
              exact ⟨by rw [HR3.out]; simp [getR], rfl⟩
          · have hlow' : ¬ (y.toNat : Int) < 128 := by omega
            have HF2 := HF.out hlowY
            clear hlowY
            go_wp2
            go_round
            case rel => exact ⟨k + 1, by omega, by omega, by go_num, by rw [HVal.out, ← HD.out]; simp, Lib.hid (fun _ => HNE.out), HF2⟩
            case measure => simp [intOf]; omega
end Go.Proofs.Ytjpchjbbfbmjgaa
