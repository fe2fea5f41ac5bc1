/- Walks of num: Put. -/
import Derived.Test.YtjpchjbbfbmjgaaDoorNumC
namespace Go.Proofs.YtjpchjbbfbmjgaaDoor
set_option linter.unusedSimpArgs false
set_option linter.unusedVariables false
open Go.RowKit
/-- what stands in front of a number's last digits -/
def front (N k : Nat) : List UInt8 := (digs 6 (N / 128 ^ (6 - k))).map hi
theorem front_start {N : Nat} (hN : N ≤ 1099511627776) : front N 0 = [] := by
  unfold front
  rw [Nat.div_eq_of_lt (by omega), digs_zero]; rfl
theorem pow_step (k : Nat) (hk : k < 6) : 128 ^ (6 - k) = 128 ^ (6 - (k + 1)) * 128 := by
  rw [← Nat.pow_succ]; congr 1; omega
theorem front_step {N k : Nat} (hN : N ≤ 1099511627776) (hk : k < 6) (h0 : N / 128 ^ (6 - (k + 1)) ≠ 0) : front N (k + 1) = front N k ++ [hi (N / 128 ^ (6 - (k + 1)) % 128)] := by
  unfold front
  have hlt : N / 128 ^ (6 - k) < 128 ^ 5 := by
    refine Nat.lt_of_le_of_lt (Nat.div_le_div_left (c := 128) ?_ (by omega)) (by omega)
    rw [pow_step k hk]
    exact Nat.le_mul_of_pos_left _ (Nat.pow_pos (by omega))
  have h6 : digs 6 (N / 128 ^ (6 - k)) = digs 5 (N / 128 ^ (6 - k)) := digs_more 5 1 _ hlt
  rw [digs_pos h0, h6, Nat.div_div_eq_div_mul, ← pow_step k hk]
  simp
theorem front_none {N k : Nat} (hk : k < 6) (h0 : N / 128 ^ (6 - (k + 1)) = 0) : front N (k + 1) = [] ∧ front N k = [] := by
  unfold front
  refine ⟨by rw [h0, digs_zero]; rfl, ?_⟩
  rw [pow_step k hk, ← Nat.div_div_eq_div_mul, h0, Nat.zero_div, digs_zero]; rfl
theorem front_ne {N k : Nat} (hk : k < 6) (h0 : N / 128 ^ (6 - (k + 1)) ≠ 0) (hd : N / 128 ^ (6 - (k + 1)) % 128 = 0) : 0 < (front N k).length := by
  unfold front
  rw [pow_step k hk, ← Nat.div_div_eq_div_mul]
  have hne : N / 128 ^ (6 - (k + 1)) / 128 ≠ 0 := by omega
  rw [digs_pos hne]
  simp
theorem front_end {N : Nat} (hN : N ≤ 1099511627776) (h0 : N ≠ 0) : front N 6 = (digs 6 (N / 128)).map hi ++ [hi (N % 128)] := by
  have := front_step (k := 5) hN (by omega) (by simpa using h0)
  rw [this]
  simp [front]
theorem front_zero : front 0 6 = [] := by unfold front; rw [Nat.zero_div, digs_zero]; rfl
theorem and127 (x : Nat) (h : x < 2 ^ 62) : bits .and .i64 (x : Int) 127 = ((x % 128 : Nat) : Int) := by
  rw [show (127 : Int) = ((127 : Nat) : Int) from rfl, i64_and_nat _ _ (by omega) (by omega), and_low7]
theorem or128 (D : Nat) (h : D < 128) : bits .or .u8 (D : Int) 128 = ((hi D).toNat : Int) := by
  rw [show (128 : Int) = ((128 : Nat) : Int) from rfl, u8_or_nat _ _ (by omega) (by omega)]
  have hor : D ||| 128 = D + 128 := by
    have h7 := Nat.shiftLeft_add_eq_or_of_lt (i := 7) (b := D) (by omega) 1
    rw [Nat.shiftLeft_eq] at h7
    rw [Nat.or_comm, show (128 : Nat) = 1 * 2 ^ 7 from rfl, ← h7]
    omega
  rw [hor]
  simp [hi]
  omega
/-- a new row of one byte -/
theorem Rd.one {w : World} {x : Value} {c : UInt8} (hx : x = .int .u8 (c.toNat : Int)) : Rd (w.alloc (.cells #[x] 5)) (some ⟨w.heap.size, 0, none⟩) 1 1 [c] :=
  (Ow.lit (B := 0) w #[x] [c] (Nat.zero_le _) (by simp [maxLen]) (by rw [hx]; rfl)).rd.1
theorem grown_own {B : Nat} {a w w' : World} {v : Value} {l : List UInt8} (h : Below B a w) (hown : Ow w B v l) (hg : w.grownBy w' v.ownBlock) (hB : B ≤ w.heap.size) : Below B a w' :=
  h.grown hg hB fun k hk => (hown.lt k hk).1
set_option maxRecDepth 100000 in
set_option maxHeartbeats 1000000 in
theorem put_any (n : Int) (w : World) :
    Calls Tryd.prog 16 #[.int .i64 n] w (RetOw w (putL n)) := by
  by_cases h0 : n < 0
  · have hp : putL n = [] := by unfold putL; rw [if_neg (by omega)]
    rw [hp]
    clear hp
    go_enter Tryd.func16, Tryd.ntmps16
    go_wp2
    go_ret
    exact RetOw.mk (Ow.nil _ _) (Below.refl _ _)
  · have h0' : 0 ≤ n := by omega
    by_cases h1 : 1099511627776 < n
    · have hp : putL n = [] := by unfold putL; rw [if_neg (by omega)]
      rw [hp]
      clear hp
      go_enter Tryd.func16, Tryd.ntmps16
      go_wp2
      go_ret
      exact RetOw.mk (Ow.nil _ _) (Below.refl _ _)
    · have hp : putL n = putN n.toNat := by unfold putL; rw [if_pos (by omega)]
      rw [hp]
      obtain ⟨N, rfl⟩ := Int.eq_ofNat_of_zero_le h0'
      simp only [Int.toNat_natCast]
      have hN : N ≤ 1099511627776 := by omega
      clear hp
      go_enter Tryd.func16, Tryd.ntmps16
      go_wp2
      go_loopw [3, 12] (fun v i wr => ∃ k : Nat, k ≤ 6 ∧ i = .int .i64 k ∧ Ow wr w.heap.size v (front N k) ∧ Below w.heap.size w wr) (fun _ i _ => 6 - (intOf i).toNat)
      case atStart => exact ⟨0, Nat.zero_le _, rfl, by rw [front_start hN]; exact Ow.nil _ _, Below.refl _ _⟩
      case round =>
        obtain ⟨k, hk, rfl, hown, hbel⟩ := hrel
        by_cases hlt : k < 6
        · have hks : k = 0 ∨ k = 1 ∨ k = 2 ∨ k = 3 ∨ k = 4 ∨ k = 5 := by omega
          rcases hks with rfl | rfl | rfl | rfl | rfl | rfl
          · obtain ⟨D, hD⟩ : ∃ D, D = N / 128 ^ (6 - (0 + 1)) % 128 := ⟨_, rfl⟩
            have hD' : D < 128 := by omega
            have hd : bits BinOp.and IntKind.i64 ((N : Int) / 34359738368) 127 = (D : Int) := by
              rw [show (N : Int) / 34359738368 = ((N / 128 ^ (6 - (0 + 1)) : Nat) : Int) by simp, and127 _ (Nat.lt_of_le_of_lt (Nat.div_le_self _ _) (by omega)), hD]
            have hor := or128 D hD'
            have HD := Lib.hid hD
            clear hD
            by_cases hm : N / 128 ^ (6 - (0 + 1)) = 0
            · obtain ⟨f1, f0⟩ := front_none (k := 0) (by omega) hm
              have hD0 : D = 0 := by rw [HD.out, hm]
              subst hD0
              have F1 := Lib.hid f1
              rw [f0] at hown
              clear f1 f0 hm hor
              obtain ⟨A, c, rfl⟩ := hown.shape
              simp only [List.length_nil] at *
              have HO := Lib.hid hown
              have HB := Lib.hid hbel
              clear hown hbel
              go_wp2
              go_roundw
              case rel => exact ⟨1, by omega, by go_num, by rw [F1.out]; exact HO.out, HB.out⟩
              case measure => simp [intOf]
            · have fs := front_step (k := 0) hN (by omega) hm
              rw [← HD.out] at fs
              have hl : D = 0 → 0 < (front N 0).length := fun h => front_ne (by omega) hm (by rw [← HD.out]; exact h)
              have hll : (front N 0).length ≤ 6 := by unfold front; rw [List.length_map]; exact digs_length_le _ _
              obtain ⟨L, hL⟩ : ∃ L, L = front N 0 := ⟨_, rfl⟩
              rw [← hL] at fs hl hll hown
              have FS := Lib.hid fs
              clear fs hm hL
              have hsz := hbel.size
              have HO := Lib.hid hown
              have HB := Lib.hid hbel
              obtain ⟨A, c, rfl⟩ := hown.shape
              clear hown hbel
              by_cases hD0 : D = 0
              · subst hD0
                have hl' : (0 : Int) < (L.length : Int) := by have := hl rfl; omega
                clear hl
                go_wp2_with (at_builtin; refine wpList_append_ow rfl (.tmp 29) (.tmp 32) rfl (B := w.heap.size) (l := L) (m := [hi 0]) (HO.out.alloc _) (src_rd (Rd.one (congrArg (Value.int .u8) (or128 0 (by omega))))) (by simp; omega) (by simp; omega) ?_; intro v' w1 hown1 hgrow1 _)
                go_wp2
                go_roundw
                case rel => exact ⟨1, by omega, by go_num, by rw [FS.out]; exact hown1, grown_own (HB.out.alloc hsz _) (HO.out.alloc _) hgrow1 (by simp; omega)⟩
                case measure => simp [intOf]
              · have hDp : (0 : Int) < (D : Int) := by omega
                clear hl
                go_wp2_with (at_builtin; refine wpList_append_ow rfl (.tmp 29) (.tmp 32) rfl (B := w.heap.size) (l := L) (m := [hi D]) (HO.out.alloc _) (src_rd (Rd.one rfl)) (by simp; omega) (by simp; omega) ?_; intro v' w1 hown1 hgrow1 _)
                go_wp2
                go_roundw
                case rel => exact ⟨1, by omega, by go_num, by rw [FS.out]; exact hown1, grown_own (HB.out.alloc hsz _) (HO.out.alloc _) hgrow1 (by simp; omega)⟩
                case measure => simp [intOf]
          · obtain ⟨D, hD⟩ : ∃ D, D = N / 128 ^ (6 - (1 + 1)) % 128 := ⟨_, rfl⟩
            have hD' : D < 128 := by omega
            have hd : bits BinOp.and IntKind.i64 ((N : Int) / 268435456) 127 = (D : Int) := by
              rw [show (N : Int) / 268435456 = ((N / 128 ^ (6 - (1 + 1)) : Nat) : Int) by simp, and127 _ (Nat.lt_of_le_of_lt (Nat.div_le_self _ _) (by omega)), hD]
            have hor := or128 D hD'
            have HD := Lib.hid hD
            clear hD
            by_cases hm : N / 128 ^ (6 - (1 + 1)) = 0
            · obtain ⟨f1, f0⟩ := front_none (k := 1) (by omega) hm
              have hD0 : D = 0 := by rw [HD.out, hm]
              subst hD0
              have F1 := Lib.hid f1
              rw [f0] at hown
              clear f1 f0 hm hor
              obtain ⟨A, c, rfl⟩ := hown.shape
              simp only [List.length_nil] at *
              have HO := Lib.hid hown
              have HB := Lib.hid hbel
              clear hown hbel
              go_wp2
              go_roundw
              case rel => exact ⟨2, by omega, by go_num, by rw [F1.out]; exact HO.out, HB.out⟩
              case measure => simp [intOf]
            · have fs := front_step (k := 1) hN (by omega) hm
              rw [← HD.out] at fs
              have hl : D = 0 → 0 < (front N 1).length := fun h => front_ne (by omega) hm (by rw [← HD.out]; exact h)
              have hll : (front N 1).length ≤ 6 := by unfold front; rw [List.length_map]; exact digs_length_le _ _
              obtain ⟨L, hL⟩ : ∃ L, L = front N 1 := ⟨_, rfl⟩
              rw [← hL] at fs hl hll hown
              have FS := Lib.hid fs
              clear fs hm hL
              have hsz := hbel.size
              have HO := Lib.hid hown
              have HB := Lib.hid hbel
              obtain ⟨A, c, rfl⟩ := hown.shape
              clear hown hbel
              by_cases hD0 : D = 0
              · subst hD0
                have hl' : (0 : Int) < (L.length : Int) := by have := hl rfl; omega
                clear hl
                go_wp2_with (at_builtin; refine wpList_append_ow rfl (.tmp 29) (.tmp 32) rfl (B := w.heap.size) (l := L) (m := [hi 0]) (HO.out.alloc _) (src_rd (Rd.one (congrArg (Value.int .u8) (or128 0 (by omega))))) (by simp; omega) (by simp; omega) ?_; intro v' w1 hown1 hgrow1 _)
                go_wp2
                go_roundw
                case rel => exact ⟨2, by omega, by go_num, by rw [FS.out]; exact hown1, grown_own (HB.out.alloc hsz _) (HO.out.alloc _) hgrow1 (by simp; omega)⟩
                case measure => simp [intOf]
              · have hDp : (0 : Int) < (D : Int) := by omega
                clear hl
                go_wp2_with (at_builtin; refine wpList_append_ow rfl (.tmp 29) (.tmp 32) rfl (B := w.heap.size) (l := L) (m := [hi D]) (HO.out.alloc _) (src_rd (Rd.one rfl)) (by simp; omega) (by simp; omega) ?_; intro v' w1 hown1 hgrow1 _)
                go_wp2
                go_roundw
                case rel => exact ⟨2, by omega, by go_num, by rw [FS.out]; exact hown1, grown_own (HB.out.alloc hsz _) (HO.out.alloc _) hgrow1 (by simp; omega)⟩
                case measure => simp [intOf]
          · obtain ⟨D, hD⟩ : ∃ D, D = N / 128 ^ (6 - (2 + 1)) % 128 := ⟨_, rfl⟩
            have hD' : D < 128 := by omega
            have hd : bits BinOp.and IntKind.i64 ((N : Int) / 2097152) 127 = (D : Int) := by
              rw [show (N : Int) / 2097152 = ((N / 128 ^ (6 - (2 + 1)) : Nat) : Int) by simp, and127 _ (Nat.lt_of_le_of_lt (Nat.div_le_self _ _) (by omega)), hD]
            have hor := or128 D hD'
            have HD := Lib.hid hD
            clear hD
            by_cases hm : N / 128 ^ (6 - (2 + 1)) = 0
            · obtain ⟨f1, f0⟩ := front_none (k := 2) (by omega) hm
              have hD0 : D = 0 := by rw [HD.out, hm]
              subst hD0
              have F1 := Lib.hid f1
              rw [f0] at hown
              clear f1 f0 hm hor
              obtain ⟨A, c, rfl⟩ := hown.shape
              simp only [List.length_nil] at *
              have HO := Lib.hid hown
              have HB := Lib.hid hbel
              clear hown hbel
              go_wp2
              go_roundw
              case rel => exact ⟨3, by omega, by go_num, by rw [F1.out]; exact HO.out, HB.out⟩
              case measure => simp [intOf]
            · have fs := front_step (k := 2) hN (by omega) hm
              rw [← HD.out] at fs
              have hl : D = 0 → 0 < (front N 2).length := fun h => front_ne (by omega) hm (by rw [← HD.out]; exact h)
              have hll : (front N 2).length ≤ 6 := by unfold front; rw [List.length_map]; exact digs_length_le _ _
              obtain ⟨L, hL⟩ : ∃ L, L = front N 2 := ⟨_, rfl⟩
              rw [← hL] at fs hl hll hown
              have FS := Lib.hid fs
              clear fs hm hL
              have hsz := hbel.size
              have HO := Lib.hid hown
              have HB := Lib.hid hbel
              obtain ⟨A, c, rfl⟩ := hown.shape
              clear hown hbel
              by_cases hD0 : D = 0
              · subst hD0
                have hl' : (0 : Int) < (L.length : Int) := by have := hl rfl; omega
                clear hl
                go_wp2_with (at_builtin; refine wpList_append_ow rfl (.tmp 29) (.tmp 32) rfl (B := w.heap.size) (l := L) (m := [hi 0]) (HO.out.alloc _) (src_rd (Rd.one (congrArg (Value.int .u8) (or128 0 (by omega))))) (by simp; omega) (by simp; omega) ?_; intro v' w1 hown1 hgrow1 _)
                go_wp2
                go_roundw
                case rel => exact ⟨3, by omega, by go_num, by rw [FS.out]; exact hown1, grown_own (HB.out.alloc hsz _) (HO.out.alloc _) hgrow1 (by simp; omega)⟩
                case measure => simp [intOf]
              · have hDp : (0 : Int) < (D : Int) := by omega
                clear hl
                go_wp2_with (at_builtin; refine wpList_append_ow rfl (.tmp 29) (.tmp 32) rfl (B := w.heap.size) (l := L) (m := [hi D]) (HO.out.alloc _) (src_rd (Rd.one rfl)) (by simp; omega) (by simp; omega) ?_; intro v' w1 hown1 hgrow1 _)
                go_wp2
                go_roundw
                case rel => exact ⟨3, by omega, by go_num, by rw [FS.out]; exact hown1, grown_own (HB.out.alloc hsz _) (HO.out.alloc _) hgrow1 (by simp; omega)⟩
                case measure => simp [intOf]
          · obtain ⟨D, hD⟩ : ∃ D, D = N / 128 ^ (6 - (3 + 1)) % 128 := ⟨_, rfl⟩
            have hD' : D < 128 := by omega
            have hd : bits BinOp.and IntKind.i64 ((N : Int) / 16384) 127 = (D : Int) := by
              rw [show (N : Int) / 16384 = ((N / 128 ^ (6 - (3 + 1)) : Nat) : Int) by simp, and127 _ (Nat.lt_of_le_of_lt (Nat.div_le_self _ _) (by omega)), hD]
            have hor := or128 D hD'
            have HD := Lib.hid hD
            clear hD
            by_cases hm : N / 128 ^ (6 - (3 + 1)) = 0
            · obtain ⟨f1, f0⟩ := front_none (k := 3) (by omega) hm
              have hD0 : D = 0 := by rw [HD.out, hm]
              subst hD0
              have F1 := Lib.hid f1
              rw [f0] at hown
              clear f1 f0 hm hor
              obtain ⟨A, c, rfl⟩ := hown.shape
              simp only [List.length_nil] at *
              have HO := Lib.hid hown
              have HB := Lib.hid hbel
              clear hown hbel
              go_wp2
              go_roundw
              case rel => exact ⟨4, by omega, by go_num, by rw [F1.out]; exact HO.out, HB.out⟩
              case measure => simp [intOf]
            · have fs := front_step (k := 3) hN (by omega) hm
              rw [← HD.out] at fs
              have hl : D = 0 → 0 < (front N 3).length := fun h => front_ne (by omega) hm (by rw [← HD.out]; exact h)
              have hll : (front N 3).length ≤ 6 := by unfold front; rw [List.length_map]; exact digs_length_le _ _
              obtain ⟨L, hL⟩ : ∃ L, L = front N 3 := ⟨_, rfl⟩
              rw [← hL] at fs hl hll hown
              have FS := Lib.hid fs
              clear fs hm hL
              have hsz := hbel.size
              have HO := Lib.hid hown
              have HB := Lib.hid hbel
              obtain ⟨A, c, rfl⟩ := hown.shape
              clear hown hbel
              by_cases hD0 : D = 0
              · subst hD0
                have hl' : (0 : Int) < (L.length : Int) := by have := hl rfl; omega
                clear hl
                go_wp2_with (at_builtin; refine wpList_append_ow rfl (.tmp 29) (.tmp 32) rfl (B := w.heap.size) (l := L) (m := [hi 0]) (HO.out.alloc _) (src_rd (Rd.one (congrArg (Value.int .u8) (or128 0 (by omega))))) (by simp; omega) (by simp; omega) ?_; intro v' w1 hown1 hgrow1 _)
                go_wp2
                go_roundw
                case rel => exact ⟨4, by omega, by go_num, by rw [FS.out]; exact hown1, grown_own (HB.out.alloc hsz _) (HO.out.alloc _) hgrow1 (by simp; omega)⟩
                case measure => simp [intOf]
              · have hDp : (0 : Int) < (D : Int) := by omega
                clear hl
                go_wp2_with (at_builtin; refine wpList_append_ow rfl (.tmp 29) (.tmp 32) rfl (B := w.heap.size) (l := L) (m := [hi D]) (HO.out.alloc _) (src_rd (Rd.one rfl)) (by simp; omega) (by simp; omega) ?_; intro v' w1 hown1 hgrow1 _)
                go_wp2
                go_roundw
                case rel => exact ⟨4, by omega, by go_num, by rw [FS.out]; exact hown1, grown_own (HB.out.alloc hsz _) (HO.out.alloc _) hgrow1 (by simp; omega)⟩
                case measure => simp [intOf]
          · obtain ⟨D, hD⟩ : ∃ D, D = N / 128 ^ (6 - (4 + 1)) % 128 := ⟨_, rfl⟩
            have hD' : D < 128 := by omega
            have hd : bits BinOp.and IntKind.i64 ((N : Int) / 128) 127 = (D : Int) := by
              rw [show (N : Int) / 128 = ((N / 128 ^ (6 - (4 + 1)) : Nat) : Int) by simp, and127 _ (Nat.lt_of_le_of_lt (Nat.div_le_self _ _) (by omega)), hD]
            have hor := or128 D hD'
            have HD := Lib.hid hD
            clear hD
            by_cases hm : N / 128 ^ (6 - (4 + 1)) = 0
            · obtain ⟨f1, f0⟩ := front_none (k := 4) (by omega) hm
              have hD0 : D = 0 := by rw [HD.out, hm]
              subst hD0
              have F1 := Lib.hid f1
              rw [f0] at hown
              clear f1 f0 hm hor
              obtain ⟨A, c, rfl⟩ := hown.shape
              simp only [List.length_nil] at *
              have HO := Lib.hid hown
              have HB := Lib.hid hbel
              clear hown hbel
              go_wp2
              go_roundw
              case rel => exact ⟨5, by omega, by go_num, by rw [F1.out]; exact HO.out, HB.out⟩
              case measure => simp [intOf]
            · have fs := front_step (k := 4) hN (by omega) hm
              rw [← HD.out] at fs
              have hl : D = 0 → 0 < (front N 4).length := fun h => front_ne (by omega) hm (by rw [← HD.out]; exact h)
              have hll : (front N 4).length ≤ 6 := by unfold front; rw [List.length_map]; exact digs_length_le _ _
              obtain ⟨L, hL⟩ : ∃ L, L = front N 4 := ⟨_, rfl⟩
              rw [← hL] at fs hl hll hown
              have FS := Lib.hid fs
              clear fs hm hL
              have hsz := hbel.size
              have HO := Lib.hid hown
              have HB := Lib.hid hbel
              obtain ⟨A, c, rfl⟩ := hown.shape
              clear hown hbel
              by_cases hD0 : D = 0
              · subst hD0
                have hl' : (0 : Int) < (L.length : Int) := by have := hl rfl; omega
                clear hl
                go_wp2_with (at_builtin; refine wpList_append_ow rfl (.tmp 29) (.tmp 32) rfl (B := w.heap.size) (l := L) (m := [hi 0]) (HO.out.alloc _) (src_rd (Rd.one (congrArg (Value.int .u8) (or128 0 (by omega))))) (by simp; omega) (by simp; omega) ?_; intro v' w1 hown1 hgrow1 _)
                go_wp2
                go_roundw
                case rel => exact ⟨5, by omega, by go_num, by rw [FS.out]; exact hown1, grown_own (HB.out.alloc hsz _) (HO.out.alloc _) hgrow1 (by simp; omega)⟩
                case measure => simp [intOf]
              · have hDp : (0 : Int) < (D : Int) := by omega
                clear hl
                go_wp2_with (at_builtin; refine wpList_append_ow rfl (.tmp 29) (.tmp 32) rfl (B := w.heap.size) (l := L) (m := [hi D]) (HO.out.alloc _) (src_rd (Rd.one rfl)) (by simp; omega) (by simp; omega) ?_; intro v' w1 hown1 hgrow1 _)
                go_wp2
                go_roundw
                case rel => exact ⟨5, by omega, by go_num, by rw [FS.out]; exact hown1, grown_own (HB.out.alloc hsz _) (HO.out.alloc _) hgrow1 (by simp; omega)⟩
                case measure => simp [intOf]
          · obtain ⟨D, hD⟩ : ∃ D, D = N / 128 ^ (6 - (5 + 1)) % 128 := ⟨_, rfl⟩
            have hD' : D < 128 := by omega
            have hd : bits BinOp.and IntKind.i64 ((N : Int)) 127 = (D : Int) := by
              rw [show (N : Int) = ((N / 128 ^ (6 - (5 + 1)) : Nat) : Int) by simp, and127 _ (Nat.lt_of_le_of_lt (Nat.div_le_self _ _) (by omega)), hD]
            have hor := or128 D hD'
            have HD := Lib.hid hD
            clear hD
            by_cases hm : N / 128 ^ (6 - (5 + 1)) = 0
            · obtain ⟨f1, f0⟩ := front_none (k := 5) (by omega) hm
              have hD0 : D = 0 := by rw [HD.out, hm]
              subst hD0
              have F1 := Lib.hid f1
              rw [f0] at hown
              clear f1 f0 hm hor
              obtain ⟨A, c, rfl⟩ := hown.shape
              simp only [List.length_nil] at *
              have HO := Lib.hid hown
              have HB := Lib.hid hbel
              clear hown hbel
              go_wp2
              go_roundw
              case rel => exact ⟨6, by omega, by go_num, by rw [F1.out]; exact HO.out, HB.out⟩
              case measure => simp [intOf]
            · have fs := front_step (k := 5) hN (by omega) hm
              rw [← HD.out] at fs
              have hl : D = 0 → 0 < (front N 5).length := fun h => front_ne (by omega) hm (by rw [← HD.out]; exact h)
              have hll : (front N 5).length ≤ 6 := by unfold front; rw [List.length_map]; exact digs_length_le _ _
              obtain ⟨L, hL⟩ : ∃ L, L = front N 5 := ⟨_, rfl⟩
              rw [← hL] at fs hl hll hown
              have FS := Lib.hid fs
              clear fs hm hL
              have hsz := hbel.size
              have HO := Lib.hid hown
              have HB := Lib.hid hbel
              obtain ⟨A, c, rfl⟩ := hown.shape
              clear hown hbel
              by_cases hD0 : D = 0
              · subst hD0
                have hl' : (0 : Int) < (L.length : Int) := by have := hl rfl; omega
                clear hl
                go_wp2_with (at_builtin; refine wpList_append_ow rfl (.tmp 29) (.tmp 32) rfl (B := w.heap.size) (l := L) (m := [hi 0]) (HO.out.alloc _) (src_rd (Rd.one (congrArg (Value.int .u8) (or128 0 (by omega))))) (by simp; omega) (by simp; omega) ?_; intro v' w1 hown1 hgrow1 _)
                go_wp2
                go_roundw
                case rel => exact ⟨6, by omega, by go_num, by rw [FS.out]; exact hown1, grown_own (HB.out.alloc hsz _) (HO.out.alloc _) hgrow1 (by simp; omega)⟩
                case measure => simp [intOf]
              · have hDp : (0 : Int) < (D : Int) := by omega
                clear hl
                go_wp2_with (at_builtin; refine wpList_append_ow rfl (.tmp 29) (.tmp 32) rfl (B := w.heap.size) (l := L) (m := [hi D]) (HO.out.alloc _) (src_rd (Rd.one rfl)) (by simp; omega) (by simp; omega) ?_; intro v' w1 hown1 hgrow1 _)
                go_wp2
                go_roundw
                case rel => exact ⟨6, by omega, by go_num, by rw [FS.out]; exact hown1, grown_own (HB.out.alloc hsz _) (HO.out.alloc _) hgrow1 (by simp; omega)⟩
                case measure => simp [intOf]
        · obtain rfl : k = 6 := by omega
          by_cases hN0 : N = 0
          · subst hN0
            rw [front_zero] at hown
            obtain ⟨A, c, rfl⟩ := hown.shape
            simp only [List.length_nil] at *
            have hsz := hbel.size
            clear hown
            have HB := Lib.hid hbel
            clear hbel
            go_wp2
            go_ret
            exact RetOw.mk (Ow.lit wr _ [0] hsz (by simp [maxLen]) rfl) (HB.out.alloc hsz _)
          · have hfe := front_end hN hN0
            obtain ⟨m, hm⟩ : ∃ m, m = ((digs 6 (N / 128)).map hi).length := ⟨_, rfl⟩
            obtain ⟨L, hL⟩ : ∃ L, L = front N 6 := ⟨_, rfl⟩
            rw [← hL] at hfe hown
            have hLm : L.length = m + 1 := by rw [hfe, hm]; simp
            have hm6 : m ≤ 6 := by rw [hm, List.length_map]; exact digs_length_le _ _
            obtain ⟨g, cap, hv, hBg, hgs⟩ := hown.form (by omega)
            rw [hLm] at hv
            subst hv
            have hcell := hown.cell (j := m) (by omega)
            have hfz := hown.frozen m
            have hlast : L.getD m 0 = hi (N % 128) := by rw [hfe, hm]; simp [List.getD]
            rw [hlast] at hcell
            have hst := (hown.stored m (UInt8.ofNat (N % 128)))
            have hset : L.set m (UInt8.ofNat (N % 128)) = putN N := by
              unfold putN
              rw [hfe, hm, List.set_append_right _ _ (Nat.le_refl _)]
              simp
            rw [hset] at hst
            obtain ⟨D, hD⟩ : ∃ D, D = (hi (N % 128)).toNat := ⟨_, rfl⟩
            have hDlt : D < 256 := by rw [hD]; exact (hi (N % 128)).toNat_lt
            have hand : bits BinOp.and IntKind.u8 (D : Int) 127 = ((UInt8.ofNat (N % 128)).toNat : Int) := by
              rw [u8_and127 D hDlt, hD]
              simp [hi]
              omega
            rw [← hD] at hcell
            have HS := Lib.hid hst
            have HB := Lib.hid hbel
            have hsz := hbel.size
            have hm63 : (m : Int) ≤ 6 := by omega
            have hz1 : ((m : Int) + 1 == 0) = false := by simp; omega
            clear hst hbel hset hlast hown hfe hL hLm hD hm
            go_wp2
            go_ret
            refine RetOw.mk (v := .slice (some ⟨g, 0, none⟩) (m + 1) cap) ?_ ?_
            · exact HS.out.1
            · exact HB.out.grown HS.out.2 hsz (by rintro k hk; injection hk with hk; subst hk; exact hBg)
end Go.Proofs.YtjpchjbbfbmjgaaDoor
