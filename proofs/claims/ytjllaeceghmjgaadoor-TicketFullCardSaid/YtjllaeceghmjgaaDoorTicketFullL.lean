/- TicketFull in plain lists. -/
import Derived.Test.YtjllaeceghmjgaaDoorTkGreat
import Derived.Test.YtjllaeceghmjgaaDoorTkHead
import Derived.Test.YtjllaeceghmjgaaDoorLTicketFull
namespace Go.Proofs.YtjllaeceghmjgaaDoor
set_option linter.unusedSimpArgs false
set_option linter.unusedVariables false
def tfK (key dr : Str) (i : Nat) : Tk := ((i : Int), [], [], 0, tick key ((i : Int) + 1) dr)
def tfL (key dr : Str) (m : Nat) : List Tk := (List.range m).map (tfK key dr)
theorem tfL_length (key dr : Str) (m : Nat) : (tfL key dr m).length = m := by simp [tfL]
theorem tfL_none (key dr : Str) (m : Nat) (v : Nat) (h : m ≤ v) : (tfL key dr m).any (ofV (v : Int)) = false := by
  rw [List.any_eq_false]
  intro x hx
  obtain ⟨j, hj, rfl⟩ := List.mem_map.1 hx
  rw [List.mem_range] at hj
  simp only [ofV, tfK, beq_iff_eq]
  omega
theorem tfL_some (key dr : Str) (m : Nat) (v : Nat) (h : v < m) : (tfL key dr m).any (ofV (v : Int)) = true := by
  rw [List.any_eq_true]
  exact ⟨tfK key dr v, List.mem_map.2 ⟨v, List.mem_range.2 h, rfl⟩, by simp [ofV, tfK]⟩
theorem tf_first (key dr : Str) (i : Nat) (h : i < 64) : issueL key (i : Int) (tfL key dr i) (i : Int) [] [] 0 dr = (tick key ((i : Int) + 1) dr, 0, key, ((i + 1 : Nat) : Int), tfL key dr (i + 1)) := by
  unfold issueL
  rw [tfL_none key dr i i (by omega), if_neg (by simp), if_neg (by rw [tfL_length]; omega)]
  unfold tfL
  rw [List.range_succ, List.map_append]
  rfl
theorem tf_again (key dr : Str) (c : Int) (m i : Nat) (h : i < m) : issueL key c (tfL key dr m) (i : Int) [] [] 0 dr = ([], 4, key, c, tfL key dr m) := by
  unfold issueL
  rw [tfL_some key dr m i h, if_pos rfl]
theorem tf_many (key dr : Str) (c : Int) (i : Nat) (h : 64 ≤ i) : issueL key c (tfL key dr 64) (i : Int) [] [] 0 dr = ([], 2, key, c, tfL key dr 64) := by
  unfold issueL
  rw [tfL_none key dr 64 i h, if_neg (by simp), if_pos (tfL_length key dr 64)]
theorem tf_void (key dr : Str) (c : Int) (m : Nat) (h : 0 < m) : voidL key c (tfL key dr m) 0 = (true, key, c, (tfL key dr m).eraseIdx 0) := by
  unfold voidL
  rw [find_at (i := 0) (by rw [tfL_length]; omega) (by simp) (by simp [tfL, ofV, tfK])]
theorem tf_last (key dr : Str) (m : Nat) (h0 : 0 < m) (h : m ≤ 64) : issueL key (m : Int) ((tfL key dr m).eraseIdx 0) 1000 [] [] 0 dr = (tick key ((m : Int) + 1) dr, 0, key, (m : Int) + 1, (tfL key dr m).eraseIdx 0 ++ [(1000, [], [], 0, tick key ((m : Int) + 1) dr)]) := by
  have h1 : ((tfL key dr m).eraseIdx 0).any (ofV 1000) = false := by
    have := tfL_none key dr m 1000 (by omega)
    rw [List.any_eq_false] at this ⊢
    exact fun x hx => this x (List.mem_of_mem_eraseIdx hx)
  have h2 : ((tfL key dr m).eraseIdx 0).length = m - 1 := by rw [List.length_eraseIdx_of_lt (by rw [tfL_length]; omega), tfL_length]
  unfold issueL
  rw [h1, if_neg (by simp), if_neg (by rw [h2]; omega)]
theorem tf_mod80 (m : UInt8) : IntKind.wrap .i64 (Int.tmod ((m).toNat : Int) 80) = ((m.toNat % 80 : Nat) : Int) := by
  rw [wrap64 (by have := m.toNat_lt; rw [show Int.tmod ((m.toNat : Nat) : Int) 80 = ((m.toNat % 80 : Nat) : Int) from rfl]; omega)]
  rfl
theorem tf_min (n : Nat) : (if (64 : Int) < ((n : Nat) : Int) then (64 : Int) else ((n : Nat) : Int)) = ((min n 64 : Nat) : Int) := by
  split <;> omega
theorem tf_dec2 : ∀ s : Fin 100, [toU8 (IntKind.wrap .u8 (48 + IntKind.wrap .u8 (IntKind.wrap .i64 (Int.tdiv ((s.val : Nat) : Int) 10)))), toU8 (IntKind.wrap .u8 (48 + IntKind.wrap .u8 (Int.tmod ((s.val : Nat) : Int) 10)))] = [UInt8.ofNat (48 + s.val / 10), UInt8.ofNat (48 + s.val % 10)] := by decide +kernel
theorem tf_dec1 : ∀ s : Fin 10, [toU8 (IntKind.wrap .u8 (48 + IntKind.wrap .u8 ((s.val : Nat) : Int)))] = [UInt8.ofNat (48 + s.val)] := by decide +kernel
theorem tf_big (s : Nat) (h : 10 ≤ s) (h2 : s < 100) : decL (s : Int) = [UInt8.ofNat (48 + s / 10), UInt8.ofNat (48 + s % 10)] := by
  unfold decL
  rw [if_pos (by omega), Int.toNat_natCast, dec_big (by omega), dec_small (by omega)]
  rfl
theorem tf_small (s : Nat) (h : s < 10) : decL (s : Int) = [UInt8.ofNat (48 + s)] := by
  unfold decL
  rw [if_pos (by omega), Int.toNat_natCast, dec_small h]
theorem tf_loop (key : Str) (p2 : UInt8) (dr : Str) (hk : key.length ≤ 3000) (hd : dr.length ≤ 3000) : ∀ (d i f : Nat), d = p2.toNat % 80 - i → i ≤ p2.toNat % 80 → d < f →
    L_subwaylaw15_TicketFull_l7 key p2 dr true f key ((min i 64 : Nat) : Int) (tfL key dr (min i 64)) (i : Int) = some true := by
  have hn : p2.toNat % 80 < 80 := Nat.mod_lt _ (by decide)
  intro d
  induction d with
  | zero =>
    intro i f hd' hi hf
    obtain ⟨f, rfl⟩ : ∃ g, f = g + 1 := ⟨f - 1, by omega⟩
    show L_subwaylaw15_TicketFull_b7 (L_subwaylaw15_TicketFull_l7 key p2 dr true f) key p2 dr true key ((min i 64 : Nat) : Int) (tfL key dr (min i 64)) (i : Int) = _
    unfold L_subwaylaw15_TicketFull_b7
    have hi' : i = p2.toNat % 80 := by omega
    simp only [tf_mod80, tf_min]
    rw [show decide ((i : Int) < ((p2.toNat % 80 : Nat) : Int)) = false from decide_eq_false (by omega), cond_false]
    rw [← hi']
    by_cases h0 : i = 0
    · subst h0
      rfl
    · rw [show (((i : Nat) : Int) == 0) = false from beq_eq_false_iff_ne.2 (by omega), cond_false, prog_void key _ _ _ (by rw [tfL_length]; omega), Option.bind_some, tf_void key dr _ _ (by omega)]
      simp only []
      have hl2 : ((tfL key dr (min i 64)).eraseIdx 0).length = min i 64 - 1 := by rw [List.length_eraseIdx_of_lt (by rw [tfL_length]; omega), tfL_length]
      rw [prog_issue key _ _ _ _ _ _ _ (by omega) (by omega) (by rw [hl2]; omega) (by omega), Option.bind_some, tf_last key dr _ (by omega) (by omega)]
      rw [show Nat.ble key.length 281474976710656 = true from Nat.ble_eq_true_of_le (by omega)]
      simp only [chk, Option.bind_some]
      rw [cut255 dr (by omega), Option.bind_some, Option.bind_some, ref_proof key (by omega) _ (by simp), Option.bind_some]
      have hs : ((min i 64 : Nat) : Int) + 1 = ((min i 64 + 1 : Nat) : Int) := by omega
      rw [hs, wrapn (by omega)]
      have hlen : ((tfL key dr (min i 64)).eraseIdx 0 ++ [((1000, [], [], 0, tick key ((min i 64 + 1 : Nat) : Int) dr) : Tk)]).length = min i 64 := by rw [List.length_append, hl2]; simp; omega
      have key12 : ∀ (r10 : Str → Int → List Tk → Int → Option Bool) (v : Str), v = proofL key [decL ((min i 64 + 1 : Nat) : Int), dr.take 255] → L_subwaylaw15_TicketFull_k12 r10 p2 true (tick key ((min i 64 + 1 : Nat) : Int) dr, 0, key, ((min i 64 + 1 : Nat) : Int), (tfL key dr (min i 64)).eraseIdx 0 ++ [((1000, [], [], 0, tick key ((min i 64 + 1 : Nat) : Int) dr) : Tk)]) v = some true := by
        intro r10 v hv
        rw [hv]
        clear hv v
        unfold L_subwaylaw15_TicketFull_k12
        simp only [tf_mod80, tf_min]
        rw [← hi', cond_true, show ((0 : Int) == 0) = true from rfl, cond_true, cut32 (proof64 key _ dr), Option.bind_some, show (tick key ((min i 64 + 1 : Nat) : Int) dr == (proofL key [decL ((min i 64 + 1 : Nat) : Int), dr.take 255]).take 32) = true from beq_iff_eq.2 rfl, cond_true, many_ok, Option.bind_some, hlen, beq_self_eq_true]
        rfl
      by_cases h10 : min i 64 + 1 < 10
      · rw [show decide (((min i 64 + 1 : Nat) : Int) < 10) = true from decide_eq_true (by omega), cond_true, ref_proof key (by omega) _ (by simp), Option.bind_some]
        refine key12 _ _ ?_
        rw [tf_small _ h10, tf_dec1 ⟨min i 64 + 1, h10⟩]
      · rw [show decide (((min i 64 + 1 : Nat) : Int) < 10) = false from decide_eq_false (by omega), cond_false]
        refine key12 _ _ ?_
        rw [tf_big _ (by omega) (by omega), tf_dec2 ⟨min i 64 + 1, by omega⟩]
  | succ d ih =>
    intro i f hd' hi hf
    obtain ⟨f, rfl⟩ : ∃ g, f = g + 1 := ⟨f - 1, by omega⟩
    show L_subwaylaw15_TicketFull_b7 (L_subwaylaw15_TicketFull_l7 key p2 dr true f) key p2 dr true key ((min i 64 : Nat) : Int) (tfL key dr (min i 64)) (i : Int) = _
    unfold L_subwaylaw15_TicketFull_b7
    have hnext := ih (i + 1) f (by omega) (by omega) (by omega)
    rw [tf_mod80, show decide ((i : Int) < ((p2.toNat % 80 : Nat) : Int)) = true from decide_eq_true (by omega), cond_true, prog_issue key _ _ _ _ _ _ _ (by omega) (by omega) (by rw [tfL_length]; omega) (by omega), Option.bind_some]
    by_cases h64 : i < 64
    · rw [show min i 64 = i by omega, tf_first key dr i h64]
      simp only []
      rw [prog_issue key _ _ _ _ _ _ _ (by omega) (by omega) (by rw [tfL_length]; omega) (by omega), Option.bind_some, tf_again key dr _ (i + 1) i (by omega)]
      simp only []
      rw [show decide ((i : Int) < 64) = true from decide_eq_true (by omega), show (!(((0 : Int) == 0) == true)) = false from rfl, cond_false, cond_true, show ((4 : Int) != 4) = false from rfl, cond_false, show decide ((i : Int) ≥ 64) = false from decide_eq_false (by omega), cond_false]
      unfold L_subwaylaw15_TicketFull_k11
      rw [cond_false, show ((i : Int) + 1) = ((i + 1 : Nat) : Int) by omega, wrapn (by omega)]
      rw [show min (i + 1) 64 = i + 1 by omega] at hnext
      exact hnext
    · rw [show min i 64 = 64 by omega, tf_many key dr _ i (by omega)]
      simp only []
      rw [prog_issue key _ _ _ _ _ _ _ (by omega) (by omega) (by rw [tfL_length]; omega) (by omega), Option.bind_some, tf_many key dr _ i (by omega)]
      simp only []
      rw [show decide ((i : Int) < 64) = false from decide_eq_false (by omega), show (!(((2 : Int) == 0) == false)) = false from rfl, cond_false, cond_false, show decide ((i : Int) ≥ 64) = true from decide_eq_true (by omega), cond_true, show ((2 : Int) != 2) = false from rfl]
      unfold L_subwaylaw15_TicketFull_k11
      rw [cond_false, show ((i : Int) + 1) = ((i + 1 : Nat) : Int) by omega, wrapn (by omega)]
      rw [show min (i + 1) 64 = 64 by omega] at hnext
      exact hnext
theorem ticketFull_plain (key : Str) (p2 : UInt8) (dr : Str) (hk : key.length ≤ reachBytes) (hd : dr.length ≤ reachBytes) : L_subwaylaw15_TicketFull key p2 dr = some true := by
  have h47 := reach47
  unfold L_subwaylaw15_TicketFull
  rw [tkHead_true, Option.bind_some, prog_new key (by omega), Option.bind_some, wrap64 (by omega)]
  by_cases h3 : ((key.length : Nat) : Int) + ((dr.length : Nat) : Int) > 3000
  · rw [decide_eq_true h3, cond_true]
  · rw [decide_eq_false h3, cond_false]
    exact tf_loop key p2 dr (by omega) (by omega) _ 0 fuel rfl (by omega) (by unfold fuel; have := Nat.mod_lt p2.toNat (show 80 > 0 by decide); omega)
end Go.Proofs.YtjllaeceghmjgaaDoor
