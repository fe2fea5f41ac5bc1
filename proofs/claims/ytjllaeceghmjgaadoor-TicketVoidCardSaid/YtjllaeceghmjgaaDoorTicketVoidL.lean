/- TicketVoid in plain lists. -/
import Derived.Test.YtjllaeceghmjgaaDoorTkGreat
import Derived.Test.YtjllaeceghmjgaaDoorTkHead
import Derived.Test.YtjllaeceghmjgaaDoorLTicketVoid
namespace Go.Proofs.YtjllaeceghmjgaaDoor
set_option linter.unusedSimpArgs false
set_option linter.unusedVariables false
theorem count_erase_at {α β : Type} [BEq β] (l : List α) (j : Nat) (hj : j < l.length) (f : α → β) (s : β) : (l.map f).count s = (f l[j] :: (l.eraseIdx j).map f).count s := by
  have h := List.take_append_drop j l
  rw [List.drop_eq_getElem_cons hj] at h
  have e : (l.map f).count s = ((l.take j ++ l[j] :: l.drop (j + 1)).map f).count s := by rw [h]
  rw [e, List.eraseIdx_eq_take_drop_succ]
  simp only [List.map_append, List.map_cons, List.count_append, List.count_cons]
  omega
def tvT (key : Str) (i : Nat) : Str := tick key ((i : Int) + 1) [100]
def tvK (key : Str) (i : Nat) : Tk := ((i : Int), [], [97, 110, 110], 0, tvT key i)
theorem tv_issue (key : Str) (i : Nat) (h : i < 64) : issueL key (i : Int) ((List.range i).map (tvK key)) (i : Int) [] [97, 110, 110] 0 [100] = (tvT key i, 0, key, ((i + 1 : Nat) : Int), (List.range (i + 1)).map (tvK key)) := by
  unfold issueL
  have ha : ((List.range i).map (tvK key)).any (ofV (i : Int)) = false := by
    rw [List.any_eq_false]
    intro x hx
    obtain ⟨j, hj, rfl⟩ := List.mem_map.1 hx
    rw [List.mem_range] at hj
    simp only [ofV, tvK, beq_iff_eq]
    omega
  rw [ha, if_neg (by simp), if_neg (by simp; omega), List.range_succ, List.map_append]
  rfl
theorem tv_mod20 (m : UInt8) : IntKind.wrap .i64 (Int.tmod ((m).toNat : Int) 20) = ((m.toNat % 20 : Nat) : Int) := by
  rw [wrap64 (by have := m.toNat_lt; rw [show Int.tmod ((m.toNat : Nat) : Int) 20 = ((m.toNat % 20 : Nat) : Int) from rfl]; omega)]
  rfl
theorem tv_mod25 (m : UInt8) : IntKind.wrap .i64 (Int.tmod ((m).toNat : Int) 25) = ((m.toNat % 25 : Nat) : Int) := by
  rw [wrap64 (by have := m.toNat_lt; rw [show Int.tmod ((m.toNat : Nat) : Int) 25 = ((m.toNat % 25 : Nat) : Int) from rfl]; omega)]
  rfl
/-- what is left of the tickets after the visitor's is void -/
def tvB (key : Str) (n k : Nat) : List Tk := if k < n then ((List.range n).map (tvK key)).eraseIdx k else (List.range n).map (tvK key)
theorem tvB_mem {key : Str} {n k : Nat} {x : Tk} (h : x ∈ tvB key n k) : x.2.2.1 = [97, 110, 110] ∧ x.1 ≠ (k : Int) := by
  unfold tvB at h
  split at h
  · obtain ⟨i, hi, hne, rfl⟩ := List.mem_eraseIdx_iff_getElem.1 h
    rw [List.getElem_map, List.getElem_range]
    refine ⟨rfl, ?_⟩
    simp only [tvK]
    omega
  · obtain ⟨j, hj, rfl⟩ := List.mem_map.1 h
    rw [List.mem_range] at hj
    refine ⟨rfl, ?_⟩
    simp only [tvK]
    omega
theorem tvB_none (key : Str) (n k : Nat) : (tvB key n k).any (ofV (k : Int)) = false := by
  rw [List.any_eq_false]
  intro x hx
  simp only [ofV, beq_iff_eq]
  exact (tvB_mem hx).2
theorem tvB_length (key : Str) (n k : Nat) : (tvB key n k).length = if k < n then n - 1 else n := by
  unfold tvB
  split
  · rw [List.length_eraseIdx]
    simp [*]
  · simp
theorem tvB_count (key : Str) (n k : Nat) (s : Str) : ((tvB key n k).map fun x => x.2.2.2.2).count s ≤ ((List.range n).map (tvT key)).count s := by
  have e : (List.range n).map (tvT key) = ((List.range n).map (tvK key)).map fun x => x.2.2.2.2 := by
    rw [List.map_map]
    simp only [Function.comp_def, tvK]
  rw [e]
  unfold tvB
  split
  · exact ((List.eraseIdx_sublist _ _).map _).count_le _
  · exact Nat.le_refl _
theorem tv_void1 (key : Str) (c : Int) (n k : Nat) : voidL key c ((List.range n).map (tvK key)) (k : Int) = (decide (k < n), key, c, tvB key n k) := by
  unfold voidL tvB
  by_cases h : k < n
  · have hf : ((List.range n).map (tvK key)).findIdx? (ofV (k : Int)) = some k := by
      refine find_at (by simpa using h) ?_ ?_
      · rw [List.any_eq_false]
        intro x hx
        rw [List.mem_take_iff_getElem] at hx
        obtain ⟨j, hj, rfl⟩ := hx
        rw [List.getElem_map, List.getElem_range]
        simp only [ofV, tvK, beq_iff_eq]
        omega
      · rw [List.getElem_map, List.getElem_range]
        simp [ofV, tvK]
    rw [hf]
    simp [h]
  · have hf : ((List.range n).map (tvK key)).findIdx? (ofV (k : Int)) = none := by
      apply find_nil
      rw [List.any_eq_false]
      intro x hx
      obtain ⟨j, hj, rfl⟩ := List.mem_map.1 hx
      rw [List.mem_range] at hj
      simp only [ofV, tvK, beq_iff_eq]
      omega
    rw [hf]
    simp [h]
theorem tv_void2 (key : Str) (c : Int) (n k : Nat) : voidL key c (tvB key n k) (k : Int) = (false, key, c, tvB key n k) := by
  unfold voidL
  rw [find_nil (tvB_none key n k)]
abbrev TvR5 := Str → Int → List Tk → List Str → Int → Option Bool
/-- the tickets come back -/
theorem tv_back (key : Str) (c : Int) (r55 : TvR5) (p2 p3 : UInt8) (told : List Str) (ht : told.length = p2.toNat % 20) :
    ∀ (d i f : Nat) (l : List Tk) (g : Nat), d = told.length - i → i ≤ told.length → d < f → (∀ x ∈ l, x.2.2.1 = [97, 110, 110] ∧ x.1 ≠ ((p3.toNat % 25 : Nat) : Int)) → l.length ≤ 1000 → g ≤ i →
      (∀ s, (l.map fun x => x.2.2.2.2).count s ≤ (told.drop i).count s) → g + l.length = (if p3.toNat % 25 < p2.toNat % 20 then p2.toNat % 20 - 1 else p2.toNat % 20) →
      L_subwaylaw15_TicketVoid_l65 r55 p2 p3 true told f key c l (g : Int) (i : Int) = some true := by
  have hn : p2.toNat % 20 < 20 := Nat.mod_lt _ (by decide)
  have hk : p3.toNat % 25 < 25 := Nat.mod_lt _ (by decide)
  intro d
  induction d with
  | zero =>
    intro i f l g hd hi hf hm hl hg hc hs
    obtain ⟨f, rfl⟩ : ∃ g, f = g + 1 := ⟨f - 1, by omega⟩
    show L_subwaylaw15_TicketVoid_b65 r55 (L_subwaylaw15_TicketVoid_l65 r55 p2 p3 true told f) p2 p3 true told key c l (g : Int) (i : Int) = _
    unfold L_subwaylaw15_TicketVoid_b65
    have hl0 : l = [] := by
      cases l with
      | nil => rfl
      | cons x l =>
        have h1 := hc x.2.2.2.2
        rw [List.drop_of_length_le (by omega), List.map_cons, List.count_cons_self] at h1
        simp at h1
    subst hl0
    rw [tv_mod20, tv_mod25, show decide ((i : Int) < ((p2.toNat % 20 : Nat) : Int)) = false from decide_eq_false (by omega), cond_false]
    simp only [List.length_nil, Nat.add_zero] at hs
    unfold L_subwaylaw15_TicketVoid_k72
    by_cases hkn : p3.toNat % 25 < p2.toNat % 20
    · rw [if_pos hkn] at hs
      rw [show decide (((p3.toNat % 25 : Nat) : Int) < ((p2.toNat % 20 : Nat) : Int)) = true from decide_eq_true (by omega), cond_true, cond_true, wrap64 (by omega), show ((g : Int) == ((p2.toNat % 20 : Nat) : Int) - 1) = true from beq_iff_eq.2 (by omega), cond_true, many_ok, Option.bind_some]
      rfl
    · rw [if_neg hkn] at hs
      rw [show decide (((p3.toNat % 25 : Nat) : Int) < ((p2.toNat % 20 : Nat) : Int)) = false from decide_eq_false (by omega), cond_false, cond_true, show ((g : Int) == ((p2.toNat % 20 : Nat) : Int)) = true from beq_iff_eq.2 (by omega), cond_true, many_ok, Option.bind_some]
      rfl
  | succ d ih =>
    intro i f l g hd hi hf hm hl hg hc hs
    obtain ⟨f, rfl⟩ : ∃ g, f = g + 1 := ⟨f - 1, by omega⟩
    show L_subwaylaw15_TicketVoid_b65 r55 (L_subwaylaw15_TicketVoid_l65 r55 p2 p3 true told f) p2 p3 true told key c l (g : Int) (i : Int) = _
    unfold L_subwaylaw15_TicketVoid_b65
    have hlt : i < told.length := by omega
    rw [tv_mod20, tv_mod25, show decide ((i : Int) < ((p2.toNat % 20 : Nat) : Int)) = true from decide_eq_true (by omega), cond_true, idx_get hlt, Option.bind_some, prog_redeem key c l _ _ (by omega), Option.bind_some]
    unfold redeemL
    have hdrop : told.drop i = told[i] :: told.drop (i + 1) := List.drop_eq_getElem_cons hlt
    rw [hdrop] at hc
    cases hfi : l.findIdx? (ofT told[i]) with
    | none =>
      simp only []
      rw [show ((151 : Int) == 0) = false by decide, cond_false]
      unfold L_subwaylaw15_TicketVoid_k70 L_subwaylaw15_TicketVoid_k71
      simp only []
      rw [show ((151 : Int) == 0) = false by decide, cond_false, cond_false, show ((i : Int) + 1) = ((i + 1 : Nat) : Int) by omega, wrapn (by omega)]
      refine ih (i + 1) f l g (by omega) (by omega) (by omega) hm hl (by omega) (fun s => ?_) hs
      have h1 := hc s
      rw [List.count_cons] at h1
      by_cases he : told[i] = s
      · subst he
        have h0 : (l.map fun x => x.2.2.2.2).count told[i] = 0 := by
          rw [List.count_eq_zero]
          intro hx
          obtain ⟨x, hx, hxe⟩ := List.mem_map.1 hx
          rw [List.findIdx?_eq_none_iff] at hfi
          have := hfi x hx
          simp only [ofT, beq_eq_false_iff_ne] at this
          exact this hxe
        omega
      · rw [show (told[i] == s) = false from beq_eq_false_iff_ne.2 he] at h1
        simpa using h1
    | some j =>
      obtain ⟨hj, hjt, -⟩ := List.findIdx?_eq_some_iff_getElem.1 hfi
      have hgd : l.getD j dTk = l[j] := by simp [List.getD, hj]
      obtain ⟨m1, m2⟩ := hm l[j] (List.getElem_mem hj)
      simp only [hgd]
      rw [if_pos m1]
      simp only []
      rw [show ((0 : Int) == 0) = true from rfl, cond_true]
      unfold L_subwaylaw15_TicketVoid_k70 L_subwaylaw15_TicketVoid_k71
      simp only []
      rw [show ((0 : Int) == 0) = true from rfl, cond_true, tv_mod25, show (l[j].1 == ((p3.toNat % 25 : Nat) : Int)) = false from beq_eq_false_iff_ne.2 m2, cond_false, show ((i : Int) + 1) = ((i + 1 : Nat) : Int) by omega, wrapn (by omega), show ((g : Int) + 1) = ((g + 1 : Nat) : Int) by omega, wrapn (by omega)]
      have hle : (l.eraseIdx j).length = l.length - 1 := List.length_eraseIdx_of_lt hj
      refine ih (i + 1) f (l.eraseIdx j) (g + 1) (by omega) (by omega) (by omega) (fun x hx => hm x (List.mem_of_mem_eraseIdx hx)) (by omega) (by omega) (fun s => ?_) (by rw [hle]; omega)
      have h1 := hc s
      have h2 : (l.map fun x => x.2.2.2.2).count s = (l[j].2.2.2.2 :: ((l.eraseIdx j).map fun x => x.2.2.2.2)).count s := count_erase_at l j hj (fun x => x.2.2.2.2) s
      have h3 : l[j].2.2.2.2 = told[i] := by simpa [ofT] using hjt
      rw [h2, h3, List.count_cons, List.count_cons] at h1
      omega
theorem tv_loop (key : Str) (p2 p3 : UInt8) (hk : key.length ≤ 3000) : ∀ (d i f : Nat), d = p2.toNat % 20 - i → i ≤ p2.toNat % 20 → d < f →
    L_subwaylaw15_TicketVoid_l37 p2 p3 true f key (i : Int) ((List.range i).map (tvK key)) ((List.range i).map (tvT key)) (i : Int) = some true := by
  have hn : p2.toNat % 20 < 20 := Nat.mod_lt _ (by decide)
  intro d
  induction d with
  | zero =>
    intro i f hd hi hf
    obtain ⟨f, rfl⟩ : ∃ g, f = g + 1 := ⟨f - 1, by omega⟩
    show L_subwaylaw15_TicketVoid_b37 (L_subwaylaw15_TicketVoid_l37 p2 p3 true f) p2 p3 true key (i : Int) ((List.range i).map (tvK key)) ((List.range i).map (tvT key)) (i : Int) = _
    unfold L_subwaylaw15_TicketVoid_b37
    have hi' : i = p2.toNat % 20 := by omega
    rw [tv_mod20, tv_mod25, show decide ((i : Int) < ((p2.toNat % 20 : Nat) : Int)) = false from decide_eq_false (by omega), cond_false, prog_void key _ _ _ (by simp; omega), Option.bind_some, tv_void1]
    simp only []
    have hbl := tvB_length key i (p3.toNat % 25)
    rw [prog_void key _ _ _ (by rw [hbl]; split <;> omega), Option.bind_some, tv_void2]
    simp only []
    rw [show (!(decide (p3.toNat % 25 < i) == decide (((p3.toNat % 25 : Nat) : Int) < ((p2.toNat % 20 : Nat) : Int)))) = false by
      rw [hi']
      by_cases h : p3.toNat % 25 < p2.toNat % 20
      · rw [decide_eq_true h, decide_eq_true (by omega)]; rfl
      · rw [decide_eq_false h, decide_eq_false (by omega)]; rfl, cond_false]
    unfold L_subwaylaw15_TicketVoid_k56
    rw [cond_false]
    have := tv_back key (i : Int) (L_subwaylaw15_TicketVoid_l37 p2 p3 true f) p2 p3 ((List.range i).map (tvT key)) (by simp; omega) _ 0 fuel (tvB key i (p3.toNat % 25)) 0 rfl (by omega) (by simp; unfold fuel; omega) (fun x hx => tvB_mem hx) (by rw [hbl]; split <;> omega) (by omega)
      (fun s => by rw [List.drop_zero]; exact tvB_count key i _ s) (by rw [hbl, ← hi', Nat.zero_add])
    exact this
  | succ d ih =>
    intro i f hd hi hf
    obtain ⟨f, rfl⟩ : ∃ g, f = g + 1 := ⟨f - 1, by omega⟩
    show L_subwaylaw15_TicketVoid_b37 (L_subwaylaw15_TicketVoid_l37 p2 p3 true f) p2 p3 true key (i : Int) ((List.range i).map (tvK key)) ((List.range i).map (tvT key)) (i : Int) = _
    unfold L_subwaylaw15_TicketVoid_b37
    rw [tv_mod20, tv_mod25, show decide ((i : Int) < ((p2.toNat % 20 : Nat) : Int)) = true from decide_eq_true (by omega), cond_true, prog_issue key _ _ _ _ _ _ _ (by omega) (by omega) (by simp; omega) (by simp), Option.bind_some, tv_issue key i (by omega)]
    simp only []
    rw [show ((0 : Int) != 0) = false from rfl, cond_false, app_ok (by simp; omega), Option.bind_some, show ((i : Int) + 1) = ((i + 1 : Nat) : Int) by omega, wrapn (by omega)]
    have := ih (i + 1) f (by omega) (by omega) (by omega)
    rw [show (List.range (i + 1)).map (tvT key) = (List.range i).map (tvT key) ++ [tvT key i] by rw [List.range_succ, List.map_append]; rfl] at this
    exact this
theorem ticketVoid_plain (key : Str) (p2 p3 : UInt8) (hk : key.length ≤ reachBytes) : L_subwaylaw15_TicketVoid key p2 p3 = some true := by
  have h47 := reach47
  unfold L_subwaylaw15_TicketVoid
  rw [tkHead_true, Option.bind_some, prog_new key (by omega), Option.bind_some]
  by_cases h3 : ((key.length : Nat) : Int) > 3000
  · rw [decide_eq_true h3, cond_true]
  · rw [decide_eq_false h3, cond_false]
    exact tv_loop key p2 p3 (by omega) _ 0 fuel rfl (by omega) (by unfold fuel; have := Nat.mod_lt p2.toNat (show 20 > 0 by decide); omega)
end Go.Proofs.YtjllaeceghmjgaaDoor
