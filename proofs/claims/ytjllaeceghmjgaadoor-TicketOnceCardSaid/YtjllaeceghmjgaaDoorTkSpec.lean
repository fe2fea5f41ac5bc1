/- What a book of tickets does, of the program and of the document, in plain lists. -/
import Derived.Test.YtjllaeceghmjgaaDoorLTB
import Derived.Test.YtjllaeceghmjgaaDoorShaF
import Derived.Test.YtjllaeceghmjgaaDoorSpecDec
namespace Go.Proofs.YtjllaeceghmjgaaDoor
set_option linter.unusedSimpArgs false
set_option linter.unusedVariables false
abbrev Str := List UInt8
abbrev Tk := Int × Str × Str × Int × Str
abbrev Rk := Str × Int × Str × Str × Int
def fI {α : Type} (P : α → Bool) (l : List α) : Int := match l.findIdx? P with | some i => (i : Int) | none => -1
theorem idx_loop (l : List Tk) (P : Tk → Bool) (p5 : Int → Str → Str → Int → Str → Option Bool) (hp : ∀ x : Tk, p5 x.1 x.2.1 x.2.2.1 x.2.2.2.1 x.2.2.2.2 = some (P x)) (hl : l.length ≤ 1000000) :
    ∀ (d i f : Nat), d = l.length - i → i ≤ l.length → d < f → L_slices_IndexFunc_ticket_ticket_ticket_ticket_l1 l p5 f (i : Int) = some (match (l.drop i).findIdx? P with | some j => ((i + j : Nat) : Int) | none => -1) := by
  intro d
  induction d with
  | zero =>
    intro i f hd hi hf
    obtain ⟨f, rfl⟩ : ∃ g, f = g + 1 := ⟨f - 1, by omega⟩
    show L_slices_IndexFunc_ticket_ticket_ticket_ticket_b1 (L_slices_IndexFunc_ticket_ticket_ticket_ticket_l1 l p5 f) l p5 (i : Int) = _
    unfold L_slices_IndexFunc_ticket_ticket_ticket_ticket_b1
    rw [show decide ((i : Int) < ((l.length : Nat) : Int)) = false from decide_eq_false (by omega), cond_false, List.drop_of_length_le (by omega)]
    rfl
  | succ d ih =>
    intro i f hd hi hf
    obtain ⟨f, rfl⟩ : ∃ g, f = g + 1 := ⟨f - 1, by omega⟩
    show L_slices_IndexFunc_ticket_ticket_ticket_ticket_b1 (L_slices_IndexFunc_ticket_ticket_ticket_ticket_l1 l p5 f) l p5 (i : Int) = _
    unfold L_slices_IndexFunc_ticket_ticket_ticket_ticket_b1
    rw [show decide ((i : Int) < ((l.length : Nat) : Int)) = true from decide_eq_true (by omega), cond_true, idx_get (by omega), Option.bind_some, hp, Option.bind_some, List.drop_eq_getElem_cons (by omega), List.findIdx?_cons]
    cases hP : P l[i] with
    | true => rw [cond_true]; rfl
    | false =>
      rw [cond_false, show ((i : Int) + 1) = ((i + 1 : Nat) : Int) by omega, wrapn (by omega), ih (i + 1) f (by omega) (by omega) (by omega)]
      simp only [Bool.false_eq_true, if_false]
      cases (l.drop (i + 1)).findIdx? P with
      | none => rfl
      | some j => simp only [Option.map_some]; congr 2; omega
theorem index_ok (l : List Tk) (P : Tk → Bool) (p5 : Int → Str → Str → Int → Str → Option Bool) (hp : ∀ x : Tk, p5 x.1 x.2.1 x.2.2.1 x.2.2.2.1 x.2.2.2.2 = some (P x)) (hl : l.length ≤ 1000000) :
    L_slices_IndexFunc_ticket_ticket_ticket_ticket l p5 = some (fI P l) := by
  have := idx_loop l P p5 hp hl l.length 0 fuel (by omega) (by omega) (by unfold fuel; omega)
  unfold L_slices_IndexFunc_ticket_ticket_ticket_ticket fI
  rw [show ((0 : Nat) : Int) = 0 from rfl] at this
  rw [this, List.drop_zero]
  cases l.findIdx? P with
  | none => rfl
  | some j => simp only [Nat.zero_add]
def ofV (v : Int) (x : Tk) : Bool := x.1 == v
def ofT (s : Str) (x : Tk) : Bool := x.2.2.2.2 == s
theorem of_ok (key : Str) (n : Int) (l : List Tk) (v : Int) (hl : l.length ≤ 1000000) : L_ticket_Book_of key n l v = some (fI (ofV v) l) := by
  unfold L_ticket_Book_of
  rw [index_ok l (ofV v) _ (fun x => rfl) hl]
  rfl
def tick (key : Str) (n : Int) (dr : Str) : Str := (proofL key [decL n, dr.take 255]).take 32
theorem dec_short {n : Int} : (decL n).length ≤ 255 := by
  unfold decL
  split
  · have := dec_len13 (n := n.toNat) (by unfold maxNum; omega)
    omega
  · simp
theorem tick_length (key : Str) (n : Int) (dr : Str) : (tick key n dr).length = 32 := by
  unfold tick
  rw [List.length_take, proofL_length]
  · omega
  · intro w hw
    simp only [List.mem_cons, List.not_mem_nil, or_false] at hw
    rcases hw with rfl | rfl
    · exact dec_short
    · rw [List.length_take]; omega
theorem cut255 (s : Str) (h : s.length ≤ 1000000) : sub s 0 (if 255 < ((s.length : Nat) : Int) then 255 else ((s.length : Nat) : Int)) = some (s.take 255) := by
  by_cases h2 : 255 < ((s.length : Nat) : Int)
  · rw [if_pos h2]
    have := sub_nat s (i := 0) (j := 255) (by omega) (by omega)
    rw [show ((0 : Nat) : Int) = 0 from rfl, show ((255 : Nat) : Int) = 255 from rfl, List.drop_zero] at this
    exact this
  · rw [if_neg h2]
    have := sub_nat s (i := 0) (j := s.length) (by omega) (by omega)
    rw [show ((0 : Nat) : Int) = 0 from rfl, List.drop_zero] at this
    rw [this, List.take_of_length_le (Nat.le_refl _), List.take_of_length_le (by omega)]
theorem cut32 {s : Str} (h : s.length = 64) : sub s 0 32 = some (s.take 32) := by
  have := sub_nat s (i := 0) (j := 32) (by omega) (by omega)
  rw [show ((0 : Nat) : Int) = 0 from rfl, show ((32 : Nat) : Int) = 32 from rfl, List.drop_zero] at this
  exact this
theorem proof64 (key : Str) (n : Int) (dr : Str) : (proofL key [decL n, dr.take 255]).length = 64 := by
  rw [proofL_length]
  intro w hw
  simp only [List.mem_cons, List.not_mem_nil, or_false] at hw
  rcases hw with rfl | rfl
  · exact dec_short
  · rw [List.length_take]; omega
def issueL (key : Str) (n : Int) (l : List Tk) (v : Int) (nm tn : Str) (ep : Int) (dr : Str) : Str × Int × Str × Int × List Tk :=
  if l.any (ofV v) then ([], 4, key, n, l) else if l.length = 64 then ([], 2, key, n, l) else (tick key (n + 1) dr, 0, key, n + 1, l ++ [(v, nm, tn, ep, tick key (n + 1) dr)])
theorem fI_none {α : Type} {P : α → Bool} {l : List α} (h : l.any P = false) : fI P l = -1 := by
  unfold fI
  have : l.findIdx? P = none := by
    rw [List.findIdx?_eq_none_iff]
    intro x hx
    rw [List.any_eq_false] at h
    simpa using h x hx
  rw [this]
theorem fI_some {α : Type} {P : α → Bool} {l : List α} (h : l.any P = true) : ∃ i : Nat, l.findIdx? P = some i ∧ i < l.length ∧ fI P l = (i : Int) := by
  cases hf : l.findIdx? P with
  | none =>
    rw [List.findIdx?_eq_none_iff] at hf
    rw [List.any_eq_true] at h
    obtain ⟨x, hx, hp⟩ := h
    rw [hf x hx] at hp
    cases hp
  | some i =>
    refine ⟨i, rfl, ?_, by unfold fI; rw [hf]⟩
    exact (List.findIdx?_eq_some_iff_getElem.1 hf).1
theorem prog_issue (key : Str) (n : Int) (l : List Tk) (v : Int) (nm tn : Str) (ep : Int) (dr : Str) (hk : key.length ≤ 1000000) (hn : 0 ≤ n ∧ n ≤ 1000) (hl : l.length ≤ 1000000) (hd : dr.length ≤ 1000000) :
    L_ticket_Book_Issue key n l v nm tn ep dr = some (issueL key n l v nm tn ep dr) := by
  unfold L_ticket_Book_Issue issueL
  rw [of_ok key n l v hl, Option.bind_some]
  cases ha : l.any (ofV v) with
  | true =>
    obtain ⟨i, _, _, hi⟩ := fI_some ha
    rw [hi, show decide ((i : Int) ≥ 0) = true from decide_eq_true (by omega), cond_true]
    rfl
  | false =>
    rw [fI_none ha, show decide ((-1 : Int) ≥ 0) = false by decide, cond_false]
    simp only [Bool.false_eq_true, if_false]
    by_cases h64 : l.length = 64
    · rw [if_pos h64, show ((((l.length : Nat) : Int)) == 64) = true by rw [h64]; rfl, cond_true]
    · rw [if_neg h64, show ((((l.length : Nat) : Int)) == 64) = false by simp; omega, cond_false, wrap64 (by omega), lDecimal, Option.bind_some, cut255 dr hd, Option.bind_some, prog_proof key (by omega) _ (by simp), Option.bind_some, cut32 (proof64 _ _ _), Option.bind_some, app_ok (by simp; omega), Option.bind_some]
      rfl
def dTk : Tk := (0, [], [], 0, [])
def redeemL (key : Str) (n : Int) (l : List Tk) (s tn : Str) : Int × Str × Str × Int × Int × Str × Int × List Tk :=
  match l.findIdx? (ofT s) with
  | none => (0, [], [], 0, 151, key, n, l)
  | some i => if (l.getD i dTk).2.2.1 = tn then ((l.getD i dTk).1, (l.getD i dTk).2.1, (l.getD i dTk).2.2.1, (l.getD i dTk).2.2.2.1, 0, key, n, l.eraseIdx i) else (0, [], [], 0, 131, key, n, l)
theorem erase_cut {α : Type} (l : List α) (i : Nat) (h : i < l.length) : l.take i ++ l.drop (i + 1) = l.eraseIdx i := by rw [List.eraseIdx_eq_take_drop_succ]
theorem sub_one {α : Type} (l : List α) (i : Nat) (h : i < l.length) : sub l (i : Int) ((i + 1 : Nat) : Int) = some ((l.take (i + 1)).drop i) := sub_nat l (by omega) (by omega)
theorem redeem_idx (l : List Tk) (s : Str) (hl : l.length ≤ 1000000) : L_slices_IndexFunc_ticket_ticket_ticket_ticket l (fun y0 y1 y2 y3 y4 => L_ticket_Book_Redeem_1 y0 y1 y2 y3 y4 s) = some (fI (ofT s) l) := index_ok l (ofT s) _ (fun x => rfl) hl
theorem prog_redeem (key : Str) (n : Int) (l : List Tk) (s tn : Str) (hl : l.length ≤ 1000000) : L_ticket_Book_Redeem key n l s tn = some (redeemL key n l s tn) := by
  unfold L_ticket_Book_Redeem redeemL
  rw [redeem_idx l s hl, Option.bind_some]
  unfold fI
  cases hf : l.findIdx? (ofT s) with
  | none => rfl
  | some i =>
    have hi : i < l.length := (List.findIdx?_eq_some_iff_getElem.1 hf).1
    simp only []
    rw [show decide ((i : Int) < 0) = false from decide_eq_false (by omega), cond_false, idx_getD l i dTk hi, Option.bind_some]
    by_cases ht : (l.getD i dTk).2.2.1 = tn
    · rw [if_pos ht, show (!((l.getD i dTk).2.2.1 == tn)) = false by rw [beq_iff_eq.2 ht]; rfl, cond_false, Option.bind_some, show ((i : Int) + 1) = ((i + 1 : Nat) : Int) by omega, wrapn (by omega), sub_one l i hi, Option.bind_some, Option.bind_some, Int.toNat_natCast, Int.toNat_natCast, erase_cut l i hi]
    · rw [if_neg ht, show (!((l.getD i dTk).2.2.1 == tn)) = true by rw [beq_eq_false_iff_ne.2 ht]; rfl, cond_true]
def voidL (key : Str) (n : Int) (l : List Tk) (v : Int) : Bool × Str × Int × List Tk :=
  match l.findIdx? (ofV v) with
  | none => (false, key, n, l)
  | some i => (true, key, n, l.eraseIdx i)
theorem prog_void (key : Str) (n : Int) (l : List Tk) (v : Int) (hl : l.length ≤ 1000000) : L_ticket_Book_Void key n l v = some (voidL key n l v) := by
  unfold L_ticket_Book_Void voidL
  rw [of_ok key n l v hl, Option.bind_some]
  unfold fI
  cases hf : l.findIdx? (ofV v) with
  | none => rfl
  | some i =>
    have hi : i < l.length := (List.findIdx?_eq_some_iff_getElem.1 hf).1
    simp only []
    rw [show decide ((i : Int) ≥ 0) = true from decide_eq_true (by omega), cond_true, show ((i : Int) + 1) = ((i + 1 : Nat) : Int) by omega, wrapn (by omega), sub_one l i hi, Option.bind_some, Option.bind_some, Int.toNat_natCast, Int.toNat_natCast, erase_cut l i hi]
    unfold L_ticket_Book_Void_k1
    rw [show decide ((i : Int) ≥ 0) = true from decide_eq_true (by omega)]
/-! the document's -/
def sw (x : Tk) : Rk := (x.2.2.2.2, x.1, x.2.1, x.2.2.1, x.2.2.2.1)
theorem ref_drop (key : Str) (n : Int) (l : List Tk) (i : Nat) (hi : i < l.length) (hl : l.length ≤ 1000000) : L_subwayref15_Book_drop key n (l.map sw) (i : Int) = some (key, n, (l.eraseIdx i).map sw) := by
  have h1 := sub_nat (l.map sw) (i := 0) (j := i) (by omega) (by simp; omega)
  have h2 := sub_nat (l.map sw) (i := i + 1) (j := l.length) (by omega) (by simp)
  rw [show ((0 : Nat) : Int) = 0 from rfl, List.drop_zero] at h1
  rw [List.take_of_length_le (by simp)] at h2
  unfold L_subwayref15_Book_drop
  rw [h1, Option.bind_some, app_ok (by simp; omega), Option.bind_some, List.nil_append, show ((i : Int) + 1) = ((i + 1 : Nat) : Int) by omega, wrapn (by omega), List.length_map, h2, Option.bind_some, app_ok (by simp; omega), Option.bind_some]
  rw [← erase_cut l i hi, List.map_append, List.map_take, List.map_drop]
def swR (r : Str × Int × Str × Int × List Tk) : Str × Int × Str × Int × List Rk := (r.1, r.2.1, r.2.2.1, r.2.2.2.1, r.2.2.2.2.map sw)
theorem ref_issue_loop (key : Str) (n : Int) (l : List Tk) (v : Int) (nm tn : Str) (ep : Int) (dr : Str) (hk : key.length ≤ 1000000) (hn : 0 ≤ n ∧ n ≤ 1000) (hl : l.length ≤ 64) (hd : dr.length ≤ 1000000) :
    ∀ (d i f : Nat), d = l.length - i → i ≤ l.length → d < f → (l.take i).any (ofV v) = false → L_subwayref15_Book_Issue_l1 key n (l.map sw) v nm tn ep dr f (i : Int) = some (swR (issueL key n l v nm tn ep dr)) := by
  intro d
  induction d with
  | zero =>
    intro i f hd' hi hf hany
    obtain ⟨f, rfl⟩ : ∃ g, f = g + 1 := ⟨f - 1, by omega⟩
    show L_subwayref15_Book_Issue_b1 (L_subwayref15_Book_Issue_l1 key n (l.map sw) v nm tn ep dr f) key n (l.map sw) v nm tn ep dr (i : Int) = _
    unfold L_subwayref15_Book_Issue_b1 issueL
    rw [List.take_of_length_le (by omega)] at hany
    rw [List.length_map, show decide ((i : Int) < ((l.length : Nat) : Int)) = false from decide_eq_false (by omega), cond_false, hany]
    simp only [Bool.false_eq_true, if_false]
    by_cases h64 : l.length = 64
    · rw [if_pos h64, show decide (((l.length : Nat) : Int) ≥ 64) = true from decide_eq_true (by omega), cond_true]
      rfl
    · rw [if_neg h64, show decide (((l.length : Nat) : Int) ≥ 64) = false from decide_eq_false (by omega), cond_false, show Nat.ble key.length 281474976710656 = true from Nat.ble_eq_true_of_le (by omega)]
      simp only [chk, Option.bind_some]
      rw [wrap64 (by omega), rDecimal, Option.bind_some, cut255 dr hd, Option.bind_some, ref_proof key (by omega) _ (by simp), Option.bind_some, cut32 (proof64 _ _ _), Option.bind_some, app_ok (by simp; omega), Option.bind_some, Option.bind_some]
      simp [swR, sw, tick]
  | succ d ih =>
    intro i f hd' hi hf hany
    obtain ⟨f, rfl⟩ : ∃ g, f = g + 1 := ⟨f - 1, by omega⟩
    have hlt : i < l.length := by omega
    show L_subwayref15_Book_Issue_b1 (L_subwayref15_Book_Issue_l1 key n (l.map sw) v nm tn ep dr f) key n (l.map sw) v nm tn ep dr (i : Int) = _
    unfold L_subwayref15_Book_Issue_b1
    have hx : idx (l.map sw) (i : Int) = some (sw l[i]) := by rw [idx_nat, List.getElem?_map, List.getElem?_eq_getElem hlt]; rfl
    rw [List.length_map, show decide ((i : Int) < ((l.length : Nat) : Int)) = true from decide_eq_true (by omega), cond_true, hx, Option.bind_some]
    cases hv : ofV v l[i] with
    | true =>
      rw [show ((sw l[i]).2.1 == v) = true from hv, cond_true]
      unfold issueL
      rw [show l.any (ofV v) = true from List.any_eq_true.2 ⟨l[i], List.getElem_mem hlt, hv⟩, if_pos rfl]
      rfl
    | false =>
      rw [show ((sw l[i]).2.1 == v) = false from hv, cond_false, show ((i : Int) + 1) = ((i + 1 : Nat) : Int) by omega, wrapn (by omega)]
      refine ih (i + 1) f (by omega) (by omega) (by omega) ?_
      rw [List.take_add_one, List.getElem?_eq_getElem hlt, List.any_append, hany]
      simp [hv]
theorem ref_issue (key : Str) (n : Int) (l : List Tk) (v : Int) (nm tn : Str) (ep : Int) (dr : Str) (hk : key.length ≤ 1000000) (hn : 0 ≤ n ∧ n ≤ 1000) (hl : l.length ≤ 64) (hd : dr.length ≤ 1000000) :
    L_subwayref15_Book_Issue key n (l.map sw) v nm tn ep dr = some (swR (issueL key n l v nm tn ep dr)) :=
  ref_issue_loop key n l v nm tn ep dr hk hn hl hd l.length 0 fuel (by omega) (by omega) (by unfold fuel; omega) rfl
def swQ (r : Int × Str × Str × Int × Int × Str × Int × List Tk) : Int × Str × Str × Int × Int × Str × Int × List Rk := (r.1, r.2.1, r.2.2.1, r.2.2.2.1, r.2.2.2.2.1, r.2.2.2.2.2.1, r.2.2.2.2.2.2.1, r.2.2.2.2.2.2.2.map sw)
theorem find_at {α : Type} {P : α → Bool} {l : List α} {i : Nat} (hlt : i < l.length) (hn : (l.take i).any P = false) (hp : P l[i] = true) : l.findIdx? P = some i := by
  rw [List.findIdx?_eq_some_iff_getElem]
  refine ⟨hlt, hp, fun j hj => ?_⟩
  rw [List.any_eq_false] at hn
  have := hn l[j] (by rw [List.mem_take_iff_getElem]; exact ⟨j, by omega, rfl⟩)
  simpa using this
theorem any_step {α : Type} {P : α → Bool} {l : List α} {i : Nat} (hlt : i < l.length) (hn : (l.take i).any P = false) (hp : P l[i] = false) : (l.take (i + 1)).any P = false := by
  rw [List.take_add_one, List.getElem?_eq_getElem hlt, List.any_append, hn]
  simp [hp]
theorem find_nil {α : Type} {P : α → Bool} {l : List α} (hn : l.any P = false) : l.findIdx? P = none := by
  rw [List.findIdx?_eq_none_iff]
  intro x hx
  rw [List.any_eq_false] at hn
  simpa using hn x hx
theorem ref_redeem_loop (key : Str) (n : Int) (l : List Tk) (s tn : Str) (hl : l.length ≤ 1000000) :
    ∀ (d i f : Nat), d = l.length - i → i ≤ l.length → d < f → (l.take i).any (ofT s) = false → L_subwayref15_Book_Redeem_l1 key n (l.map sw) s tn f (i : Int) = some (swQ (redeemL key n l s tn)) := by
  intro d
  induction d with
  | zero =>
    intro i f hd' hi hf hany
    obtain ⟨f, rfl⟩ : ∃ g, f = g + 1 := ⟨f - 1, by omega⟩
    show L_subwayref15_Book_Redeem_b1 (L_subwayref15_Book_Redeem_l1 key n (l.map sw) s tn f) key n (l.map sw) s tn (i : Int) = _
    unfold L_subwayref15_Book_Redeem_b1 redeemL
    rw [List.take_of_length_le (by omega)] at hany
    rw [List.length_map, show decide ((i : Int) < ((l.length : Nat) : Int)) = false from decide_eq_false (by omega), cond_false, find_nil hany]
    rfl
  | succ d ih =>
    intro i f hd' hi hf hany
    obtain ⟨f, rfl⟩ : ∃ g, f = g + 1 := ⟨f - 1, by omega⟩
    have hlt : i < l.length := by omega
    show L_subwayref15_Book_Redeem_b1 (L_subwayref15_Book_Redeem_l1 key n (l.map sw) s tn f) key n (l.map sw) s tn (i : Int) = _
    unfold L_subwayref15_Book_Redeem_b1
    have hx : idx (l.map sw) (i : Int) = some (sw l[i]) := by rw [idx_nat, List.getElem?_map, List.getElem?_eq_getElem hlt]; rfl
    rw [List.length_map, show decide ((i : Int) < ((l.length : Nat) : Int)) = true from decide_eq_true (by omega), cond_true, hx, Option.bind_some]
    cases hv : ofT s l[i] with
    | true =>
      have hg : l.getD i dTk = l[i] := by simp [List.getD, hlt]
      rw [show (!((sw l[i]).1 == s)) = false by rw [show ((sw l[i]).1 == s) = true from hv]; rfl, cond_false, Option.bind_some]
      unfold redeemL
      rw [find_at hlt hany hv]
      simp only [hg]
      by_cases ht : l[i].2.2.1 = tn
      · rw [if_pos ht, show (!((sw l[i]).2.2.2.1 == tn)) = false by rw [show (sw l[i]).2.2.2.1 = l[i].2.2.1 from rfl]; simp [ht], cond_false, ref_drop key n l i hlt hl, Option.bind_some]
        rfl
      · rw [if_neg ht, show (!((sw l[i]).2.2.2.1 == tn)) = true by rw [show (sw l[i]).2.2.2.1 = l[i].2.2.1 from rfl]; simp [ht], cond_true]
        rfl
    | false =>
      rw [show (!((sw l[i]).1 == s)) = true by rw [show ((sw l[i]).1 == s) = false from hv]; rfl, cond_true, show ((i : Int) + 1) = ((i + 1 : Nat) : Int) by omega, wrapn (by omega)]
      exact ih (i + 1) f (by omega) (by omega) (by omega) (any_step hlt hany hv)
theorem ref_redeem (key : Str) (n : Int) (l : List Tk) (s tn : Str) (hl : l.length ≤ 1000000) : L_subwayref15_Book_Redeem key n (l.map sw) s tn = some (swQ (redeemL key n l s tn)) :=
  ref_redeem_loop key n l s tn hl l.length 0 fuel (by omega) (by omega) (by unfold fuel; omega) rfl
def swV (r : Bool × Str × Int × List Tk) : Bool × Str × Int × List Rk := (r.1, r.2.1, r.2.2.1, r.2.2.2.map sw)
theorem ref_void_loop (key : Str) (n : Int) (l : List Tk) (v : Int) (hl : l.length ≤ 1000000) :
    ∀ (d i f : Nat), d = l.length - i → i ≤ l.length → d < f → (l.take i).any (ofV v) = false → L_subwayref15_Book_Void_l1 key n (l.map sw) v f (i : Int) = some (swV (voidL key n l v)) := by
  intro d
  induction d with
  | zero =>
    intro i f hd' hi hf hany
    obtain ⟨f, rfl⟩ : ∃ g, f = g + 1 := ⟨f - 1, by omega⟩
    show L_subwayref15_Book_Void_b1 (L_subwayref15_Book_Void_l1 key n (l.map sw) v f) key n (l.map sw) v (i : Int) = _
    unfold L_subwayref15_Book_Void_b1 voidL
    rw [List.take_of_length_le (by omega)] at hany
    rw [List.length_map, show decide ((i : Int) < ((l.length : Nat) : Int)) = false from decide_eq_false (by omega), cond_false, find_nil hany]
    rfl
  | succ d ih =>
    intro i f hd' hi hf hany
    obtain ⟨f, rfl⟩ : ∃ g, f = g + 1 := ⟨f - 1, by omega⟩
    have hlt : i < l.length := by omega
    show L_subwayref15_Book_Void_b1 (L_subwayref15_Book_Void_l1 key n (l.map sw) v f) key n (l.map sw) v (i : Int) = _
    unfold L_subwayref15_Book_Void_b1
    have hx : idx (l.map sw) (i : Int) = some (sw l[i]) := by rw [idx_nat, List.getElem?_map, List.getElem?_eq_getElem hlt]; rfl
    rw [List.length_map, show decide ((i : Int) < ((l.length : Nat) : Int)) = true from decide_eq_true (by omega), cond_true, hx, Option.bind_some]
    cases hv : ofV v l[i] with
    | true =>
      rw [show ((sw l[i]).2.1 == v) = true from hv, cond_true, ref_drop key n l i hlt hl, Option.bind_some]
      unfold voidL
      rw [find_at hlt hany hv]
      rfl
    | false =>
      rw [show ((sw l[i]).2.1 == v) = false from hv, cond_false, show ((i : Int) + 1) = ((i + 1 : Nat) : Int) by omega, wrapn (by omega)]
      exact ih (i + 1) f (by omega) (by omega) (by omega) (any_step hlt hany hv)
theorem ref_void (key : Str) (n : Int) (l : List Tk) (v : Int) (hl : l.length ≤ 1000000) : L_subwayref15_Book_Void key n (l.map sw) v = some (swV (voidL key n l v)) :=
  ref_void_loop key n l v hl l.length 0 fuel (by omega) (by omega) (by unfold fuel; omega) rfl
theorem prog_new (key : Str) (h : key.length ≤ 281474976710656) : L_ticket_New key = some (key, 0, []) := by
  unfold L_ticket_New
  rw [show Nat.ble key.length 281474976710656 = true from Nat.ble_eq_true_of_le (by omega)]
  rfl
end Go.Proofs.YtjllaeceghmjgaaDoor
