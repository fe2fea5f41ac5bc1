/- TicketOnce in plain lists: the history is one list of tickets, each with whether it is good. -/
import Derived.Test.YtjllaeceghmjgaaDoorTkGreat
import Derived.Test.YtjllaeceghmjgaaDoorTkHead
import Derived.Test.YtjllaeceghmjgaaDoorLTicketOnce
namespace Go.Proofs.YtjllaeceghmjgaaDoor
set_option linter.unusedSimpArgs false
set_option linter.unusedVariables false
abbrev Ps := Int × Str × Str × Int
def toT (c : Tk × Bool) : Str := c.1.2.2.2.2
def toP (c : Tk × Bool) : Ps := (c.1.1, c.1.2.1, c.1.2.2.1, c.1.2.2.2.1)
def bk (C : List (Tk × Bool)) : List Tk := (C.filter (·.2)).map (·.1)
def gP (P : Tk → Bool) (c : Tk × Bool) : Bool := c.2 && P c.1
def dC : Tk × Bool := (dTk, false)
theorem bk_false (x : Tk) (C : List (Tk × Bool)) : bk ((x, false) :: C) = bk C := rfl
theorem bk_true (x : Tk) (C : List (Tk × Bool)) : bk ((x, true) :: C) = x :: bk C := rfl
theorem bk_append (A B : List (Tk × Bool)) : bk (A ++ B) = bk A ++ bk B := by simp [bk]
theorem bk_none (P : Tk → Bool) : ∀ C : List (Tk × Bool), C.findIdx? (gP P) = none → (bk C).findIdx? P = none := by
  intro C h
  rw [List.findIdx?_eq_none_iff] at h ⊢
  intro x hx
  unfold bk at hx
  obtain ⟨c, hc, rfl⟩ := List.mem_map.1 hx
  obtain ⟨hc, h2⟩ := List.mem_filter.1 hc
  have := h c hc
  unfold gP at this
  rw [h2] at this
  simpa using this
theorem bk_some (P : Tk → Bool) : ∀ (C : List (Tk × Bool)) (k : Nat), C.findIdx? (gP P) = some k →
    ∃ j, (bk C).findIdx? P = some j ∧ k < C.length ∧ j < (bk C).length ∧ (bk C).getD j dTk = (C.getD k dC).1 ∧ (bk C).eraseIdx j = bk (C.set k ((C.getD k dC).1, false)) := by
  intro C
  induction C with
  | nil => intro k h; simp at h
  | cons c C ih =>
    obtain ⟨x, g⟩ := c
    intro k h
    rw [List.findIdx?_cons] at h
    cases g with
    | false =>
      rw [show gP P (x, false) = false from rfl] at h
      simp only [Bool.false_eq_true, if_false] at h
      cases hf : C.findIdx? (gP P) with
      | none => rw [hf] at h; simp at h
      | some m =>
        rw [hf] at h
        simp only [Option.map_some, Option.some.injEq] at h
        subst h
        obtain ⟨j, h1, h2, h3, h4, h5⟩ := ih m hf
        exact ⟨j, h1, by simp; omega, h3, h4, h5⟩
    | true =>
      rw [show gP P (x, true) = P x from by simp [gP]] at h
      rw [bk_true]
      cases hp : P x with
      | true =>
        rw [hp, if_pos rfl] at h
        simp only [Option.some.injEq] at h
        subst h
        exact ⟨0, by rw [List.findIdx?_cons, hp, if_pos rfl], by simp, by simp, rfl, rfl⟩
      | false =>
        rw [hp] at h
        simp only [Bool.false_eq_true, if_false] at h
        cases hf : C.findIdx? (gP P) with
        | none => rw [hf] at h; simp at h
        | some m =>
          rw [hf] at h
          simp only [Option.map_some, Option.some.injEq] at h
          subst h
          obtain ⟨j, h1, h2, h3, h4, h5⟩ := ih m hf
          refine ⟨j + 1, by rw [List.findIdx?_cons, hp, h1]; rfl, by simp; omega, by simp; omega, h4, ?_⟩
          rw [List.eraseIdx_cons_succ, h5]
          rfl
abbrev R209 := Str → Int → List Tk → List Str → List Ps → List Bool → Int → Int → Option Bool
abbrev RdR := Int × Str × Str × Int × Int × Str × Int × List Tk
theorem find_drop (Q : Tk × Bool → Bool) (C : List (Tk × Bool)) (m : Nat) (h : m < C.length) : (C.drop m).findIdx? Q = if Q C[m] = true then some 0 else ((C.drop (m + 1)).findIdx? Q).map (· + 1) := by
  rw [List.drop_eq_getElem_cons h, List.findIdx?_cons]
def fD (Q : Tk × Bool → Bool) (C : List (Tk × Bool)) (m : Nat) : Int := match (C.drop m).findIdx? Q with | some j => ((m + j : Nat) : Int) | none => -1
theorem fD_step (Q : Tk × Bool → Bool) (C : List (Tk × Bool)) (m : Nat) (h : m < C.length) : fD Q C m = if Q C[m] = true then (m : Int) else fD Q C (m + 1) := by
  unfold fD
  rw [find_drop Q C m h]
  by_cases hq : Q C[m] = true
  · rw [if_pos hq, if_pos hq]
    rfl
  · rw [if_neg hq, if_neg hq]
    cases (C.drop (m + 1)).findIdx? Q with
    | none => rfl
    | some j => simp only [Option.map_some]; congr 1; omega
theorem once_down (r209 : R209) (C : List (Tk × Bool)) (n i : Int) (x : Op) (s : Str) (z : RdR) (hC : C.length ≤ 1000) : ∀ (m f : Nat), m ≤ C.length → m < f →
    ∃ R, L_subwaylaw15_TicketOnce_l249 r209 (C.map toT) (C.map toP) (C.map (·.2)) n i x s z f (fD (gP (ofT s)) C m) ((m : Int) - 1) = L_subwaylaw15_TicketOnce_b249 r209 R (C.map toT) (C.map toP) (C.map (·.2)) n i x s z (fI (gP (ofT s)) C) (-1) := by
  intro m
  induction m with
  | zero =>
    intro f hm hf
    obtain ⟨f, rfl⟩ : ∃ g, f = g + 1 := ⟨f - 1, by omega⟩
    refine ⟨L_subwaylaw15_TicketOnce_l249 r209 (C.map toT) (C.map toP) (C.map (·.2)) n i x s z f, ?_⟩
    have e : fD (gP (ofT s)) C 0 = fI (gP (ofT s)) C := by
      unfold fD fI
      rw [List.drop_zero]
      cases C.findIdx? (gP (ofT s)) with
      | none => rfl
      | some j => simp only [Nat.zero_add]
    rw [e]
    rfl
  | succ m ih =>
    intro f hm hf
    obtain ⟨f, rfl⟩ : ∃ g, f = g + 1 := ⟨f - 1, by omega⟩
    obtain ⟨R, hR⟩ := ih f (by omega) (by omega)
    refine ⟨R, ?_⟩
    rw [← hR]
    show L_subwaylaw15_TicketOnce_b249 r209 (L_subwaylaw15_TicketOnce_l249 r209 (C.map toT) (C.map toP) (C.map (·.2)) n i x s z f) (C.map toT) (C.map toP) (C.map (·.2)) n i x s z (fD (gP (ofT s)) C (m + 1)) (((m + 1 : Nat) : Int) - 1) = _
    unfold L_subwaylaw15_TicketOnce_b249
    rw [show (((m + 1 : Nat) : Int) - 1) = (m : Int) by omega, show decide ((m : Int) ≥ 0) = true from decide_eq_true (by omega), cond_true, idx_get (by simp; omega), Option.bind_some, List.getElem_map, fD_step _ C m (by omega)]
    cases hg : (C[m]'(by omega)).2 with
    | false =>
      rw [cond_false, show gP (ofT s) C[m] = false by unfold gP; rw [hg]; rfl]
      unfold L_subwaylaw15_TicketOnce_k254 L_subwaylaw15_TicketOnce_k255
      rw [cond_false, wrap64 (by omega)]
      rfl
    | true =>
      rw [cond_true, idx_get (by simp; omega), Option.bind_some, List.getElem_map]
      unfold L_subwaylaw15_TicketOnce_k254 L_subwaylaw15_TicketOnce_k255
      have e : gP (ofT s) C[m] = (toT C[m] == s) := by unfold gP; rw [hg]; rfl
      rw [e, wrap64 (by omega)]
      cases (toT C[m] == s) with
      | true => rw [cond_true, if_pos rfl]
      | false => rw [cond_false, if_neg (by simp)]
/-- the visitor's tickets are no longer good -/
def vC (v : Int) (C : List (Tk × Bool)) : List (Tk × Bool) := C.map fun c => (c.1, c.2 && !(c.1.1 == v))
theorem vC_bk (v : Int) (C : List (Tk × Bool)) : bk (vC v C) = (bk C).filter fun x => !(ofV v x) := by
  induction C with
  | nil => rfl
  | cons c C ih =>
    obtain ⟨x, g⟩ := c
    cases g with
    | false => exact ih
    | true =>
      rw [bk_true]
      by_cases h : x.1 = v
      · rw [show vC v ((x, true) :: C) = (x, false) :: vC v C by simp [vC, h], bk_false, ih, List.filter_cons_of_neg (by simp [ofV, h])]
      · rw [show vC v ((x, true) :: C) = (x, true) :: vC v C by simp [vC, h], bk_true, ih, List.filter_cons_of_pos (by simp [ofV, h])]
def Dis (l : List Tk) : Prop := l.Pairwise fun a b => a.1 ≠ b.1
theorem dis_erase (v : Int) : ∀ l : List Tk, Dis l → (l.filter fun x => !(ofV v x)) = match l.findIdx? (ofV v) with | none => l | some j => l.eraseIdx j := by
  intro l
  induction l with
  | nil => intro _; rfl
  | cons x l ih =>
    intro h
    have h1 := List.pairwise_cons.1 h
    rw [List.findIdx?_cons]
    cases hv : ofV v x with
    | true =>
      rw [if_pos rfl, List.filter_cons_of_neg (by simp [hv])]
      simp only [List.eraseIdx_cons_zero]
      rw [List.filter_eq_self]
      intro y hy
      have := h1.1 y hy
      have e : x.1 = v := by simpa [ofV] using hv
      simp only [ofV, Bool.not_eq_true', beq_eq_false_iff_ne]
      rw [← e]
      exact fun e => this e.symm
    | false =>
      rw [List.filter_cons_of_pos (by simp [hv]), ih h1.2]
      simp only [Bool.false_eq_true, if_false]
      cases l.findIdx? (ofV v) with
      | none => rfl
      | some j => rfl
theorem once_void (r209 : R209) (C : List (Tk × Bool)) (i : Int) (x : Op) (key : Str) (c : Int) (l' : List Tk) (is : Bool) (hC : C.length ≤ 1000) (his : is = false → (bk C).findIdx? (ofV x.2.1) = none) :
    ∀ (d k f : Nat), d = C.length - k → k ≤ C.length → d < f →
      L_subwaylaw15_TicketOnce_l273 r209 (C.map toT) (C.map toP) i x (is, key, c, l') f ((vC x.2.1 (C.take k) ++ C.drop k).map (·.2)) ((bk (vC x.2.1 (C.take k) ++ C.drop k)).length : Int) (k : Int) =
      L_subwaylaw15_TicketOnce_k268 r209 i key c l' (C.map toT) (C.map toP) ((vC x.2.1 C).map (·.2)) ((bk (vC x.2.1 C)).length : Int) := by
  intro d
  induction d with
  | zero =>
    intro k f hd hk hf
    obtain ⟨f, rfl⟩ : ∃ g, f = g + 1 := ⟨f - 1, by omega⟩
    rw [List.take_of_length_le (by omega), List.drop_of_length_le (by omega), List.append_nil]
    show L_subwaylaw15_TicketOnce_b273 r209 (L_subwaylaw15_TicketOnce_l273 r209 (C.map toT) (C.map toP) i x (is, key, c, l') f) (C.map toT) (C.map toP) i x (is, key, c, l') _ _ (k : Int) = _
    unfold L_subwaylaw15_TicketOnce_b273
    rw [List.length_map, show decide ((k : Int) < ((C.length : Nat) : Int)) = false from decide_eq_false (by omega), cond_false]
  | succ d ih =>
    intro k f hd hk hf
    obtain ⟨f, rfl⟩ : ∃ g, f = g + 1 := ⟨f - 1, by omega⟩
    have hlt : k < C.length := by omega
    rw [← ih (k + 1) f (by omega) (by omega) (by omega)]
    have ed : C.drop k = C[k] :: C.drop (k + 1) := List.drop_eq_getElem_cons hlt
    have et : C.take (k + 1) = C.take k ++ [C[k]] := by rw [List.take_add_one, List.getElem?_eq_getElem hlt]; rfl
    have hlA : (vC x.2.1 (C.take k)).length = k := by simp [vC]; omega
    show L_subwaylaw15_TicketOnce_b273 r209 (L_subwaylaw15_TicketOnce_l273 r209 (C.map toT) (C.map toP) i x (is, key, c, l') f) (C.map toT) (C.map toP) i x (is, key, c, l') _ _ (k : Int) = _
    unfold L_subwaylaw15_TicketOnce_b273
    have hbl : (bk (C.drop (k + 1))).length ≤ C.length := by unfold bk; rw [List.length_map]; exact Nat.le_trans (List.length_filter_le _ _) (by simp)
    have hbA : (bk (vC x.2.1 (C.take k))).length ≤ C.length := by unfold bk; rw [List.length_map]; exact Nat.le_trans (List.length_filter_le _ _) (by rw [hlA]; omega)
    have eV : vC x.2.1 (C.take k ++ [C[k]]) = vC x.2.1 (C.take k) ++ [(C[k].1, C[k].2 && !(C[k].1.1 == x.2.1))] := by unfold vC; rw [List.map_append]; rfl
    have hP : idx (C.map toP) (k : Int) = some (toP C[k]) := by rw [idx_get (by simpa using hlt), List.getElem_map]
    rw [et, eV, ed, List.length_map, show decide ((k : Int) < ((C.length : Nat) : Int)) = true from decide_eq_true (by omega), cond_true, hP]
    have hmem : C[k] ∈ C := List.getElem_mem hlt
    generalize C[k] = q at *
    obtain ⟨t, g⟩ := q
    generalize vC x.2.1 (C.take k) = A at *
    generalize C.drop (k + 1) = B at *
    have hg : idx ((A ++ (t, g) :: B).map (·.2)) (k : Int) = some g := by
      rw [idx_nat, List.map_append, List.getElem?_append_right (by simp; omega), List.length_map, hlA, Nat.sub_self]
      rfl
    rw [hg, Option.bind_some]
    cases g with
    | false =>
      rw [cond_false]
      unfold L_subwaylaw15_TicketOnce_k276 L_subwaylaw15_TicketOnce_k277
      rw [cond_false, show ((k : Int) + 1) = ((k + 1 : Nat) : Int) by omega, wrapn (by omega)]
      simp only [Bool.false_and, List.append_assoc, List.singleton_append]
    | true =>
      rw [cond_true, Option.bind_some]
      unfold L_subwaylaw15_TicketOnce_k276 L_subwaylaw15_TicketOnce_k277
      rw [show (toP (t, true)).1 = t.1 from rfl]
      cases hv : (t.1 == x.2.1) with
      | false =>
        rw [cond_false, show ((k : Int) + 1) = ((k + 1 : Nat) : Int) by omega, wrapn (by omega)]
        simp only [hv, Bool.not_false, Bool.and_self, List.append_assoc, List.singleton_append]
      | true =>
        have hist : is = true := by
          cases is with
          | true => rfl
          | false =>
            have h1 := his rfl
            rw [List.findIdx?_eq_none_iff] at h1
            have := h1 t (by unfold bk; exact List.mem_map.2 ⟨(t, true), List.mem_filter.2 ⟨hmem, rfl⟩, rfl⟩)
            rw [show ofV x.2.1 t = true from hv] at this
            cases this
        subst hist
        rw [cond_true]
        simp only [Bool.not_true, cond_false, Option.bind_some]
        rw [hg, Option.bind_some, Int.toNat_natCast, show ((k : Int) + 1) = ((k + 1 : Nat) : Int) by omega, wrapn (by omega)]
        have e1 : ((A ++ (t, true) :: B).map (·.2)).set k false = ((A ++ (t, false) :: B).map (·.2)) := by
          rw [List.map_append, List.map_append, List.set_append_right _ _ (by simp; omega), List.length_map, hlA, Nat.sub_self]
          rfl
        have e2 : IntKind.wrap .i64 (((bk (A ++ (t, true) :: B)).length : Int) - 1) = ((bk (A ++ (t, false) :: B)).length : Int) := by
          rw [bk_append, bk_append, bk_true, bk_false, List.length_append, List.length_append, List.length_cons, wrap64 (by omega)]
          omega
        rw [e1, e2]
        simp only [hv, Bool.not_true, Bool.and_false, List.append_assoc, List.singleton_append]
theorem once_many (r209 : R209) (i : Nat) (hi : i ≤ 1000) (key : Str) (n : Int) (l : List Tk) (told : List Str) (pass : List Ps) (good : List Bool) :
    L_subwaylaw15_TicketOnce_k244 r209 (i : Int) key n l told pass good ((l.length : Nat) : Int) = r209 key n l told pass good ((l.length : Nat) : Int) ((i + 1 : Nat) : Int) := by
  unfold L_subwaylaw15_TicketOnce_k244
  rw [many_ok, Option.bind_some, bne_self_eq_false, cond_false, show ((i : Int) + 1) = ((i + 1 : Nat) : Int) by omega, wrap64 (by omega)]
theorem dis_eraseIdx {l : List Tk} (h : Dis l) (j : Nat) : Dis (l.eraseIdx j) := List.Pairwise.sublist (List.eraseIdx_sublist _ _) h
theorem once_loop (ops : List Op) (key : Str) (hk : key.length ≤ 3000) (hops : ops.length ≤ 200) (hS : ∀ o ∈ ops, OpS o) :
    ∀ (d i f : Nat) (c : Int) (C : List (Tk × Bool)), d = ops.length - i → i ≤ ops.length → d < f → 0 ≤ c → c ≤ i → (bk C).length ≤ 64 → C.length ≤ i → Dis (bk C) →
      L_subwaylaw15_TicketOnce_l140 ops true f key c (bk C) (C.map toT) (C.map toP) (C.map (·.2)) ((bk C).length : Int) (i : Int) = some true := by
  intro d
  induction d with
  | zero =>
    intro i f c C hd hi hf h0 hc hl hC hD
    obtain ⟨f, rfl⟩ : ∃ g, f = g + 1 := ⟨f - 1, by omega⟩
    show L_subwaylaw15_TicketOnce_b140 (L_subwaylaw15_TicketOnce_l140 ops true f) ops true key c (bk C) (C.map toT) (C.map toP) (C.map (·.2)) ((bk C).length : Int) (i : Int) = _
    unfold L_subwaylaw15_TicketOnce_b140
    rw [show decide ((i : Int) < ((ops.length : Nat) : Int)) = false from decide_eq_false (by omega), cond_false]
  | succ d ih =>
    intro i f c C hd hi hf h0 hc hl hC hD
    obtain ⟨f, rfl⟩ : ∃ g, f = g + 1 := ⟨f - 1, by omega⟩
    have hlt : i < ops.length := by omega
    have hs := hS ops[i] (List.getElem_mem hlt)
    show L_subwaylaw15_TicketOnce_b140 (L_subwaylaw15_TicketOnce_l140 ops true f) ops true key c (bk C) (C.map toT) (C.map toP) (C.map (·.2)) ((bk C).length : Int) (i : Int) = _
    unfold L_subwaylaw15_TicketOnce_b140
    rw [show decide ((i : Int) < ((ops.length : Nat) : Int)) = true from decide_eq_true (by omega), cond_true, idx_get hlt, Option.bind_some]
    generalize hR : L_subwaylaw15_TicketOnce_l140 ops true f = R at *
    have next : ∀ (c' : Int) (C' : List (Tk × Bool)), c ≤ c' → c' ≤ c + 1 → (bk C').length ≤ 64 → C'.length ≤ i + 1 → Dis (bk C') → R key c' (bk C') (C'.map toT) (C'.map toP) (C'.map (·.2)) ((bk C').length : Int) ((i + 1 : Nat) : Int) = some true := by
      intro c' C' a1 a2 a3 a4 a5
      rw [← hR]
      exact ih (i + 1) f c' C' (by omega) (by omega) (by omega) (by omega) (by omega) a3 a4 a5
    generalize ops[i] = x at *
    cases h2 : (x.1 == 2) with
    | true =>
      rw [cond_true]
      obtain ⟨s, hsh⟩ := shown_ok x.1 x.2.1 x.2.2.1 x.2.2.2.1 x.2.2.2.2.1 x.2.2.2.2.2.1 x.2.2.2.2.2.2.1 x.2.2.2.2.2.2.2.1 x.2.2.2.2.2.2.2.2 (C.map toT)
      rw [hsh, Option.bind_some, prog_redeem key c (bk C) s _ (by omega), Option.bind_some, List.length_map, wrap64 (by omega)]
      generalize hz : redeemL key c (bk C) s x.2.2.2.2.2.2.2.2 = z
      obtain ⟨R2, h249⟩ := once_down R C ((bk C).length : Int) (i : Int) x s z (by omega) C.length fuel (Nat.le_refl _) (by unfold fuel; omega)
      rw [show fD (gP (ofT s)) C C.length = -1 by unfold fD; rw [List.drop_length]; rfl] at h249
      rw [h249]
      unfold L_subwaylaw15_TicketOnce_b249
      rw [show decide ((-1 : Int) ≥ 0) = false from by decide, cond_false]
      unfold L_subwaylaw15_TicketOnce_k256 L_subwaylaw15_TicketOnce_k257
      unfold redeemL at hz
      unfold fI
      cases hf : C.findIdx? (gP (ofT s)) with
      | none =>
        rw [bk_none _ C hf] at hz
        simp only [] at hz
        subst hz
        simp only []
        rw [show ((151 : Int) == 151) = true from rfl, show decide ((-1 : Int) < 0) = true from rfl, show (!(true == true)) = false from rfl, cond_false, show ((151 : Int) == 0) = false from rfl, cond_false, show ((151 : Int) == 131) = false from rfl, cond_false, cond_false, cond_false, once_many R i (by omega)]
        exact next c C (by omega) (by omega) hl (by omega) hD
      | some k =>
        obtain ⟨j, hj, hk2, hjl, hgd, he⟩ := bk_some _ C k hf
        rw [hj] at hz
        simp only [hgd] at hz
        have hck : C.getD k dC = C[k] := by simp [List.getD, hk2]
        rw [hck] at hz hgd he
        have hP : idx (C.map toP) (k : Int) = some (toP C[k]) := by rw [idx_get (by simpa using hk2), List.getElem_map]
        have hG : idx (C.map (·.2)) (k : Int) = some C[k].2 := by rw [idx_get (by simpa using hk2), List.getElem_map]
        have hel : ((bk C).eraseIdx j).length = (bk C).length - 1 := List.length_eraseIdx_of_lt hjl
        by_cases ht : C[k].1.2.2.1 = x.2.2.2.2.2.2.2.2
        · rw [if_pos ht] at hz
          subst hz
          simp only [hP, hG, Option.bind_some, toP]
          rw [show ((0 : Int) == 151) = false from rfl, show decide ((k : Int) < 0) = false from decide_eq_false (by omega), show (!(false == false)) = false from rfl, cond_false, show ((0 : Int) == 0) = true from rfl, cond_true]
          simp only [beq_self_eq_true, Bool.and_self, Bool.not_true, cond_false]
          rw [show (C[k].1.2.2.1 == x.2.2.2.2.2.2.2.2) = true from beq_iff_eq.2 ht]
          simp only [Bool.not_true, cond_false, cond_true]
          rw [show ((0 : Int) == 131) = false from rfl, cond_false, Int.toNat_natCast, wrap64 (by omega), show ((bk C).length : Int) - 1 = (((bk C).eraseIdx j).length : Int) by rw [hel]; omega, once_many R i (by omega), he]
          have e1 : (C.map (·.2)).set k false = (C.set k (C[k].1, false)).map (·.2) := by rw [List.map_set]
          have e2 : C.map toT = (C.set k (C[k].1, false)).map toT := by
            rw [List.map_set, show toT (C[k].1, false) = (C.map toT)[k]'(by simpa using hk2) by rw [List.getElem_map]; rfl, List.set_getElem_self]
          have e3 : C.map toP = (C.set k (C[k].1, false)).map toP := by
            rw [List.map_set, show toP (C[k].1, false) = (C.map toP)[k]'(by simpa using hk2) by rw [List.getElem_map]; rfl, List.set_getElem_self]
          have e3' : C.map (fun c => ((c.1.1, c.1.2.1, c.1.2.2.1, c.1.2.2.2.1) : Ps)) = (C.set k (C[k].1, false)).map toP := e3
          rw [e1, e2]
          first | rw [e3] | rw [e3']
          exact next c _ (by omega) (by omega) (by rw [← he, hel]; omega) (by simp; omega) (by rw [← he]; exact dis_eraseIdx hD j)
        · rw [if_neg ht] at hz
          subst hz
          simp only [hP, Option.bind_some, toP]
          rw [show ((131 : Int) == 151) = false from rfl, show decide ((k : Int) < 0) = false from decide_eq_false (by omega), show (!(false == false)) = false from rfl, cond_false, show ((131 : Int) == 0) = false from rfl, cond_false, show ((131 : Int) == 131) = true from rfl, cond_true, show (C[k].1.2.2.1 == x.2.2.2.2.2.2.2.2) = false from beq_eq_false_iff_ne.2 ht, cond_false, cond_false, once_many R i (by omega)]
          exact next c C (by omega) (by omega) hl (by omega) hD
    | false =>
      rw [cond_false]
      cases h3 : (x.1 == 3) with
      | true =>
        rw [cond_true, prog_void key c (bk C) _ (by omega), Option.bind_some]
        have hv : ∃ is l', voidL key c (bk C) x.2.1 = (is, key, c, l') ∧ l' = bk (vC x.2.1 C) ∧ (is = false → (bk C).findIdx? (ofV x.2.1) = none) := by
          rw [vC_bk, dis_erase x.2.1 _ hD]
          unfold voidL
          cases (bk C).findIdx? (ofV x.2.1) with
          | none => exact ⟨_, _, rfl, rfl, fun _ => rfl⟩
          | some j => exact ⟨_, _, rfl, rfl, fun h => by cases h⟩
        obtain ⟨is, l', hz, hl', his⟩ := hv
        rw [hz]
        have := once_void R C (i : Int) x key c l' is (by omega) his C.length 0 fuel rfl (by omega) (by unfold fuel; omega)
        rw [List.take_zero, List.drop_zero, show vC x.2.1 ([] : List (Tk × Bool)) = [] from rfl, List.nil_append] at this
        rw [show ((0 : Nat) : Int) = 0 from rfl] at this
        rw [this]
        unfold L_subwaylaw15_TicketOnce_k268
        rw [hl', once_many R i (by omega)]
        have e2 : C.map toT = (vC x.2.1 C).map toT := by unfold vC; rw [List.map_map]; rfl
        have e3 : C.map toP = (vC x.2.1 C).map toP := by unfold vC; rw [List.map_map]; rfl
        rw [e2, e3]
        refine next c _ (by omega) (by omega) ?_ (by simp [vC]; omega) ?_
        · rw [vC_bk]; exact Nat.le_trans (List.length_filter_le _ _) hl
        · rw [vC_bk]; exact List.Pairwise.sublist List.filter_sublist hD
      | false =>
        rw [cond_false, prog_issue key c (bk C) _ _ _ _ _ (by omega) (by omega) (by omega) (by have := hs.2.2.1; omega), Option.bind_some]
        unfold issueL L_subwaylaw15_TicketOnce_k278 L_subwaylaw15_TicketOnce_k268
        cases ha : (bk C).any (ofV x.2.1) with
        | true =>
          rw [if_pos rfl]
          simp only []
          rw [show ((4 : Int) == 0) = false from rfl, cond_false, once_many R i (by omega)]
          exact next c C (by omega) (by omega) hl (by omega) hD
        | false =>
          rw [if_neg (by simp)]
          by_cases h64 : (bk C).length = 64
          · rw [if_pos h64]
            simp only []
            rw [show ((2 : Int) == 0) = false from rfl, cond_false, once_many R i (by omega)]
            exact next c C (by omega) (by omega) hl (by omega) hD
          · rw [if_neg h64]
            generalize tick key (c + 1) x.2.2.2.2.2.1 = t
            simp only []
            rw [show ((0 : Int) == 0) = true from rfl, cond_true, app_ok (by simp; omega), Option.bind_some, app_ok (by simp; omega), Option.bind_some, app_ok (by simp; omega), Option.bind_some, wrap64 (by omega)]
            have eb : bk C ++ [((x.2.1, x.2.2.1, x.2.2.2.1, x.2.2.2.2.1, t) : Tk)] = bk (C ++ [((x.2.1, x.2.2.1, x.2.2.2.1, x.2.2.2.2.1, t), true)]) := by rw [bk_append]; rfl
            have el : ((bk C).length : Int) + 1 = ((bk C ++ [((x.2.1, x.2.2.1, x.2.2.2.1, x.2.2.2.2.1, t) : Tk)]).length : Int) := by rw [List.length_append]; rfl
            rw [el, once_many R i (by omega), eb]
            have := next (c + 1) (C ++ [((x.2.1, x.2.2.1, x.2.2.2.1, x.2.2.2.2.1, t), true)]) (by omega) (by omega) (by rw [← eb, List.length_append]; simp; omega) (by simp; omega) ?_
            · rw [List.map_append, List.map_append, List.map_append] at this
              exact this
            · rw [← eb]
              refine List.pairwise_append.2 ⟨hD, List.pairwise_singleton _ _, ?_⟩
              intro a hA b hB
              rw [List.mem_singleton] at hB
              subst hB
              rw [List.any_eq_false] at ha
              have := ha a hA
              simpa [ofV] using this
theorem ticketOnce_plain (key : Str) (ops : List Op) (hk : key.length ≤ reachBytes) (hl : ops.length ≤ reachBytes) (hq : ∀ o ∈ ops, OpQ reachBytes o) : L_subwaylaw15_TicketOnce key ops = some true := by
  have h47 := reach47
  unfold L_subwaylaw15_TicketOnce
  obtain ⟨b, hb, hb'⟩ := ops_great ops hl hq
  rw [tkHead_true, Option.bind_some, prog_new key (by omega), Option.bind_some, hb, Option.bind_some]
  cases b with
  | true =>
    rw [cond_true]
    unfold L_subwaylaw15_TicketOnce_k1
    rw [cond_true]
  | false =>
    rw [cond_false]
    unfold L_subwaylaw15_TicketOnce_k1
    by_cases h3 : ((key.length : Nat) : Int) > 3000
    · rw [decide_eq_true h3, cond_true]
    · rw [decide_eq_false h3, cond_false]
      exact once_loop ops key (by omega) (hb' rfl).1 (hb' rfl).2 ops.length 0 fuel 0 [] (by omega) (by omega) (by have := (hb' rfl).1; unfold fuel; omega) (by omega) (by omega) (by simp [bk]) (by simp) List.Pairwise.nil
end Go.Proofs.YtjllaeceghmjgaaDoor
