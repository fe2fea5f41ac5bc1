/- What a gate does, of the program and of the document: two rows of numbers. -/
import Derived.Test.YtfffjaijflbeaaaDoorCfgRef
import Derived.Test.YtfffjaijflbeaaaDoorLGT
import Derived.Test.YtfffjaijflbeaaaDoorLGN
import Derived.Test.YtfffjaijflbeaaaDoorLRG
namespace Go.Proofs.YtfffjaijflbeaaaDoor
set_option linter.unusedSimpArgs false
set_option linter.unusedVariables false
/-! names that rise are apart -/
theorem less_irr : ∀ l : Str, Op.bytesLess l l = false
  | [] => rfl
  | a :: l => by
    show ((decide (a < a)) || (a == a && Op.bytesLess l l)) = false
    rw [less_irr l, Bool.and_false, Bool.or_false]
    simp
theorem less_tr : ∀ a b c : Str, Op.bytesLess a b = true → Op.bytesLess b c = true → Op.bytesLess a c = true
  | a, [], c, h, _ => by rw [less_nil] at h; cases h
  | a, b, [], _, h => by rw [less_nil] at h; cases h
  | [], x :: b, y :: c, _, _ => rfl
  | x :: a, y :: b, z :: c, h1, h2 => by
    have e1 : (decide (x < y) || (x == y && Op.bytesLess a b)) = true := h1
    have e2 : (decide (y < z) || (y == z && Op.bytesLess b c)) = true := h2
    show (decide (x < z) || (x == z && Op.bytesLess a c)) = true
    simp only [Bool.or_eq_true, decide_eq_true_eq, Bool.and_eq_true, beq_iff_eq] at e1 e2 ⊢
    rcases e1 with e1 | ⟨rfl, e1⟩
    · rcases e2 with e2 | ⟨rfl, e2⟩
      · exact .inl (UInt8.lt_trans e1 e2)
      · exact .inl e1
    · rcases e2 with e2 | ⟨rfl, e2⟩
      · exact .inl e2
      · exact .inr ⟨rfl, less_tr a b c e1 e2⟩
theorem ris_head : ∀ (l : List Str) (x : Str), risL (x :: l) = true → ∀ y ∈ l, Op.bytesLess x y = true
  | [], x, _, y, hy => by cases hy
  | b :: r, x, h, y, hy => by
    have h' : (Op.bytesLess x b && risL (b :: r)) = true := h
    rw [Bool.and_eq_true] at h'
    rcases List.mem_cons.1 hy with rfl | hy
    · exact h'.1
    · exact less_tr _ _ _ h'.1 (ris_head r b h'.2 y hy)
theorem ris_tail {x : Str} {l : List Str} (h : risL (x :: l) = true) : risL l = true := by
  cases l with
  | nil => rfl
  | cons b r =>
    have h' : (Op.bytesLess x b && risL (b :: r)) = true := h
    rw [Bool.and_eq_true] at h'
    exact h'.2
theorem ris_drop {l : List Str} (h : risL l = true) : ∀ j, risL (l.drop j) = true := by
  intro j
  induction j generalizing l with
  | zero => exact h
  | succ j ih =>
    cases l with
    | nil => rfl
    | cons x l => exact ih (ris_tail h)
theorem ris_ne {l : List TenantL} (h : risL (l.map (·.1)) = true) {j i : Nat} (hji : j < i) (hi : i < l.length) : (l[j]'(by omega)).1 ≠ l[i].1 := by
  have h1 := ris_drop h j
  rw [List.drop_eq_getElem_cons (by simp; omega : j < (l.map (·.1)).length)] at h1
  have h2 := ris_head _ _ h1 l[i].1 (by
    rw [← List.map_drop]
    refine List.mem_map.2 ⟨l[i], ?_, rfl⟩
    rw [List.mem_drop_iff_getElem]
    exact ⟨i - (j + 1), by omega, by congr 1; omega⟩)
  simp only [List.getElem_map] at h2
  intro e
  rw [e, less_irr] at h2
  cases h2
/-! numbers of names and visitors -/
def mkU (N V : List Int) : List (List Int) := List.zipWith (fun n v => [0, n, v]) N V
def tn (l : List TenantL) (k : Nat) : TenantL := l.getD k dTen0
structure GInv (l : List TenantL) (N V : List Int) : Prop where
  lN : N.length = l.length
  lV : V.length = l.length
  inN' : ∀ k, k < l.length → 0 ≤ N.getD k 0 ∧ N.getD k 0 ≤ (tn l k).2.1
  inV : ∀ k, k < l.length → 0 ≤ V.getD k 0 ∧ V.getD k 0 ≤ (tn l k).2.2.1
  m8 : ∀ k, k < l.length → (tn l k).2.1 ≤ 8 ∧ (tn l k).2.2.1 ≤ 8
def usedF (l : List TenantL) (N V : List Int) (nm : Str) (what : Int) : Int := match pl l nm with
  | none => 0
  | some k => if what = 1 then N.getD k 0 else if what = 2 then V.getD k 0 else 0
def takeF (l : List TenantL) (N V : List Int) (nm : Str) (what : Int) : Int × List Int × List Int :=
  if what = 1 then (match pl l nm with | none => (3, N, V) | some k => if N.getD k 0 = (tn l k).2.1 then (112, N, V) else (0, N.set k (N.getD k 0 + 1), V))
  else if what = 2 then (match pl l nm with | none => (3, N, V) | some k => if V.getD k 0 = (tn l k).2.2.1 then (112, N, V) else (0, N, V.set k (V.getD k 0 + 1)))
  else (1, N, V)
def giveF (l : List TenantL) (N V : List Int) (nm : Str) (what : Int) : Bool × List Int × List Int :=
  match pl l nm with
  | none => (false, N, V)
  | some k => if what = 1 then (if N.getD k 0 = 0 then (false, N, V) else (true, N.set k (N.getD k 0 - 1), V)) else if what = 2 then (if V.getD k 0 = 0 then (false, N, V) else (true, N, V.set k (V.getD k 0 - 1))) else (false, N, V)
theorem pl_lt {l : List TenantL} {nm : Str} {k : Nat} (h : pl l nm = some k) : k < l.length := (List.findIdx?_eq_some_iff_getElem.1 h).1
theorem gfind_pl (l : List TenantL) (nm : Str) : gfind l nm = (pl l nm).map fun k => (k, tn l k) := by
  unfold gfind pl
  cases h : l.findIdx? (fun x => x.1 == nm) with
  | none => rfl
  | some k =>
    have hlt := pl_lt h
    simp [tn, List.getD, hlt]
theorem gU_mk {N V : List Int} {k : Nat} (t : TenantL) (hN : k < N.length) (hV : k < V.length) : gU (mkU N V) (k, t) = [0, N.getD k 0, V.getD k 0] := by
  unfold gU mkU
  simp [List.getD, List.getElem?_zipWith, hN, hV]
theorem mk_set1 {N V : List Int} {k : Nat} (x : Int) (t : TenantL) (hN : k < N.length) (hV : k < V.length) : gset (mkU N V) (k, t) 1 x = mkU (N.set k x) V := by
  have := gU_mk t hN hV
  unfold gset
  unfold gU at this
  rw [this]
  unfold mkU
  apply List.ext_getElem?
  intro j
  rw [List.getElem?_zipWith, List.getElem?_set, List.getElem?_set, List.getElem?_zipWith]
  by_cases h : k = j
  · subst h
    simp [hN, hV, List.getD]
    omega
  · simp [h]
theorem mk_set2 {N V : List Int} {k : Nat} (x : Int) (t : TenantL) (hN : k < N.length) (hV : k < V.length) : gset (mkU N V) (k, t) 2 x = mkU N (V.set k x) := by
  have := gU_mk t hN hV
  unfold gset
  unfold gU at this
  rw [this]
  unfold mkU
  apply List.ext_getElem?
  intro j
  rw [List.getElem?_zipWith, List.getElem?_set, List.getElem?_set, List.getElem?_zipWith]
  by_cases h : k = j
  · subst h
    simp [hN, hV, List.getD]
    omega
  · simp [h]
theorem lCounted (what : Int) : L_gate_counted what = some ((what == 1) || (what == 2)) := by
  unfold L_gate_counted L_gate_counted_k1
  cases (what == 1) <;> rfl
theorem idx3_1 (a b c : Int) : idx [a, b, c] 1 = some b := rfl
theorem idx3_2 (a b c : Int) : idx [a, b, c] 2 = some c := rfl
section
variable {l : List TenantL} {N V : List Int} (nm : Str) (what : Int)
theorem pUsed (hI : GInv l N V) : L_gate_Gate_Used l (mkU N V) nm what = some (usedF l N V nm what) := by
  unfold L_gate_Gate_Used usedF
  rw [gfind_pl, lCounted]
  cases hp : pl l nm with
  | none => rfl
  | some k =>
    have hk := pl_lt hp
    simp only [Option.map_some, optE, Option.bind_some]
    rw [gU_mk _ (by rw [hI.lN]; exact hk) (by rw [hI.lV]; exact hk)]
    by_cases h1 : what = 1
    · subst h1
      rfl
    · by_cases h2 : what = 2
      · subst h2
        rfl
      · rw [if_neg h1, if_neg h2, beq_eq_false_iff_ne.2 h1, beq_eq_false_iff_ne.2 h2]
        rfl
theorem pTake (hI : GInv l N V) : L_gate_Gate_Take l (mkU N V) nm what = some ((takeF l N V nm what).1, mkU (takeF l N V nm what).2.1 (takeF l N V nm what).2.2) := by
  unfold L_gate_Gate_Take takeF
  rw [gfind_pl, lCounted]
  cases hp : pl l nm with
  | none =>
    simp only [Option.map_none, optE, Option.bind_some]
    by_cases h1 : what = 1
    · subst h1; rfl
    · by_cases h2 : what = 2
      · subst h2; rfl
      · rw [if_neg h1, if_neg h2, beq_eq_false_iff_ne.2 h1, beq_eq_false_iff_ne.2 h2]
        rfl
  | some k =>
    have hk := pl_lt hp
    have hkN : k < N.length := by rw [hI.lN]; exact hk
    have hkV : k < V.length := by rw [hI.lV]; exact hk
    have b1 := hI.inN' k hk
    have b2 := hI.inV k hk
    have b3 := hI.m8 k hk
    simp only [Option.map_some, optE, Option.bind_some]
    rw [gU_mk _ hkN hkV]
    unfold gM
    by_cases h1 : what = 1
    · subst h1
      rw [if_pos rfl]
      simp only [idx3_1, Option.bind_some, beq_self_eq_true, Bool.true_or, Bool.not_true, cond_false]
      rw [mk_set1 _ _ hkN hkV, wrap64 (by omega)]
      by_cases h : N.getD k 0 = (tn l k).2.1
      · rw [if_pos h, beq_iff_eq.2 h]; rfl
      · rw [if_neg h, beq_eq_false_iff_ne.2 h]; rfl
    · rw [if_neg h1]
      by_cases h2 : what = 2
      · subst h2
        rw [if_pos rfl]
        simp only [idx3_2, Option.bind_some, beq_self_eq_true, Bool.or_true, Bool.not_true, cond_false]
        rw [mk_set2 _ _ hkN hkV, wrap64 (by omega)]
        by_cases h : V.getD k 0 = (tn l k).2.2.1
        · rw [if_pos h, beq_iff_eq.2 h]; rfl
        · rw [if_neg h, beq_eq_false_iff_ne.2 h]; rfl
      · rw [if_neg h2, beq_eq_false_iff_ne.2 h1, beq_eq_false_iff_ne.2 h2]
        rfl
theorem pGive (hI : GInv l N V) : L_gate_Gate_Give l (mkU N V) nm what = some ((giveF l N V nm what).1, mkU (giveF l N V nm what).2.1 (giveF l N V nm what).2.2) := by
  unfold L_gate_Gate_Give giveF
  rw [pUsed nm what hI, Option.bind_some, gfind_pl]
  unfold usedF
  cases hp : pl l nm with
  | none => rfl
  | some k =>
    have hk := pl_lt hp
    have hkN : k < N.length := by rw [hI.lN]; exact hk
    have hkV : k < V.length := by rw [hI.lV]; exact hk
    have b1 := hI.inN' k hk
    have b2 := hI.inV k hk
    have b3 := hI.m8 k hk
    simp only [Option.map_some, Option.bind_some]
    rw [gU_mk _ hkN hkV]
    by_cases h1 : what = 1
    · subst h1
      rw [if_pos rfl, if_pos rfl]
      simp only [idx3_1, Option.bind_some]
      rw [mk_set1 _ _ hkN hkV, wrap64 (by omega)]
      by_cases h : N.getD k 0 = 0
      · rw [if_pos h, beq_iff_eq.2 h]; rfl
      · rw [if_neg h, beq_eq_false_iff_ne.2 h]; rfl
    · rw [if_neg h1, if_neg h1]
      by_cases h2 : what = 2
      · subst h2
        rw [if_pos rfl, if_pos rfl]
        simp only [idx3_2, Option.bind_some]
        rw [mk_set2 _ _ hkN hkV, wrap64 (by omega)]
        by_cases h : V.getD k 0 = 0
        · rw [if_pos h, beq_iff_eq.2 h]; rfl
        · rw [if_neg h, beq_eq_false_iff_ne.2 h]; rfl
      · rw [if_neg h2, if_neg h2]
        rfl
theorem inv_setN (hI : GInv l N V) {k : Nat} {x : Int} (hk : k < l.length) (h : 0 ≤ x ∧ x ≤ (tn l k).2.1) : GInv l (N.set k x) V := by
  refine ⟨by simp [hI.lN], hI.lV, fun j hj => ?_, hI.inV, hI.m8⟩
  by_cases e : k = j
  · subst e
    simpa [List.getD, hI.lN, hk] using h
  · have := hI.inN' j hj
    simpa [List.getD, List.getElem?_set, e] using this
theorem inv_setV (hI : GInv l N V) {k : Nat} {x : Int} (hk : k < l.length) (h : 0 ≤ x ∧ x ≤ (tn l k).2.2.1) : GInv l N (V.set k x) := by
  refine ⟨hI.lN, by simp [hI.lV], hI.inN', fun j hj => ?_, hI.m8⟩
  by_cases e : k = j
  · subst e
    simpa [List.getD, hI.lV, hk] using h
  · have := hI.inV j hj
    simpa [List.getD, List.getElem?_set, e] using this
theorem take_inv (hI : GInv l N V) : GInv l (takeF l N V nm what).2.1 (takeF l N V nm what).2.2 := by
  unfold takeF
  cases hp : pl l nm with
  | none =>
    split
    · exact hI
    · split <;> exact hI
  | some k =>
    have hk := pl_lt hp
    have b1 := hI.inN' k hk
    have b2 := hI.inV k hk
    split
    · simp only []
      split
      · exact hI
      · exact inv_setN hI hk (by omega)
    · split
      · simp only []
        split
        · exact hI
        · exact inv_setV hI hk (by omega)
      · exact hI
theorem give_inv (hI : GInv l N V) : GInv l (giveF l N V nm what).2.1 (giveF l N V nm what).2.2 := by
  unfold giveF
  cases hp : pl l nm with
  | none => exact hI
  | some k =>
    have hk := pl_lt hp
    have b1 := hI.inN' k hk
    have b2 := hI.inV k hk
    simp only []
    split
    · split
      · exact hI
      · exact inv_setN hI hk (by omega)
    · split
      · split
        · exact hI
        · exact inv_setV hI hk (by omega)
      · exact hI
/-! the document's -/
theorem place_loop (hl : l.length ≤ 9000) : ∀ (d i f : Nat), d = l.length - i → i ≤ l.length → d < f → (l.take i).any (fun x => x.1 == nm) = false → L_subwayref11_Gate_place_l1 l nm f (i : Int) = some (match pl l nm with | some k => (k : Int) | none => -1) := by
  intro d
  induction d with
  | zero =>
    intro i f hd hi hf hn
    obtain ⟨f, rfl⟩ : ∃ g, f = g + 1 := ⟨f - 1, by omega⟩
    show L_subwayref11_Gate_place_b1 (L_subwayref11_Gate_place_l1 l nm f) l nm (i : Int) = _
    unfold L_subwayref11_Gate_place_b1
    rw [List.take_of_length_le (by omega)] at hn
    rw [show decide ((i : Int) < ((l.length : Nat) : Int)) = false from decide_eq_false (by omega), cond_false, pl_none hn]
  | succ d ih =>
    intro i f hd hi hf hn
    obtain ⟨f, rfl⟩ : ∃ g, f = g + 1 := ⟨f - 1, by omega⟩
    have hlt : i < l.length := by omega
    show L_subwayref11_Gate_place_b1 (L_subwayref11_Gate_place_l1 l nm f) l nm (i : Int) = _
    unfold L_subwayref11_Gate_place_b1
    rw [show decide ((i : Int) < ((l.length : Nat) : Int)) = true from decide_eq_true (by omega), cond_true, idx_get hlt, Option.bind_some]
    cases hx : (l[i].1 == nm) with
    | true => rw [cond_true, pl_step hlt hn hx]
    | false =>
      rw [cond_false, show ((i : Int) + 1) = ((i + 1 : Nat) : Int) by omega, wrapn (by omega)]
      exact ih (i + 1) f (by omega) (by omega) (by omega) (any_more hlt hn hx)
variable (a b c e : Int)
theorem rPlace (hl : l.length ≤ 9000) : L_subwayref11_Gate_place a b c e l N V nm = some (match pl l nm with | some k => (k : Int) | none => -1) :=
  place_loop nm hl l.length 0 fuel (by omega) (by omega) (by unfold fuel; omega) rfl
theorem rUsed (hI : GInv l N V) (hl : l.length ≤ 9000) : L_subwayref11_Gate_Used a b c e l N V nm what = some (usedF l N V nm what) := by
  unfold L_subwayref11_Gate_Used usedF
  rw [rPlace nm a b c e hl, Option.bind_some]
  cases hp : pl l nm with
  | none => rfl
  | some k =>
    have hk := pl_lt hp
    have iN : idx N (k : Int) = some (N.getD k 0) := by rw [idx_get (by rw [hI.lN]; exact hk)]; simp [List.getD, hI.lN, hk]
    have iV : idx V (k : Int) = some (V.getD k 0) := by rw [idx_get (by rw [hI.lV]; exact hk)]; simp [List.getD, hI.lV, hk]
    simp only [iN, iV, Option.bind_some]
    rw [show decide ((k : Int) < 0) = false from decide_eq_false (by omega), cond_false]
    by_cases h1 : what = 1
    · subst h1; rfl
    · by_cases h2 : what = 2
      · subst h2; rfl
      · rw [if_neg h1, if_neg h2, beq_eq_false_iff_ne.2 h1, beq_eq_false_iff_ne.2 h2]
        rfl
theorem rAdd (hI : GInv l N V) (hl : l.length ≤ 9000) {k : Nat} (hp : pl l nm = some k) (d : Int) (hd : -1 ≤ d ∧ d ≤ 1) : L_subwayref11_Gate_add a b c e l N V nm what d = some (if what = 1 then (a, b, c, e, N.set k (N.getD k 0 + d), V) else (a, b, c, e, N, V.set k (V.getD k 0 + d))) := by
  have hk := pl_lt hp
  have b1 := hI.inN' k hk
  have b2 := hI.inV k hk
  have b3 := hI.m8 k hk
  have iN : idx N (k : Int) = some (N.getD k 0) := by rw [idx_get (by rw [hI.lN]; exact hk)]; simp [List.getD, hI.lN, hk]
  have iV : idx V (k : Int) = some (V.getD k 0) := by rw [idx_get (by rw [hI.lV]; exact hk)]; simp [List.getD, hI.lV, hk]
  unfold L_subwayref11_Gate_add L_subwayref11_Gate_add_k1
  rw [rPlace nm a b c e hl, Option.bind_some, hp]
  simp only [iN, iV, Option.bind_some, Int.toNat_natCast]
  rw [wrap64 (by omega), wrap64 (by omega)]
  by_cases h1 : what = 1
  · subst h1; rfl
  · rw [if_neg h1, beq_eq_false_iff_ne.2 h1]; rfl
theorem rTake (hI : GInv l N V) (hl : l.length ≤ 9000) : L_subwayref11_Gate_Take a b c e l N V nm what = some ((takeF l N V nm what).1, a, b, c, e, (takeF l N V nm what).2.1, (takeF l N V nm what).2.2) := by
  have huse := rUsed nm what a b c e hI hl
  unfold L_subwayref11_Gate_Take L_subwayref11_Gate_Take_k1 L_subwayref11_Gate_Take_k2 takeF
  rw [rFind _ _ _ _ _ _ hl, huse]
  unfold findL usedF
  by_cases h1 : what = 1
  · subst h1
    cases hp : pl l nm with
    | none => rfl
    | some k =>
      have hk := pl_lt hp
      have b1 := hI.inN' k hk
      rw [rAdd nm 1 a b c e hI hl hp 1 (by omega)]
      simp only [if_pos]
      rw [show (tn l k) = l.getD k dTen0 from rfl] at b1 ⊢
      by_cases h : N.getD k 0 = (l.getD k dTen0).2.1
      · rw [if_pos h]
        show cond (decide (N.getD k 0 ≥ (l.getD k dTen0).2.1)) _ _ = _
        rw [decide_eq_true (by omega)]
        rfl
      · rw [if_neg h]
        show cond (decide (N.getD k 0 ≥ (l.getD k dTen0).2.1)) _ _ = _
        rw [decide_eq_false (by omega)]
        rfl
  · by_cases h2 : what = 2
    · subst h2
      cases hp : pl l nm with
      | none => rfl
      | some k =>
        have hk := pl_lt hp
        have b2 := hI.inV k hk
        rw [rAdd nm 2 a b c e hI hl hp 1 (by omega)]
        rw [if_neg (by decide : ¬ (2 : Int) = 1), if_neg (by decide : ¬ (2 : Int) = 1), if_pos rfl]
        simp only [if_pos]
        rw [show (tn l k) = l.getD k dTen0 from rfl] at b2 ⊢
        by_cases h : V.getD k 0 = (l.getD k dTen0).2.2.1
        · rw [if_pos h]
          show cond (decide (V.getD k 0 ≥ (l.getD k dTen0).2.2.1)) _ _ = _
          rw [decide_eq_true (by omega)]
          rfl
        · rw [if_neg h]
          show cond (decide (V.getD k 0 ≥ (l.getD k dTen0).2.2.1)) _ _ = _
          rw [decide_eq_false (by omega)]
          rfl
    · rw [if_neg h1, if_neg h2]
      rw [show (what != 1) = true by simp [h1], show (what != 2) = true by simp [h2]]
      rfl
theorem rGive (hI : GInv l N V) (hl : l.length ≤ 9000) : L_subwayref11_Gate_Give a b c e l N V nm what = some ((giveF l N V nm what).1, a, b, c, e, (giveF l N V nm what).2.1, (giveF l N V nm what).2.2) := by
  unfold L_subwayref11_Gate_Give giveF
  rw [rUsed nm what a b c e hI hl, Option.bind_some]
  unfold usedF
  cases hp : pl l nm with
  | none => rfl
  | some k =>
    simp only []
    rw [rAdd nm what a b c e hI hl hp (-1) (by omega)]
    by_cases h1 : what = 1
    · subst h1
      rw [if_pos rfl, if_pos rfl, if_pos rfl]
      by_cases h : N.getD k 0 = 0
      · rw [if_pos h, beq_iff_eq.2 h]; rfl
      · rw [if_neg h, beq_eq_false_iff_ne.2 h]; rfl
    · rw [if_neg h1, if_neg h1, if_neg h1]
      by_cases h2 : what = 2
      · subst h2
        rw [if_pos rfl, if_pos rfl]
        by_cases h : V.getD k 0 = 0
        · rw [if_pos h, beq_iff_eq.2 h]; rfl
        · rw [if_neg h, beq_eq_false_iff_ne.2 h]; rfl
      · rw [if_neg h2, if_neg h2]; rfl
end
/-! who may come -/
def inB (a : Nat) (n : NetL) : Bool := inN n.1.toNat n.2 a
def admitF (l : List TenantL) (nm : Str) (a : Nat) : Int := match pl l nm with
  | none => 3
  | some k => if (tn l k).2.2.2.1.length = 0 ∨ (tn l k).2.2.2.1.any (inB a) = true then 0 else 111
theorem tn_mem {l : List TenantL} {k : Nat} (h : k < l.length) : tn l k ∈ l := by
  have : tn l k = l[k] := by simp [tn, List.getD, h]
  rw [this]
  exact List.getElem_mem h
theorem lInB {n : NetL} {a : Nat} (ha : a < 4294967296) (h : 0 ≤ n.1 ∧ n.1 < 4294967296) : L_syntax_In n.1 n.2 (a : Int) = some (inB a n) ∧ L_subwayref04_In n.1 n.2 (a : Int) = some (inB a n) := by
  obtain ⟨m, hm⟩ : ∃ m : Nat, n.1 = (m : Int) := ⟨n.1.toNat, by omega⟩
  unfold inB
  rw [hm, Int.toNat_natCast, lIn m a (by omega) ha, rIn m a (by omega) ha]
  exact ⟨rfl, rfl⟩
theorem pAdmit {l : List TenantL} (U : List (List Int)) (nm : Str) {a : Nat} (ha : a < 4294967296) (hq : ∀ t ∈ l, TenQ t) : L_gate_Gate_Admit l U nm (a : Int) = some (admitF l nm a) := by
  unfold L_gate_Gate_Admit admitF
  rw [gfind_pl]
  cases hp : pl l nm with
  | none => rfl
  | some k =>
    obtain ⟨_, q2, _, q4, _⟩ := hq _ (tn_mem (pl_lt hp))
    simp only [Option.map_some, optE]
    rw [containsNet _ (inB a) _ (fun n hn => by unfold L_gate_Gate_Admit_1; rw [(lInB ha (q4 n hn)).1]; rfl) q2, Option.bind_some]
    unfold L_gate_Gate_Admit_k1
    by_cases h0 : (tn l k).2.2.2.1.length = 0
    · rw [if_pos (.inl h0), show ((((tn l k).2.2.2.1.length : Nat) : Int) == 0) = true from beq_iff_eq.2 (by omega)]
      rfl
    · rw [show ((((tn l k).2.2.2.1.length : Nat) : Int) == 0) = false from beq_eq_false_iff_ne.2 (by omega), cond_false]
      cases ha : (tn l k).2.2.2.1.any (inB a) with
      | true => rw [if_pos (.inr rfl)]; rfl
      | false => rw [if_neg (by simp [h0])]; rfl
theorem rAdmit_loop {a : Nat} (ha : a < 4294967296) (z : Str × Int × Int × List NetL × List TokL × Bool) (hl : z.2.2.2.1.length ≤ 9000) (hq : ∀ n ∈ z.2.2.2.1, 0 ≤ n.1 ∧ n.1 < 4294967296) : ∀ (d i f : Nat), d = z.2.2.2.1.length - i → i ≤ z.2.2.2.1.length → d < f → 
    L_subwayref11_Gate_Admit_l1 (a : Int) z f (i : Int) = some (if (z.2.2.2.1.drop i).any (inB a) = true then 0 else if z.2.2.2.1.length = 0 then 0 else 111) := by
  intro d
  induction d with
  | zero =>
    intro i f hd hi hf
    obtain ⟨f, rfl⟩ : ∃ g, f = g + 1 := ⟨f - 1, by omega⟩
    show L_subwayref11_Gate_Admit_b1 (L_subwayref11_Gate_Admit_l1 (a : Int) z f) (a : Int) z (i : Int) = _
    unfold L_subwayref11_Gate_Admit_b1
    rw [show decide ((i : Int) < ((z.2.2.2.1.length : Nat) : Int)) = false from decide_eq_false (by omega), cond_false, List.drop_of_length_le (by omega), if_neg (by simp)]
    by_cases h0 : z.2.2.2.1.length = 0
    · rw [if_pos h0, decide_eq_false (by omega)]; rfl
    · rw [if_neg h0, decide_eq_true (by omega)]; rfl
  | succ d ih =>
    intro i f hd hi hf
    obtain ⟨f, rfl⟩ : ∃ g, f = g + 1 := ⟨f - 1, by omega⟩
    have hlt : i < z.2.2.2.1.length := by omega
    show L_subwayref11_Gate_Admit_b1 (L_subwayref11_Gate_Admit_l1 (a : Int) z f) (a : Int) z (i : Int) = _
    unfold L_subwayref11_Gate_Admit_b1
    rw [show decide ((i : Int) < ((z.2.2.2.1.length : Nat) : Int)) = true from decide_eq_true (by omega), cond_true, idx_get hlt, Option.bind_some, (lInB ha (hq _ (List.getElem_mem hlt))).2, Option.bind_some, show ((i : Int) + 1) = ((i + 1 : Nat) : Int) by omega, wrapn (by omega), ih (i + 1) f (by omega) (by omega) (by omega), List.drop_eq_getElem_cons hlt, List.any_cons]
    cases inB a z.2.2.2.1[i] with
    | true => rfl
    | false => rw [cond_false, Bool.false_or]
theorem rAdmit {l : List TenantL} (N V : List Int) (nm : Str) {a : Nat} (ha : a < 4294967296) (hl : l.length ≤ 9000) (hq : ∀ t ∈ l, TenQ t) (hs : ∀ t ∈ l, TenS t) (x y u v : Int) : L_subwayref11_Gate_Admit x y u v l N V nm (a : Int) = some (admitF l nm a) := by
  unfold L_subwayref11_Gate_Admit admitF
  rw [rFind _ _ _ _ _ _ hl, Option.bind_some]
  cases hp : pl l nm with
  | none =>
    unfold findL
    rw [hp]
    rfl
  | some k =>
    have hm := tn_mem (pl_lt hp)
    have hf : findL l nm = ((tn l k).1, (tn l k).2.1, (tn l k).2.2.1, (tn l k).2.2.2.1, (tn l k).2.2.2.2, true) := by unfold findL; rw [hp]; rfl
    rw [hf]
    have := rAdmit_loop ha ((tn l k).1, (tn l k).2.1, (tn l k).2.2.1, (tn l k).2.2.2.1, (tn l k).2.2.2.2, true) (hs _ hm).2.1 (hq _ hm).2.2.2.1 (tn l k).2.2.2.1.length 0 fuel (by simp) (by omega) (by unfold fuel; have := (hs _ hm).2.1; omega)
    rw [show ((0 : Nat) : Int) = 0 from rfl] at this
    simp only [Bool.not_true, cond_false]
    rw [this]
    simp only [List.drop_zero]
    by_cases h1 : (tn l k).2.2.2.1.any (inB a) = true
    · rw [if_pos h1, if_pos (.inr h1)]
    · rw [if_neg h1]
      by_cases h0 : (tn l k).2.2.2.1.length = 0
      · rw [if_pos h0, if_pos (.inl h0)]
      · rw [if_neg h0, if_neg (by simp [h0, h1])]
/-! new ones -/
def zeros (l : List TenantL) : List Int := List.replicate l.length 0
theorem mk_zeros (n : Nat) : mkU (List.replicate n 0) (List.replicate n 0) = List.replicate n [0, 0, 0] := by
  unfold mkU
  rw [List.zipWith_replicate, Nat.min_self]
theorem inv_zeros {w g i e : Int} {l : List TenantL} (h : cfgOk w g i e l = true) : GInv l (zeros l) (zeros l) := by
  unfold cfgOk at h
  simp only [Bool.and_eq_true, List.all_eq_true] at h
  have hten : ∀ k, k < l.length → 0 ≤ (tn l k).2.1 ∧ (tn l k).2.1 ≤ 8 ∧ 0 ≤ (tn l k).2.2.1 ∧ (tn l k).2.2.1 ≤ 8 := fun k hk => by
    have := h.2.2.1 _ (tn_mem hk)
    unfold tenOk qOk at this
    simp only [Bool.and_eq_true, decide_eq_true_eq] at this
    exact ⟨this.2.2.1.1.1, this.2.2.1.1.2, this.2.2.1.2.1, this.2.2.1.2.2⟩
  have hz : ∀ k, k < l.length → (zeros l).getD k 0 = 0 := fun k hk => by simp [zeros, List.getD, List.getElem?_replicate, hk]
  exact ⟨by simp [zeros], by simp [zeros], fun k hk => by rw [hz k hk]; have := hten k hk; omega, fun k hk => by rw [hz k hk]; have := hten k hk; omega, fun k hk => by have := hten k hk; omega⟩
theorem pNew_loop {l : List TenantL} (hl : l.length ≤ 140737488355328) (hr : risL (l.map (·.1)) = true) : ∀ (d i f : Nat), d = l.length - i → i ≤ l.length → d < f → L_gate_New_l1 l f (List.replicate i [0, 0, 0]) (i : Int) = some (some (List.replicate l.length [0, 0, 0])) := by
  intro d
  induction d with
  | zero =>
    intro i f hd hi hf
    obtain ⟨f, rfl⟩ : ∃ g, f = g + 1 := ⟨f - 1, by omega⟩
    show L_gate_New_b1 (L_gate_New_l1 l f) l (List.replicate i [0, 0, 0]) (i : Int) = _
    unfold L_gate_New_b1
    rw [show decide ((i : Int) < ((l.length : Nat) : Int)) = false from decide_eq_false (by omega), cond_false, show i = l.length by omega]
  | succ d ih =>
    intro i f hd hi hf
    obtain ⟨f, rfl⟩ : ∃ g, f = g + 1 := ⟨f - 1, by omega⟩
    have hlt : i < l.length := by omega
    show L_gate_New_b1 (L_gate_New_l1 l f) l (List.replicate i [0, 0, 0]) (i : Int) = _
    unfold L_gate_New_b1
    have hall : (List.take (Int.toNat (i : Int)) l).all (fun x => !(x.1 == l[i].1)) = true := by
      rw [Int.toNat_natCast, List.all_eq_true]
      intro x hx
      rw [List.mem_take_iff_getElem] at hx
      obtain ⟨j, hj, rfl⟩ := hx
      simp only [Bool.not_eq_true', beq_eq_false_iff_ne]
      exact ris_ne hr (by omega) hlt
    rw [show decide ((i : Int) < ((l.length : Nat) : Int)) = true from decide_eq_true (by omega), cond_true, idx_get hlt, Option.bind_some, hall]
    simp only [chk, Option.bind_some]
    rw [show ((i : Int) + 1) = ((i + 1 : Nat) : Int) by omega, wrapn (by omega), ← List.replicate_succ']
    exact ih (i + 1) f (by omega) (by omega) (by omega)
def newL (w g i e : Int) (l : List TenantL) : Option (List (List Int)) := if cfgOk w g i e l = true then some (mkU (zeros l) (zeros l)) else none
theorem pNew (w g i e : Int) (l : List TenantL) (hl : l.length ≤ 140737488355328) (hq : ∀ t ∈ l, TenQ t) : L_gate_New w g i e l = some (newL w g i e l) := by
  unfold L_gate_New newL
  rw [lCfg w g i e l hl hq, Option.bind_some]
  cases hc : cfgOk w g i e l with
  | false => rfl
  | true =>
    have hr : risL (l.map (·.1)) = true := by
      unfold cfgOk at hc
      simp only [Bool.and_eq_true] at hc
      exact hc.2.2.2
    have := pNew_loop hl hr l.length 0 fuel (by omega) (by omega) (by unfold fuel; omega)
    rw [show ((0 : Nat) : Int) = 0 from rfl] at this
    rw [if_pos rfl, show (!true) = false from rfl, cond_false, show ([] : List (List Int)) = List.replicate 0 [0, 0, 0] from rfl, this]
    unfold zeros
    rw [mk_zeros]
theorem rNew (w g i e : Int) (l : List TenantL) (hl : l.length ≤ 9000) (hq : ∀ t ∈ l, TenQ t) (hs : ∀ t ∈ l, TenS t) : L_subwayref11_New w g i e l = some (if cfgOk w g i e l = true then some (w, g, i, e, zeros l, zeros l) else none) := by
  unfold L_subwayref11_New
  rw [rCfg w g i e l hl hq hs, Option.bind_some]
  cases hc : cfgOk w g i e l with
  | false => rfl
  | true =>
    rw [if_pos rfl, show (!true) = false from rfl, cond_false, show decide (0 ≤ ((List.length l : Nat) : Int) ∧ ((List.length l : Nat) : Int) ≤ 2147483648) = true from decide_eq_true (by omega)]
    simp only [chk, Option.bind_some, Int.toNat_natCast]
    rfl
end Go.Proofs.YtfffjaijflbeaaaDoor
