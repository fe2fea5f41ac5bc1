/- The document's Right and Find; what is not great. -/
import Derived.Test.YtfffjaijflbeaaaDoorCfgSpec
namespace Go.Proofs.YtfffjaijflbeaaaDoor
set_option linter.unusedSimpArgs false
set_option linter.unusedVariables false
def TenS (t : TenantL) : Prop := t.1.length ≤ 9000 ∧ t.2.2.2.1.length ≤ 9000 ∧ t.2.2.2.2.length ≤ 9000 ∧ ∀ x ∈ t.2.2.2.2, x.1.length ≤ 9000 ∧ x.2.1.length ≤ 9000
theorem not_gt {a b : Int} : decide (a > b) = !(decide (a ≤ b)) := by rw [← decide_not]; exact decide_eq_decide.2 (by omega)
theorem not_lt0 {a : Int} : decide (a < 0) = !(decide (0 ≤ a)) := by rw [← decide_not]; exact decide_eq_decide.2 (by omega)
theorem emptyB (s : Str) : (s == ([] : List UInt8)) = !(decide (1 ≤ s.length)) := by
  cases s with
  | nil => rfl
  | cons c s => rw [decide_eq_true (by simp)]; rfl
theorem len32 (s : Str) : decide (((List.length s : Nat) : Int) > 32) = !(decide (s.length ≤ 32)) := by rw [← decide_not]; exact decide_eq_decide.2 (by omega)
theorem tok_step (r10 r13 : Int → Option Bool) (l : List TokL) (i : Nat) (hi : i < l.length) (hl : l.length ≤ 9000) (hx : l[i].1.length ≤ 9000) :
    L_subwayref09_rightTenant_b12 r10 r13 l (i : Int) = cond (tokOk l[i] && (if h : 0 < i then Op.bytesLess (l[i - 1]'(by omega)).1 l[i].1 else true)) (r13 ((i + 1 : Nat) : Int)) (some false) := by
  unfold L_subwayref09_rightTenant_b12 L_subwayref09_rightTenant_k14
  rw [show decide ((i : Int) < ((l.length : Nat) : Int)) = true from decide_eq_true (by omega), cond_true, idx_get hi, Option.bind_some, rName _ hx, Option.bind_some]
  simp only [show ((i : Int) + 1) = ((i + 1 : Nat) : Int) by omega, wrapn (show i + 1 < 4611686018427387904 by omega), emptyB, len32, not_lt0, not_gt (a := l[i].2.2)]
  unfold tokOk
  by_cases h0 : 0 < i
  · rw [dif_pos h0, show decide ((i : Int) > 0) = true from decide_eq_true (by omega), cond_true, show ((i : Int) - 1) = ((i - 1 : Nat) : Int) by omega, wrapn (by omega), idx_get (by omega : i - 1 < l.length), Option.bind_some]
    cases nameB l[i].1 <;> cases Op.bytesLess l[i - 1].1 l[i].1 <;> cases decide (1 ≤ l[i].2.1.length) <;> cases decide (l[i].2.1.length ≤ 32) <;> cases decide (0 ≤ l[i].2.2) <;> cases decide (l[i].2.2 ≤ 1099511627776) <;> rfl
  · rw [dif_neg h0, show decide ((i : Int) > 0) = false from decide_eq_false (by omega), cond_false]
    cases nameB l[i].1 <;> cases decide (1 ≤ l[i].2.1.length) <;> cases decide (l[i].2.1.length ≤ 32) <;> cases decide (0 ≤ l[i].2.2) <;> cases decide (l[i].2.2 ≤ 1099511627776) <;> rfl
theorem ris_back (l : List Str) (i : Nat) (hi : i < l.length) : risL (l.drop (i - 1)) = ((if h : 0 < i then Op.bytesLess (l[i - 1]'(by omega)) l[i] else true) && risL (l.drop i)) := by
  by_cases h : 0 < i
  · rw [dif_pos h, risL_drop l (i - 1) (by omega)]
    simp only [show i - 1 + 1 = i by omega]
  · rw [dif_neg h, show i - 1 = i by omega]
    rfl
theorem tok_loop (r10 : Int → Option Bool) (l : List TokL) (hl : l.length ≤ 9000) (hx : ∀ x ∈ l, x.1.length ≤ 9000) : ∀ (d i f : Nat), d = l.length - i → i ≤ l.length → d < f →
    L_subwayref09_rightTenant_l12 r10 l f (i : Int) = some ((l.drop i).all tokOk && risL ((l.map (·.1)).drop (i - 1))) := by
  intro d
  induction d with
  | zero =>
    intro i f hd hi hf
    obtain ⟨f, rfl⟩ : ∃ g, f = g + 1 := ⟨f - 1, by omega⟩
    show L_subwayref09_rightTenant_b12 r10 (L_subwayref09_rightTenant_l12 r10 l f) l (i : Int) = _
    unfold L_subwayref09_rightTenant_b12
    rw [show decide ((i : Int) < ((l.length : Nat) : Int)) = false from decide_eq_false (by omega), cond_false, List.drop_of_length_le (by omega), risL_short _ _ (by simp; omega)]
    rfl
  | succ d ih =>
    intro i f hd hi hf
    obtain ⟨f, rfl⟩ : ∃ g, f = g + 1 := ⟨f - 1, by omega⟩
    have hlt : i < l.length := by omega
    show L_subwayref09_rightTenant_b12 r10 (L_subwayref09_rightTenant_l12 r10 l f) l (i : Int) = _
    rw [tok_step r10 _ l i hlt hl (hx _ (List.getElem_mem hlt)), ih (i + 1) f (by omega) (by omega) (by omega), List.drop_eq_getElem_cons hlt, List.all_cons, ris_back _ i (by simpa using hlt), show i + 1 - 1 = i by omega]
    simp only [List.getElem_map]
    generalize (if h : 0 < i then Op.bytesLess (l[i - 1]'(by omega)).1 l[i].1 else true) = b
    cases tokOk l[i] <;> cases b <;> simp
theorem net_loop9 (l : List NetL) (tk : List TokL) (B : Bool) (hl : l.length ≤ 9000) (hn : ∀ n ∈ l, 0 ≤ n.1 ∧ n.1 < 4294967296) (ht : ∀ r10, L_subwayref09_rightTenant_l12 r10 tk fuel 0 = some B) : ∀ (d i f : Nat), d = l.length - i → i ≤ l.length → d < f →
    L_subwayref09_rightTenant_l6 l tk f (i : Int) = some ((l.drop i).all netOk && B) := by
  intro d
  induction d with
  | zero =>
    intro i f hd hi hf
    obtain ⟨f, rfl⟩ : ∃ g, f = g + 1 := ⟨f - 1, by omega⟩
    show L_subwayref09_rightTenant_b6 (L_subwayref09_rightTenant_l6 l tk f) l tk (i : Int) = _
    unfold L_subwayref09_rightTenant_b6
    rw [show decide ((i : Int) < ((l.length : Nat) : Int)) = false from decide_eq_false (by omega), cond_false, List.drop_of_length_le (by omega), ht]
    rfl
  | succ d ih =>
    intro i f hd hi hf
    obtain ⟨f, rfl⟩ : ∃ g, f = g + 1 := ⟨f - 1, by omega⟩
    have hlt : i < l.length := by omega
    have hb := hn _ (List.getElem_mem hlt)
    show L_subwayref09_rightTenant_b6 (L_subwayref09_rightTenant_l6 l tk f) l tk (i : Int) = _
    unfold L_subwayref09_rightTenant_b6
    obtain ⟨a, ha⟩ : ∃ a : Nat, l[i].1 = (a : Int) := ⟨l[i].1.toNat, by omega⟩
    rw [show decide ((i : Int) < ((l.length : Nat) : Int)) = true from decide_eq_true (by omega), cond_true, idx_get hlt, Option.bind_some, ha, rRight a (by omega), Option.bind_some, show ((i : Int) + 1) = ((i + 1 : Nat) : Int) by omega, wrapn (by omega), ih (i + 1) f (by omega) (by omega) (by omega), List.drop_eq_getElem_cons hlt, List.all_cons,
      show netOk l[i] = rightN a l[i].2 by unfold netOk; rw [ha, Int.toNat_natCast]]
    cases rightN a l[i].2 <;> simp
theorem rTenant {t : TenantL} (hs : TenS t) (hq : TenQ t) : L_subwayref09_rightTenant t.1 t.2.1 t.2.2.1 t.2.2.2.1 t.2.2.2.2 = some (tenOk t) := by
  obtain ⟨h1, h2, h3, h4⟩ := hs
  have htok : ∀ r10, L_subwayref09_rightTenant_l12 r10 t.2.2.2.2 fuel 0 = some (t.2.2.2.2.all tokOk && risL (t.2.2.2.2.map (·.1))) := fun r10 => by
    have := tok_loop r10 t.2.2.2.2 h3 (fun x hx => (h4 x hx).1) t.2.2.2.2.length 0 fuel (by omega) (by omega) (by unfold fuel; omega)
    simpa using this
  have hnet := net_loop9 t.2.2.2.1 t.2.2.2.2 _ h2 hq.2.2.2.1 htok t.2.2.2.1.length 0 fuel (by omega) (by omega) (by unfold fuel; omega)
  rw [show ((0 : Nat) : Int) = 0 from rfl, List.drop_zero] at hnet
  unfold L_subwayref09_rightTenant L_subwayref09_rightTenant_k1
  rw [rName _ h1, Option.bind_some]
  simp only [hnet, not_lt0, not_gt]
  rw [show decide (((List.length t.2.2.2.1 : Nat) : Int) ≤ 4) = decide (t.2.2.2.1.length ≤ 4) from decide_eq_decide.2 (by omega), show decide (((List.length t.2.2.2.2 : Nat) : Int) ≤ 4) = decide (t.2.2.2.2.length ≤ 4) from decide_eq_decide.2 (by omega)]
  unfold tenOk qOk
  generalize t.2.2.2.1.all netOk = a1
  generalize t.2.2.2.2.all tokOk = a2
  generalize risL (t.2.2.2.2.map (·.1)) = a3
  cases nameB t.1 <;> cases decide (0 ≤ t.2.1) <;> cases decide (t.2.1 ≤ 8) <;> cases decide (0 ≤ t.2.2.1) <;> cases decide (t.2.2.1 ≤ 8) <;> cases decide (t.2.2.2.1.length ≤ 4) <;> cases decide (t.2.2.2.2.length ≤ 4) <;> cases a1 <;> cases a2 <;> cases a3 <;> rfl
theorem rTime (n : Int) : L_subwayref09_time n = some (timeOk n) := by
  unfold L_subwayref09_time L_subwayref09_time_k1 timeOk
  by_cases h : n ≥ 1
  · rw [decide_eq_true h]; rfl
  · rw [decide_eq_false h]; rfl
def endOk (w g i e : Int) (l : List TenantL) : Bool := (timeOk w && (timeOk g && (timeOk i && timeOk e))) && decide (l.length ≤ 8)
theorem rCfg_loop (w g i e : Int) (l : List TenantL) (hl : l.length ≤ 9000) (hq : ∀ t ∈ l, TenQ t) (hs : ∀ t ∈ l, TenS t) : ∀ (d k f : Nat), d = l.length - k → k ≤ l.length → d < f →
    L_subwayref09_Right_l3 w g i e l f (k : Int) = some (((l.drop k).all tenOk && risL ((l.map (·.1)).drop (k - 1))) && endOk w g i e l) := by
  intro d
  induction d with
  | zero =>
    intro k f hd hk hf
    obtain ⟨f, rfl⟩ : ∃ g, f = g + 1 := ⟨f - 1, by omega⟩
    show L_subwayref09_Right_b3 (L_subwayref09_Right_l3 w g i e l f) w g i e l (k : Int) = _
    unfold L_subwayref09_Right_b3 L_subwayref09_Right_k7
    rw [show decide ((k : Int) < ((l.length : Nat) : Int)) = false from decide_eq_false (by omega), cond_false, List.drop_of_length_le (by omega), risL_short _ _ (by simp; omega), rTime, rTime, rTime, rTime, show decide (((List.length l : Nat) : Int) ≤ 8) = decide (l.length ≤ 8) from decide_eq_decide.2 (by omega)]
    unfold endOk
    cases timeOk w <;> cases timeOk g <;> cases timeOk i <;> cases timeOk e <;> rfl
  | succ d ih =>
    intro k f hd hk hf
    obtain ⟨f, rfl⟩ : ∃ g, f = g + 1 := ⟨f - 1, by omega⟩
    have hlt : k < l.length := by omega
    have hm := List.getElem_mem hlt
    show L_subwayref09_Right_b3 (L_subwayref09_Right_l3 w g i e l f) w g i e l (k : Int) = _
    unfold L_subwayref09_Right_b3 L_subwayref09_Right_k6
    rw [show decide ((k : Int) < ((l.length : Nat) : Int)) = true from decide_eq_true (by omega), cond_true, idx_get hlt, Option.bind_some, rTenant (hs _ hm) (hq _ hm), Option.bind_some, show ((k : Int) + 1) = ((k + 1 : Nat) : Int) by omega, wrapn (by omega), ih (k + 1) f (by omega) (by omega) (by omega), List.drop_eq_getElem_cons hlt, List.all_cons, ris_back _ k (by simpa using hlt), show k + 1 - 1 = k by omega]
    simp only [List.getElem_map]
    by_cases h0 : 0 < k
    · rw [dif_pos h0, show decide ((k : Int) > 0) = true from decide_eq_true (by omega), cond_true, show ((k : Int) - 1) = ((k - 1 : Nat) : Int) by omega, wrapn (by omega), idx_get (by omega : k - 1 < l.length), Option.bind_some, Option.bind_some]
      cases tenOk l[k] <;> cases Op.bytesLess l[k - 1].1 l[k].1 <;> simp
    · rw [dif_neg h0, show decide ((k : Int) > 0) = false from decide_eq_false (by omega), cond_false]
      cases tenOk l[k] <;> simp
theorem rCfg (w g i e : Int) (l : List TenantL) (hl : l.length ≤ 9000) (hq : ∀ t ∈ l, TenQ t) (hs : ∀ t ∈ l, TenS t) : L_subwayref09_Right w g i e l = some (cfgOk w g i e l) := by
  have := rCfg_loop w g i e l hl hq hs l.length 0 fuel (by omega) (by omega) (by unfold fuel; omega)
  unfold L_subwayref09_Right
  rw [show ((0 : Nat) : Int) = 0 from rfl] at this
  rw [this, List.drop_zero, Nat.zero_sub, List.drop_zero]
  unfold cfgOk endOk
  generalize l.all tenOk = a
  generalize risL (l.map (·.1)) = b
  cases (timeOk w && (timeOk g && (timeOk i && timeOk e))) <;> cases a <;> cases b <;> cases decide (l.length ≤ 8) <;> rfl
/-! where a tenant stands -/
def pl (l : List TenantL) (nm : Str) : Option Nat := l.findIdx? (fun x => x.1 == nm)
def dTen0 : TenantL := ([], 0, 0, [], [])
def findL (l : List TenantL) (nm : Str) : Str × Int × Int × List NetL × List TokL × Bool := match pl l nm with
  | some k => ((l.getD k dTen0).1, (l.getD k dTen0).2.1, (l.getD k dTen0).2.2.1, (l.getD k dTen0).2.2.2.1, (l.getD k dTen0).2.2.2.2, true)
  | none => ([], 0, 0, [], [], false)
theorem pl_step {l : List TenantL} {nm : Str} {i : Nat} (hi : i < l.length) (hn : (l.take i).any (fun x => x.1 == nm) = false) (hx : (l[i].1 == nm) = true) : pl l nm = some i := by
  unfold pl
  rw [List.findIdx?_eq_some_iff_getElem]
  refine ⟨hi, hx, fun j hj => ?_⟩
  rw [List.any_eq_false] at hn
  have := hn l[j] (by rw [List.mem_take_iff_getElem]; exact ⟨j, by omega, rfl⟩)
  simpa using this
theorem pl_none {l : List TenantL} {nm : Str} (hn : l.any (fun x => x.1 == nm) = false) : pl l nm = none := by
  unfold pl
  rw [List.findIdx?_eq_none_iff]
  intro x hx
  rw [List.any_eq_false] at hn
  simpa using hn x hx
theorem any_more {l : List TenantL} {nm : Str} {i : Nat} (hi : i < l.length) (hn : (l.take i).any (fun x => x.1 == nm) = false) (hx : (l[i].1 == nm) = false) : (l.take (i + 1)).any (fun x => x.1 == nm) = false := by
  rw [List.take_add_one, List.getElem?_eq_getElem hi, List.any_append, hn]
  simp [hx]
theorem rFind_loop (l : List TenantL) (nm : Str) (hl : l.length ≤ 9000) : ∀ (d i f : Nat), d = l.length - i → i ≤ l.length → d < f → (l.take i).any (fun x => x.1 == nm) = false → L_subwayref09_Find_l1 l nm f (i : Int) = some (findL l nm) := by
  intro d
  induction d with
  | zero =>
    intro i f hd hi hf hn
    obtain ⟨f, rfl⟩ : ∃ g, f = g + 1 := ⟨f - 1, by omega⟩
    show L_subwayref09_Find_b1 (L_subwayref09_Find_l1 l nm f) l nm (i : Int) = _
    unfold L_subwayref09_Find_b1 findL
    rw [List.take_of_length_le (by omega)] at hn
    rw [show decide ((i : Int) < ((l.length : Nat) : Int)) = false from decide_eq_false (by omega), cond_false, pl_none hn]
  | succ d ih =>
    intro i f hd hi hf hn
    obtain ⟨f, rfl⟩ : ∃ g, f = g + 1 := ⟨f - 1, by omega⟩
    have hlt : i < l.length := by omega
    show L_subwayref09_Find_b1 (L_subwayref09_Find_l1 l nm f) l nm (i : Int) = _
    unfold L_subwayref09_Find_b1
    rw [show decide ((i : Int) < ((l.length : Nat) : Int)) = true from decide_eq_true (by omega), cond_true, idx_get hlt, Option.bind_some]
    cases hx : (l[i].1 == nm) with
    | true =>
      have hg : l.getD i dTen0 = l[i] := by simp [List.getD, hlt]
      rw [cond_true, Option.bind_some]
      unfold findL
      rw [pl_step hlt hn hx]
      simp only [hg]
    | false =>
      rw [cond_false, show ((i : Int) + 1) = ((i + 1 : Nat) : Int) by omega, wrapn (by omega)]
      exact ih (i + 1) f (by omega) (by omega) (by omega) (any_more hlt hn hx)
theorem rFind (w g i e : Int) (l : List TenantL) (nm : Str) (hl : l.length ≤ 9000) : L_subwayref09_Find w g i e l nm = some (findL l nm) :=
  rFind_loop l nm hl l.length 0 fuel (by omega) (by omega) (by unfold fuel; omega) rfl
/-! what is not great is small -/
theorem min3000 (n : Nat) : (if (3000 : Int) < ((n : Nat) : Int) then (3000 : Int) else ((n : Nat) : Int)) = ((min n 3000 : Nat) : Int) := by split <;> omega
theorem great_in (r11 : Int → Int → Option Bool) (i : Int) (t : TenantL) (ht : t.2.2.2.2.length ≤ 140737488355328) : ∀ (d k f n : Nat), d = t.2.2.2.2.length - k → k ≤ t.2.2.2.2.length → d < f → n ≤ 562949953421312 →
    ∃ n' : Nat, n ≤ n' ∧ n' ≤ 562949953421312 + 6000 ∧ L_subwaylaw09_Great_l14 r11 i t f (n : Int) (k : Int) = r11 (n' : Int) (IntKind.wrap .i64 (i + 1)) ∧ (n' < 3000 → ∀ x ∈ t.2.2.2.2.drop k, x.1.length < 3000 ∧ x.2.1.length < 3000) := by
  intro d
  induction d with
  | zero =>
    intro k f n hd hk hf hn
    obtain ⟨f, rfl⟩ : ∃ g, f = g + 1 := ⟨f - 1, by omega⟩
    refine ⟨n, by omega, by omega, ?_, fun _ x hx => by rw [List.drop_of_length_le (by omega)] at hx; cases hx⟩
    show L_subwaylaw09_Great_b14 r11 (L_subwaylaw09_Great_l14 r11 i t f) i t (n : Int) (k : Int) = _
    unfold L_subwaylaw09_Great_b14 L_subwaylaw09_Great_k16
    rw [show decide ((k : Int) < ((t.2.2.2.2.length : Nat) : Int)) = false from decide_eq_false (by omega), cond_false, cond_false]
  | succ d ih =>
    intro k f n hd hk hf hn
    obtain ⟨f, rfl⟩ : ∃ g, f = g + 1 := ⟨f - 1, by omega⟩
    have hlt : k < t.2.2.2.2.length := by omega
    have hstep : L_subwaylaw09_Great_l14 r11 i t (f + 1) (n : Int) (k : Int) = L_subwaylaw09_Great_b14 r11 (L_subwaylaw09_Great_l14 r11 i t f) i t (n : Int) (k : Int) := rfl
    unfold L_subwaylaw09_Great_b14 L_subwaylaw09_Great_k16 at hstep
    rw [show decide ((k : Int) < ((t.2.2.2.2.length : Nat) : Int)) = true from decide_eq_true (by omega), cond_true] at hstep
    by_cases h3 : n < 3000
    · rw [show decide ((n : Int) < 3000) = true from decide_eq_true (by omega), cond_true, idx_get hlt, Option.bind_some, Option.bind_some, min3000, min3000, show ((n : Int) + ((min (t.2.2.2.2[k]).1.length 3000 : Nat) : Int)) = ((n + min (t.2.2.2.2[k]).1.length 3000 : Nat) : Int) by omega, wrapn (by omega),
        show (((n + min (t.2.2.2.2[k]).1.length 3000 : Nat) : Int) + ((min (t.2.2.2.2[k]).2.1.length 3000 : Nat) : Int)) = ((n + min (t.2.2.2.2[k]).1.length 3000 + min (t.2.2.2.2[k]).2.1.length 3000 : Nat) : Int) by omega, wrapn (by omega), show ((k : Int) + 1) = ((k + 1 : Nat) : Int) by omega, wrapn (by omega)] at hstep
      obtain ⟨n', h1, h2, h4, h5⟩ := ih (k + 1) f (n + min (t.2.2.2.2[k]).1.length 3000 + min (t.2.2.2.2[k]).2.1.length 3000) (by omega) (by omega) (by omega) (by omega)
      refine ⟨n', by omega, h2, hstep.trans h4, fun hn' x hx => ?_⟩
      rw [List.drop_eq_getElem_cons hlt] at hx
      rcases List.mem_cons.1 hx with rfl | hx
      · exact ⟨by omega, by omega⟩
      · exact h5 hn' x hx
    · rw [show decide ((n : Int) < 3000) = false from decide_eq_false (by omega), cond_false] at hstep
      exact ⟨n, by omega, by omega, hstep, fun h => absurd h h3⟩
theorem great_out (l : List TenantL) (hl : l.length ≤ 140737488355328) (hq : ∀ t ∈ l, TenQ t) : ∀ (d i f n : Nat), d = l.length - i → i ≤ l.length → d < f → n ≤ 562949953421312 + 6000 → l.length ≤ n →
    (n < 3000 → ∀ t ∈ l.take i, TenS t) → ∃ b, L_subwaylaw09_Great_l6 l f (n : Int) (i : Int) = some b ∧ (b = false → l.length ≤ 3000 ∧ ∀ t ∈ l, TenS t) := by
  intro d
  induction d with
  | zero =>
    intro i f n hd hi hf hn hln hs
    obtain ⟨f, rfl⟩ : ∃ g, f = g + 1 := ⟨f - 1, by omega⟩
    refine ⟨decide ((n : Int) ≥ 3000), ?_, fun hb => ?_⟩
    · show L_subwaylaw09_Great_b6 (L_subwaylaw09_Great_l6 l f) l (n : Int) (i : Int) = _
      unfold L_subwaylaw09_Great_b6 L_subwaylaw09_Great_k12
      rw [show decide ((i : Int) < ((l.length : Nat) : Int)) = false from decide_eq_false (by omega), cond_false, cond_false]
    · have := of_decide_eq_false hb
      rw [List.take_of_length_le (by omega)] at hs
      exact ⟨by omega, hs (by omega)⟩
  | succ d ih =>
    intro i f n hd hi hf hn hln hs
    obtain ⟨f, rfl⟩ : ∃ g, f = g + 1 := ⟨f - 1, by omega⟩
    have hlt : i < l.length := by omega
    have hstep : L_subwaylaw09_Great_l6 l (f + 1) (n : Int) (i : Int) = L_subwaylaw09_Great_b6 (L_subwaylaw09_Great_l6 l f) l (n : Int) (i : Int) := rfl
    unfold L_subwaylaw09_Great_b6 L_subwaylaw09_Great_k12 at hstep
    rw [show decide ((i : Int) < ((l.length : Nat) : Int)) = true from decide_eq_true (by omega), cond_true] at hstep
    by_cases h3 : n < 3000
    · obtain ⟨q1, q2, q3, q4, q5⟩ := hq _ (List.getElem_mem hlt)
      rw [show decide ((n : Int) < 3000) = true from decide_eq_true (by omega), cond_true, idx_get hlt, Option.bind_some, min3000, show ((n : Int) + ((min l[i].1.length 3000 : Nat) : Int)) = ((n + min l[i].1.length 3000 : Nat) : Int) by omega, wrapn (by omega),
        show (((n + min l[i].1.length 3000 : Nat) : Int) + ((l[i].2.2.2.1.length : Nat) : Int)) = ((n + min l[i].1.length 3000 + l[i].2.2.2.1.length : Nat) : Int) by omega, wrapn (by omega),
        show (((n + min l[i].1.length 3000 + l[i].2.2.2.1.length : Nat) : Int) + ((l[i].2.2.2.2.length : Nat) : Int)) = ((n + min l[i].1.length 3000 + l[i].2.2.2.1.length + l[i].2.2.2.2.length : Nat) : Int) by omega, wrapn (by omega)] at hstep
      obtain ⟨n', h1, h2, h4, h5⟩ := great_in (L_subwaylaw09_Great_l6 l f) (i : Int) l[i] q3 l[i].2.2.2.2.length 0 fuel (n + min l[i].1.length 3000 + l[i].2.2.2.1.length + l[i].2.2.2.2.length) (by omega) (by omega) (by unfold fuel; omega) (by omega)
      rw [show ((0 : Nat) : Int) = 0 from rfl] at h4
      rw [h4, show ((i : Int) + 1) = ((i + 1 : Nat) : Int) by omega, wrapn (by omega)] at hstep
      obtain ⟨b, hb, hb2⟩ := ih (i + 1) f n' (by omega) (by omega) (by omega) (by omega) (by omega) (fun hn' t ht => by
        rw [List.take_add_one, List.getElem?_eq_getElem hlt, List.mem_append] at ht
        rcases ht with ht | ht
        · exact hs h3 t ht
        · simp only [Option.toList_some, List.mem_singleton] at ht
          subst ht
          rw [List.drop_zero] at h5
          exact ⟨by omega, by omega, by omega, fun x hx => ⟨by have := h5 hn' x hx; omega, by have := h5 hn' x hx; omega⟩⟩)
      exact ⟨b, hstep.trans hb, hb2⟩
    · rw [show decide ((n : Int) < 3000) = false from decide_eq_false (by omega), cond_false] at hstep
      exact ⟨_, hstep, fun hb => by have := of_decide_eq_false hb; omega⟩
theorem cfg_great (w g i e : Int) (l : List TenantL) (hl : l.length ≤ 140737488355328) (hq : ∀ t ∈ l, TenQ t) : ∃ b, L_subwaylaw09_Great w g i e l = some b ∧ (b = false → l.length ≤ 3000 ∧ ∀ t ∈ l, TenS t) :=
  great_out l hl hq l.length 0 fuel l.length (by omega) (by omega) (by unfold fuel; omega) (by omega) (Nat.le_refl _) (fun _ t ht => by simp at ht)
end Go.Proofs.YtfffjaijflbeaaaDoor
