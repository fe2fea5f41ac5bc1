/- Right configurations: what the program's Right and the document's compute. -/
import Derived.Test.YtfffjaijflbeaaaDoorSynSpecA
import Derived.Test.YtfffjaijflbeaaaDoorLCF
import Derived.Test.YtfffjaijflbeaaaDoorLRF
import Derived.Test.YtfffjaijflbeaaaDoorPlain
namespace Go.Proofs.YtfffjaijflbeaaaDoor
set_option linter.unusedSimpArgs false
set_option linter.unusedVariables false
abbrev Str := List UInt8
abbrev NetL := Int × Int
abbrev TokL := Str × Str × Int
theorem lNameM (s : Str) (h : s.length ≤ 140737488355328) : L_syntax_Name s = some (nameB s) := by
  by_cases h9 : s.length ≤ 9000
  · exact lName s h9
  · unfold L_syntax_Name L_syntax_Name_k1 nameB
    have hne : (s == ([] : List UInt8)) = false := by rw [beq_eq_false_iff_ne]; intro e; subst e; simp at h9
    rw [hne, show decide (((List.length s : Nat) : Int) ≤ 20) = false from decide_eq_false (by omega), show decide (s.length ≤ 20) = false from decide_eq_false (by omega)]
    simp

theorem containsNet_loop (l : List NetL) (P : NetL → Bool) (p : Int → Int → Option Bool) (hp : ∀ x ∈ l, p x.1 x.2 = some (P x)) (hl : l.length ≤ 140737488355328) :
    ∀ (d i f : Nat), d = l.length - i → i ≤ l.length → d < f → ∃ r, L_slices_IndexFunc_api_Net_api_Net_l1 l p f (i : Int) = some r ∧ decide (r ≥ 0) = (l.drop i).any P := by
  intro d
  induction d with
  | zero =>
    intro i f hd hi hf
    obtain ⟨f, rfl⟩ : ∃ g, f = g + 1 := ⟨f - 1, by omega⟩
    refine ⟨-1, ?_, ?_⟩
    · show L_slices_IndexFunc_api_Net_api_Net_b1 (L_slices_IndexFunc_api_Net_api_Net_l1 l p f) l p (i : Int) = _
      unfold L_slices_IndexFunc_api_Net_api_Net_b1
      rw [show decide ((i : Int) < ((l.length : Nat) : Int)) = false from decide_eq_false (by omega), cond_false]
    · rw [List.drop_of_length_le (by omega)]
      rfl
  | succ d ih =>
    intro i f hd hi hf
    obtain ⟨f, rfl⟩ : ∃ g, f = g + 1 := ⟨f - 1, by omega⟩
    have hlt : i < l.length := by omega
    obtain ⟨r, h1, h2⟩ := ih (i + 1) f (by omega) (by omega) (by omega)
    rw [List.drop_eq_getElem_cons hlt, List.any_cons]
    have hstep : L_slices_IndexFunc_api_Net_api_Net_l1 l p (f + 1) (i : Int) = cond (P l[i]) (some (i : Int)) (L_slices_IndexFunc_api_Net_api_Net_l1 l p f ((i + 1 : Nat) : Int)) := by
      show L_slices_IndexFunc_api_Net_api_Net_b1 (L_slices_IndexFunc_api_Net_api_Net_l1 l p f) l p (i : Int) = _
      unfold L_slices_IndexFunc_api_Net_api_Net_b1
      rw [show decide ((i : Int) < ((l.length : Nat) : Int)) = true from decide_eq_true (by omega), cond_true, idx_get hlt, Option.bind_some, hp _ (List.getElem_mem hlt), Option.bind_some, show ((i : Int) + 1) = ((i + 1 : Nat) : Int) by omega, wrapn (by omega)]
    rw [hstep]
    cases hP : P l[i] with
    | true => exact ⟨(i : Int), rfl, by rw [decide_eq_true (by omega), Bool.true_or]⟩
    | false => exact ⟨r, h1, by rw [h2, Bool.false_or]⟩
theorem containsNet (l : List NetL) (P : NetL → Bool) (p : Int → Int → Option Bool) (hp : ∀ x ∈ l, p x.1 x.2 = some (P x)) (hl : l.length ≤ 140737488355328) : L_slices_ContainsFunc_api_Net_api_Net l p = some (l.any P) := by
  obtain ⟨r, h1, h2⟩ := containsNet_loop l P p hp hl l.length 0 fuel (by omega) (by omega) (by unfold fuel; omega)
  unfold L_slices_ContainsFunc_api_Net_api_Net L_slices_IndexFunc_api_Net_api_Net
  rw [show ((0 : Nat) : Int) = 0 from rfl] at h1
  rw [h1, Option.bind_some, h2, List.drop_zero]
theorem containsToken_loop (l : List TokL) (P : TokL → Bool) (p : Str → Str → Int → Option Bool) (hp : ∀ x ∈ l, p x.1 x.2.1 x.2.2 = some (P x)) (hl : l.length ≤ 140737488355328) :
    ∀ (d i f : Nat), d = l.length - i → i ≤ l.length → d < f → ∃ r, L_slices_IndexFunc_api_Token_api_Token_l1 l p f (i : Int) = some r ∧ decide (r ≥ 0) = (l.drop i).any P := by
  intro d
  induction d with
  | zero =>
    intro i f hd hi hf
    obtain ⟨f, rfl⟩ : ∃ g, f = g + 1 := ⟨f - 1, by omega⟩
    refine ⟨-1, ?_, ?_⟩
    · show L_slices_IndexFunc_api_Token_api_Token_b1 (L_slices_IndexFunc_api_Token_api_Token_l1 l p f) l p (i : Int) = _
      unfold L_slices_IndexFunc_api_Token_api_Token_b1
      rw [show decide ((i : Int) < ((l.length : Nat) : Int)) = false from decide_eq_false (by omega), cond_false]
    · rw [List.drop_of_length_le (by omega)]
      rfl
  | succ d ih =>
    intro i f hd hi hf
    obtain ⟨f, rfl⟩ : ∃ g, f = g + 1 := ⟨f - 1, by omega⟩
    have hlt : i < l.length := by omega
    obtain ⟨r, h1, h2⟩ := ih (i + 1) f (by omega) (by omega) (by omega)
    rw [List.drop_eq_getElem_cons hlt, List.any_cons]
    have hstep : L_slices_IndexFunc_api_Token_api_Token_l1 l p (f + 1) (i : Int) = cond (P l[i]) (some (i : Int)) (L_slices_IndexFunc_api_Token_api_Token_l1 l p f ((i + 1 : Nat) : Int)) := by
      show L_slices_IndexFunc_api_Token_api_Token_b1 (L_slices_IndexFunc_api_Token_api_Token_l1 l p f) l p (i : Int) = _
      unfold L_slices_IndexFunc_api_Token_api_Token_b1
      rw [show decide ((i : Int) < ((l.length : Nat) : Int)) = true from decide_eq_true (by omega), cond_true, idx_get hlt, Option.bind_some, hp _ (List.getElem_mem hlt), Option.bind_some, show ((i : Int) + 1) = ((i + 1 : Nat) : Int) by omega, wrapn (by omega)]
    rw [hstep]
    cases hP : P l[i] with
    | true => exact ⟨(i : Int), rfl, by rw [decide_eq_true (by omega), Bool.true_or]⟩
    | false => exact ⟨r, h1, by rw [h2, Bool.false_or]⟩
theorem containsToken (l : List TokL) (P : TokL → Bool) (p : Str → Str → Int → Option Bool) (hp : ∀ x ∈ l, p x.1 x.2.1 x.2.2 = some (P x)) (hl : l.length ≤ 140737488355328) : L_slices_ContainsFunc_api_Token_api_Token l p = some (l.any P) := by
  obtain ⟨r, h1, h2⟩ := containsToken_loop l P p hp hl l.length 0 fuel (by omega) (by omega) (by unfold fuel; omega)
  unfold L_slices_ContainsFunc_api_Token_api_Token L_slices_IndexFunc_api_Token_api_Token
  rw [show ((0 : Nat) : Int) = 0 from rfl] at h1
  rw [h1, Option.bind_some, h2, List.drop_zero]
theorem containsTenant_loop (l : List TenantL) (P : TenantL → Bool) (p : Str → Int → Int → List NetL → List TokL → Option Bool) (hp : ∀ x ∈ l, p x.1 x.2.1 x.2.2.1 x.2.2.2.1 x.2.2.2.2 = some (P x)) (hl : l.length ≤ 140737488355328) :
    ∀ (d i f : Nat), d = l.length - i → i ≤ l.length → d < f → ∃ r, L_slices_IndexFunc_api_Tenant_api_Tenant_l1 l p f (i : Int) = some r ∧ decide (r ≥ 0) = (l.drop i).any P := by
  intro d
  induction d with
  | zero =>
    intro i f hd hi hf
    obtain ⟨f, rfl⟩ : ∃ g, f = g + 1 := ⟨f - 1, by omega⟩
    refine ⟨-1, ?_, ?_⟩
    · show L_slices_IndexFunc_api_Tenant_api_Tenant_b1 (L_slices_IndexFunc_api_Tenant_api_Tenant_l1 l p f) l p (i : Int) = _
      unfold L_slices_IndexFunc_api_Tenant_api_Tenant_b1
      rw [show decide ((i : Int) < ((l.length : Nat) : Int)) = false from decide_eq_false (by omega), cond_false]
    · rw [List.drop_of_length_le (by omega)]
      rfl
  | succ d ih =>
    intro i f hd hi hf
    obtain ⟨f, rfl⟩ : ∃ g, f = g + 1 := ⟨f - 1, by omega⟩
    have hlt : i < l.length := by omega
    obtain ⟨r, h1, h2⟩ := ih (i + 1) f (by omega) (by omega) (by omega)
    rw [List.drop_eq_getElem_cons hlt, List.any_cons]
    have hstep : L_slices_IndexFunc_api_Tenant_api_Tenant_l1 l p (f + 1) (i : Int) = cond (P l[i]) (some (i : Int)) (L_slices_IndexFunc_api_Tenant_api_Tenant_l1 l p f ((i + 1 : Nat) : Int)) := by
      show L_slices_IndexFunc_api_Tenant_api_Tenant_b1 (L_slices_IndexFunc_api_Tenant_api_Tenant_l1 l p f) l p (i : Int) = _
      unfold L_slices_IndexFunc_api_Tenant_api_Tenant_b1
      rw [show decide ((i : Int) < ((l.length : Nat) : Int)) = true from decide_eq_true (by omega), cond_true, idx_get hlt, Option.bind_some, hp _ (List.getElem_mem hlt), Option.bind_some, show ((i : Int) + 1) = ((i + 1 : Nat) : Int) by omega, wrapn (by omega)]
    rw [hstep]
    cases hP : P l[i] with
    | true => exact ⟨(i : Int), rfl, by rw [decide_eq_true (by omega), Bool.true_or]⟩
    | false => exact ⟨r, h1, by rw [h2, Bool.false_or]⟩
theorem containsTenant (l : List TenantL) (P : TenantL → Bool) (p : Str → Int → Int → List NetL → List TokL → Option Bool) (hp : ∀ x ∈ l, p x.1 x.2.1 x.2.2.1 x.2.2.2.1 x.2.2.2.2 = some (P x)) (hl : l.length ≤ 140737488355328) : L_slices_ContainsFunc_api_Tenant_api_Tenant l p = some (l.any P) := by
  obtain ⟨r, h1, h2⟩ := containsTenant_loop l P p hp hl l.length 0 fuel (by omega) (by omega) (by unfold fuel; omega)
  unfold L_slices_ContainsFunc_api_Tenant_api_Tenant L_slices_IndexFunc_api_Tenant_api_Tenant
  rw [show ((0 : Nat) : Int) = 0 from rfl] at h1
  rw [h1, Option.bind_some, h2, List.drop_zero]
/-! in order, each once -/
def risL : List Str → Bool
  | [] => true
  | [_] => true
  | a :: b :: r => Op.bytesLess a b && risL (b :: r)
theorem risL_drop (l : List Str) (i : Nat) (h : i + 1 < l.length) : risL (l.drop i) = (Op.bytesLess (l[i]'(by omega)) (l[i + 1]'h) && risL (l.drop (i + 1))) := by
  rw [List.drop_eq_getElem_cons (by omega : i < l.length), List.drop_eq_getElem_cons h]
  rfl
theorem risL_short (l : List Str) (i : Nat) (h : l.length ≤ i + 1) : risL (l.drop i) = true := by
  by_cases h2 : i < l.length
  · rw [List.drop_eq_getElem_cons h2, List.drop_of_length_le (by omega)]
    rfl
  · rw [List.drop_of_length_le (by omega)]
    rfl
theorem risingToken_loop (l : List TokL) (p : Str → Str → Int → Option Str) (hp : ∀ x : TokL, p x.1 x.2.1 x.2.2 = some x.1) (hl : l.length ≤ 140737488355328) :
    ∀ (d i f : Nat), d = l.length - i → 1 ≤ i → d < f → L_config_rising_api_Token_l1 l p f (i : Int) = some (risL ((l.map (·.1)).drop (i - 1))) := by
  intro d
  induction d with
  | zero =>
    intro i f hd hi hf
    obtain ⟨f, rfl⟩ : ∃ g, f = g + 1 := ⟨f - 1, by omega⟩
    show L_config_rising_api_Token_b1 (L_config_rising_api_Token_l1 l p f) l p (i : Int) = _
    unfold L_config_rising_api_Token_b1
    rw [show decide ((i : Int) < ((l.length : Nat) : Int)) = false from decide_eq_false (by omega), cond_false, risL_short _ _ (by simp; omega)]
  | succ d ih =>
    intro i f hd hi hf
    obtain ⟨f, rfl⟩ : ∃ g, f = g + 1 := ⟨f - 1, by omega⟩
    have hlt : i < l.length := by omega
    have hlt' : i - 1 < l.length := by omega
    show L_config_rising_api_Token_b1 (L_config_rising_api_Token_l1 l p f) l p (i : Int) = _
    unfold L_config_rising_api_Token_b1
    rw [show decide ((i : Int) < ((l.length : Nat) : Int)) = true from decide_eq_true (by omega), cond_true, show ((i : Int) - 1) = ((i - 1 : Nat) : Int) by omega, wrapn (by omega), idx_get hlt', Option.bind_some, hp, Option.bind_some, idx_get hlt, Option.bind_some, hp, Option.bind_some,
      show ((i : Int) + 1) = ((i + 1 : Nat) : Int) by omega, wrapn (by omega), ih (i + 1) f (by omega) (by omega) (by omega), risL_drop _ (i - 1) (by simp; omega)]
    simp only [show i - 1 + 1 = i by omega, show i + 1 - 1 = i by omega, List.getElem_map]
    cases Op.bytesLess l[i - 1].1 l[i].1 with
    | true => rfl
    | false => rfl
theorem risingToken (l : List TokL) (p : Str → Str → Int → Option Str) (hp : ∀ x : TokL, p x.1 x.2.1 x.2.2 = some x.1) (hl : l.length ≤ 140737488355328) : L_config_rising_api_Token l p = some (risL (l.map (·.1))) := by
  have := risingToken_loop l p hp hl (l.length - 1) 1 fuel rfl (Nat.le_refl _) (by unfold fuel; omega)
  unfold L_config_rising_api_Token
  rw [show ((1 : Nat) : Int) = 1 from rfl] at this
  rw [this]
  rfl
theorem risingTenant_loop (l : List TenantL) (p : Str → Int → Int → List NetL → List TokL → Option Str) (hp : ∀ x : TenantL, p x.1 x.2.1 x.2.2.1 x.2.2.2.1 x.2.2.2.2 = some x.1) (hl : l.length ≤ 140737488355328) :
    ∀ (d i f : Nat), d = l.length - i → 1 ≤ i → d < f → L_config_rising_api_Tenant_l1 l p f (i : Int) = some (risL ((l.map (·.1)).drop (i - 1))) := by
  intro d
  induction d with
  | zero =>
    intro i f hd hi hf
    obtain ⟨f, rfl⟩ : ∃ g, f = g + 1 := ⟨f - 1, by omega⟩
    show L_config_rising_api_Tenant_b1 (L_config_rising_api_Tenant_l1 l p f) l p (i : Int) = _
    unfold L_config_rising_api_Tenant_b1
    rw [show decide ((i : Int) < ((l.length : Nat) : Int)) = false from decide_eq_false (by omega), cond_false, risL_short _ _ (by simp; omega)]
  | succ d ih =>
    intro i f hd hi hf
    obtain ⟨f, rfl⟩ : ∃ g, f = g + 1 := ⟨f - 1, by omega⟩
    have hlt : i < l.length := by omega
    have hlt' : i - 1 < l.length := by omega
    show L_config_rising_api_Tenant_b1 (L_config_rising_api_Tenant_l1 l p f) l p (i : Int) = _
    unfold L_config_rising_api_Tenant_b1
    rw [show decide ((i : Int) < ((l.length : Nat) : Int)) = true from decide_eq_true (by omega), cond_true, show ((i : Int) - 1) = ((i - 1 : Nat) : Int) by omega, wrapn (by omega), idx_get hlt', Option.bind_some, hp, Option.bind_some, idx_get hlt, Option.bind_some, hp, Option.bind_some,
      show ((i : Int) + 1) = ((i + 1 : Nat) : Int) by omega, wrapn (by omega), ih (i + 1) f (by omega) (by omega) (by omega), risL_drop _ (i - 1) (by simp; omega)]
    simp only [show i - 1 + 1 = i by omega, show i + 1 - 1 = i by omega, List.getElem_map]
    cases Op.bytesLess l[i - 1].1 l[i].1 with
    | true => rfl
    | false => rfl
theorem risingTenant (l : List TenantL) (p : Str → Int → Int → List NetL → List TokL → Option Str) (hp : ∀ x : TenantL, p x.1 x.2.1 x.2.2.1 x.2.2.2.1 x.2.2.2.2 = some x.1) (hl : l.length ≤ 140737488355328) : L_config_rising_api_Tenant l p = some (risL (l.map (·.1))) := by
  have := risingTenant_loop l p hp hl (l.length - 1) 1 fuel rfl (Nat.le_refl _) (by unfold fuel; omega)
  unfold L_config_rising_api_Tenant
  rw [show ((1 : Nat) : Int) = 1 from rfl] at this
  rw [this]
  rfl
/-! what is right -/
def netOk (n : NetL) : Bool := rightN n.1.toNat n.2
def tokOk (x : TokL) : Bool := nameB x.1 && ((decide (1 ≤ x.2.1.length) && decide (x.2.1.length ≤ 32)) && (decide (0 ≤ x.2.2) && decide (x.2.2 ≤ 1099511627776)))
def qOk (n : Int) : Bool := decide (0 ≤ n) && decide (n ≤ 8)
def tenOk (t : TenantL) : Bool := (t.2.2.2.1.all netOk && t.2.2.2.2.all tokOk) && ((nameB t.1 && (decide (t.2.2.2.1.length ≤ 4) && decide (t.2.2.2.2.length ≤ 4))) && ((qOk t.2.1 && qOk t.2.2.1) && risL (t.2.2.2.2.map (·.1))))
def timeOk (n : Int) : Bool := decide (1 ≤ n) && decide (n ≤ 1073741824)
def cfgOk (w g i e : Int) (l : List TenantL) : Bool := (timeOk w && (timeOk g && (timeOk i && timeOk e))) && (decide (l.length ≤ 8) && (l.all tenOk && risL (l.map (·.1))))
def TenQ (t : TenantL) : Prop := t.1.length ≤ 140737488355328 ∧ t.2.2.2.1.length ≤ 140737488355328 ∧ t.2.2.2.2.length ≤ 140737488355328 ∧ (∀ n ∈ t.2.2.2.1, 0 ≤ n.1 ∧ n.1 < 4294967296) ∧ ∀ x ∈ t.2.2.2.2, x.1.length ≤ 140737488355328 ∧ x.2.1.length ≤ 140737488355328
theorem lWithin (n a b : Int) : L_config_within n a b = some (decide (a ≤ n) && decide (n ≤ b)) := by
  unfold L_config_within L_config_within_k1
  by_cases h : n ≥ a
  · rw [show decide (n ≥ a) = true from decide_eq_true h]
    rfl
  · rw [show decide (n ≥ a) = false from decide_eq_false h]
    rfl
theorem slash_nil (a : Nat) (b : Int) : (slashL a b == ([] : List UInt8)) = !(rightN a b) := by
  unfold slashL
  cases rightN a b with
  | true =>
    simp only [Bool.not_true, beq_eq_false_iff_ne]
    intro h
    have := congrArg List.length h
    simp at this
  | false => rfl
theorem lNetBad {n : NetL} (h : 0 ≤ n.1 ∧ n.1 < 4294967296) : L_config_tenant_1 n.1 n.2 = some (!(netOk n)) := by
  unfold L_config_tenant_1 netOk
  obtain ⟨a, ha⟩ : ∃ a : Nat, n.1 = (a : Int) := ⟨n.1.toNat, by omega⟩
  rw [ha, lSlash a (by omega), Option.bind_some, slash_nil, Int.toNat_natCast]
theorem lToken {x : TokL} (h : x.1.length ≤ 140737488355328) : L_config_token x.1 x.2.1 x.2.2 = some (tokOk x) := by
  unfold L_config_token L_config_token_k1 tokOk
  rw [lNameM _ h, Option.bind_some, lWithin, lWithin]
  cases nameB x.1 with
  | false => rfl
  | true =>
    rw [cond_true, Option.bind_some, show decide (1 ≤ ((List.length x.2.1 : Nat) : Int)) = decide (1 ≤ x.2.1.length) from decide_eq_decide.2 (by omega), show decide (((List.length x.2.1 : Nat) : Int) ≤ 32) = decide (x.2.1.length ≤ 32) from decide_eq_decide.2 (by omega)]
    cases (decide (1 ≤ x.2.1.length) && decide (x.2.1.length ≤ 32)) <;> rfl
theorem any_not {α : Type} (p : α → Bool) (l : List α) : l.any (fun x => !(p x)) = !(l.all p) := by
  induction l with
  | nil => rfl
  | cons x l ih => rw [List.any_cons, List.all_cons, ih, Bool.not_and]
theorem lTenant {t : TenantL} (h : TenQ t) : L_config_tenant t.1 t.2.1 t.2.2.1 t.2.2.2.1 t.2.2.2.2 = some (tenOk t) := by
  obtain ⟨h1, h2, h3, h4, h5⟩ := h
  unfold L_config_tenant
  rw [containsNet t.2.2.2.1 (fun n => !(netOk n)) _ (fun n hn => lNetBad (h4 n hn)) h2, Option.bind_some, containsToken t.2.2.2.2 (fun x => !(tokOk x)) _ (fun x hx => by unfold L_config_tenant_2; rw [lToken (h5 x hx).1]; rfl) h3, any_not, any_not]
  have k5 : ∀ v, L_config_tenant_k5 t.2.1 t.2.2.1 t.2.2.2.2 v = some (!v && ((qOk t.2.1 && qOk t.2.2.1) && risL (t.2.2.2.2.map (·.1)))) := by
    intro v
    unfold L_config_tenant_k5 L_config_tenant_k6
    cases v with
    | true => rfl
    | false =>
      rw [cond_false, lWithin, lWithin, Option.bind_some, Option.bind_some, risingToken _ _ (fun x => rfl) h3]
      unfold qOk
      cases (decide (0 ≤ t.2.1) && decide (t.2.1 ≤ 8)) <;> cases (decide (0 ≤ t.2.2.1) && decide (t.2.2.1 ≤ 8)) <;> cases risL (t.2.2.2.2.map (·.1)) <;> rfl
  have k1 : ∀ v, L_config_tenant_k1 t.1 t.2.1 t.2.2.1 t.2.2.2.1 t.2.2.2.2 v = some (!v && ((nameB t.1 && (decide (t.2.2.2.1.length ≤ 4) && decide (t.2.2.2.2.length ≤ 4))) && ((qOk t.2.1 && qOk t.2.2.1) && risL (t.2.2.2.2.map (·.1))))) := by
    intro v
    unfold L_config_tenant_k1 L_config_tenant_k9 L_config_tenant_k8
    cases v with
    | true => rw [cond_true, k5]; rfl
    | false =>
      rw [cond_false, lNameM _ h1, Option.bind_some]
      simp only [k5]
      rw [show decide (((List.length t.2.2.2.1 : Nat) : Int) > 4) = !(decide (t.2.2.2.1.length ≤ 4)) by rw [← decide_not]; exact decide_eq_decide.2 (by omega), show decide (((List.length t.2.2.2.2 : Nat) : Int) > 4) = !(decide (t.2.2.2.2.length ≤ 4)) by rw [← decide_not]; exact decide_eq_decide.2 (by omega)]
      cases nameB t.1 <;> cases decide (t.2.2.2.1.length ≤ 4) <;> cases decide (t.2.2.2.2.length ≤ 4) <;> rfl
  unfold tenOk
  cases t.2.2.2.1.all netOk with
  | false =>
    rw [show (!false) = true from rfl, cond_true, k1]
    rfl
  | true =>
    rw [show (!true) = false from rfl, cond_false, Option.bind_some, k1]
    cases t.2.2.2.2.all tokOk <;> rfl
theorem lRight_end (w g i e : Int) (l : List TenantL) (rec3 : Int → Option Bool) (hl : l.length ≤ 140737488355328) (hq : ∀ t ∈ l, TenQ t) : L_config_Right_b2 rec3 w g i e l ((0 + 1 + 1 + 1 + 1 : Nat) : Int) = some (decide (l.length ≤ 8) && (l.all tenOk && risL (l.map (·.1)))) := by
  unfold L_config_Right_b2 L_config_Right_k4
  rw [show decide (((0 + 1 + 1 + 1 + 1 : Nat) : Int) < ((List.length ([w, g, i, e] : List Int) : Nat) : Int)) = false from rfl, cond_false, containsTenant l (fun t => !(tenOk t)) _ (fun t ht => by unfold L_config_Right_1; rw [lTenant (hq t ht)]; rfl) hl, any_not, risingTenant _ _ (fun x => rfl) hl,
    show decide (((List.length l : Nat) : Int) ≤ 8) = decide (l.length ≤ 8) from decide_eq_decide.2 (by omega)]
  cases decide (l.length ≤ 8) <;> cases l.all tenOk <;> cases risL (l.map (·.1)) <;> rfl
theorem lRight_step (w g i e : Int) (l : List TenantL) (rec3 : Int → Option Bool) (k : Nat) (x : Int) (hk : k < 4) (hx : [w, g, i, e][k]? = some x) : L_config_Right_b2 rec3 w g i e l (k : Int) = cond (timeOk x) (rec3 ((k + 1 : Nat) : Int)) (some false) := by
  unfold L_config_Right_b2
  rw [show decide ((k : Int) < ((List.length ([w, g, i, e] : List Int) : Nat) : Int)) = true from decide_eq_true (by simp only [List.length_cons, List.length_nil]; omega), cond_true, show idx ([w, g, i, e] : List Int) (k : Int) = some x by rw [idx_nat]; exact hx, Option.bind_some, lWithin, Option.bind_some, show ((k : Int) + 1) = ((k + 1 : Nat) : Int) by omega, wrapn (by omega)]
  unfold timeOk
  cases (decide (1 ≤ x) && decide (x ≤ 1073741824)) <;> rfl
theorem lCfg (w g i e : Int) (l : List TenantL) (hl : l.length ≤ 140737488355328) (hq : ∀ t ∈ l, TenQ t) : L_config_Right w g i e l = some (cfgOk w g i e l) := by
  have unf : ∀ f (v : Int), L_config_Right_l2 w g i e l (f + 1) v = L_config_Right_b2 (L_config_Right_l2 w g i e l f) w g i e l v := fun _ _ => rfl
  unfold L_config_Right cfgOk
  rw [show fuel = 18446744073709551611 + 1 + 1 + 1 + 1 + 1 from rfl]
  rw [unf, show (0 : Int) = ((0 : Nat) : Int) from rfl, lRight_step w g i e l _ 0 w (by omega) rfl, unf, lRight_step w g i e l _ (0 + 1) g (by omega) rfl, unf, lRight_step w g i e l _ (0 + 1 + 1) i (by omega) rfl, unf, lRight_step w g i e l _ (0 + 1 + 1 + 1) e (by omega) rfl, unf, lRight_end w g i e l _ hl hq]
  cases timeOk w <;> cases timeOk g <;> cases timeOk i <;> cases timeOk e <;> rfl
end Go.Proofs.YtfffjaijflbeaaaDoor
