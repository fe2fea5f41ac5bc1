import Derived.Test.YtoflbpmbkmephaaGreatDoorPkConfigTells2
set_option linter.unusedSimpArgs false
set_option linter.unusedVariables false
set_option linter.unusedSectionVars false
set_option maxRecDepth 100000
set_option maxHeartbeats 40000000
namespace Go.Proofs.YtoflbpmbkmephaaGreatDoor
def TenS (t : Qb) : Prop := t.1.length ≤ 9000 ∧ t.2.2.2.1.length ≤ 9000 ∧ t.2.2.2.2.length ≤ 9000 ∧ ∀ x ∈ t.2.2.2.2, x.1.length ≤ 9000 ∧ x.2.1.length ≤ 9000
theorem not_gt {a b : Int} : decide (a > b) = !(decide (a ≤ b)) := by rw [← decide_not]; exact decide_eq_decide.2 (by omega)
theorem not_lt0 {a : Int} : decide (a < 0) = !(decide (0 ≤ a)) := by rw [← decide_not]; exact decide_eq_decide.2 (by omega)
theorem emptyB (s : Str) : (s == ([] : List UInt8)) = !(decide (1 ≤ s.length)) := by
  cases s with
  | nil => rfl
  | cons c s => rw [decide_eq_true (by simp)]; rfl
theorem len32 (s : Str) : decide (((List.length s : Nat) : Int) > 32) = !(decide (s.length ≤ 32)) := by rw [← decide_not]; exact decide_eq_decide.2 (by omega)
theorem tok_step (r10 r13 : Int → Option Bool) (l : List E8) (i : Nat) (hi : i < l.length) (hl : l.length ≤ 9000) (hx : l[i].1.length ≤ 9000) :
    Vr r10 r13 l (i : Int) = cond (I4 l[i] && (if h : 0 < i then Op.bytesLess (l[i - 1]'(by omega)).1 l[i].1 else true)) (r13 ((i + 1 : Nat) : Int)) (some false) := by
  unfold Vr Q0
  rw [show decide ((i : Int) < ((l.length : Nat) : Int)) = true from decide_eq_true (by omega), cond_true, Zr hi, Option.bind_some, rName _ hx, Option.bind_some]
  simp only [show ((i : Int) + 1) = ((i + 1 : Nat) : Int) by omega, Uy (show i + 1 < 4611686018427387904 by omega), emptyB, len32, not_lt0, not_gt (a := l[i].2.2)]
  unfold I4
  by_cases h0 : 0 < i
  · rw [dif_pos h0, show decide ((i : Int) > 0) = true from decide_eq_true (by omega), cond_true, show ((i : Int) - 1) = ((i - 1 : Nat) : Int) by omega, Uy (by omega), Zr (by omega : i - 1 < l.length), Option.bind_some]
    cases Fh l[i].1 <;> cases Op.bytesLess l[i - 1].1 l[i].1 <;> cases decide (1 ≤ l[i].2.1.length) <;> cases decide (l[i].2.1.length ≤ 32) <;> cases decide (0 ≤ l[i].2.2) <;> cases decide (l[i].2.2 ≤ 1099511627776) <;> rfl
  · rw [dif_neg h0, show decide ((i : Int) > 0) = false from decide_eq_false (by omega), cond_false]
    cases Fh l[i].1 <;> cases decide (1 ≤ l[i].2.1.length) <;> cases decide (l[i].2.1.length ≤ 32) <;> cases decide (0 ≤ l[i].2.2) <;> cases decide (l[i].2.2 ≤ 1099511627776) <;> rfl
theorem St (l : List Str) (i : Nat) (hi : i < l.length) : K5 (l.drop (i - 1)) = ((if h : 0 < i then Op.bytesLess (l[i - 1]'(by omega)) l[i] else true) && K5 (l.drop i)) := by
  by_cases h : 0 < i
  · rw [dif_pos h, Km l (i - 1) (by omega)]
    simp only [show i - 1 + 1 = i by omega]
  · rw [dif_neg h, show i - 1 = i by omega]
    rfl
theorem tok_loop (r10 : Int → Option Bool) (l : List E8) (hl : l.length ≤ 9000) (hx : ∀ x ∈ l, x.1.length ≤ 9000) : ∀ (d i f : Nat), d = l.length - i → i ≤ l.length → d < f →
    Vc r10 l f (i : Int) = some ((l.drop i).all I4 && K5 ((l.map (·.1)).drop (i - 1))) := by
  intro d
  induction d with
  | zero =>
    intro i f hd hi hf
    obtain ⟨f, rfl⟩ : ∃ g, f = g + 1 := ⟨f - 1, by omega⟩
    show Vr r10 (Vc r10 l f) l (i : Int) = _
    unfold Vr
    rw [show decide ((i : Int) < ((l.length : Nat) : Int)) = false from decide_eq_false (by omega), cond_false, List.drop_of_length_le (by omega), Fq _ _ (by simp; omega)]
    rfl
  | succ d ih =>
    intro i f hd hi hf
    obtain ⟨f, rfl⟩ : ∃ g, f = g + 1 := ⟨f - 1, by omega⟩
    have hlt : i < l.length := by omega
    show Vr r10 (Vc r10 l f) l (i : Int) = _
    rw [tok_step r10 _ l i hlt hl (hx _ (List.getElem_mem hlt)), ih (i + 1) f (by omega) (by omega) (by omega), List.drop_eq_getElem_cons hlt, List.all_cons, St _ i (by simpa using hlt), show i + 1 - 1 = i by omega]
    simp only [List.getElem_map]
    generalize (if h : 0 < i then Op.bytesLess (l[i - 1]'(by omega)).1 l[i].1 else true) = b
    cases I4 l[i] <;> cases b <;> simp
theorem net_loop9 (l : List La) (tk : List E8) (B : Bool) (hl : l.length ≤ 9000) (hn : ∀ n ∈ l, 0 ≤ n.1 ∧ n.1 < 4294967296) (ht : ∀ r10, Vc r10 tk Zj 0 = some B) : ∀ (d i f : Nat), d = l.length - i → i ≤ l.length → d < f →
    Q6 l tk f (i : Int) = some ((l.drop i).all Mg && B) := by
  intro d
  induction d with
  | zero =>
    intro i f hd hi hf
    obtain ⟨f, rfl⟩ : ∃ g, f = g + 1 := ⟨f - 1, by omega⟩
    show V6 (Q6 l tk f) l tk (i : Int) = _
    unfold V6
    rw [show decide ((i : Int) < ((l.length : Nat) : Int)) = false from decide_eq_false (by omega), cond_false, List.drop_of_length_le (by omega), ht]
    rfl
  | succ d ih =>
    intro i f hd hi hf
    obtain ⟨f, rfl⟩ : ∃ g, f = g + 1 := ⟨f - 1, by omega⟩
    have hlt : i < l.length := by omega
    have hb := hn _ (List.getElem_mem hlt)
    show V6 (Q6 l tk f) l tk (i : Int) = _
    unfold V6
    obtain ⟨a, ha⟩ : ∃ a : Nat, l[i].1 = (a : Int) := ⟨l[i].1.toNat, by omega⟩
    rw [show decide ((i : Int) < ((l.length : Nat) : Int)) = true from decide_eq_true (by omega), cond_true, Zr hlt, Option.bind_some, ha, rRight a (by omega), Option.bind_some, show ((i : Int) + 1) = ((i + 1 : Nat) : Int) by omega, Uy (by omega), ih (i + 1) f (by omega) (by omega) (by omega), List.drop_eq_getElem_cons hlt, List.all_cons,
      show Mg l[i] = Dm a l[i].2 by unfold Mg; rw [ha, Int.toNat_natCast]]
    cases Dm a l[i].2 <;> simp
theorem rTenant {t : Qb} (hs : TenS t) (hq : Pe t) : Y1 t.1 t.2.1 t.2.2.1 t.2.2.2.1 t.2.2.2.2 = some (Hf t) := by
  obtain ⟨h1, h2, h3, h4⟩ := hs
  have htok : ∀ r10, Vc r10 t.2.2.2.2 Zj 0 = some (t.2.2.2.2.all I4 && K5 (t.2.2.2.2.map (·.1))) := fun r10 => by
    have := tok_loop r10 t.2.2.2.2 h3 (fun x hx => (h4 x hx).1) t.2.2.2.2.length 0 Zj (by omega) (by omega) (by unfold Zj; omega)
    simpa using this
  have hnet := net_loop9 t.2.2.2.1 t.2.2.2.2 _ h2 hq.2.2.2.1 htok t.2.2.2.1.length 0 Zj (by omega) (by omega) (by unfold Zj; omega)
  rw [show ((0 : Nat) : Int) = 0 from rfl, List.drop_zero] at hnet
  unfold Y1 Ve
  rw [rName _ h1, Option.bind_some]
  simp only [hnet, not_lt0, not_gt]
  rw [show decide (((List.length t.2.2.2.1 : Nat) : Int) ≤ 4) = decide (t.2.2.2.1.length ≤ 4) from decide_eq_decide.2 (by omega), show decide (((List.length t.2.2.2.2 : Nat) : Int) ≤ 4) = decide (t.2.2.2.2.length ≤ 4) from decide_eq_decide.2 (by omega)]
  unfold Hf qOk
  generalize t.2.2.2.1.all Mg = a1
  generalize t.2.2.2.2.all I4 = a2
  generalize K5 (t.2.2.2.2.map (·.1)) = a3
  cases Fh t.1 <;> cases decide (0 ≤ t.2.1) <;> cases decide (t.2.1 ≤ 8) <;> cases decide (0 ≤ t.2.2.1) <;> cases decide (t.2.2.1 ≤ 8) <;> cases decide (t.2.2.2.1.length ≤ 4) <;> cases decide (t.2.2.2.2.length ≤ 4) <;> cases a1 <;> cases a2 <;> cases a3 <;> rfl
theorem rTime (n : Int) : Yt n = some (G0 n) := by
  unfold Yt Ui G0
  by_cases h : n ≥ 1
  · rw [decide_eq_true h]; rfl
  · rw [decide_eq_false h]; rfl
def endOk (w g i e : Int) (l : List Qb) : Bool := (G0 w && (G0 g && (G0 i && G0 e))) && decide (l.length ≤ 8)
theorem rCfg_loop (w g i e : Int) (l : List Qb) (hl : l.length ≤ 9000) (hq : ∀ t ∈ l, Pe t) (hs : ∀ t ∈ l, TenS t) : ∀ (d k f : Nat), d = l.length - k → k ≤ l.length → d < f →
    Zf w g i e l f (k : Int) = some (((l.drop k).all Hf && K5 ((l.map (·.1)).drop (k - 1))) && endOk w g i e l) := by
  intro d
  induction d with
  | zero =>
    intro k f hd hk hf
    obtain ⟨f, rfl⟩ : ∃ g, f = g + 1 := ⟨f - 1, by omega⟩
    show Xj (Zf w g i e l f) w g i e l (k : Int) = _
    unfold Xj Zv
    rw [show decide ((k : Int) < ((l.length : Nat) : Int)) = false from decide_eq_false (by omega), cond_false, List.drop_of_length_le (by omega), Fq _ _ (by simp; omega), rTime, rTime, rTime, rTime, show decide (((List.length l : Nat) : Int) ≤ 8) = decide (l.length ≤ 8) from decide_eq_decide.2 (by omega)]
    unfold endOk
    cases G0 w <;> cases G0 g <;> cases G0 i <;> cases G0 e <;> rfl
  | succ d ih =>
    intro k f hd hk hf
    obtain ⟨f, rfl⟩ : ∃ g, f = g + 1 := ⟨f - 1, by omega⟩
    have hlt : k < l.length := by omega
    have hm := List.getElem_mem hlt
    show Xj (Zf w g i e l f) w g i e l (k : Int) = _
    unfold Xj Yy
    rw [show decide ((k : Int) < ((l.length : Nat) : Int)) = true from decide_eq_true (by omega), cond_true, Zr hlt, Option.bind_some, rTenant (hs _ hm) (hq _ hm), Option.bind_some, show ((k : Int) + 1) = ((k + 1 : Nat) : Int) by omega, Uy (by omega), ih (k + 1) f (by omega) (by omega) (by omega), List.drop_eq_getElem_cons hlt, List.all_cons, St _ k (by simpa using hlt), show k + 1 - 1 = k by omega]
    simp only [List.getElem_map]
    by_cases h0 : 0 < k
    · rw [dif_pos h0, show decide ((k : Int) > 0) = true from decide_eq_true (by omega), cond_true, show ((k : Int) - 1) = ((k - 1 : Nat) : Int) by omega, Uy (by omega), Zr (by omega : k - 1 < l.length), Option.bind_some, Option.bind_some]
      cases Hf l[k] <;> cases Op.bytesLess l[k - 1].1 l[k].1 <;> simp
    · rw [dif_neg h0, show decide ((k : Int) > 0) = false from decide_eq_false (by omega), cond_false]
      cases Hf l[k] <;> simp
theorem rCfg (w g i e : Int) (l : List Qb) (hl : l.length ≤ 9000) (hq : ∀ t ∈ l, Pe t) (hs : ∀ t ∈ l, TenS t) : Z6 w g i e l = some (Ok w g i e l) := by
  have := rCfg_loop w g i e l hl hq hs l.length 0 Zj (by omega) (by omega) (by unfold Zj; omega)
  unfold Z6
  rw [show ((0 : Nat) : Int) = 0 from rfl] at this
  rw [this, List.drop_zero, Nat.zero_sub, List.drop_zero]
  unfold Ok endOk
  generalize l.all Hf = a
  generalize K5 (l.map (·.1)) = b
  cases (G0 w && (G0 g && (G0 i && G0 e))) <;> cases a <;> cases b <;> cases decide (l.length ≤ 8) <;> rfl
def pl (l : List Qb) (nm : Str) : Option Nat := l.findIdx? (fun x => x.1 == nm)
def Ol : Qb := ([], 0, 0, [], [])
def D3 (l : List Qb) (nm : Str) : Str × Int × Int × List La × List E8 × Bool := match pl l nm with
  | some k => ((l.getD k Ol).1, (l.getD k Ol).2.1, (l.getD k Ol).2.2.1, (l.getD k Ol).2.2.2.1, (l.getD k Ol).2.2.2.2, true)
  | none => ([], 0, 0, [], [], false)
theorem pl_step {l : List Qb} {nm : Str} {i : Nat} (hi : i < l.length) (hn : (l.take i).any (fun x => x.1 == nm) = false) (hx : (l[i].1 == nm) = true) : pl l nm = some i := by
  unfold pl
  rw [List.findIdx?_eq_some_iff_getElem]
  refine ⟨hi, hx, fun j hj => ?_⟩
  rw [List.any_eq_false] at hn
  have := hn l[j] (by rw [List.mem_take_iff_getElem]; exact ⟨j, by omega, rfl⟩)
  simpa using this
theorem pl_none {l : List Qb} {nm : Str} (hn : l.any (fun x => x.1 == nm) = false) : pl l nm = none := by
  unfold pl
  rw [List.findIdx?_eq_none_iff]
  intro x hx
  rw [List.any_eq_false] at hn
  simpa using hn x hx
theorem any_more {l : List Qb} {nm : Str} {i : Nat} (hi : i < l.length) (hn : (l.take i).any (fun x => x.1 == nm) = false) (hx : (l[i].1 == nm) = false) : (l.take (i + 1)).any (fun x => x.1 == nm) = false := by
  rw [List.take_add_one, List.getElem?_eq_getElem hi, List.any_append, hn]
  simp [hx]
theorem Tm (l : List Qb) (nm : Str) (hl : l.length ≤ 9000) : ∀ (d i f : Nat), d = l.length - i → i ≤ l.length → d < f → (l.take i).any (fun x => x.1 == nm) = false → Yd l nm f (i : Int) = some (D3 l nm) := by
  intro d
  induction d with
  | zero =>
    intro i f hd hi hf hn
    obtain ⟨f, rfl⟩ : ∃ g, f = g + 1 := ⟨f - 1, by omega⟩
    show Yc (Yd l nm f) l nm (i : Int) = _
    unfold Yc D3
    rw [List.take_of_length_le (by omega)] at hn
    rw [show decide ((i : Int) < ((l.length : Nat) : Int)) = false from decide_eq_false (by omega), cond_false, pl_none hn]
  | succ d ih =>
    intro i f hd hi hf hn
    obtain ⟨f, rfl⟩ : ∃ g, f = g + 1 := ⟨f - 1, by omega⟩
    have hlt : i < l.length := by omega
    show Yc (Yd l nm f) l nm (i : Int) = _
    unfold Yc
    rw [show decide ((i : Int) < ((l.length : Nat) : Int)) = true from decide_eq_true (by omega), cond_true, Zr hlt, Option.bind_some]
    cases hx : (l[i].1 == nm) with
    | true =>
      have hg : l.getD i Ol = l[i] := by simp [List.getD, hlt]
      rw [cond_true, Option.bind_some]
      unfold D3
      rw [pl_step hlt hn hx]
      simp only [hg]
    | false =>
      rw [cond_false, show ((i : Int) + 1) = ((i + 1 : Nat) : Int) by omega, Uy (by omega)]
      exact ih (i + 1) f (by omega) (by omega) (by omega) (any_more hlt hn hx)
theorem rFind (w g i e : Int) (l : List Qb) (nm : Str) (hl : l.length ≤ 9000) : Rc w g i e l nm = some (D3 l nm) :=
  Tm l nm hl l.length 0 Zj (by omega) (by omega) (by unfold Zj; omega) rfl
theorem Pw (n : Nat) : (if (3000 : Int) < ((n : Nat) : Int) then (3000 : Int) else ((n : Nat) : Int)) = ((min n 3000 : Nat) : Int) := by split <;> omega
theorem great_in (r11 : Int → Int → Option Bool) (i : Int) (t : Qb) (ht : t.2.2.2.2.length ≤ 140737488355328) : ∀ (d k f n : Nat), d = t.2.2.2.2.length - k → k ≤ t.2.2.2.2.length → d < f → n ≤ 562949953421312 →
    ∃ n' : Nat, n ≤ n' ∧ n' ≤ 562949953421312 + 6000 ∧ V7 r11 i t f (n : Int) (k : Int) = r11 (n' : Int) (IntKind.wrap .i64 (i + 1)) ∧ (n' < 3000 → ∀ x ∈ t.2.2.2.2.drop k, x.1.length < 3000 ∧ x.2.1.length < 3000) := by
  intro d
  induction d with
  | zero =>
    intro k f n hd hk hf hn
    obtain ⟨f, rfl⟩ : ∃ g, f = g + 1 := ⟨f - 1, by omega⟩
    refine ⟨n, by omega, by omega, ?_, fun _ x hx => by rw [List.drop_of_length_le (by omega)] at hx; cases hx⟩
    show Z7 r11 (V7 r11 i t f) i t (n : Int) (k : Int) = _
    unfold Z7 Yi
    rw [show decide ((k : Int) < ((t.2.2.2.2.length : Nat) : Int)) = false from decide_eq_false (by omega), cond_false, cond_false]
  | succ d ih =>
    intro k f n hd hk hf hn
    obtain ⟨f, rfl⟩ : ∃ g, f = g + 1 := ⟨f - 1, by omega⟩
    have hlt : k < t.2.2.2.2.length := by omega
    have hstep : V7 r11 i t (f + 1) (n : Int) (k : Int) = Z7 r11 (V7 r11 i t f) i t (n : Int) (k : Int) := rfl
    unfold Z7 Yi at hstep
    rw [show decide ((k : Int) < ((t.2.2.2.2.length : Nat) : Int)) = true from decide_eq_true (by omega), cond_true] at hstep
    by_cases h3 : n < 3000
    · rw [show decide ((n : Int) < 3000) = true from decide_eq_true (by omega), cond_true, Zr hlt, Option.bind_some, Option.bind_some, Pw, Pw, show ((n : Int) + ((min (t.2.2.2.2[k]).1.length 3000 : Nat) : Int)) = ((n + min (t.2.2.2.2[k]).1.length 3000 : Nat) : Int) by omega, Uy (by omega),
        show (((n + min (t.2.2.2.2[k]).1.length 3000 : Nat) : Int) + ((min (t.2.2.2.2[k]).2.1.length 3000 : Nat) : Int)) = ((n + min (t.2.2.2.2[k]).1.length 3000 + min (t.2.2.2.2[k]).2.1.length 3000 : Nat) : Int) by omega, Uy (by omega), show ((k : Int) + 1) = ((k + 1 : Nat) : Int) by omega, Uy (by omega)] at hstep
      obtain ⟨n', h1, h2, h4, h5⟩ := ih (k + 1) f (n + min (t.2.2.2.2[k]).1.length 3000 + min (t.2.2.2.2[k]).2.1.length 3000) (by omega) (by omega) (by omega) (by omega)
      refine ⟨n', by omega, h2, hstep.trans h4, fun hn' x hx => ?_⟩
      rw [List.drop_eq_getElem_cons hlt] at hx
      rcases List.mem_cons.1 hx with rfl | hx
      · exact ⟨by omega, by omega⟩
      · exact h5 hn' x hx
    · rw [show decide ((n : Int) < 3000) = false from decide_eq_false (by omega), cond_false] at hstep
      exact ⟨n, by omega, by omega, hstep, fun h => absurd h h3⟩
theorem great_out (l : List Qb) (hl : l.length ≤ 140737488355328) (hq : ∀ t ∈ l, Pe t) : ∀ (d i f n : Nat), d = l.length - i → i ≤ l.length → d < f → n ≤ 562949953421312 + 6000 → l.length ≤ n →
    (n < 3000 → ∀ t ∈ l.take i, TenS t) → ∃ b, Q8 l f (n : Int) (i : Int) = some b ∧ (b = false → l.length ≤ 3000 ∧ ∀ t ∈ l, TenS t) := by
  intro d
  induction d with
  | zero =>
    intro i f n hd hi hf hn hln hs
    obtain ⟨f, rfl⟩ : ∃ g, f = g + 1 := ⟨f - 1, by omega⟩
    refine ⟨decide ((n : Int) ≥ 3000), ?_, fun hb => ?_⟩
    · show Xm (Q8 l f) l (n : Int) (i : Int) = _
      unfold Xm Yj
      rw [show decide ((i : Int) < ((l.length : Nat) : Int)) = false from decide_eq_false (by omega), cond_false, cond_false]
    · have := of_decide_eq_false hb
      rw [List.take_of_length_le (by omega)] at hs
      exact ⟨by omega, hs (by omega)⟩
  | succ d ih =>
    intro i f n hd hi hf hn hln hs
    obtain ⟨f, rfl⟩ : ∃ g, f = g + 1 := ⟨f - 1, by omega⟩
    have hlt : i < l.length := by omega
    have hstep : Q8 l (f + 1) (n : Int) (i : Int) = Xm (Q8 l f) l (n : Int) (i : Int) := rfl
    unfold Xm Yj at hstep
    rw [show decide ((i : Int) < ((l.length : Nat) : Int)) = true from decide_eq_true (by omega), cond_true] at hstep
    by_cases h3 : n < 3000
    · obtain ⟨q1, q2, q3, q4, q5⟩ := hq _ (List.getElem_mem hlt)
      rw [show decide ((n : Int) < 3000) = true from decide_eq_true (by omega), cond_true, Zr hlt, Option.bind_some, Pw, show ((n : Int) + ((min l[i].1.length 3000 : Nat) : Int)) = ((n + min l[i].1.length 3000 : Nat) : Int) by omega, Uy (by omega),
        show (((n + min l[i].1.length 3000 : Nat) : Int) + ((l[i].2.2.2.1.length : Nat) : Int)) = ((n + min l[i].1.length 3000 + l[i].2.2.2.1.length : Nat) : Int) by omega, Uy (by omega),
        show (((n + min l[i].1.length 3000 + l[i].2.2.2.1.length : Nat) : Int) + ((l[i].2.2.2.2.length : Nat) : Int)) = ((n + min l[i].1.length 3000 + l[i].2.2.2.1.length + l[i].2.2.2.2.length : Nat) : Int) by omega, Uy (by omega)] at hstep
      obtain ⟨n', h1, h2, h4, h5⟩ := great_in (Q8 l f) (i : Int) l[i] q3 l[i].2.2.2.2.length 0 Zj (n + min l[i].1.length 3000 + l[i].2.2.2.1.length + l[i].2.2.2.2.length) (by omega) (by omega) (by unfold Zj; omega) (by omega)
      rw [show ((0 : Nat) : Int) = 0 from rfl] at h4
      rw [h4, show ((i : Int) + 1) = ((i + 1 : Nat) : Int) by omega, Uy (by omega)] at hstep
      obtain ⟨b, hb, hb2⟩ := ih (i + 1) f n' (by omega) (by omega) (by omega) (by omega) (by omega) (fun hn' t ht => by
        rw [List.take_add_one, List.getElem?_eq_getElem hlt, List.mem_append] at ht
        rcases ht with ht | ht
        · exact hs h3 t ht
        · simp only [Option.toList_some, List.mem_singleton] at ht
          subst ht
          rw [List.drop_zero] at h5
          exact ⟨by omega, by omega, by omega, fun x hx => ⟨by have := h5 hn' x hx; omega, by have := h5 hn' x hx; omega⟩⟩)
      exact ⟨b, hstep.trans hb, hb2⟩
    · rw [show decide ((n : Int) < 3000) = false from decide_eq_false (by omega), cond_false] at hstep
      exact ⟨_, hstep, fun hb => by have := of_decide_eq_false hb; omega⟩
theorem cfg_great (w g i e : Int) (l : List Qb) (hl : l.length ≤ 140737488355328) (hq : ∀ t ∈ l, Pe t) : ∃ b, Gs w g i e l = some b ∧ (b = false → l.length ≤ 3000 ∧ ∀ t ∈ l, TenS t) :=
  great_out l hl hq l.length 0 Zj l.length (by omega) (by omega) (by unfold Zj; omega) (by omega) (Nat.le_refl _) (fun _ t ht => by simp at ht)
end Go.Proofs.YtoflbpmbkmephaaGreatDoor
namespace Go.Proofs.YtoflbpmbkmephaaGreatDoor
open Go.RowKit
section
variable {w w0 : World} {es : List Ent} {S : List Nat}
theorem SP.turnE (h : SP S w0 w es) {i : Nat} {e e' : Ent} (hi : es[i]? = some e) (hok : e'.ok w) (hfp : ∀ k ∈ e'.fp, k ∈ e.fp) : SP S w0 w (es.set i e') :=
  h.set hi (T := []) (Mod.refl [] w) (by simp) hok fun k hk => ⟨.inl (hfp k hk), ((h.own.get hi).2 k (hfp k hk)).2⟩
end
section
variable {α : Type} {e : Enc α} {w w0 : World} {A : Option Addr} {c : Nat} {l m : List α} {E : TypeId} {es : List Ent} {S : List Nat} {i : Nat}
theorem cutA_zero {sz c : Nat} {A : Option Addr} (h : ∀ a, A = some a → ∃ b o, a = ⟨b, o, none⟩) : K3 sz c 0 A = A := by
  unfold K3
  split
  · rfl
  · cases A with
    | none => rfl
    | some a =>
      obtain ⟨b, o, rfl⟩ := h _ rfl
      simp [Ke]
theorem SP.cutrow {b : Int} (h : SP S w0 w es) (hi : es[i]? = some (Vh E e A c l)) (h1 : 0 ≤ b) (h2 : b ≤ (l.length : Int)) (hm : List.drop (Int.toNat 0) (List.take b.toNat l) = m) :
    SP S w0 w (es.set i (Vh E e (K3 e.sz c (Int.toNat 0) A) (c - Int.toNat 0) m)) := by
  have hm' : l.take b.toNat = m := by rw [← hm]; simp
  subst hm'
  have hok : (Vh E e A c l).ok w := h.get hi
  have hlen : (l.take b.toNat).length = b.toNat := by rw [List.length_take]; omega
  have hz : K3 e.sz c (Int.toNat 0) A = A := by
    refine cutA_zero fun a ha => ?_
    subst ha
    rcases hok.2 with ⟨h3, _⟩ | ⟨g, cap, cur, h3, _⟩
    · cases h3
    · injection h3 with h3 _ _
      injection h3 with h3
      exact ⟨g, 0, h3⟩
  have hc : c - Int.toNat 0 = c := by simp
  rw [hz, hc]
  refine h.turnE hi ?_ fun k hk => by cases A <;> exact hk
  obtain ⟨h3, h4⟩ := hok
  refine ⟨by rw [Yh], ?_⟩
  rcases h4 with ⟨h4, h5⟩ | ⟨g, cap, cur, h4, h5, h6, h7, h8, h9, h10⟩
  · left
    injection h4 with h4 h4' h4''
    have : l = [] := List.length_eq_zero_iff.1 h5
    subst this
    subst h4 h4''
    exact ⟨by simp, by simp⟩
  · right
    injection h4 with h4 h4' h4''
    subst h4 h4''
    refine ⟨g, c, cur, rfl, h5, h6, by omega, h8, h9, ?_⟩
    rw [hlen, ← Cd, ← h10, List.take_take]
    congr 1
    rw [Nat.min_eq_left (Nat.mul_le_mul_right _ (by omega))]
end
end Go.Proofs.YtoflbpmbkmephaaGreatDoor
namespace Go.Proofs.YtoflbpmbkmephaaGreatDoor
open Go.RowKit
section
variable {α : Type} {e : Enc α} {t t' : TypeId} {g m : Nat} {l : List α} {w w' w0 : World} {S : List Nat} {es : List Ent}
end
section
variable {P : Program} {n : Nat} {Q : Im} {ρ : Fr} {w w0 : World} {B : Code} {p : List Bool} {k : Nat} {d : Option Nat} {S : List Nat} {es : List Ent} {K : Fr → World → Prop}
variable {α : Type} {e : Enc α} {l : List α} {t t' : TypeId} {g m : Nat}
theorem Tn (e : Enc α) (z : α) (hz : e.sz = 1) (v : Value) (hv : e.enc z = [v]) (q : Nat) : (madeCells #[v] q).toList = Vm e (List.replicate q z) := by
  have h1 : Vm e (List.replicate q z) = List.replicate q v := by
    induction q with
    | zero => rfl
    | succ q ih => rw [List.replicate_succ, Nt, ih, hv, List.replicate_succ]; rfl
  rw [h1]
  simp [madeCells]
  apply List.ext_getElem
  · simp
  · intro i h1 h2
    simp [Nat.mod_one]
theorem Ko {T E : TypeId} {x y : Operand} {k1 k2 : IntKind} {iz : Int} {b : Nat} {z : α} {v : Value} {l' : List α} (ho : Bl (Qi B p) k ρ = some (.makeSlice T x y, d)) (hd : Jn n d = true) (hx : opv ρ x = .int k1 iz) (hy : opv ρ y = .int k2 iz)
    (hT : P.underlying T = some (.slice E)) (hE : (P.info? E).map (fun i => (i.zero, i.size, i.bytes)) = some (some v, 1, b)) (hb : Nat.ble b 65536 = true) (hz : e.sz = 1) (hv : e.enc z = [v]) (hc : v.cells = #[v]) (h0 : decide (0 ≤ iz ∧ iz ≤ 2147483648) = true) (hs : SP S w0 w es) (hq : List.replicate iz.toNat z = l')
    (next : ∀ (g : Nat) (w' : World), SP S w0 w' (es ++ [Vh E e (some ⟨g, 0, none⟩) iz.toNat l']) → l'.length = iz.toNat → K (Rh ρ d (.slice (some ⟨g, 0, none⟩) l'.length iz.toNat)) w') : Qx P n B p k K ρ w := by
  subst hq
  have h0 := of_decide_eq_true h0
  have hb2 := Nat.le_of_ble_eq_true hb
  cases hi : P.info? E with
  | none => rw [hi] at hE; cases hE
  | some i =>
    rw [hi] at hE
    simp only [Option.map_some, Option.some.injEq, Prod.mk.injEq] at hE
    obtain ⟨hz1, hz2, hz3⟩ := hE
    have hbb : (i.bytes : Int) * iz ≤ 281474976710656 := by
      rw [hz3]
      have h1 : (b : Int) * iz ≤ 65536 * 2147483648 := Int.mul_le_mul (by omega) h0.2 h0.1 (by omega)
      omega
    have hr := run_make (P := P) w T E i v hT hi hz1 k1 k2 iz iz h0.1 (Int.le_refl _) hbb (by omega)
    rw [hz2, Nat.mul_one, hc] at hr
    have hlen : (List.replicate iz.toNat z).length = iz.toNat := by simp
    have hnew := hs.newrow (E := E) (cs := madeCells #[v] iz.toNat) e (List.replicate iz.toNat z) (Tn e z hz v hv iz.toNat) (by rw [hlen]; unfold maxLen; omega) (by omega)
    rw [hlen] at hnew
    refine Qx.val ho hd (v := .slice (some ⟨w.heap.size, 0, none⟩) (List.replicate iz.toNat z).length iz.toNat) (w' := w.alloc (.cells (madeCells #[v] iz.toNat) E)) (fun o hop => ?_) (next _ _ hnew hlen)
    unfold execOp; rw [hop, hlen]
    simp only [hx, hy, Sem.run_bind, hr, Result.andThen_ok]
    rfl
end
end Go.Proofs.YtoflbpmbkmephaaGreatDoor
namespace Go.Proofs.YtoflbpmbkmephaaGreatDoor
open Go.RowKit
def Nf (s : List UInt8) (c : UInt8) : Option Int := some (Lib.indexByte s c)
theorem Cy (s : List UInt8) (c : UInt8) (w0 : World) (r : Int) (H : Nf s c = some r) :
    Calls Tryz.prog 89 #[(.string ⟨List.toArray s⟩), (.int .u8 ((c).toNat : Int))] w0 (fun e w' => e = .returned (.int .i64 r) ∧ SP [] w0 w' []) := by
  unfold Nf at H
  injection H with H
  subst H
  refine (Tryz.strings_IndexByte ⟨s.toArray⟩ ((c.toNat : Nat) : Int) w0).mono ?_
  rintro e w' ⟨rfl, rfl⟩
  refine ⟨?_, Qw [] w'⟩
  rw [show ((c.toNat : Nat) : Int).toNat.toUInt8 = c by simp]
def Dn (s sep : List UInt8) : Option Int := match sep with | [c] => some ((Lib.countByte s c : Nat) : Int) | _ => none
theorem Fx (s sep : List UInt8) (w0 : World) (r : Int) (H : Dn s sep = some r) :
    Calls Tryz.prog 155 #[(.string ⟨List.toArray s⟩), (.string ⟨List.toArray sep⟩)] w0 (fun e w' => e = .returned (.int .i64 r) ∧ SP [] w0 w' []) := by
  unfold Dn at H
  match sep, H with
  | [c], H =>
    injection H with H
    subst H
    refine (Tryz.strings_Count_one ⟨s.toArray⟩ c w0).mono ?_
    rintro e w' ⟨rfl, rfl⟩
    exact ⟨rfl, Qw [] w'⟩
def Cz (s : List UInt8) (n : Int) : Option (List (List UInt8)) := none
theorem E6 (s : List UInt8) (n : Int) (w0 : World) (r : List (List UInt8)) (H : Cz s n = some r) :
    Calls Tryz.prog 154 #[(.string ⟨List.toArray s⟩), (.int .i64 n)] w0 (fun e w' => ∃ (A : Option Addr) (c : Nat), e = .returned (.slice A (List.length r) c) ∧ SP [] w0 w' [Vh 9 Qj A c r]) := by
  cases H
end Go.Proofs.YtoflbpmbkmephaaGreatDoor
namespace Go.Proofs.YtoflbpmbkmephaaGreatDoor
def Q3 (c : UInt8) : List UInt8 → List (List UInt8)
  | [] => [[]]
  | x :: r => if x = c then [] :: Q3 c r else match Q3 c r with | [] => [[x]] | p :: ps => (x :: p) :: ps
theorem U2 (c : UInt8) (s : List UInt8) : Q3 c s ≠ [] := by
  cases s with
  | nil => simp [Q3]
  | cons x r =>
    unfold Q3
    split
    · simp
    · split <;> simp
theorem Rr (c : UInt8) : ∀ (s : List UInt8), ∀ p ∈ Q3 c s, p.length ≤ s.length
  | [], p, hp => by simp [Q3] at hp; simp [hp]
  | x :: r, p, hp => by
    unfold Q3 at hp
    by_cases h : x = c
    · rw [if_pos h] at hp
      rcases List.mem_cons.1 hp with rfl | hp
      · simp
      · have := Rr c r p hp
        simp only [List.length_cons]
        omega
    · rw [if_neg h] at hp
      cases hs : Q3 c r with
      | nil => exact absurd hs (U2 c r)
      | cons q qs =>
        rw [hs] at hp
        simp only at hp
        rcases List.mem_cons.1 hp with rfl | hp
        · have := Rr c r q (by rw [hs]; simp)
          simp only [List.length_cons]
          omega
        · have := Rr c r p (by rw [hs]; simp [hp])
          simp only [List.length_cons]
          omega
theorem Ng (c : UInt8) (s : List UInt8) : (Lib.indexByte s c = -1 ∧ Q3 c s = [s] ∧ c ∉ s) ∨ ∃ i : Nat, Lib.indexByte s c = (i : Int) ∧ i < s.length ∧ s[i]? = some c ∧ c ∉ s.take i ∧ Q3 c s = s.take i :: Q3 c (s.drop (i + 1)) := by
  induction s with
  | nil => exact .inl ⟨rfl, rfl, by simp⟩
  | cons x r ih =>
    by_cases h : x = c
    · subst h
      refine .inr ⟨0, ?_, by simp, rfl, by simp, ?_⟩
      · simp [Lib.indexByte]
      · simp [Q3]
    · have hb : (x == c) = false := by simpa using h
      rcases ih with ⟨h1, h2, h3⟩ | ⟨i, h1, h2, h3, h4, h5⟩
      · refine .inl ⟨?_, ?_, ?_⟩
        · simp [Lib.indexByte, hb, h1]
        · unfold Q3; rw [if_neg h, h2]
        · simp [h3]; exact fun e => h e.symm
      · refine .inr ⟨i + 1, ?_, by simpa using h2, by simpa using h3, ?_, ?_⟩
        · have h0 : (Lib.indexByte r c == -1) = false := by rw [h1, beq_eq_false_iff_ne]; omega
          simp only [Lib.indexByte, hb, h0, h1]
          simp
        · simp [h4]; exact fun e => h e.symm
        · rw [List.take_succ_cons, List.drop_succ_cons]
          conv => lhs; unfold Q3
          rw [if_neg h, h5]
end Go.Proofs.YtoflbpmbkmephaaGreatDoor
namespace Go.Proofs.YtoflbpmbkmephaaGreatDoor
open Go.RowKit Go.Shelf
attribute [local go_sem] Oper.semAt_some
structure R4 (W : World) (bsep bs bv : Nat) (c : UInt8) (r : List UInt8) : Prop where
  sep : W.heap[bsep]? = some (.cells #[.string ⟨#[c]⟩] 9 (0, 0))
  left : W.heap[bs]? = some (.cells #[.string ⟨r.toArray⟩] 9 (0, 0))
  save : W.heap[bv]? = some (.cells #[.int .i64 0] 3 (0, 0))
theorem R4.same {W W' : World} {bsep bs bv : Nat} {c : UInt8} {r : List UInt8} (h : R4 W bsep bs bv c r) (h1 : W'.heap[bsep]? = W.heap[bsep]?) (h2 : W'.heap[bs]? = W.heap[bs]?) (h3 : W'.heap[bv]? = W.heap[bv]?) : R4 W' bsep bs bv c r :=
  ⟨h1.trans h.sep, h2.trans h.left, h3.trans h.save⟩
theorem B3 {W : World} {b : Nat} {v : Value} {t : TypeId} (h : W.heap[b]? = some (.cells #[v] t (0, 0))) : W.cell? ⟨b, 0, none⟩ = some v := by
  rw [cell_of_row W b 0 _ t _ h]
  rfl
theorem Cn {W : World} {b : Nat} {v : Value} {t : TypeId} (h : W.heap[b]? = some (.cells #[v] t (0, 0))) : W.frozen? ⟨b, 0, none⟩ = false := by
  simp [World.frozen?, h]
def Ia (W : World) (bs : Nat) : Nat := match W.cell? ⟨bs, 0, none⟩ with | some (.string b) => b.size | _ => 0
theorem Lr {W : World} {bsep bs bv : Nat} {c : UInt8} {r : List UInt8} (h : R4 W bsep bs bv c r) : Ia W bs = r.length := by
  unfold Ia
  rw [B3 h.left]
  exact Ra r
theorem Gn {W : World} {b : Nat} {u v : Value} {t : TypeId} (h : W.heap[b]? = some (.cells #[u] t (0, 0))) : (W.setCell ⟨b, 0, none⟩ v).heap[b]? = some (.cells #[v] t (0, 0)) := by
  simp [World.setCell, h, Array.getElem?_modify]
theorem U4 {W : World} {b k : Nat} {v : Value} (h : k ≠ b) : (W.setCell ⟨b, 0, none⟩ v).heap[k]? = W.heap[k]? := by
  simp [World.setCell, Array.getElem?_modify, Ne.symm h]
theorem R4.turn {W : World} {bsep bs bv : Nat} {c : UInt8} {r : List UInt8} (h : R4 W bsep bs bv c r) (h1 : bs ≠ bsep) (h2 : bs ≠ bv) (q : List UInt8) : R4 (W.setCell ⟨bs, 0, none⟩ (.string ⟨q.toArray⟩)) bsep bs bv c q :=
  ⟨(U4 h1.symm).trans h.sep, Gn h.left, (U4 h2.symm).trans h.save⟩
theorem To (m : Nat) (l bsep bs bv : Nat) (c : UInt8) (hne1 : bs ≠ bsep) (hne2 : bs ≠ bv) (s : List UInt8) (hs : s.length ≤ maxLen) (J Jx : List (List UInt8) → World → Prop)
    (hJ : ∀ pre W1 (v : Value), J pre W1 → J pre (W1.setCell ⟨bs, 0, none⟩ v))
    (hY : ∀ pre x r W1, J pre W1 → R4 W1 bsep bs bv c r → (∃ q, pre ++ x :: q = Q3 c s) → YieldAt Fence.wide (m - 1) Tryz.prog l #[.string ⟨x.toArray⟩] W1 fun e W' =>
      (e = .returned (.bool true) ∧ J (pre ++ [x]) W' ∧ W'.heap[bsep]? = W1.heap[bsep]? ∧ W'.heap[bs]? = W1.heap[bs]? ∧ W'.heap[bv]? = W1.heap[bv]?) ∨ (e = .returned (.bool false) ∧ Jx (pre ++ [x]) W'))
    (W : World) (hB : R4 W bsep bs bv c s) (h0 : J [] W) :
    CallsIn Fence.wide m Tryz.prog 202 #[.func (.yield l) #[] #[], .pointer (some ⟨bsep, 0, none⟩), .pointer (some ⟨bs, 0, none⟩), .pointer (some ⟨bv, 0, none⟩)] W fun e W' => (∃ v, e = .returned v) ∧
      (J (Q3 c s) W' ∨ (∃ pre, pre <+: Q3 c s ∧ Jx pre W')) := by
  have hsz1 : ((⟨#[c]⟩ : ByteArray).size == 0) = false := rfl
  have c1 := B3 hB.sep
  refine callsIn_of_wp Tryz.func202 rfl trivial ?_ rfl
  simp only [Tryz.ntmps202, List.size_toArray, List.length_cons, List.length_nil, Nat.reduceAdd, Nat.reduceSub, Array.replicate_succ, Array.replicate_zero, List.push_toArray, List.append_toArray, List.nil_append, List.cons_append]
  gi_wp2
  gi_loopw [7] (fun p wr => ∃ (pre : List (List UInt8)) (r : List UInt8), R4 wr bsep bs bv c r ∧ pre ++ Q3 c r = Q3 c s ∧ r.length ≤ maxLen ∧ J pre wr) (fun p wr => Ia wr bs)
  case atStart => exact ⟨[], s, hB, rfl, hs, h0⟩
  case round =>
    obtain ⟨pre, r, hb, hp, hr, hj⟩ := hrel
    have c1 := B3 hb.sep
    have c2 := B3 hb.left
    have c3 := B3 hb.save
    have hrs := Ra r
    have hsep1 : (⟨#[c]⟩ : ByteArray).size = 1 := rfl
    unfold maxLen at hr
    rcases Ng c r with ⟨h1, h2, h3⟩ | ⟨i, h1, h2, h3, h4, h5⟩
    · have h1' : Lib.indexByte (⟨r.toArray⟩ : ByteArray).data.toList c = -1 := h1
      obtain ⟨fn, tmps, assign, body, hy, hR⟩ := hY pre r r wr hj hb ⟨[], by rw [← hp, h2]⟩
      gi_wp2_with (refine ⟨trivial, fun hh => (by cases hh), ?_⟩; gi_at_call 156; refine (callsIn_wide.2 (Tryz.strings_Index_one (⟨r.toArray⟩ : ByteArray) c wr)).mono ?_; rintro e W3 ⟨rfl, rfl⟩; rw [h1'])
      refine ⟨fun hh => (by cases hh), ?_⟩
      refine hR.mono ?_
      rintro e W3 (⟨rfl, hJ3, hk⟩ | ⟨rfl, hJx3⟩)
      · gi_wp2
        go_end0
        exact ⟨⟨_, rfl⟩, .inl (by rw [← hp, h2]; exact hJ3)⟩
      · gi_wp2
        go_end0
        exact ⟨⟨_, rfl⟩, .inr ⟨pre ++ [r], by rw [← hp, h2]; exact List.prefix_refl _, hJx3⟩⟩
    · have h1' : Lib.indexByte (⟨r.toArray⟩ : ByteArray).data.toList c = (i : Int) := h1
      have hex := Bx r 0 i (by omega)
      rw [List.drop_zero] at hex
      have hex2 := Bx r (i + 1) r.length (Nat.le_refl _)
      rw [List.take_length] at hex2
      obtain ⟨fn, tmps, assign, body, hy, hR⟩ := hY pre (r.take i) r wr hj hb ⟨Q3 c (r.drop (i + 1)), by rw [← hp, h5]⟩
      have hi0 : ¬ ((i : Int) < 0) := by omega
      gi_wp2_with (refine ⟨trivial, fun hh => (by cases hh), ?_⟩; gi_at_call 156; refine (callsIn_wide.2 (Tryz.strings_Index_one (⟨r.toArray⟩ : ByteArray) c wr)).mono ?_; rintro e W3 ⟨rfl, rfl⟩; rw [h1'])
      refine ⟨fun hh => (by cases hh), ?_⟩
      refine hR.mono ?_
      rintro e W3 (⟨rfl, hJ3, k1, k2, k3⟩ | ⟨rfl, hJx3⟩)
      · have hb3 := hb.same k1 k2 k3
        have d1 := B3 hb3.sep
        have d2 := B3 hb3.left
        have d3 := B3 hb3.save
        have f2 := Cn hb3.left
        gi_wp2
        have hb4 := hb3.turn hne1 hne2 (r.drop (i + 1))
        refine ⟨⟨pre ++ [r.take i], r.drop (i + 1), hb4, by rw [← hp, h5]; simp, by unfold maxLen; rw [List.length_drop]; omega, hJ _ _ _ hJ3⟩, ?_⟩
        rw [Lr hb4, Lr hb, List.length_drop]
        omega
      · gi_wp2
        refine bodyPost_ret (results_none rfl _ _ _) rfl ?_
        exact ⟨⟨_, rfl⟩, .inr ⟨pre ++ [r.take i], ⟨Q3 c (r.drop (i + 1)), by rw [← hp, h5]; simp⟩, hJx3⟩⟩
end Go.Proofs.YtoflbpmbkmephaaGreatDoor
namespace Go.Proofs.YtoflbpmbkmephaaGreatDoor
open Go.RowKit Go.Shelf
attribute [local go_sem] Oper.semAt_some
def bodyOwn {α : Type} (M : List Nat) (I : List α → World → Prop) (Ix : Code → List α → World → Prop) (xs : List α) (W : World) : Exit → Act → World → Prop
  | .normal, _, W' => Mod M W W' ∧ I xs W'
  | .ret, _, W' => Mod M W W' ∧ Ix .ret xs W'
  | .exit id, _, W' => Mod M W W' ∧ Ix (.exit id) xs W'
  | .goto t, _, W' => Mod M W W' ∧ Ix (.goto t) xs W'
  | _, _, _ => False
theorem Db (W : World) (r : Nat) (o : Obj) : Mod [r] W (W.putObj r o) := ⟨rfl, rfl, rfl, by simp, fun k _ hk => World.putObj_heap_other (by simpa using hk)⟩
theorem Kp (W : World) (b : Nat) (v : Value) : Mod [b] W (W.setCell ⟨b, 0, none⟩ v) := (Mod.refl [b] W).setCell (p := ⟨b, 0, none⟩) (.inl (by simp)) v
def SeqOwn {α : Type} (P : Program) (m gf : Nat) (lb : Array Value) (encs : α → Array Value) (T : List Nat) (S : List α) (w : World) : Prop :=
  ∀ (l : Nat) (J Jx : List α → World → Prop) (W : World),
    (∀ pre W1 k (v : Value), k ∈ T → J pre W1 → J pre (W1.setCell ⟨k, 0, none⟩ v)) →
    (∀ pre x W1, J pre W1 → (∃ q, pre ++ x :: q = S) → YieldAt Fence.wide (m - 1) P l (encs x) W1 fun e W' =>
      (e = .returned (.bool true) ∧ J (pre ++ [x]) W' ∧ ∀ k ∈ T, W'.heap[k]? = W1.heap[k]?) ∨ (e = .returned (.bool false) ∧ Jx (pre ++ [x]) W')) →
    (∀ k ∈ T, W.heap[k]? = w.heap[k]?) → J [] W →
    CallsIn Fence.wide m P gf (#[.func (.yield l) #[] #[]] ++ lb) W fun e W' => (∃ v, e = .returned v) ∧ (J S W' ∨ ∃ pre, pre <+: S ∧ Jx pre W')
theorem range_own {α : Type} {P : Program} {g : Operand} {ps : Array Tmp} {assign body : Code} {Q : Exit → Act → World → Prop} {a : Act} {w : World} {m gf : Nat} {lb : Array Value}
    (hg : a.eval g = .func (.func gf) #[] lb) (eg : ∀ args w, (callFunc gf args).run P w = .ok (.enter gf args) w) {encs : α → Array Value} (hps : ∀ x, (encs x).size = ps.size)
    (T M : List Nat) (hT : ∀ k ∈ T, k < w.heap.size) (hM : ∀ k ∈ M, k < w.heap.size ∧ k ∉ T) {S : List α} (iter : SeqOwn P (m - 1) gf lb encs T S w)
    (I : List α → World → Prop) (Ix : Code → List α → World → Prop) (hI : ∀ xs W W', I xs W → Mod (T ++ [w.heap.size, w.heap.size + 1]) W W' → I xs W') (hIx : ∀ c xs W W', Ix c xs W → Mod (T ++ [w.heap.size, w.heap.size + 1]) W W' → Ix c xs W')
    (h0 : I [] w) (a₁ : α → Act)
    (hassign : ∀ (l : Nat) (x : α) (W : World) (K : Act → World → Prop), K (a₁ x) W →
      assign.wpIn (Fence.wide.inRound l) (m - 1 - 1) P (Exit.then K (fun _ _ _ => False)) { tmps := (ps.zip (encs x)).foldl (fun t (p, v) => t.setIfInBounds p v) a.tmps, defers := [] } W)
    (hbody : ∀ (l : Nat) (pre : List α) (x : α) (W : World), I pre W → w.heap.size ≤ W.heap.size → (∃ q, pre ++ x :: q = S) → body.wpIn (Fence.wide.inRound l) (m - 1 - 1) P (bodyOwn M I Ix (pre ++ [x]) W) (a₁ x) W)
    (hdone : ∀ (W : World), I S W → W.heap[w.heap.size]? = some (.deferred (some [])) → Q .normal { a with defers := { target := .collected w.heap.size, args := #[] } :: a.defers } W)
    (hstop : ∀ (c : Code) (pre : List α) (W : World), pre <+: S → Ix c pre W → W.heap[w.heap.size]? = some (.deferred (some [])) → c.wpIn Fence.wide m P Q { a with defers := { target := .collected w.heap.size, args := #[] } :: a.defers } W) :
    (Code.rangeFunc g ps assign body).wpIn Fence.wide m P Q a w := by
  refine wpIn_rangeFunc fun fn _ => ?_
  have hnT : ∀ j, w.heap.size ≤ j → j ∉ T := fun j hj hm => by have := hT j hm; omega
  have hnM : ∀ j, w.heap.size ≤ j → j ∉ M := fun j hj hm => by have := (hM j hm).1; omega
  generalize hrec : (fun st pe => ({ state := st, pending := pe, fn, tmps := a.tmps, params := ps, assign, body, defers := w.heap.size } : Loop)) = rec
  have hr1 : ∀ st pe, (rec st pe).state = st := fun st pe => by rw [← hrec]
  generalize hW1 : (w.alloc (.deferred (some []))).alloc (.loop (rec .ready none)) = W1
  have hmod1 : Mod (T ++ [w.heap.size, w.heap.size + 1]) w W1 := by rw [← hW1]; exact ((Mod.refl _ w).alloc _).alloc _
  have hL1 : W1.heap[w.heap.size + 1]? = some (.loop (rec .ready none)) := by
    rw [← hW1]
    have := World.alloc_heap_new (w.alloc (.deferred (some []))) (.loop (rec .ready none))
    rwa [World.size_alloc] at this
  have hK1 : W1.heap[w.heap.size]? = some (.deferred (some [])) := by
    rw [← hW1]
    exact (Below.heap_alloc _ _ _ (by simp)).trans (World.alloc_heap_new w _)
  have pb : ∀ (W : World) (o : Obj), Mod (T ++ [w.heap.size, w.heap.size + 1]) W (W.putObj (w.heap.size + 1) o) := fun W o => (Db W _ o).more (by simp)
  refine ⟨w.heap.size + 1, [{ target := .collected w.heap.size, args := #[] }], W1, { target := .fn (.func gf) lb, args := #[.func (.yield (w.heap.size + 1)) #[] #[]] }, W1, gf, #[.func (.yield (w.heap.size + 1)) #[] #[]] ++ lb, W1, ?_, ?_, fun _ _ => trivial, ?_, fun h => (by cases h), ?_⟩
  · rw [← hW1, ← hrec]
    exact run_enterLoop_outer _ _ _ _ _
  · simp only [resolve, hg]
    simp [go_sem]
  · simp [invoke, go_sem, eg]
  · refine (iter (w.heap.size + 1) (fun pre W => I pre W ∧ W.heap[w.heap.size + 1]? = some (.loop (rec .ready none)) ∧ W.heap[w.heap.size]? = some (.deferred (some [])))
      (fun pre W => ∃ c, Ix c pre W ∧ W.heap[w.heap.size + 1]? = some (.loop (rec .done (some c))) ∧ W.heap[w.heap.size]? = some (.deferred (some []))) W1 ?_ ?_ ?_ ⟨hI _ _ _ h0 hmod1, hL1, hK1⟩).mono ?_
    · rintro pre W k v hk ⟨h1, h2, h3⟩
      have hlt := hT k hk
      exact ⟨hI _ _ _ h1 ((Kp W k v).more fun j hj => by
        have : j = k := by simpa using hj
        subst this
        simp [hk]), (U4 (by omega)).trans h2, (U4 (by omega)).trans h3⟩
    · rintro pre x W ⟨hi, hl, hk⟩ hq
      have hlt : w.heap.size + 1 < W.heap.size := (Array.getElem?_eq_some_iff.1 hl).1
      have hy := run_yield (P := P) (args := encs x) hl (by rw [← hrec]; exact hps x)
      rw [← hrec] at hy
      dsimp only at hy
      refine ⟨fn, _, assign, body, hy, ?_⟩
      refine roundIn_of_wpIn trivial ?_
      refine hassign _ x W _ ?_
      refine ⟨_, run_beginRound hl (hr1 _ _), ?_⟩
      generalize hW2 : W.putObj (w.heap.size + 1) (.loop { rec .ready none with state := .busy }) = W2
      have hm2 : Mod (T ++ [w.heap.size, w.heap.size + 1]) W W2 := by rw [← hW2]; exact pb W _
      have hs2 : W2.heap.size = W.heap.size := by rw [← hW2]; simp
      have hl2 : W2.heap[w.heap.size + 1]? = some (.loop { rec .ready none with state := .busy }) := by rw [← hW2]; exact World.putObj_heap_same hlt
      have hk2 : W2.heap[w.heap.size]? = some (.deferred (some [])) := by rw [← hW2]; exact (World.putObj_heap_other (by omega)).trans hk
      have hT2 : ∀ k ∈ T, W2.heap[k]? = W.heap[k]? := fun k hkT => by rw [← hW2]; exact World.putObj_heap_other (by have := hT k hkT; omega)
      refine wpIn_mono (hbody _ pre x W2 (hI _ _ _ hi hm2) (by omega) hq) ?_
      have fin : ∀ (jump : Option Code) (W3 : World), Mod M W2 W3 → ∃ W4, (Instr.endRound (w.heap.size + 1) jump).run P W3 = .ok (.bool jump.isNone) W4 ∧ Mod (T ++ [w.heap.size, w.heap.size + 1]) W3 W4 ∧
          W4.heap[w.heap.size + 1]? = some (.loop (rec (if jump.isNone then .ready else .done) jump)) ∧ W4.heap[w.heap.size]? = some (.deferred (some [])) ∧ ∀ k ∈ T, W4.heap[k]? = W.heap[k]? := fun jump W3 hk3 => by
        have hl3 : W3.heap[w.heap.size + 1]? = some (.loop { rec .ready none with state := .busy }) := (hk3.block _ (by omega) (hnM _ (by omega))).trans hl2
        have hd3 : W3.heap[w.heap.size]? = some (.deferred (some [])) := (hk3.block _ (by omega) (hnM _ (by omega))).trans hk2
        have hrun := run_endRound (P := P) jump hl3
        refine ⟨_, hrun, pb W3 _, ?_, (World.putObj_heap_other (by omega)).trans hd3, fun k hkT => ?_⟩
        · rw [World.putObj_heap_same (Array.getElem?_eq_some_iff.1 hl3).1, ← hrec]
        · have := hT k hkT
          exact (World.putObj_heap_other (by omega)).trans ((hk3.block _ (by omega) fun hm => (hM k hm).2 hkT).trans (hT2 k hkT))
      rintro e a3 W3 hp
      cases e with
      | normal =>
        obtain ⟨W4, h1, h2, h3, h4, h5⟩ := fin none W3 hp.1
        exact ⟨_, _, h1, .inl ⟨rfl, ⟨hI _ _ _ hp.2 h2, h3, h4⟩, h5⟩⟩
      | ret =>
        obtain ⟨W4, h1, h2, h3, h4, h5⟩ := fin (some .ret) W3 hp.1
        exact ⟨_, _, h1, .inr ⟨rfl, .ret, hIx _ _ _ _ hp.2 h2, h3, h4⟩⟩
      | exit id =>
        obtain ⟨W4, h1, h2, h3, h4, h5⟩ := fin (some (.exit id)) W3 hp.1
        exact ⟨_, _, h1, .inr ⟨rfl, .exit id, hIx _ _ _ _ hp.2 h2, h3, h4⟩⟩
      | goto t =>
        obtain ⟨W4, h1, h2, h3, h4, h5⟩ := fin (some (.goto t)) W3 hp.1
        exact ⟨_, _, h1, .inr ⟨rfl, .goto t, hIx _ _ _ _ hp.2 h2, h3, h4⟩⟩
      | panic ch => exact hp.elim
      | outgrown => exact hp.elim
    · intro k hk
      have := hT k hk
      rw [← hW1]
      exact (Below.heap_alloc _ _ _ (by simp; omega)).trans (Below.heap_alloc _ _ _ this)
    · rintro e W2 ⟨⟨v, rfl⟩, (⟨hi, hl, hk⟩ | ⟨pre, hpre, c, hi, hl, hk⟩)⟩
      · have hend := run_endLoop (P := P) hl (by rw [hr1]; simp)
        rw [show (rec .ready none).pending = none by rw [← hrec]] at hend
        exact ⟨none, _, hend, hdone _ (hI _ _ _ hi (pb W2 _)) ((World.putObj_heap_other (by omega)).trans hk)⟩
      · have hend := run_endLoop (P := P) hl (by rw [hr1]; simp)
        rw [show (rec .done (some c)).pending = some c by rw [← hrec]] at hend
        exact ⟨some c, _, hend, hstop c pre _ hpre (hIx _ _ _ _ hi (pb W2 _)) ((World.putObj_heap_other (by omega)).trans hk)⟩
end Go.Proofs.YtoflbpmbkmephaaGreatDoor
namespace Go.Proofs.YtoflbpmbkmephaaGreatDoor
open Go.Lib (decDigits)
theorem rDigit (m : Nat) : Ex (IntKind.wrap .u8 (IntKind.wrap .i64 (48 + Int.tmod (m : Int) 10))) = UInt8.ofNat (48 + m % 10) := by
  have := Hn m 10
  rw [show ((10 : Nat) : Int) = 10 from rfl] at this
  rw [this, J5 (by omega), show (48 + ((m % 10 : Nat) : Int)) = ((48 + m % 10 : Nat) : Int) by omega, toU8_wrap]
theorem rDiv (m : Nat) (h : m ≤ 1099511627776) : IntKind.wrap .i64 (Int.tdiv (m : Int) 10) = ((m / 10 : Nat) : Int) := by
  have := Hm m 10
  rw [show ((10 : Nat) : Int) = 10 from rfl] at this
  rw [this]
  exact J5 (by omega)
theorem Mh : ∀ (j : Nat) (v : Nat) (out : List UInt8) (f : Nat), v < 10 ^ j → v ≤ 1099511627776 → j < f → out.length + j ≤ 100 → Xy f (v : Int) out = some (Me v ++ out) := by
  intro j
  induction j with
  | zero =>
    intro v out f hv _ hf _
    have : v = 0 := by simpa using hv
    subst this
    obtain ⟨f, rfl⟩ : ∃ g, f = g + 1 := ⟨f - 1, by omega⟩
    rfl
  | succ j ih =>
    intro v out f hv hm hf ho
    obtain ⟨f, rfl⟩ : ∃ g, f = g + 1 := ⟨f - 1, by omega⟩
    show Ja (Xy f) (v : Int) out = _
    unfold Ja
    by_cases h0 : v = 0
    · subst h0
      rfl
    · rw [show decide ((v : Int) > 0) = true by simp; omega, rDigit, rDiv v hm, Ur (by simp only [List.length_cons, List.length_nil]; omega)]
      simp only [cond_true, Option.bind_some]
      rw [ih (v / 10) _ f (by rw [Nat.pow_succ] at hv; omega) (by omega) (by omega) (by simp only [List.length_append, List.length_cons, List.length_nil]; omega)]
      unfold Me
      rw [if_neg h0]
      by_cases hs : v < 10
      · rw [if_pos (by omega), B2 hs, Nat.mod_eq_of_lt hs]
        rfl
      · rw [if_neg (by omega), H8 hs]
        simp
theorem Mi (n : Int) : X8 n = some (Br n) := by
  unfold X8 Br
  by_cases h : 0 ≤ n ∧ n ≤ 1099511627776
  · rw [if_pos h, show decide (n < 0) = false by simp; omega, show decide (n > 1099511627776) = false by simp; omega]
    obtain ⟨m, rfl⟩ := Int.eq_ofNat_of_zero_le h.1
    have hm : m ≤ 1099511627776 := by omega
    simp only [cond_false, Jb, rDigit, rDiv m hm]
    rw [Mh 13 (m / 10) _ Zj (by have h6 : (10 : Nat) ^ 13 = 10000000000000 := (by decide); omega) (by omega) (by rw [Fg]; omega) (by simp)]
    show some (Me (m / 10) ++ [UInt8.ofNat (48 + m % 10)]) = some (decDigits m)
    unfold Me
    by_cases hs : m < 10
    · rw [if_pos (by omega), B2 hs, Nat.mod_eq_of_lt hs]
      rfl
    · rw [if_neg (by omega), H8 hs]
  · rw [if_neg h]
    by_cases h0 : n < 0
    · rw [show decide (n < 0) = true by simp; omega]
      rfl
    · rw [show decide (n < 0) = false by simp; omega, show decide (n > 1099511627776) = true by simp; omega]
      rfl
end Go.Proofs.YtoflbpmbkmephaaGreatDoor
namespace Go.Proofs.YtoflbpmbkmephaaGreatDoor
open Go.Lib (decDigits)
theorem digWrap {x : UInt8} (h : 48 ≤ x.toNat) : IntKind.wrap .i64 (IntKind.wrap .u8 (((x).toNat : Int) - 48)) = ((x.toNat - 48 : Nat) : Int) := by
  have := u8_lt x
  rw [Pp (by omega), J5 (by omega)]
  omega
theorem Ej {x : UInt8} (h : x.toNat < 48 ∨ 57 < x.toNat) : Ee x = false := by
  unfold Ee
  rcases h with h | h
  · rw [show decide (48 ≤ x.toNat) = false by simp; omega]; rfl
  · rw [show decide (x.toNat ≤ 57) = false by simp; omega]; simp
theorem Ls {x : UInt8} (h : 48 ≤ x.toNat) (h2 : x.toNat ≤ 57) : Ee x = true := by unfold Ee; simp [h, h2]
theorem Px (l : List UInt8) (hl : l.length ≤ maxLen) : ∀ (d k f : Nat), d = l.length - k → k ≤ l.length → d < f → (l.take k).all Ee = true → Bq (l.take k) ≤ 10995116277769 →
    U6 l f ((Bq (l.take k) : Nat) : Int) (k : Int) = some (U0 (Q9 l)) := by
  unfold maxLen at hl
  intro d
  induction d with
  | zero =>
    intro k f hd hk hf hall hv
    obtain ⟨f, rfl⟩ : ∃ g, f = g + 1 := ⟨f - 1, by omega⟩
    show Ga (U6 l f) l _ _ = _
    unfold Ga
    rw [show decide ((k : Int) < ((List.length l : Nat) : Int)) = false by simp; omega, D9]
    have e : l.take k = l := List.take_of_length_le (by omega)
    rw [e] at hall hv ⊢
    simp only [cond_false, Option.bind_some, Br]
    by_cases hm : Bq l ≤ Bf
    · have hm' := hm
      unfold Bf at hm'
      rw [if_pos (by omega), Int.toNat_natCast]
      by_cases he : decDigits (Bq l) = l
      · have hp : Q9 l = some (Bq l) := by unfold Q9; rw [if_pos ⟨hall, hm, he⟩]
        rw [hp, he, beq_self_eq_true]
        rfl
      · have hp : Q9 l = none := by unfold Q9; rw [if_neg fun h => he h.2.2]
        rw [hp, show (decDigits (Bq l) == l) = false by simpa using he]
        rfl
    · have hm' := hm
      unfold Bf at hm'
      have hp : Q9 l = none := by unfold Q9; rw [if_neg fun h => hm h.2.1]
      rw [if_neg (by omega), hp]
      cases l with
      | nil => exact absurd (show Bq [] ≤ Bf by decide) hm
      | cons c r => rfl
  | succ d ih =>
    intro k f hd hk hf hall hv
    obtain ⟨f, rfl⟩ : ∃ g, f = g + 1 := ⟨f - 1, by omega⟩
    have hlt : k < l.length := by omega
    show Ga (U6 l f) l _ _ = _
    unfold Ga
    have hx : idx l (k : Int) = some l[k] := Zr hlt
    rw [show decide ((k : Int) < ((List.length l : Nat) : Int)) = true by simp; omega, hx]
    simp only [cond_true, Option.bind_some]
    by_cases h1 : l[k].toNat < 48
    · rw [show decide (((l[k].toNat : Nat) : Int) < 48) = true by simp; omega, Ho hlt (Ej (.inl h1))]
      rfl
    · rw [show decide (((l[k].toNat : Nat) : Int) < 48) = false by simp; omega]
      simp only [cond_false]
      by_cases h2 : 57 < l[k].toNat
      · rw [show decide (((l[k].toNat : Nat) : Int) > 57) = true by simp; omega, Ho hlt (Ej (.inr h2))]
        rfl
      · rw [show decide (((l[k].toNat : Nat) : Int) > 57) = false by simp; omega]
        simp only [cond_false]
        by_cases h3 : Bf < Bq (l.take k)
        · rw [Pq h3]
          unfold Bf at h3
          rw [show decide (((Bq (l.take k) : Nat) : Int) > 1099511627776) = true by simp; omega]
          rfl
        · unfold Bf at h3
          rw [show decide (((Bq (l.take k) : Nat) : Int) > 1099511627776) = false by simp; omega]
          have hst := Oi hlt
          have w1 : IntKind.wrap .i64 (10 * ((Bq (l.take k) : Nat) : Int)) = ((10 * Bq (l.take k) : Nat) : Int) := by rw [J5 (by omega)]; omega
          have w2 := digWrap (x := l[k]) (by omega)
          have w3 : IntKind.wrap .i64 (((10 * Bq (l.take k) : Nat) : Int) + ((l[k].toNat - 48 : Nat) : Int)) = ((Bq (l.take (k + 1)) : Nat) : Int) := by rw [hst, J5 (by omega)]; omega
          have w4 : IntKind.wrap .i64 ((k : Int) + 1) = ((k + 1 : Nat) : Int) := by rw [J5 (by omega)]; omega
          simp only [G3, cond_false, w1, w2, w3, w4]
          exact ih (k + 1) f (by omega) (by omega) (by omega) (Sr hlt hall (Ls (by omega) (by omega))) (by omega)
theorem lParse (l : List UInt8) (hl : l.length ≤ 2147483648) : D1 l = some (U0 (Q9 l)) := by
  unfold D1
  rw [Nat.ble_eq_true_of_le (Nat.le_trans hl (by decide))]
  exact Px l (by unfold maxLen; omega) l.length 0 Zj (by omega) (by omega) (by rw [Fg]; omega) rfl (show 0 ≤ 10995116277769 by decide)
theorem dval_lt {l : List UInt8} (h : l.all Ee = true) : Bq l < 10 ^ l.length := by
  suffices H : ∀ (l : List UInt8) (a k : Nat), l.all Ee = true → a < 10 ^ k → l.foldl (fun a c => 10 * a + (c.toNat - 48)) a < 10 ^ (k + l.length) by
    have := H l 0 0 h (by simp)
    simpa [Bq] using this
  intro l
  induction l with
  | nil => intro a k _ h; simpa using h
  | cons c r ih =>
    intro a k hd h
    rw [List.all_cons, Bool.and_eq_true] at hd
    have hc : c.toNat ≤ 57 := by have := hd.1; simp [Ee] at this; exact this.2
    have := ih (10 * a + (c.toNat - 48)) (k + 1) hd.2 (by rw [Nat.pow_succ]; omega)
    simp only [List.foldl_cons, List.length_cons]
    rw [show k + (r.length + 1) = k + 1 + r.length by omega]
    exact this
theorem Kq {l : List UInt8} {k : Nat} (h : (l.take k).all Ee = true) (hk : k ≤ 13) : Bq (l.take k) < 10000000000000 := by
  have h1 := dval_lt h
  have h2 : (l.take k).length ≤ 13 := by rw [List.length_take]; omega
  have h3 := Nat.pow_le_pow_right (show 0 < 10 by omega) h2
  have h6 : (10 : Nat) ^ 13 = 10000000000000 := by decide
  omega
theorem Py (l : List UInt8) (hl : l.length ≤ maxLen) : ∀ (d k f : Nat), d = l.length - k → k ≤ l.length → k ≤ 13 → d < f → (l.take k).all Ee = true →
    Vy l f ((Bq (l.take k) : Nat) : Int) (k : Int) = some (U0 (Q9 l)) := by
  unfold maxLen at hl
  intro d
  induction d with
  | zero =>
    intro k f hd hk hk13 hf hall
    obtain ⟨f, rfl⟩ : ∃ g, f = g + 1 := ⟨f - 1, by omega⟩
    have hv := Kq hall hk13
    show Xi (Vy l f) l _ _ = _
    unfold Xi
    rw [show decide ((k : Int) < ((List.length l : Nat) : Int)) = false by simp; omega]
    have e : l.take k = l := List.take_of_length_le (by omega)
    rw [e] at hall hv ⊢
    simp only [cond_false]
    cases hll : l with
    | nil =>
      have hp : Q9 [] = none := by unfold Q9; rw [if_neg]; rintro ⟨_, _, h⟩; exact dec_ne _ h
      rw [hp]
      rfl
    | cons c r =>
      rw [← hll]
      have hlen : l.length = r.length + 1 := by rw [hll]; rfl
      rw [show (((List.length l : Nat) : Int) == 0) = false by rw [beq_eq_false_iff_ne]; omega, show idx l 0 = some c by rw [hll]; rfl]
      simp only [cond_false, Option.bind_some]
      have main : decDigits (Bq l) = l → Xh (Vy l f) ((Bq l : Nat) : Int) (decide (((Bq l : Nat) : Int) > 1099511627776)) = some (U0 (Q9 l)) := by
        intro he
        by_cases hm : Bq l ≤ Bf
        · have hp : Q9 l = some (Bq l) := by unfold Q9; rw [if_pos ⟨hall, hm, he⟩]
          unfold Bf at hm
          rw [hp, show decide (((Bq l : Nat) : Int) > 1099511627776) = false by simp; omega]
          rfl
        · have hp : Q9 l = none := by unfold Q9; rw [if_neg fun h => hm h.2.1]
          unfold Bf at hm
          rw [hp, show decide (((Bq l : Nat) : Int) > 1099511627776) = true by simp; omega]
          rfl
      have hhead : l.headD 0 = c := by rw [hll]; rfl
      by_cases h48 : c = 48
      · rw [show (((c.toNat : Nat) : Int) == 48) = true by rw [h48]; rfl]
        simp only [cond_true]
        by_cases h1 : 1 < l.length
        · rw [show decide (((List.length l : Nat) : Int) > 1) = true by simp; omega]
          have hp : Q9 l = none := by
            unfold Q9
            rw [if_neg]
            rintro ⟨_, _, he⟩
            by_cases h0 : Bq l = 0
            · rw [h0, B2 (by omega)] at he
              have := congrArg List.length he
              simp at this
              omega
            · exact dec_head h0 (by rw [he, hhead, h48])
          rw [hp]
          rfl
        · rw [show decide (((List.length l : Nat) : Int) > 1) = false by simp; omega]
          exact main (Sq l hall (by rw [hll]; simp) (.inr (by omega)))
      · rw [show (((c.toNat : Nat) : Int) == 48) = false by
          rw [beq_eq_false_iff_ne]
          intro h
          exact h48 (UInt8.toNat_inj.1 (show c.toNat = (48 : UInt8).toNat from by have h9 : (48 : UInt8).toNat = 48 := rfl; omega))]
        exact main (Sq l hall (by rw [hll]; simp) (.inl (by rw [hhead]; exact h48)))
  | succ d ih =>
    intro k f hd hk hk13 hf hall
    obtain ⟨f, rfl⟩ : ∃ g, f = g + 1 := ⟨f - 1, by omega⟩
    have hlt : k < l.length := by omega
    have hv := Kq hall hk13
    show Xi (Vy l f) l _ _ = _
    unfold Xi
    have hx : idx l (k : Int) = some l[k] := Zr hlt
    rw [show decide ((k : Int) < ((List.length l : Nat) : Int)) = true by simp; omega, hx]
    simp only [cond_true, Option.bind_some]
    by_cases h1 : l[k].toNat < 48
    · rw [show decide (((l[k].toNat : Nat) : Int) < 48) = true by simp; omega, Ho hlt (Ej (.inl h1))]
      rfl
    · rw [show decide (((l[k].toNat : Nat) : Int) < 48) = false by simp; omega]
      simp only [cond_false]
      by_cases h2 : 57 < l[k].toNat
      · rw [show decide (((l[k].toNat : Nat) : Int) > 57) = true by simp; omega, Ho hlt (Ej (.inr h2))]
        rfl
      · rw [show decide (((l[k].toNat : Nat) : Int) > 57) = false by simp; omega]
        simp only [cond_false]
        by_cases h3 : 13 ≤ k
        · have hp : Q9 l = none := by
            unfold Q9
            rw [if_neg]
            rintro ⟨_, hm, he⟩
            have := Oh hm
            rw [he] at this
            omega
          rw [hp, show decide ((k : Int) ≥ 13) = true by simp; omega]
          rfl
        · rw [show decide ((k : Int) ≥ 13) = false by simp; omega]
          have hst := Oi hlt
          have w1 : IntKind.wrap .i64 (10 * ((Bq (l.take k) : Nat) : Int)) = ((10 * Bq (l.take k) : Nat) : Int) := by rw [J5 (by omega)]; omega
          have w2 := digWrap (x := l[k]) (by omega)
          have w3 : IntKind.wrap .i64 (((10 * Bq (l.take k) : Nat) : Int) + ((l[k].toNat - 48 : Nat) : Int)) = ((Bq (l.take (k + 1)) : Nat) : Int) := by rw [hst, J5 (by omega)]; omega
          have w4 : IntKind.wrap .i64 ((k : Int) + 1) = ((k + 1 : Nat) : Int) := by rw [J5 (by omega)]; omega
          simp only [Yw, cond_false, hx, Option.bind_some, w1, w2, w3, w4]
          exact ih (k + 1) f (by omega) (by omega) (by omega) (by omega) (Sr hlt hall (Ls (by omega) (by omega)))
theorem Om (l : List UInt8) (hl : l.length ≤ maxLen) : Y7 l = some (U0 (Q9 l)) := by
  have hl' := hl
  unfold maxLen at hl'
  exact Py l hl l.length 0 Zj (by omega) (by omega) (by omega) (by rw [Fg]; omega) rfl
end Go.Proofs.YtoflbpmbkmephaaGreatDoor
namespace Go.Proofs.YtoflbpmbkmephaaGreatDoor
open Go.RowKit Go.Shelf
attribute [local go_sem] Oper.semAt_some
def Xc (st : Option (Nat × Nat)) (p : List UInt8) : Option (Nat × Nat) :=
  match st with
  | none => none
  | some (a, m) => match Q9 p with
    | none => none
    | some n => if 255 < n ∨ 4 ≤ m then none else some (a * 256 + n, m + 1)
def B4 (ps : List (List UInt8)) : Option (Nat × Nat) := ps.foldl Xc (some (0, 0))
def Bo (s : List UInt8) : Option Nat := match B4 (Q3 46 s) with | none => none | some (a, m) => if m = 4 then some a else none
theorem Ek (ps : List (List UInt8)) (p : List UInt8) : B4 (ps ++ [p]) = Xc (B4 ps) p := by simp [B4]
theorem Do (ps : List (List UInt8)) : ps.foldl Xc none = none := by
  induction ps with
  | nil => rfl
  | cons p ps ih => exact ih
theorem Mj {pre ps : List (List UInt8)} (h : pre <+: ps) (hn : B4 pre = none) : B4 ps = none := by
  obtain ⟨q, rfl⟩ := h
  unfold B4 at *
  rw [List.foldl_append, hn, Do]
theorem On {ps : List (List UInt8)} {a m : Nat} (h : B4 ps = some (a, m)) : m ≤ 4 ∧ a < 256 ^ m := by
  suffices H : ∀ (ps : List (List UInt8)) (a0 m0 : Nat), m0 ≤ 4 → a0 < 256 ^ m0 → ps.foldl Xc (some (a0, m0)) = some (a, m) → m ≤ 4 ∧ a < 256 ^ m by exact H ps 0 0 (by omega) (by decide) h
  intro ps
  induction ps with
  | nil => intro a0 m0 h1 h2 h3; simp at h3; obtain ⟨rfl, rfl⟩ := h3; exact ⟨h1, h2⟩
  | cons p ps ih =>
    intro a0 m0 h1 h2 h3
    rw [List.foldl_cons] at h3
    cases hp : Q9 p with
    | none =>
      rw [show Xc (some (a0, m0)) p = none by simp only [Xc, hp], Do] at h3
      cases h3
    | some n =>
      by_cases hc : 255 < n ∨ 4 ≤ m0
      · rw [show Xc (some (a0, m0)) p = none by simp only [Xc, hp, if_pos hc], Do] at h3
        cases h3
      · rw [show Xc (some (a0, m0)) p = some (a0 * 256 + n, m0 + 1) by simp only [Xc, hp, if_neg hc]] at h3
        exact ih _ _ (by omega) (by rw [Nat.pow_succ]; omega) h3
theorem u32_join (a n : Nat) (ha : a < 16777216) (hn : n < 256) : bits .or .u32 ((a : Int) * 256 % 4294967296) (n : Int) = ((a * 256 + n : Nat) : Int) := by
  rw [show (a : Int) * 256 % 4294967296 = ((a * 256 : Nat) : Int) by omega]
  have h := Nat.shiftLeft_add_eq_or_of_lt (i := 8) (b := n) (by omega) a
  rw [Nat.shiftLeft_eq] at h
  show IntKind.u32.wrap ((BitVec.ofInt 32 ((a * 256 : Nat) : Int) ||| BitVec.ofInt 32 (n : Int)).toNat : Int) = _
  rw [BitVec.toNat_or, BitVec.ofInt_natCast, BitVec.ofInt_natCast, BitVec.toNat_ofNat, BitVec.toNat_ofNat, Nat.mod_eq_of_lt (by omega), Nat.mod_eq_of_lt (by omega), show a * 256 = a * 2 ^ 8 from rfl, ← h]
  unfold IntKind.wrap
  simp only [IntKind.bits, IntKind.signed]
  simp
  omega
theorem Hs {w : World} {o : Obj} {k : Nat} (h : k = w.heap.size) : (w.alloc o).heap[k]? = some o := by subst h; exact World.alloc_heap_new w o
theorem Is (s sep : ByteArray) (w : World) : Calls Tryz.prog 183 #[.string s, .string sep] w fun e w' =>
    e = .returned (.func (.func 202) #[] #[.pointer (some ⟨w.heap.size + 1, 0, none⟩), .pointer (some ⟨w.heap.size, 0, none⟩), .pointer (some ⟨w.heap.size + 2, 0, none⟩)]) ∧
      w' = ((w.alloc (.cells #[.string s] 9)).alloc (.cells #[.string sep] 9)).alloc (.cells #[.int .i64 0] 3) := by
  have h1 : Calls Tryz.prog 196 #[.string s, .string sep, .int .i64 0] w fun e w' =>
    e = .returned (.func (.func 202) #[] #[.pointer (some ⟨w.heap.size + 1, 0, none⟩), .pointer (some ⟨w.heap.size, 0, none⟩), .pointer (some ⟨w.heap.size + 2, 0, none⟩)]) ∧
      w' = ((w.alloc (.cells #[.string s] 9)).alloc (.cells #[.string sep] 9)).alloc (.cells #[.int .i64 0] 3) := by
    go_enter Tryz.func196, Tryz.ntmps196
    go_wp2
    go_ret
    exact ⟨by simp, rfl⟩
  go_enter Tryz.func183, Tryz.ntmps183
  go_wp2_with (go_at_call 196; refine h1.mono ?_; rintro e w' ⟨rfl, rfl⟩)
  go_ret
  exact ⟨rfl, rfl⟩
theorem addr_any (s : List UInt8) (hs : s.length ≤ 2147483648) (w : World) (hL : Be w) :
    Calls Tryz.prog 157 #[.string ⟨s.toArray⟩] w fun e w' => e = .returned (match Bo s with | none => .tuple #[.int .u32 0, .bool false] | some a => .tuple #[.int .u32 (a : Int), .bool true]) ∧ Below w.heap.size w w' := by
  refine (callsIn_wide (n := 3)).1 ?_
  refine callsIn_of_wp_marks Tryz.func157 rfl trivial ?_ rfl
  simp only [Tryz.ntmps157, List.size_toArray, List.length_cons, List.length_nil, Nat.reduceAdd, Nat.reduceSub, Array.replicate_succ, Array.replicate_zero, List.push_toArray, List.append_toArray, List.nil_append, List.cons_append]
  gi_wp2
  refine wpIn_wide.2 (wp_scope_straight ((wpIn_wide (n := 3)).1 ?_))
  gi_wp2_with (refine ⟨trivial, fun hh => (by first | (cases hh; done) | omega), ?_⟩; gi_at_call 183; refine (callsIn_wide.2 (Is _ _ _)).mono ?_; rintro e w' ⟨rfl, rfl⟩)
  refine wpIn_label ?_
  gi_wp2_with (refine ⟨trivial, ?_⟩; gi_at_call 183; refine (callsIn_wide.2 (Is _ _ _)).mono ?_; rintro e w' ⟨rfl, rfl⟩)
  have hsl : s.length ≤ maxLen := by unfold maxLen; omega
  generalize hw5 : ((((((w.alloc (Obj.cells #[Value.int IntKind.u32 0] 50)).alloc (Obj.cells #[Value.int IntKind.i64 0] 3)).alloc (Obj.cells #[Value.string { data := s.toArray }] 9)).alloc (Obj.cells #[Value.string { data := #[46] }] 9)).alloc (Obj.cells #[Value.int IntKind.i64 0] 3))) = w5
  have hsz5 : w5.heap.size = w.heap.size + 5 := by rw [← hw5]; simp
  have hb5 : Below w.heap.size w w5 := by
    rw [← hw5]
    exact (((((Below.refl _ _).alloc (Nat.le_refl _) _).alloc (by simp) _).alloc (by simp; omega) _).alloc (by simp; omega) _).alloc (by simp; omega) _
  have g0 : w5.heap[w.heap.size]? = some (.cells #[.int .u32 0] 50 (0, 0)) := by rw [← hw5]; exact (Below.heap_alloc _ _ _ (by simp; try omega)).trans ((Below.heap_alloc _ _ _ (by simp; try omega)).trans ((Below.heap_alloc _ _ _ (by simp; try omega)).trans ((Below.heap_alloc _ _ _ (by simp; try omega)).trans (Hs rfl))))
  have g1 : w5.heap[w.heap.size + 1]? = some (.cells #[.int .i64 0] 3 (0, 0)) := by rw [← hw5]; exact (Below.heap_alloc _ _ _ (by simp; try omega)).trans ((Below.heap_alloc _ _ _ (by simp; try omega)).trans ((Below.heap_alloc _ _ _ (by simp; try omega)).trans (Hs (by simp))))
  have g2 : w5.heap[w.heap.size + 1 + 1]? = some (.cells #[.string ⟨s.toArray⟩] 9 (0, 0)) := by rw [← hw5]; exact (Below.heap_alloc _ _ _ (by simp; try omega)).trans ((Below.heap_alloc _ _ _ (by simp; try omega)).trans (Hs (by simp)))
  have g3 : w5.heap[w.heap.size + 1 + 1 + 1]? = some (.cells #[.string ⟨#[46]⟩] 9 (0, 0)) := by rw [← hw5]; exact (Below.heap_alloc _ _ _ (by simp; try omega)).trans (Hs (by simp))
  have g4 : w5.heap[w.heap.size + 1 + 1 + 2]? = some (.cells #[.int .i64 0] 3 (0, 0)) := by rw [← hw5]; exact Hs (by simp)
  clear hw5
  refine range_own (gf := 202) (lb := #[Value.pointer (some { block := w.heap.size + 1 + 1 + 1, off := 0 }), Value.pointer (some { block := w.heap.size + 1 + 1, off := 0 }), Value.pointer (some { block := w.heap.size + 1 + 1 + 2, off := 0 })])
    rfl (enters_of Tryz.func202 (by kernel_rfl) rfl) (encs := fun x : List UInt8 => #[.string ⟨x.toArray⟩]) (fun _ => rfl) [w.heap.size + 1 + 1 + 1, w.heap.size + 1 + 1, w.heap.size + 1 + 1 + 2] [w.heap.size, w.heap.size + 1]
    (by intro k hk; simp at hk; omega) (by intro k hk; simp at hk ⊢; omega) (S := Q3 46 s) ?iter
    (fun pre W => ∃ a m, B4 pre = some (a, m) ∧ W.heap[w.heap.size]? = some (.cells #[.int .u32 (a : Int)] 50 (0, 0)) ∧ W.heap[w.heap.size + 1]? = some (.cells #[.int .i64 (m : Int)] 3 (0, 0)) ∧ Below w.heap.size w W)
    (fun c pre W => c = .exit 0 ∧ B4 pre = none ∧ (∃ v : Int, v ≠ 4 ∧ W.heap[w.heap.size + 1]? = some (.cells #[.int .i64 v] 3 (0, 0))) ∧ Below w.heap.size w W) ?hI ?hIx ⟨0, 0, rfl, g0, g1, hb5⟩
    (fun x => { tmps := #[.string ⟨s.toArray⟩, undef, .int .u32 0, .bool false, .pointer (some ⟨w.heap.size, 0, none⟩), .pointer (some ⟨w.heap.size + 1, 0, none⟩), .string ⟨x.toArray⟩, undef, undef, .string ⟨s.toArray⟩,
      .func (.func 202) #[] #[.pointer (some ⟨w.heap.size + 1 + 1 + 1, 0, none⟩), .pointer (some ⟨w.heap.size + 1 + 1, 0, none⟩), .pointer (some ⟨w.heap.size + 1 + 1 + 2, 0, none⟩)], .string ⟨x.toArray⟩, undef, undef, undef, undef, undef, undef, undef, undef, undef, undef, undef, undef, undef, undef, undef, undef, undef, undef, undef, undef, undef, undef, undef], defers := [] }) ?assign ?body ?done ?stop
  case iter =>
    intro l J Jx W hJ hY hT hJ0
    refine To _ l (w.heap.size + 1 + 1 + 1) (w.heap.size + 1 + 1) (w.heap.size + 1 + 1 + 2) 46 (by omega) (by omega) s hsl J Jx (fun pre W1 v hj => hJ pre W1 _ v (by simp) hj) (fun pre x r W1 hj hb hq => ?_) W ⟨(hT _ (by simp)).trans g3, (hT _ (by simp)).trans g2, (hT _ (by simp)).trans g4⟩ hJ0
    obtain ⟨fn, tmps, assign, body, hy, hR⟩ := hY pre x W1 hj hq
    refine ⟨fn, tmps, assign, body, hy, hR.mono ?_⟩
    rintro e W' (⟨h1, h2, h3⟩ | h)
    · exact .inl ⟨h1, h2, h3 _ (by simp), h3 _ (by simp), h3 _ (by simp)⟩
    · exact .inr h
  case hI =>
    rintro xs W W' ⟨a, m, h1, h2, h3, h4⟩ hm
    have hB : Below w.heap.size W W' := ⟨hm.os, hm.tape, hm.output, hm.size, fun k hk => hm.block k (Nat.lt_of_lt_of_le hk h4.size) (by simp [hsz5]; omega)⟩
    refine ⟨a, m, h1, (hm.block _ (Array.getElem?_eq_some_iff.1 h2).1 (by simp [hsz5]; try omega)).trans h2, (hm.block _ (Array.getElem?_eq_some_iff.1 h3).1 (by simp [hsz5]; try omega)).trans h3, h4.trans hB⟩
  case hIx =>
    rintro c xs W W' ⟨h0, h1, ⟨v, hv, h3⟩, h4⟩ hm
    have hB : Below w.heap.size W W' := ⟨hm.os, hm.tape, hm.output, hm.size, fun k hk => hm.block k (Nat.lt_of_lt_of_le hk h4.size) (by simp [hsz5]; omega)⟩
    exact ⟨h0, h1, ⟨v, hv, (hm.block _ (Array.getElem?_eq_some_iff.1 h3).1 (by simp [hsz5]; try omega)).trans h3⟩, h4.trans hB⟩
  case assign =>
    intro l x W K hK
    gi_wp2
    exact hK
  case body =>
    rintro l pre x W ⟨a, m, hst, hca, hcm, hB⟩ hsz ⟨q, hq⟩
    have hx : x.length ≤ s.length := Rr 46 s x (by rw [← hq]; simp)
    have hle := On hst
    have hparse := lParse x (by omega)
    cases hp : Q9 x with
    | none =>
      rw [hp] at hparse
      have hnone : B4 (pre ++ [x]) = none := by rw [Ek, hst]; simp only [Xc, hp]
      gi_wp2_with (refine ⟨trivial, ?_⟩; gi_at_call 135; refine (CallsIn.inRound l (callsIn_wide.2 (Ns x W (Q4 hL hB) (0, false) hparse))).mono ?_; rintro e w' ⟨rfl, hsp⟩; have hb' := SP.keeps hsp; have hca2 := (hb'.block _ (Array.getElem?_eq_some_iff.1 hca).1).trans hca; have hcm2 := (hb'.block _ (Array.getElem?_eq_some_iff.1 hcm).1).trans hcm; have c1 := B3 hca2; have c2 := B3 hcm2; have f1 := Cn hca2; have f2 := Cn hcm2)
      exact ⟨(J3 hb' _).setCell (p := ⟨w.heap.size + 1, 0, none⟩) (.inl (by simp)) _, rfl, hnone, ⟨0, by decide, Gn hcm2⟩, (hB.trans (hb'.mono hB.size)).setCell (p := ⟨w.heap.size + 1, 0, none⟩) (by simp) _⟩
    | some n =>
      rw [hp] at hparse
      by_cases hn : 255 < n
      · have hnone : B4 (pre ++ [x]) = none := by rw [Ek, hst]; simp only [Xc, hp, if_pos (Or.inl hn : 255 < n ∨ 4 ≤ m)]
        have hn' : (255 : Int) < (n : Int) := by omega
        gi_wp2_with (refine ⟨trivial, ?_⟩; gi_at_call 135; refine (CallsIn.inRound l (callsIn_wide.2 (Ns x W (Q4 hL hB) ((n : Int), true) hparse))).mono ?_; rintro e w' ⟨rfl, hsp⟩; have hb' := SP.keeps hsp; have hca2 := (hb'.block _ (Array.getElem?_eq_some_iff.1 hca).1).trans hca; have hcm2 := (hb'.block _ (Array.getElem?_eq_some_iff.1 hcm).1).trans hcm; have c1 := B3 hca2; have c2 := B3 hcm2; have f1 := Cn hca2; have f2 := Cn hcm2)
        exact ⟨(J3 hb' _).setCell (p := ⟨w.heap.size + 1, 0, none⟩) (.inl (by simp)) _, rfl, hnone, ⟨0, by decide, Gn hcm2⟩, (hB.trans (hb'.mono hB.size)).setCell (p := ⟨w.heap.size + 1, 0, none⟩) (by simp) _⟩
      · have hn' : ¬ (255 : Int) < (n : Int) := by omega
        by_cases hm : 4 ≤ m
        · have hnone : B4 (pre ++ [x]) = none := by rw [Ek, hst]; simp only [Xc, hp, if_pos (Or.inr hm : 255 < n ∨ 4 ≤ m)]
          have hm' : (4 : Int) < (m : Int) + 1 := by omega
          gi_wp2_with (refine ⟨trivial, ?_⟩; gi_at_call 135; refine (CallsIn.inRound l (callsIn_wide.2 (Ns x W (Q4 hL hB) ((n : Int), true) hparse))).mono ?_; rintro e w' ⟨rfl, hsp⟩; have hb' := SP.keeps hsp; have hca2 := (hb'.block _ (Array.getElem?_eq_some_iff.1 hca).1).trans hca; have hcm2 := (hb'.block _ (Array.getElem?_eq_some_iff.1 hcm).1).trans hcm; have c1 := B3 hca2; have c2 := B3 hcm2; have f1 := Cn hca2; have f2 := Cn hcm2)
          have hcm3 : (w'.setCell ⟨w.heap.size, 0, none⟩ (.int .u32 (bits .or .u32 ((a : Int) * 256 % 4294967296) (n : Int)))).heap[w.heap.size + 1]? = some (.cells #[.int .i64 (m : Int)] 3 (0, 0)) := (U4 (by omega)).trans hcm2
          exact ⟨((J3 hb' _).setCell (p := ⟨w.heap.size, 0, none⟩) (.inl (by simp)) _).setCell (p := ⟨w.heap.size + 1, 0, none⟩) (.inl (by simp)) _, rfl, hnone, ⟨(m : Int) + 1, by omega, Gn hcm3⟩,
            ((hB.trans (hb'.mono hB.size)).setCell (p := ⟨w.heap.size, 0, none⟩) (by simp) _).setCell (p := ⟨w.heap.size + 1, 0, none⟩) (by simp) _⟩
        · have hm' : ¬ (4 : Int) < (m : Int) + 1 := by omega
          gi_wp2_with (refine ⟨trivial, ?_⟩; gi_at_call 135; refine (CallsIn.inRound l (callsIn_wide.2 (Ns x W (Q4 hL hB) ((n : Int), true) hparse))).mono ?_; rintro e w' ⟨rfl, hsp⟩; have hb' := SP.keeps hsp; have hca2 := (hb'.block _ (Array.getElem?_eq_some_iff.1 hca).1).trans hca; have hcm2 := (hb'.block _ (Array.getElem?_eq_some_iff.1 hcm).1).trans hcm; have c1 := B3 hca2; have c2 := B3 hcm2; have f1 := Cn hca2; have f2 := Cn hcm2)
          have hstep : B4 (pre ++ [x]) = some (a * 256 + n, m + 1) := by rw [Ek, hst]; simp only [Xc, hp, if_neg (by omega : ¬ (255 < n ∨ 4 ≤ m))]
          have ha : a < 16777216 := by
            have h3 := Nat.pow_le_pow_right (show 0 < 256 by omega) (show m ≤ 3 by omega)
            have h6 : (256 : Nat) ^ 3 = 16777216 := by decide
            omega
          have hj := u32_join a n ha (by omega)
          rw [hj]
          have hca3 : (w'.setCell ⟨w.heap.size, 0, none⟩ (.int .u32 ((a * 256 + n : Nat) : Int))).heap[w.heap.size]? = some (.cells #[.int .u32 ((a * 256 + n : Nat) : Int)] 50 (0, 0)) := Gn hca2
          have hcm3 : (w'.setCell ⟨w.heap.size, 0, none⟩ (.int .u32 ((a * 256 + n : Nat) : Int))).heap[w.heap.size + 1]? = some (.cells #[.int .i64 (m : Int)] 3 (0, 0)) := (U4 (by omega)).trans hcm2
          exact ⟨((J3 hb' _).setCell (p := ⟨w.heap.size, 0, none⟩) (.inl (by simp)) _).setCell (p := ⟨w.heap.size + 1, 0, none⟩) (.inl (by simp)) _, a * 256 + n, m + 1, hstep, (U4 (by omega)).trans hca3, Gn hcm3,
            ((hB.trans (hb'.mono hB.size)).setCell (p := ⟨w.heap.size, 0, none⟩) (by simp) _).setCell (p := ⟨w.heap.size + 1, 0, none⟩) (by simp) _⟩
  case done =>
    rintro W ⟨a, m, hst, hca, hcm, hB⟩ hK
    have c1 := B3 hca
    have c2 := B3 hcm
    by_cases h4 : m = 4
    · subst h4
      have hres : Bo s = some a := by unfold Bo; rw [hst]; rfl
      gi_wp2
      refine ⟨by simp, .inl ⟨_, _, rfl, run_takeDeferred hK, ?_⟩⟩
      exact ⟨_, results_tmp2 rfl _ _ _, by rw [hres]; rfl, hB.trans ((Db W _ _).below hB.size (by simp [hsz5]))⟩
    · have hm : ((m : Int) != 4) = true := by rw [bne_iff_ne]; omega
      have hres : Bo s = none := by unfold Bo; rw [hst]; exact if_neg h4
      gi_wp2
      refine ⟨by simp, .inl ⟨_, _, rfl, run_takeDeferred hK, ?_⟩⟩
      exact ⟨_, results_tmp2 rfl _ _ _, by rw [hres]; rfl, hB.trans ((Db W _ _).below hB.size (by simp [hsz5]))⟩
  case stop =>
    rintro c pre W hpre ⟨rfl, hst, ⟨v, hv, hcv⟩, hB⟩ hK
    have c2 := B3 hcv
    have hm : (v != 4) = true := by rw [bne_iff_ne]; exact hv
    have hres : Bo s = none := by unfold Bo; rw [Mj hpre hst]
    gi_wp2
    refine ⟨by simp, .inl ⟨_, _, rfl, run_takeDeferred hK, ?_⟩⟩
    exact ⟨_, results_tmp2 rfl _ _ _, by rw [hres]; rfl, hB.trans ((Db W _ _).below hB.size (by simp [hsz5]))⟩
end Go.Proofs.YtoflbpmbkmephaaGreatDoor
namespace Go.Proofs.YtoflbpmbkmephaaGreatDoor
open Go.RowKit
def Xw (s sep : List UInt8) : Option Int := match sep with | [c] => some (Lib.indexByte s c) | _ => none
theorem N4 (s sep : List UInt8) (w0 : World) (r : Int) (H : Xw s sep = some r) :
    Calls Tryz.prog 182 #[(.string ⟨List.toArray s⟩), (.string ⟨List.toArray sep⟩)] w0 (fun e w' => e = .returned (.int .i64 r) ∧ SP [] w0 w' []) := by
  unfold Xw at H
  match sep, H with
  | [c], H =>
    injection H with H
    subst H
    refine (Tryz.stringslite_Index_one ⟨s.toArray⟩ c w0).mono ?_
    rintro e w' ⟨rfl, rfl⟩
    exact ⟨rfl, Qw [] w'⟩
def Lc (x : Option Nat) : Int × Bool := match x with | none => (0, false) | some a => ((a : Int), true)
def Dq (s : List UInt8) : Option (Int × Bool) := cond (Nat.ble s.length 2147483648) (some (Lc (Bo s))) none
theorem Ht (s : List UInt8) (w0 : World) (hL : Be w0) (r : Int × Bool) (H : Dq s = some r) :
    Calls Tryz.prog 157 #[(.string ⟨List.toArray s⟩)] w0 (fun e w' => e = .returned (.tuple #[(.int .u32 r.1), (.bool r.2)]) ∧ SP [] w0 w' []) := by
  unfold Dq at H
  cases hs : Nat.ble s.length 2147483648 <;> rw [hs] at H
  · cases H
  injection H with H
  subst H
  refine (addr_any s (Nat.le_of_ble_eq_true hs) w0 hL).mono ?_
  rintro e w' ⟨rfl, hbel⟩
  refine ⟨?_, Kk hbel⟩
  cases Bo s with
  | none => rfl
  | some a => rfl
end Go.Proofs.YtoflbpmbkmephaaGreatDoor
namespace Go.Proofs.YtoflbpmbkmephaaGreatDoor
open Go.RowKit
def Dr (p1 : (List UInt8)) (p2 : (List UInt8)) : Option (Int) :=
  ((Xw p1 p2).bind fun z3 => (some (z3)))
set_option maxHeartbeats 40000000 in
theorem Fy  (p1 : Bs) (p2 : Bs) (w0 : World)  (r : (Int)) (H : Dr p1 p2 = some r) :
  Calls Tryz.prog 156 #[(sv p1), (sv p2)] w0 (fun e W => e = .returned (iv r) ∧ SP [] w0 W []) := by
 unfold Dr at H
 refine Qt (n := 8) Tryz.func156 K K K ?_
 have a := Qw [] w0
 refine aC ?_
 refine iR 1 1 [(4, (iv 0))] ?_
 refine iF ?_
 refine aC ?_
 refine iR 2 2 [(5, (sv p1)), (6, (sv p2))] ?_
 obtain ⟨z3, b, H⟩ := Qd H
 refine iS 3 ?_
 refine cS a 182 #[(.tmp 5), (.tmp 6)] #[9, 9] 7 Tryz.call182 (N4  p1 p2 w0  z3 b) ?_
 intro w5 c
 refine iR 1 4 [(4, (iv z3))] ?_
 refine iF ?_
 refine At.ret K ?_
 refine ⟨(iv z3), K, ?_⟩
 obtain rfl := Qe H
 exact ⟨rfl, SP.sel c [] rfl rfl⟩
def Jg (c : (List UInt8)) (b : (List (List UInt8))) (a : Int) : Option ((List (List UInt8))) :=
  ((idx b a).bind fun f => ((some (List.set b (Int.toNat a) c)).bind fun d => ((sub d 0 (IntKind.wrap .i64 (a + 1))).bind fun e => (some (e)))))
def Uj (f : (List UInt8) → (List (List UInt8)) → Int → Option ((List (List UInt8)))) (p1 : (List UInt8)) (p2 : (List UInt8)) (p3 : Int) (e : Int) (a : (List UInt8)) (c : (List (List UInt8))) (b : Int) : Option ((List (List UInt8))) :=
  (cond (decide (b < (IntKind.wrap .i64 ((if (IntKind.wrap .i64 (((List.length p1 : Nat) : Int) + 1)) < e then (IntKind.wrap .i64 (((List.length p1 : Nat) : Int) + 1)) else e) - 1)))) ((Dr a p2).bind fun d => (cond (decide (d < 0)) (Jg a c b) ((sub a 0 (IntKind.wrap .i64 (d + p3))).bind fun g => ((idx c b).bind fun j => ((some (List.set c (Int.toNat b) g)).bind fun h => ((sub a (IntKind.wrap .i64 (d + ((List.length p2 : Nat) : Int))) ((List.length a : Nat) : Int)).bind fun i => (f i h (IntKind.wrap .i64 (b + 1))))))))) (Jg a c b))
def Jh (p1 : (List UInt8)) (p2 : (List UInt8)) (p3 : Int) (a : Int) : Nat → (List UInt8) → (List (List UInt8)) → Int → Option ((List (List UInt8)))
  | 0, _, _, _ => none
  | f + 1, b, c, d => Uj  (Jh p1 p2 p3 a f) p1 p2 p3 a b c d
def Uk (p1 : (List UInt8)) (p2 : (List UInt8)) (p3 : Int) (a : Int) : Option ((List (List UInt8))) :=
  ((chk (decide (0 ≤ (if (IntKind.wrap .i64 (((List.length p1 : Nat) : Int) + 1)) < a then (IntKind.wrap .i64 (((List.length p1 : Nat) : Int) + 1)) else a) ∧ (if (IntKind.wrap .i64 (((List.length p1 : Nat) : Int) + 1)) < a then (IntKind.wrap .i64 (((List.length p1 : Nat) : Int) + 1)) else a) ≤ 2147483648))).bind fun _ => ((some (List.replicate (Int.toNat (if (IntKind.wrap .i64 (((List.length p1 : Nat) : Int) + 1)) < a then (IntKind.wrap .i64 (((List.length p1 : Nat) : Int) + 1)) else a)) (([] : List UInt8) : (List UInt8)))).bind fun b => (Jh p1 p2 p3 a Zj p1 b 0)))
def Re (p1 : (List UInt8)) (p2 : (List UInt8)) (p3 : Int) (p4 : Int) : Option ((List (List UInt8))) :=
  (cond (p4 == 0) (some (([] : List (List UInt8)))) (cond (p2 == ([] : List UInt8)) ((Cz p1 p4).bind fun a => (some (a))) (cond (decide (p4 < 0)) ((Dn p1 p2).bind fun b => (Uk p1 p2 p3 (IntKind.wrap .i64 (b + 1)))) (Uk p1 p2 p3 p4))))
set_option maxHeartbeats 40000000 in
theorem El  (p1 : Bs) (p2 : Bs) (p3 : Int) (p4 : Int) (w0 : World)  (r : ((List Bs))) (H : Re p1 p2 p3 p4 = some r) :
  Calls Tryz.prog 111 #[(sv p1), (sv p2), (iv p3), (iv p4)] w0 (fun e W => ∃ (A5 : Option Addr) (c6 : Nat), e = .returned (.slice A5 (List.length r) c6) ∧ SP [] w0 W [Vh 9 Qj A5 c6 r]) := by
 unfold Re at H
 refine Qt (n := 66) Tryz.func111 K K K ?_
 have a5 := Qw [] w0
 refine aC ?_
 refine iR 1 1 [(8, (.slice none (List.length ([] : List Bs)) 0))] ?_
 refine iF ?_
 refine aQ ?_
 refine aC ?_
 refine iR 2 2 [(12, (iv p4)), (13, (bv (p4 == 0)))] ?_
 refine iF ?_
 refine cD 13 H (fun H => ?_) fun H => ?_
 ·refine aC ?_
  refine iR 1 1 [(8, (.slice none (List.length ([] : List Bs)) 0))] ?_
  refine iF ?_
  refine At.ret K ?_
  have c9 : SP [] w0 w0 [Vh 9 Qj none 0 ([] : List Bs)] := Nu a5 9 Qj
  refine ⟨(.slice none (List.length ([] : List Bs)) 0), K, ?_⟩
  obtain rfl := Qe H
  exact ⟨none, 0, rfl, SP.sel c9 [0] rfl rfl⟩
 refine At.skip K ?_
 refine aQ ?_
 refine aC ?_
 refine iR 1 1 [(14, (sv p2))] ?_
 refine jO 2 9 (.tmp 14) (.const (.string ⟨List.toArray ([] : Bs)⟩)) p2 ([] : Bs) 15 ?_
 refine iF ?_
 refine cD 15 H (fun H => ?_) fun H => ?_
 ·refine aC ?_
  refine iR 2 2 [(16, (sv p1)), (17, (iv p4))] ?_
  obtain ⟨b0, d0, H⟩ := Qd H
  refine iS 3 ?_
  refine cF 154 #[(.tmp 16), (.tmp 17)] #[9, 3] 18 Tryz.call154 (E6  p1 p4 w0  b0 d0) ?_
  rintro e f5 ⟨b1, b2, rfl, b5⟩
  refine ⟨_, rfl, ?_⟩
  have d1 := SP.call a5 b5
  clear b5
  refine iR 1 4 [(8, (.slice b1 (List.length b0) b2))] ?_
  refine iF ?_
  refine At.ret K ?_
  refine ⟨(.slice b1 (List.length b0) b2), K, ?_⟩
  obtain rfl := Qe H
  exact ⟨b1, b2, rfl, SP.sel d1 [0] rfl rfl⟩
 refine At.skip K ?_
 refine aQ ?_
 refine aC ?_
 refine iR 2 2 [(19, (iv p4)), (20, (bv (decide (p4 < 0))))] ?_
 refine iF ?_
 refine At.join (fun ρ w => ∃ (f : Int), Vq ρ [(0, (sv p1)), (1, (sv p2)), (2, (iv p3)), (3, (iv f))] ∧ SP [] w0 w [] ∧ Uk p1 p2 p3 f = some r) ?_ ?_
 ·refine cD 20 H (fun H => ?_) fun H => ?_
  ·refine aR ?_
   refine iR 2 2 [(21, (sv p1)), (22, (sv p2))] ?_
   obtain ⟨a6, d2, H⟩ := Qd H
   refine iS 3 ?_
   refine cS a5 155 #[(.tmp 21), (.tmp 22)] #[9, 9] 23 Tryz.call155 (Fx  p1 p2 w0  a6 d2) ?_
   intro f6 d3
   refine iR 2 5 [(24, (iv (IntKind.wrap .i64 (a6 + 1)))), (3, (iv (IntKind.wrap .i64 (a6 + 1))))] ?_
   refine iF ?_
   exact ⟨(IntKind.wrap .i64 (a6 + 1)), ⟨K, K, K, K, trivial⟩, SP.sel d3 [] rfl rfl, H⟩
  refine At.skip K ?_
  exact ⟨p4, ⟨K, K, K, K, trivial⟩, SP.sel a5 [] rfl rfl, H⟩
 rintro ρ f7 ⟨f, hk, d4, H⟩
 unfold Uk at H
 first | refine At.known _ hk ?_ | rw [← Qo hk]
 refine aC ?_
 refine iR 6 6 [(25, (iv f)), (26, (sv p1)), (27, (iv (ln p1))), (28, (iv (IntKind.wrap .i64 ((ln p1) + 1)))), (29, (iv (if (IntKind.wrap .i64 ((ln p1) + 1)) < f then (IntKind.wrap .i64 ((ln p1) + 1)) else f))), (3, (iv (if (IntKind.wrap .i64 ((ln p1) + 1)) < f then (IntKind.wrap .i64 ((ln p1) + 1)) else f)))] ?_
 refine iF ?_
 refine aC ?_
 refine iR 1 1 [(30, (iv (if (IntKind.wrap .i64 ((ln p1) + 1)) < f then (IntKind.wrap .i64 ((ln p1) + 1)) else f)))] ?_
 obtain ⟨hl30, H⟩ := Dh H
 obtain ⟨a7, hyl29, H⟩ := Z4 H
 refine iS 2 ?_
 refine Ko (e := Qj) (l' := a7) (z := ([] : Bs)) (v := (sv ([] : Bs))) (b := 16) (T := 79) (E := 9) (x := (.tmp 30)) (y := (.tmp 30)) (k1 := .i64) (k2 := .i64) (iz := (if (IntKind.wrap .i64 ((ln p1) + 1)) < f then (IntKind.wrap .i64 ((ln p1) + 1)) else f)) (d := (some 31)) (k := 1) K rfl K K K K K rfl rfl rfl hl30 d4 hyl29 ?_
 intro b3 w32 b6 f8
 have d5 : SP [] w0 w32 [Vh 9 Qj (some ⟨b3, 0, none⟩) (Int.toNat (if (IntKind.wrap .i64 ((ln p1) + 1)) < f then (IntKind.wrap .i64 ((ln p1) + 1)) else f)) a7] := b6
 clear b6
 refine iR 1 3 [(9, (.slice (some ⟨b3, 0, none⟩) (List.length a7) (Int.toNat (if (IntKind.wrap .i64 ((ln p1) + 1)) < f then (IntKind.wrap .i64 ((ln p1) + 1)) else f))))] ?_
 refine iF ?_
 refine aC ?_
 refine iR 3 3 [(32, (iv (if (IntKind.wrap .i64 ((ln p1) + 1)) < f then (IntKind.wrap .i64 ((ln p1) + 1)) else f))), (33, (iv (IntKind.wrap .i64 ((if (IntKind.wrap .i64 ((ln p1) + 1)) < f then (IntKind.wrap .i64 ((ln p1) + 1)) else f) - 1)))), (3, (iv (IntKind.wrap .i64 ((if (IntKind.wrap .i64 ((ln p1) + 1)) < f then (IntKind.wrap .i64 ((ln p1) + 1)) else f) - 1))))] ?_
 refine iF ?_
 refine aC ?_
 refine iR 1 1 [(10, (iv 0))] ?_
 refine iF ?_
 refine aQ ?_
 refine At.join (fun ρ w => ∃ (a3 : Bs) (a2 : (List Bs)) (a1 : Int) (p : Option Addr) (g : Nat), Vq ρ [(0, (sv a3)), (9, (.slice p (List.length a2) g)), (10, (iv a1))] ∧ SP [] w0 w [Vh 9 Qj p g a2] ∧ Jg a3 a2 a1 = some r) ?_ ?_
 ·refine Z3 K (id := 0) K ?_
  refine Gm K (fun f4 ρ w => ∃ (h : Bs) (q : (List Bs)) (o : Int) (s : Option Addr) (u : Nat), Vq ρ [(0, (sv h)), (1, (sv p2)), (2, (iv p3)), (3, (iv (IntKind.wrap .i64 ((if (IntKind.wrap .i64 ((ln p1) + 1)) < f then (IntKind.wrap .i64 ((ln p1) + 1)) else f) - 1)))), (9, (.slice s (List.length q) u)), (10, (iv o))] ∧ SP [] w0 w [Vh 9 Qj s u q] ∧ Jh p1 p2 p3 f f4 h q o = some r) (by rintro ρ w ⟨h, q, o, s, u, hk, hs, H⟩; cases H) ?_ Zj ?_
  ·rintro f4 ρ d6 ⟨h, q, o, s, u, hk, b7, H⟩
   refine At.known _ hk ?_
   replace H := (show Uj (Jh p1 p2 p3 f f4) p1 p2 p3 f h q o = some r from H)
   unfold Uj at H
   refine aQ ?_
   refine aC ?_
   refine iR 3 3 [(34, (iv o)), (35, (iv (IntKind.wrap .i64 ((if (IntKind.wrap .i64 ((ln p1) + 1)) < f then (IntKind.wrap .i64 ((ln p1) + 1)) else f) - 1)))), (36, (bv (decide (o < (IntKind.wrap .i64 ((if (IntKind.wrap .i64 ((ln p1) + 1)) < f then (IntKind.wrap .i64 ((ln p1) + 1)) else f) - 1))))))] ?_
   refine iF ?_
   refine cD 36 H (fun H => ?_) fun H => ?_
   ·refine At.skip K ?_
    refine Z3 K (id := 1) K ?_
    refine aC ?_
    refine iR 2 2 [(37, (sv h)), (38, (sv p2))] ?_
    obtain ⟨a0, d7, H⟩ := Qd H
    refine iS 3 ?_
    refine cS b7 156 #[(.tmp 37), (.tmp 38)] #[9, 9] 39 Tryz.call156 (Fy  h p2 d6  a0 d7) ?_
    intro f9 b4
    refine iR 1 4 [(11, (iv a0))] ?_
    refine iF ?_
    refine aQ ?_
    refine aC ?_
    refine iR 2 2 [(40, (iv a0)), (41, (bv (decide (a0 < 0))))] ?_
    refine iF ?_
    refine cD 41 H (fun H => ?_) fun H => ?_
    ·refine At.exit K (id := 0) K ?_
     exact ⟨h, q, o, s, u, ⟨K, K, K, trivial⟩, SP.sel b4 [0] rfl rfl, H⟩
    refine At.skip K ?_
    refine aC ?_
    refine iR 6 6 [(42, (.slice s (List.length q) u)), (43, (iv o)), (44, (sv h)), (45, (iv a0)), (46, (iv p3)), (47, (iv (IntKind.wrap .i64 (a0 + p3))))] ?_
    obtain ⟨d8, d9, e0, H⟩ := G9 H
    obtain ⟨b8, hyl303⟩ : ∃ y, (List.drop (Int.toNat 0) (List.take (Int.toNat (IntKind.wrap .i64 (a0 + p3))) h)) = y := ⟨_, rfl⟩
    rw [hyl303] at H
    refine iS 7 ?_
    refine Jp (a := h) (T := 9) (x := (.tmp 44)) (lo := none) (hi := (some (.tmp 47))) (i := 0) (j := (IntKind.wrap .i64 (a0 + p3))) (d := (some 48)) (k := 6) K rfl K K rfl ⟨.i64, K⟩ d8 d9 e0 ?_
    rw [hyl303]
    obtain ⟨g0, b9, c0, g1, H⟩ := Qu H
    refine jE 8 Qj q s u 79 9 (.tmp 42) (.tmp 43) o 49 (Qz (SP.get b4 (i := 0) rfl)) b9 c0 ?_
    intro e1 e2 e3 g2 hc310
    obtain ⟨a8, hyl313, H⟩ := Z4 H
    have hnl313 : List.length a8 = List.length q := by rw [← hyl313, List.length_set]
    refine iS 9 ?_
    refine R1 (e := Qj) (t := 9) (E := 9) (x := (.tmp 49)) (y := (.tmp 48)) (A := s) (c := u) (l := q) (iz := o) (b := e1) (off := e2) (i := 0) (v := (sv b8)) (x' := b8) (d := none) (k := 8) K rfl K K b4 rfl e3 rfl c0 b9 rfl K ?_
    rw [hyl313]
    intro g3 e4
    refine In.known [(9, (.slice s (List.length a8) u)), (42, (.slice s (List.length a8) u))] ⟨(by rw [hnl313]; kernel_rfl), (by rw [hnl313]; kernel_rfl), trivial⟩ ?_
    refine iF ?_
    refine aC ?_
    refine iR 5 5 [(50, (sv h)), (51, (iv a0)), (52, (sv p2)), (53, (iv (ln p2))), (54, (iv (IntKind.wrap .i64 (a0 + (ln p2)))))] ?_
    obtain ⟨e5, e6, e7, H⟩ := G9 H
    obtain ⟨c1, hyl320⟩ : ∃ y, (List.drop (Int.toNat (IntKind.wrap .i64 (a0 + (ln p2)))) (List.take (Int.toNat (ln h)) h)) = y := ⟨_, rfl⟩
    rw [hyl320] at H
    refine iS 6 ?_
    refine Jp (a := h) (T := 9) (x := (.tmp 50)) (lo := (some (.tmp 54))) (hi := none) (i := (IntKind.wrap .i64 (a0 + (ln p2)))) (j := (ln h)) (d := (some 55)) (k := 5) K rfl K K ⟨.i64, K⟩ rfl e5 e6 e7 ?_
    rw [hyl320]
    refine iR 1 7 [(0, (sv c1))] ?_
    refine iF ?_
    refine aR ?_
    refine iR 3 3 [(56, (iv o)), (57, (iv (IntKind.wrap .i64 (o + 1)))), (10, (iv (IntKind.wrap .i64 (o + 1))))] ?_
    refine iF ?_
    exact ⟨c1, a8, (IntKind.wrap .i64 (o + 1)), s, u, ⟨K, K, K, K, K, K, trivial⟩, SP.sel e4 [0] rfl rfl, H⟩
   refine At.exit K (id := 0) K ?_
   exact ⟨h, q, o, s, u, ⟨K, K, K, trivial⟩, SP.sel b7 [0] rfl rfl, H⟩
  exact ⟨p1, a7, 0, (some ⟨b3, 0, none⟩), (Int.toNat (if (IntKind.wrap .i64 ((ln p1) + 1)) < f then (IntKind.wrap .i64 ((ln p1) + 1)) else f)), ⟨K, K, K, K, K, K, trivial⟩, SP.sel d5 [0] rfl rfl, H⟩
 rintro ρ g4 ⟨a3, a2, a1, p, g, hk, c2, H⟩
 unfold Jg at H
 first | refine At.known _ hk ?_ | rw [← Qo hk]
 refine aC ?_
 refine iR 3 3 [(58, (.slice p (List.length a2) g)), (59, (iv a1)), (60, (sv a3))] ?_
 obtain ⟨g5, c3, c4, g6, H⟩ := Qu H
 refine jE 4 Qj a2 p g 79 9 (.tmp 58) (.tmp 59) a1 61 (Qz (SP.get c2 (i := 0) rfl)) c3 c4 ?_
 intro e8 e9 f0 g7 hc179
 obtain ⟨a4, hyl182, H⟩ := Z4 H
 have hnl182 : List.length a4 = List.length a2 := by rw [← hyl182, List.length_set]
 refine iS 5 ?_
 refine R1 (e := Qj) (t := 9) (E := 9) (x := (.tmp 61)) (y := (.tmp 60)) (A := p) (c := g) (l := a2) (iz := a1) (b := e8) (off := e9) (i := 0) (v := (sv a3)) (x' := a3) (d := none) (k := 4) K rfl K K c2 rfl f0 rfl c4 c3 rfl K ?_
 rw [hyl182]
 intro f1 c5
 refine In.known [(9, (.slice p (List.length a4) g)), (58, (.slice p (List.length a4) g))] ⟨(by rw [hnl182]; kernel_rfl), (by rw [hnl182]; kernel_rfl), trivial⟩ ?_
 refine iF ?_
 refine aC ?_
 refine iR 3 3 [(62, (.slice p (List.length a4) g)), (63, (iv a1)), (64, (iv (IntKind.wrap .i64 (a1 + 1))))] ?_
 obtain ⟨f2, c7, c8, H⟩ := G9 H
 obtain ⟨a9, hyl189⟩ : ∃ y, (List.drop (Int.toNat 0) (List.take (Int.toNat (IntKind.wrap .i64 (a1 + 1))) a4)) = y := ⟨_, rfl⟩
 rw [hyl189] at H
 refine iS 4 ?_
 refine Ea (e := Qj) (l := a4) (m := a9) (A := p) (c := g) (T := 79) (E := 9) (x := (.tmp 62)) (lo := none) (hi := (some (.tmp 64))) (i := 0) (j := (IntKind.wrap .i64 (a1 + 1))) (d := (some 65)) (k := 3) K rfl K K K rfl ⟨.i64, K⟩ (RdX.le (Qz (SP.get c5 (i := 0) rfl))) f2 c7 c8 hyl189 ?_
 refine iR 1 5 [(8, (.slice (K3 Qj.sz g (Int.toNat 0) p) (List.length a9) (g - Int.toNat 0)))] ?_
 refine iF ?_
 refine At.ret K ?_
 have f3 : SP [] w0 f1 [Vh 9 Qj (K3 Qj.sz g (Int.toNat 0) p) (g - Int.toNat 0) a9] := SP.cutrow c5 (i := 0) rfl c7 c8 hyl189
 refine ⟨(.slice (K3 Qj.sz g (Int.toNat 0) p) (List.length a9) (g - Int.toNat 0)), K, ?_⟩
 obtain rfl := Qe H
 exact ⟨(K3 Qj.sz g (Int.toNat 0) p), (g - Int.toNat 0), rfl, SP.sel f3 [0] rfl rfl⟩
def Rn (p1 : (List UInt8)) (p2 : (List UInt8)) : Option ((List (List UInt8))) :=
  ((Re p1 p2 0 (-1)).bind fun z5 => (some (z5)))
set_option maxHeartbeats 40000000 in
theorem Fz  (p1 : Bs) (p2 : Bs) (w0 : World)  (r : ((List Bs))) (H : Rn p1 p2 = some r) :
  Calls Tryz.prog 67 #[(sv p1), (sv p2)] w0 (fun e W => ∃ (A3 : Option Addr) (c4 : Nat), e = .returned (lv A3 r c4) ∧ SP [] w0 W [Vh 9 Qj A3 c4 r]) := by
 unfold Rn at H
 refine Qt (n := 8) Tryz.func67 K K K ?_
 have c := Qw [] w0
 refine aC ?_
 refine iR 1 1 [(4, (lv none ([] : List Bs) 0))] ?_
 refine iF ?_
 refine aC ?_
 refine iR 2 2 [(5, (sv p1)), (6, (sv p2))] ?_
 obtain ⟨z5, d, H⟩ := Qd H
 refine iS 3 ?_
 refine cF 111 #[(.tmp 5), (.tmp 6), (.const (.int .i64 (0))), (.const (.int .i64 (-1)))] #[9, 9, 3, 3] 7 Tryz.call111 (El  p1 p2 0 (-1) w0  z5 d) ?_
 rintro e w7 ⟨A9, a, rfl, b⟩
 refine ⟨_, rfl, ?_⟩
 have f := SP.call c b
 clear b
 refine iR 1 4 [(4, (lv A9 z5 a))] ?_
 refine iF ?_
 refine At.ret K ?_
 refine ⟨(lv A9 z5 a), K, ?_⟩
 obtain rfl := Qe H
 exact ⟨A9, a, rfl, SP.sel f [0] rfl rfl⟩
def Zb (v8 : Bool) : Option (Bool) :=
  (some (v8))
def Zu (p1 : (List UInt8)) (p2 : (List UInt8)) : Option (Bool) :=
  (cond (decide (((List.length p1 : Nat) : Int) ≥ ((List.length p2 : Nat) : Int))) ((sub p1 (IntKind.wrap .i64 (((List.length p1 : Nat) : Int) - ((List.length p2 : Nat) : Int))) ((List.length p1 : Nat) : Int)).bind fun a => (Zb (a == p2))) (Zb false))
set_option maxHeartbeats 40000000 in
theorem Rz  (p1 : Bs) (p2 : Bs) (w0 : World)  (r : (Bool)) (H : Zu p1 p2 = some r) :
  Calls Tryz.prog 163 #[(sv p1), (sv p2)] w0 (fun e W => e = .returned (bv r) ∧ SP [] w0 W []) := by
 unfold Zu at H
 refine Qt (n := 21) Tryz.func163 K K K ?_
 have c := Qw [] w0
 refine aC ?_
 refine iR 1 1 [(4, (bv false))] ?_
 refine iF ?_
 refine aQ ?_
 refine At.join (fun ρ w => ∃ (v8 : Bool), Vq ρ [(4, (bv v8))] ∧ SP [] w0 w [] ∧ Zb v8 = some r) ?_ ?_
 ·refine aR ?_
  refine iR 6 6 [(5, (sv p1)), (6, (iv (ln p1))), (7, (sv p2)), (8, (iv (ln p2))), (9, (bv (decide ((ln p1) ≥ (ln p2))))), (10, (bv (decide ((ln p1) ≥ (ln p2)))))] ?_
  refine gD 10 H (fun H => ?_) fun H => ?_
  ·refine iR 6 12 [(11, (sv p1)), (12, (sv p1)), (13, (iv (ln p1))), (14, (sv p2)), (15, (iv (ln p2))), (16, (iv (IntKind.wrap .i64 ((ln p1) - (ln p2)))))] ?_
   obtain ⟨f, g, h, H⟩ := G9 H
   obtain ⟨b, hyl15⟩ : ∃ y, (List.drop (Int.toNat (IntKind.wrap .i64 ((ln p1) - (ln p2)))) (List.take (Int.toNat (ln p1)) p1)) = y := ⟨_, rfl⟩
   rw [hyl15] at H
   refine iS 13 ?_
   refine Jp (a := p1) (T := 9) (x := (.tmp 11)) (lo := (some (.tmp 16))) (hi := none) (i := (IntKind.wrap .i64 ((ln p1) - (ln p2)))) (j := (ln p1)) (d := (some 17)) (k := 12) K rfl K K ⟨.i64, K⟩ rfl f g h ?_
   rw [hyl15]
   refine iR 1 14 [(18, (sv p2))] ?_
   refine jO 15 9 (.tmp 17) (.tmp 18) b p2 19 ?_
   refine iR 2 17 [(20, (bv (b == p2))), (4, (bv (b == p2)))] ?_
   refine iF ?_
   exact ⟨(b == p2), ⟨K, trivial⟩, SP.sel c [] rfl rfl, H⟩
  refine iR 11 17 (uN 11 9 [(20, (bv false)), (4, (bv false))]) ?_
  refine iF ?_
  exact ⟨false, ⟨K, trivial⟩, SP.sel c [] rfl rfl, H⟩
 rintro ρ w9 ⟨v8, hk, l, H⟩
 unfold Zb at H
 first | refine At.known _ hk ?_ | rw [← Qo hk]
 refine At.ret K ?_
 refine ⟨(bv v8), K, ?_⟩
 obtain rfl := Qe H
 exact ⟨rfl, SP.sel l [] rfl rfl⟩
def X7 (p1 : (List UInt8)) (p2 : (List UInt8)) : Option ((List UInt8) × Bool) :=
  ((Zu p1 p2).bind fun z3 => (cond (!z3) (some (p1, false)) ((sub p1 0 (IntKind.wrap .i64 (((List.length p1 : Nat) : Int) - ((List.length p2 : Nat) : Int)))).bind fun a => (some (a, true)))))
set_option maxHeartbeats 40000000 in
theorem R0  (p1 : Bs) (p2 : Bs) (w0 : World)  (r : (Bs × Bool)) (H : X7 p1 p2 = some r) :
  Calls Tryz.prog 141 #[(sv p1), (sv p2)] w0 (fun e W => e = .returned (.tuple #[(sv r.1), (bv r.2)]) ∧ SP [] w0 W []) := by
 unfold X7 at H
 refine Qt (n := 18) Tryz.func141 K K K ?_
 have f := Qw [] w0
 refine aC ?_
 refine iR 2 2 [(4, (sv ([] : Bs))), (5, (bv false))] ?_
 refine iF ?_
 refine aQ ?_
 refine aC ?_
 refine iR 2 2 [(6, (sv p1)), (7, (sv p2))] ?_
 obtain ⟨z3, g, H⟩ := Qd H
 refine iS 3 ?_
 refine cS f 163 #[(.tmp 6), (.tmp 7)] #[9, 9] 8 Tryz.call163 (Rz  p1 p2 w0  z3 g) ?_
 intro w5 b
 refine iR 1 4 [(9, (bv (!z3)))] ?_
 refine iF ?_
 refine cD 9 H (fun H => ?_) fun H => ?_
 ·refine aC ?_
  refine iR 3 3 [(10, (sv p1)), (4, (sv p1)), (5, (bv false))] ?_
  refine iF ?_
  refine At.ret K ?_
  refine ⟨(.tuple #[(sv p1), (bv false)]), K, ?_⟩
  obtain rfl := Qe H
  exact ⟨rfl, SP.sel b [] rfl rfl⟩
 refine At.skip K ?_
 refine aC ?_
 refine iR 6 6 [(11, (sv p1)), (12, (sv p1)), (13, (iv (ln p1))), (14, (sv p2)), (15, (iv (ln p2))), (16, (iv (IntKind.wrap .i64 ((ln p1) - (ln p2)))))] ?_
 obtain ⟨h, l, m, H⟩ := G9 H
 obtain ⟨c, hyl13⟩ : ∃ y, (List.drop (Int.toNat 0) (List.take (Int.toNat (IntKind.wrap .i64 ((ln p1) - (ln p2)))) p1)) = y := ⟨_, rfl⟩
 rw [hyl13] at H
 refine iS 7 ?_
 refine Jp (a := p1) (T := 9) (x := (.tmp 11)) (lo := none) (hi := (some (.tmp 16))) (i := 0) (j := (IntKind.wrap .i64 ((ln p1) - (ln p2)))) (d := (some 17)) (k := 6) K rfl K K rfl ⟨.i64, K⟩ h l m ?_
 rw [hyl13]
 refine iR 2 9 [(4, (sv c)), (5, (bv true))] ?_
 refine iF ?_
 refine At.ret K ?_
 refine ⟨(.tuple #[(sv c), (bv true)]), K, ?_⟩
 obtain rfl := Qe H
 exact ⟨rfl, SP.sel b [] rfl rfl⟩
def Nh (p1 : (List UInt8)) (p2 : (List UInt8)) : Option ((List UInt8) × Bool) :=
  ((X7 p1 p2).bind fun z3 => (some (z3.1, z3.2)))
set_option maxHeartbeats 40000000 in
theorem C0  (p1 : Bs) (p2 : Bs) (w0 : World)  (r : (Bs × Bool)) (H : Nh p1 p2 = some r) :
  Calls Tryz.prog 90 #[(sv p1), (sv p2)] w0 (fun e W => e = .returned (.tuple #[(sv r.1), (bv r.2)]) ∧ SP [] w0 W []) := by
 unfold Nh at H
 refine Qt (n := 11) Tryz.func90 K K K ?_
 have a := Qw [] w0
 refine aC ?_
 refine iR 2 2 [(4, (sv ([] : Bs))), (5, (bv false))] ?_
 refine iF ?_
 refine aC ?_
 refine iR 2 2 [(6, (sv p1)), (7, (sv p2))] ?_
 obtain ⟨z3, b, H⟩ := Qd H
 refine iS 3 ?_
 refine cS a 141 #[(.tmp 6), (.tmp 7)] #[9, 9] 8 Tryz.call141 (R0  p1 p2 w0  z3 b) ?_
 intro w5 c
 refine iR 4 7 [(9, (sv z3.1)), (10, (bv z3.2)), (4, (sv z3.1)), (5, (bv z3.2))] ?_
 refine iF ?_
 refine At.ret K ?_
 refine ⟨(.tuple #[(sv z3.1), (bv z3.2)]), K, ?_⟩
 obtain rfl := Qe H
 exact ⟨rfl, SP.sel c [] rfl rfl⟩
end Go.Proofs.YtoflbpmbkmephaaGreatDoor
namespace Go.Proofs.YtoflbpmbkmephaaGreatDoor
open Go.RowKit
theorem B5 (c : UInt8) : ∀ s : List UInt8, (Q3 c s).length = s.count c + 1
  | [] => rfl
  | x :: r => by
    have ih := B5 c r
    unfold Q3
    by_cases h : x = c
    · subst h
      rw [if_pos rfl, List.length_cons, ih, List.count_cons_self]
    · rw [if_neg h, List.count_cons_of_ne h]
      cases hs : Q3 c r with
      | nil => exact absurd hs (U2 c r)
      | cons p ps => rw [hs] at ih; simpa using ih
theorem lIndex (s : List UInt8) (c : UInt8) : Dr s [c] = some (Lib.indexByte s c) := rfl
theorem Su {α : Type} (l : List α) (n : Nat) (x z : α) (h : 0 < n) : (l ++ List.replicate n z).set l.length x = l ++ x :: List.replicate (n - 1) z := by
  obtain ⟨m, rfl⟩ : ∃ m, n = m + 1 := ⟨n - 1, by omega⟩
  simp [List.replicate_succ]
theorem Sv {α : Type} (l : List α) (n : Nat) (z : α) (h : 0 < n) : (l ++ List.replicate n z)[l.length]? = some z := by
  obtain ⟨m, rfl⟩ : ∃ m, n = m + 1 := ⟨n - 1, by omega⟩
  simp [List.replicate_succ]
theorem split_end (done : List (List UInt8)) (r : List UInt8) (m : Nat) (hm : 0 < m) (hl : done.length + m ≤ 2000000) :
    Jg r (done ++ List.replicate m []) ((done.length : Nat) : Int) = some (done ++ [r]) := by
  unfold Jg
  rw [Hc, Sv done m [] hm]
  simp only [Option.bind_some, Int.toNat_natCast]
  rw [Su done m r [] hm, show IntKind.wrap .i64 (((done.length : Nat) : Int) + 1) = ((done.length + 1 : Nat) : Int) by rw [J5 (by omega)]; omega]
  have := Bn (done ++ r :: List.replicate (m - 1) []) (i := 0) (j := done.length + 1) (by omega) (by simp)
  rw [show ((0 : Nat) : Int) = 0 from rfl] at this
  rw [this, List.drop_zero, show done ++ r :: List.replicate (m - 1) [] = (done ++ [r]) ++ List.replicate (m - 1) [] by simp, List.take_left' (by simp)]
  rfl
theorem Tp (s : List UInt8) (c : UInt8) (M : Int) (hs : s.length ≤ 1000000) : ∀ (m : Nat) (r : List UInt8) (done : List (List UInt8)) (f : Nat), r.length ≤ 1000000 → (Q3 c r).length = m → m < f → done.length + m ≤ 2000000 → M = ((done.length + m : Nat) : Int) →
    Jh s [c] 0 M f r (done ++ List.replicate m []) ((done.length : Nat) : Int) = some (done ++ Q3 c r) ∨ ¬ (M ≤ ((s.length : Nat) : Int) + 1) := by
  intro m
  induction m with
  | zero =>
    intro r done f hr hm
    have := U2 c r
    simp at hm
    exact absurd hm this
  | succ m ih =>
    intro r done f hr hm hf hd hM
    by_cases hle : M ≤ ((s.length : Nat) : Int) + 1
    · left
      obtain ⟨f, rfl⟩ : ∃ g, f = g + 1 := ⟨f - 1, by omega⟩
      show Uj (Jh s [c] 0 M f) s [c] 0 M _ _ _ = _
      unfold Uj
      have hif : (if IntKind.wrap .i64 (((s.length : Nat) : Int) + 1) < M then IntKind.wrap .i64 (((s.length : Nat) : Int) + 1) else M) = M := by
        rw [J5 (by omega), if_neg (by omega)]
      rw [hif, hM, show IntKind.wrap .i64 (((done.length + (m + 1) : Nat) : Int) - 1) = ((done.length + m : Nat) : Int) by rw [J5 (by omega)]; omega]
      rcases Ng c r with ⟨h1, h2, h3⟩ | ⟨i, h1, h2, h3, h4, h5⟩
      · rw [h2] at hm
        have : m = 0 := by simpa using hm.symm
        subst this
        rw [show decide (((done.length : Nat) : Int) < ((done.length + 0 : Nat) : Int)) = false by rw [decide_eq_false_iff_not]; omega, h2]
        exact split_end done r 1 (by omega) (by omega)
      · rw [h5, List.length_cons] at hm
        have hm' : (Q3 c (r.drop (i + 1))).length = m := by omega
        have hpos : 0 < m := by
          have := U2 c (r.drop (i + 1))
          have : 0 < (Q3 c (r.drop (i + 1))).length := List.length_pos_iff.2 this
          omega
        rw [show decide (((done.length : Nat) : Int) < ((done.length + m : Nat) : Int)) = true by rw [decide_eq_true_eq]; omega, lIndex, h1]
        simp only [cond_true, Option.bind_some]
        rw [show decide ((i : Int) < 0) = false by rw [decide_eq_false_iff_not]; omega, Int.add_zero, Uy (by omega)]
        have s1 := Bn r (i := 0) (j := i) (by omega) (by omega)
        rw [show ((0 : Nat) : Int) = 0 from rfl] at s1
        have s2 := Bn r (i := i + 1) (j := r.length) (by omega) (by omega)
        rw [s1, Hc, Sv done (m + 1) [] (by omega), show IntKind.wrap .i64 ((i : Int) + ((([c] : List UInt8).length : Nat) : Int)) = ((i + 1 : Nat) : Int) by rw [J5 (by simp; omega)]; simp, s2]
        simp only [cond_false, Option.bind_some, Int.toNat_natCast, List.drop_zero, List.take_length]
        rw [Su done (m + 1) _ [] (by omega), show IntKind.wrap .i64 (((done.length : Nat) : Int) + 1) = ((done.length + 1 : Nat) : Int) by rw [J5 (by omega)]; omega]
        have := ih (r.drop (i + 1)) (done ++ [r.take i]) f (by rw [List.length_drop]; omega) hm' (by omega) (by simp; omega) (by rw [hM]; simp; omega)
        rcases this with this | this
        · rw [List.length_append, List.append_assoc] at this
          rw [show m + 1 - 1 = m by omega, h5, ← hM]
          refine Eq.trans ?_ (this.trans ?_)
          · rfl
          · simp
        · exact absurd hle this
    · exact .inr hle
theorem lSplit (s : List UInt8) (c : UInt8) (hs : s.length ≤ 1000000) : Rn s [c] = some (Q3 c s) := by
  unfold Rn Re
  have hc := B5 c s
  have hcl : s.count c ≤ s.length := List.count_le_length
  simp only [Dn, Lib.countByte]
  rw [show ((-1 : Int) == 0) = false from rfl, show (([c] : List UInt8) == []) = false from rfl, show decide ((-1 : Int) < 0) = true from rfl]
  simp only [cond_false, cond_true, Option.bind_some]
  rw [show IntKind.wrap .i64 (((s.count c : Nat) : Int) + 1) = (((Q3 c s).length : Nat) : Int) by rw [J5 (by omega), hc]; omega]
  unfold Uk
  have hif : (if IntKind.wrap .i64 (((s.length : Nat) : Int) + 1) < (((Q3 c s).length : Nat) : Int) then IntKind.wrap .i64 (((s.length : Nat) : Int) + 1) else (((Q3 c s).length : Nat) : Int)) = (((Q3 c s).length : Nat) : Int) := by
    rw [J5 (by omega), if_neg (by omega)]
  rw [hif, show decide (0 ≤ (((Q3 c s).length : Nat) : Int) ∧ (((Q3 c s).length : Nat) : Int) ≤ 2147483648) = true by rw [decide_eq_true_eq]; omega]
  simp only [chk, Option.bind_some, Int.toNat_natCast]
  have := Tp s c (((Q3 c s).length : Nat) : Int) hs (Q3 c s).length s [] Zj (by omega) rfl (by unfold Zj; omega) (by simp; omega) (by simp)
  rcases this with this | this
  · rw [List.nil_append, List.nil_append] at this
    rw [show ((([] : List (List UInt8)).length : Nat) : Int) = 0 from rfl] at this
    rw [this]
    rfl
  · omega
end Go.Proofs.YtoflbpmbkmephaaGreatDoor
namespace Go.Proofs.YtoflbpmbkmephaaGreatDoor
open Go.Lib (decDigits)
open Go.RowKit
theorem Fs (a : Nat) (ha : a < 4294967296) (f i : Nat) (out : List UInt8) (hi : i < 4) (ho : out.length ≤ 100) :
    Zl (a : Int) (f + 1) out (i : Int) = Zl (a : Int) f (out ++ decDigits (a / 2 ^ (8 * i) % 256) ++ (if 0 < i then [46] else [])) ((i : Int) - 1) := by
  show Ya (Zl (a : Int) f) (a : Int) out (i : Int) = _
  unfold Ya
  have w1 : IntKind.wrap .i64 (8 * (i : Int)) = ((8 * i : Nat) : Int) := by rw [J5 (by omega)]; omega
  have w2 : IntKind.wrap .i64 (Int.tmod (((a / 2 ^ (8 * i) : Nat) : Int)) 256) = ((a / 2 ^ (8 * i) % 256 : Nat) : Int) := by
    have := Hn (a / 2 ^ (8 * i)) 256
    rw [show ((256 : Nat) : Int) = 256 from rfl] at this
    rw [this]
    exact J5 (by omega)
  have w4 : IntKind.wrap .i64 ((i : Int) - 1) = (i : Int) - 1 := J5 (by omega)
  have hd := Ba (n := a / 2 ^ (8 * i) % 256) (by omega)
  rw [show decide ((i : Int) ≥ 0) = true by simp, w1, show decide (0 ≤ ((8 * i : Nat) : Int)) = true by (simp only [decide_eq_true_eq]; omega), bShr32 a _ (by omega), w2, Mi, Ss (by have := Nat.mod_lt (a / 2 ^ (8 * i)) (show 0 < 256 by omega); omega)]
  simp only [cond_true, chk, Option.bind_some]
  rw [Ur (by omega)]
  simp only [Option.bind_some]
  by_cases h0 : 0 < i
  · rw [show decide ((i : Int) > 0) = true by simp; omega, if_pos h0, Ur (by simp only [List.length_append, List.length_cons, List.length_nil]; omega)]
    simp only [cond_true, Option.bind_some, Jc, w4]
  · rw [show decide ((i : Int) > 0) = false by simp; omega, if_neg h0]
    simp only [cond_false, Jc, w4, List.append_nil]
theorem rDots (a : Nat) (ha : a < 4294967296) : Nx (a : Int) = some (I1 a) := by
  unfold Nx
  obtain ⟨f, hf⟩ : ∃ f, Zj = f + 1 + 1 + 1 + 1 + 1 := ⟨Zj - 5, by rw [Fg]⟩
  rw [hf]
  have d3 := Ba (n := a / 2 ^ (8 * 3) % 256) (by omega)
  have d2 := Ba (n := a / 2 ^ (8 * 2) % 256) (by omega)
  have d1 := Ba (n := a / 2 ^ (8 * 1) % 256) (by omega)
  have s0 := Fs a ha (f + 1 + 1 + 1 + 1) 3 [] (by omega) (by simp)
  have s1 := Fs a ha (f + 1 + 1 + 1) 2 _ (by omega) (show ([] ++ decDigits (a / 2 ^ (8 * 3) % 256) ++ [46]).length ≤ 100 by simp only [List.length_append, List.length_cons, List.length_nil]; omega)
  have s2 := Fs a ha (f + 1 + 1) 1 _ (by omega) (show ([] ++ decDigits (a / 2 ^ (8 * 3) % 256) ++ [46] ++ decDigits (a / 2 ^ (8 * 2) % 256) ++ [46]).length ≤ 100 by simp only [List.length_append, List.length_cons, List.length_nil]; omega)
  have s3 := Fs a ha (f + 1) 0 _ (by omega) (show ([] ++ decDigits (a / 2 ^ (8 * 3) % 256) ++ [46] ++ decDigits (a / 2 ^ (8 * 2) % 256) ++ [46] ++ decDigits (a / 2 ^ (8 * 1) % 256) ++ [46]).length ≤ 100 by simp only [List.length_append, List.length_cons, List.length_nil]; omega)
  refine s0.trans (s1.trans (s2.trans (s3.trans ?_)))
  show Ya (Zl (a : Int) f) (a : Int) _ (-1) = _
  unfold Ya
  show some _ = some _
  unfold I1
  simp
theorem rSlash (a : Nat) (ha : a < 4294967296) (b : Int) : Nd (a : Int) b = some (Cg a b) := by
  unfold Nd Cg
  rw [rRight a ha b]
  simp only [Option.bind_some]
  cases hr : Dm a b with
  | false => rfl
  | true =>
    obtain ⟨h0, h1⟩ := Eg hr
    have hl := Hq a
    have hd : Br b = decDigits b.toNat := by unfold Br; rw [if_pos (by omega)]
    have hd3 := Ba (n := b.toNat) (by omega)
    simp only [Bool.not_true, cond_false, rDots a ha, Option.bind_some, Mi, hd]
    rw [Ur (by simp only [List.length_cons, List.length_nil]; omega)]
    simp only [Option.bind_some]
    rw [Ur (by simp only [List.length_append, List.length_cons, List.length_nil]; omega)]
    simp
end Go.Proofs.YtoflbpmbkmephaaGreatDoor
namespace Go.Proofs.YtoflbpmbkmephaaGreatDoor
open Go.RowKit
def J7 (p1 : (List UInt8)) (p2 : (List UInt8)) : Option ((List UInt8) × (List UInt8) × Bool) :=
  ((Xw p1 p2).bind fun z3 => (cond (decide (z3 ≥ 0)) ((sub p1 0 z3).bind fun a => ((sub p1 (IntKind.wrap .i64 (z3 + ((List.length p2 : Nat) : Int))) ((List.length p1 : Nat) : Int)).bind fun b => (some (a, b, true)))) (some (p1, ([] : List UInt8), false))))
set_option maxHeartbeats 40000000 in
theorem D4  (p1 : Bs) (p2 : Bs) (w0 : World)  (r : (Bs × Bs × Bool)) (H : J7 p1 p2 = some r) :
  Calls Tryz.prog 160 #[(sv p1), (sv p2)] w0 (fun e W => e = .returned (.tuple #[(sv r.1), (sv r.2.1), (bv r.2.2)]) ∧ SP [] w0 W []) := by
 unfold J7 at H
 refine Qt (n := 23) Tryz.func160 K K K ?_
 have l := Qw [] w0
 refine aC ?_
 refine iR 3 3 [(4, (sv ([] : Bs))), (5, (sv ([] : Bs))), (6, (bv false))] ?_
 refine iF ?_
 refine aQ ?_
 refine aC ?_
 refine iR 2 2 [(8, (sv p1)), (9, (sv p2))] ?_
 obtain ⟨z3, m, H⟩ := Qd H
 refine iS 3 ?_
 refine cS l 182 #[(.tmp 8), (.tmp 9)] #[9, 9] 10 Tryz.call182 (N4  p1 p2 w0  z3 m) ?_
 intro w5 h
 refine iR 1 4 [(7, (iv z3))] ?_
 refine iF ?_
 refine aC ?_
 refine iR 2 2 [(11, (iv z3)), (12, (bv (decide (z3 ≥ 0))))] ?_
 refine iF ?_
 refine cD 12 H (fun H => ?_) fun H => ?_
 ·refine aQ ?_
  obtain ⟨o, p, q, H⟩ := G9 H
  obtain ⟨c, hyl13⟩ : ∃ y, (List.drop (Int.toNat 0) (List.take (Int.toNat z3) p1)) = y := ⟨_, rfl⟩
  rw [hyl13] at H
  obtain ⟨s, t, u, H⟩ := G9 H
  obtain ⟨f, hyl17⟩ : ∃ y, (List.drop (Int.toNat (IntKind.wrap .i64 (z3 + (ln p2)))) (List.take (Int.toNat (ln p1)) p1)) = y := ⟨_, rfl⟩
  rw [hyl17] at H
  refine aG [GEq (sv p1), GEq (iv z3), GEq (sv c), GEq (sv p1), GEq (iv z3), GEq (sv p2), GEq (iv (ln p2)), GEq (iv (IntKind.wrap .i64 (z3 + (ln p2)))), GEq (sv f), GEq (sv c), GEq (sv f), GEq (bv true)] [] (tG [] w0 [] [([], [])]) 12 0 ⟨trivial, SP.drew h⟩ ?_ ?_
  iterate 12 refine And.intro ?_ ?_
  exact trivial
  ·exact oU (hC (hS 0 (sv p1)) (h0))
  ·exact oU (hC (hS 7 (iv z3)) (h0))
  ·refine oL 0 ?_
   rintro P W hs b ⟨-, w⟩
   refine kM (kc (kA b 0 13) (kc (kA b 1 14) k0)) fun g => ?_
   refine Jp (a := p1) (T := 9) (x := (.tmp 13)) (lo := none) (hi := (some (.tmp 14))) (i := 0) (j := z3) (d := (some 15)) (k := 2) K rfl K K rfl ⟨.i64, K⟩ o p q ?_
   rw [hyl13]
   exact eK g
  ·exact oU (hC (hS 0 (sv p1)) (h0))
  ·exact oU (hC (hS 7 (iv z3)) (h0))
  ·exact oU (hC (hS 1 (sv p2)) (h0))
  ·exact oU (hC (hA 5 18) (h0))
  ·exact oU (hC (hA 4 17) (hC (hA 6 19) (h0)))
  ·refine oL 0 ?_
   rintro P W hs b ⟨-, z⟩
   refine kM (kc (kA b 3 16) (kc (kA b 7 20) k0)) fun g => ?_
   refine Jp (a := p1) (T := 9) (x := (.tmp 16)) (lo := (some (.tmp 20))) (hi := none) (i := (IntKind.wrap .i64 (z3 + (ln p2)))) (j := (ln p1)) (d := (some 21)) (k := 8) K rfl K K ⟨.i64, K⟩ rfl s t u ?_
   rw [hyl17]
   exact eK g
  ·exact oU (hC (hA 2 15) (h0))
  ·exact oU (hC (hA 8 21) (h0))
  ·exact Owe.run K [] trivial (bv true) (fun _ _ => K) rfl
  rintro P a0 hs hf ⟨-, v⟩
  refine Qy _ (kc (kF hf 9 4) (kc (kF hf 10 5) (kc (kF hf 11 6) k0))) ?_
  refine At.ret K ?_
  refine ⟨(.tuple #[(sv c), (sv f), (bv true)]), K, ?_⟩
  obtain rfl := Qe H
  exact ⟨rfl, SP.sel v [] rfl rfl⟩
 refine At.skip K ?_
 refine aC ?_
 refine iR 4 4 [(22, (sv p1)), (4, (sv p1)), (5, (sv ([] : Bs))), (6, (bv false))] ?_
 refine iF ?_
 refine At.ret K ?_
 refine ⟨(.tuple #[(sv p1), (sv ([] : Bs)), (bv false)]), K, ?_⟩
 obtain rfl := Qe H
 exact ⟨rfl, SP.sel h [] rfl rfl⟩
def Ds (p1 : (List UInt8)) (p2 : (List UInt8)) : Option ((List UInt8) × (List UInt8) × Bool) :=
  ((J7 p1 p2).bind fun z3 => (some (z3.1, z3.2.1, z3.2.2)))
set_option maxHeartbeats 40000000 in
theorem Hu  (p1 : Bs) (p2 : Bs) (w0 : World)  (r : (Bs × Bs × Bool)) (H : Ds p1 p2 = some r) :
  Calls Tryz.prog 137 #[(sv p1), (sv p2)] w0 (fun e W => e = .returned (.tuple #[(sv r.1), (sv r.2.1), (bv r.2.2)]) ∧ SP [] w0 W []) := by
 unfold Ds at H
 refine Qt (n := 13) Tryz.func137 K K K ?_
 have a := Qw [] w0
 refine aC ?_
 refine iR 3 3 [(4, (sv ([] : Bs))), (5, (sv ([] : Bs))), (6, (bv false))] ?_
 refine iF ?_
 refine aC ?_
 refine iR 2 2 [(7, (sv p1)), (8, (sv p2))] ?_
 obtain ⟨z3, b, H⟩ := Qd H
 refine iS 3 ?_
 refine cS a 160 #[(.tmp 7), (.tmp 8)] #[9, 9] 9 Tryz.call160 (D4  p1 p2 w0  z3 b) ?_
 intro w5 c
 refine iR 6 9 [(10, (sv z3.1)), (11, (sv z3.2.1)), (12, (bv z3.2.2)), (4, (sv z3.1)), (5, (sv z3.2.1)), (6, (bv z3.2.2))] ?_
 refine iF ?_
 refine At.ret K ?_
 refine ⟨(.tuple #[(sv z3.1), (sv z3.2.1), (bv z3.2.2)]), K, ?_⟩
 obtain rfl := Qe H
 exact ⟨rfl, SP.sel c [] rfl rfl⟩
def Ul (a : (Int × Bool)) (b : (Int × Bool)) (c : Bool) : Option (Int × Int × Bool) :=
  (cond c (some (0, 0, false)) (some (a.1, b.1, true)))
def Bh (p1 : (List UInt8)) : Option (Int × Int × Bool) :=
  ((Ds p1 ([47] : List UInt8)).bind fun z6 => ((Dq z6.1).bind fun b => ((D1 z6.2.1).bind fun a => (cond (!z6.2.2) (Ul b a true) (cond (!b.2) (Ul b a true) (cond (!a.2) (Ul b a true) (cond (decide (a.1 > 32)) (Ul b a true) ((G4 b.1 a.1).bind fun c => (Ul b a (!c))))))))))
set_option maxHeartbeats 40000000 in
theorem Ib  (p1 : Bs) (w0 : World) (hL : Be w0)  (r : (Int × Int × Bool)) (H : Bh p1 = some r) :
  Calls Tryz.prog 165 #[(sv p1)] w0 (fun e W => e = .returned (.tuple #[(.agg #[(.int .u32 r.1), (iv r.2.1)]), (bv r.2.2)]) ∧ SP [] w0 W []) := by
 unfold Bh at H
 refine Qt (n := 52) Tryz.func165 K K K ?_
 have p := Qw [] w0
 refine aC ?_
 refine iS 1 ?_
 refine zA 102 (.agg #[(.int .u32 0), (iv 0)]) 2 p ?_
 intro g2 w3 q
 refine iR 1 2 [(3, (bv false))] ?_
 refine iF ?_
 refine aC ?_
 refine iR 1 1 [(12, (sv p1))] ?_
 obtain ⟨z6, s, H⟩ := Qd H
 refine iS 2 ?_
 refine cS q 137 #[(.tmp 12), (.const (.string ⟨List.toArray ([47] : Bs)⟩))] #[9, 9] 13 Tryz.call137 (Hu  p1 ([47] : Bs) w3  z6 s) ?_
 intro w8 j
 refine iR 7 9 [(11, (.tuple #[(sv z6.1), (sv z6.2.1), (bv z6.2.2)])), (14, (sv z6.1)), (15, (sv z6.2.1)), (16, (bv z6.2.2)), (4, (sv z6.1)), (5, (sv z6.2.1)), (6, (bv z6.2.2))] ?_
 refine iF ?_
 refine aC ?_
 refine iR 1 1 [(18, (sv z6.1))] ?_
 obtain ⟨c, u, H⟩ := Qd H
 refine iS 2 ?_
 refine cS j 157 #[(.tmp 18)] #[9] 19 Tryz.call157 (Ht  z6.1 w8 (Q4 hL (SP.keeps j)) c u) ?_
 intro v k
 refine iR 5 7 [(17, (.tuple #[(.int .u32 c.1), (bv c.2)])), (20, (.int .u32 c.1)), (21, (bv c.2)), (7, (.int .u32 c.1)), (8, (bv c.2))] ?_
 refine iF ?_
 refine aC ?_
 refine iR 1 1 [(23, (sv z6.2.1))] ?_
 obtain ⟨b, x, H⟩ := Qd H
 refine iS 2 ?_
 refine cS k 135 #[(.tmp 23)] #[9] 24 Tryz.call135 (Ns  z6.2.1 v (Q4 hL (SP.keeps k)) b x) ?_
 intro y d
 refine iR 5 7 [(22, (.tuple #[(iv b.1), (bv b.2)])), (25, (iv b.1)), (26, (bv b.2)), (9, (iv b.1)), (10, (bv b.2))] ?_
 refine iF ?_
 refine aQ ?_
 refine aQ ?_
 refine At.join (fun ρ w => ∃ (h : Bool), Vq ρ [(2, (pt g2 0)), (7, (.int .u32 c.1)), (9, (iv b.1)), (47, (bv h))] ∧ SP [] w0 w [Qs g2 102 #[(.int .u32 0), (iv 0)]] ∧ Ul c b h = some r) ?_ ?_
 ·refine aR ?_
  refine iR 3 3 [(27, (bv z6.2.2)), (28, (bv (!z6.2.2))), (29, (bv (!z6.2.2)))] ?_
  refine gD 29 H (fun H => ?_) fun H => ?_
  ·refine iR 18 21 (uN 30 2 ((32, (bv true)) :: (33, (bv true)) :: (uN 34 2 ((36, (bv true)) :: (37, (bv true)) :: (uN 38 2 ((40, (bv true)) :: (41, (bv true)) :: (uN 42 5 [(47, (bv true))]))))))) ?_
   refine iF ?_
   exact ⟨true, ⟨K, K, K, K, trivial⟩, SP.sel d [0] rfl rfl, H⟩
  refine iR 4 7 [(30, (bv c.2)), (31, (bv (!c.2))), (32, (bv (!c.2))), (33, (bv (!c.2)))] ?_
  refine gD 33 H (fun H => ?_) fun H => ?_
  ·refine iR 14 21 (uN 34 2 ((36, (bv true)) :: (37, (bv true)) :: (uN 38 2 ((40, (bv true)) :: (41, (bv true)) :: (uN 42 5 [(47, (bv true))]))))) ?_
   refine iF ?_
   exact ⟨true, ⟨K, K, K, K, trivial⟩, SP.sel d [0] rfl rfl, H⟩
  refine iR 4 11 [(34, (bv b.2)), (35, (bv (!b.2))), (36, (bv (!b.2))), (37, (bv (!b.2)))] ?_
  refine gD 37 H (fun H => ?_) fun H => ?_
  ·refine iR 10 21 (uN 38 2 ((40, (bv true)) :: (41, (bv true)) :: (uN 42 5 [(47, (bv true))]))) ?_
   refine iF ?_
   exact ⟨true, ⟨K, K, K, K, trivial⟩, SP.sel d [0] rfl rfl, H⟩
  refine iR 4 15 [(38, (iv b.1)), (39, (bv (decide (b.1 > 32)))), (40, (bv (decide (b.1 > 32)))), (41, (bv (decide (b.1 > 32))))] ?_
  refine gD 41 H (fun H => ?_) fun H => ?_
  ·refine iR 6 21 (uN 42 5 [(47, (bv true))]) ?_
   refine iF ?_
   exact ⟨true, ⟨K, K, K, K, trivial⟩, SP.sel d [0] rfl rfl, H⟩
  refine iR 3 18 [(42, (.int .u32 c.1)), (43, (iv b.1)), (44, (.agg #[(.int .u32 c.1), (iv b.1)]))] ?_
  obtain ⟨f, z, H⟩ := Qd H
  refine iS 19 ?_
  refine cS d 108 #[(.tmp 44)] #[102] 45 Tryz.call108 (B0  c.1 b.1 y  f z) ?_
  intro a1 a0
  refine iR 2 21 [(46, (bv (!f))), (47, (bv (!f)))] ?_
  refine iF ?_
  exact ⟨(!f), ⟨K, K, K, K, trivial⟩, SP.sel a0 [0] rfl rfl, H⟩
 rintro ρ a2 ⟨h, hk, l, H⟩
 unfold Ul at H
 first | refine At.known _ hk ?_ | rw [← Qo hk]
 refine cD 47 H (fun H => ?_) fun H => ?_
 ·refine aC ?_
  refine iR 1 1 [(48, (.agg #[(.int .u32 0), (iv 0)]))] ?_
  refine iS 2 ?_
  refine zT 102 (.tmp 2) (.tmp 48) g2 0 0 (.agg #[(.int .u32 0), (iv 0)]) #[(.int .u32 0), (iv 0)] none l ?_
  intro a3 m
  refine iR 1 3 [(3, (bv false))] ?_
  refine iF ?_
  refine At.ret K ?_
  refine ⟨(.tuple #[(.agg #[(.int .u32 0), (iv 0)]), (bv false)]), Cl K (Uf (a := 2) (t := 102) (g := g2) (off := 0) K (SP.get m (i := 0) rfl) K) (Nv (t := 3) K), ?_⟩
  obtain rfl := Qe H
  exact ⟨rfl, SP.sel m [] rfl rfl⟩
 refine At.skip K ?_
 refine aC ?_
 refine iR 3 3 [(49, (.int .u32 c.1)), (50, (iv b.1)), (51, (.agg #[(.int .u32 c.1), (iv b.1)]))] ?_
 refine iS 4 ?_
 refine zT 102 (.tmp 2) (.tmp 51) g2 0 0 (.agg #[(.int .u32 c.1), (iv b.1)]) #[(.int .u32 c.1), (iv b.1)] none l ?_
 intro a4 o
 refine iR 1 5 [(3, (bv true))] ?_
 refine iF ?_
 refine At.ret K ?_
 refine ⟨(.tuple #[(.agg #[(.int .u32 c.1), (iv b.1)]), (bv true)]), Cl K (Uf (a := 2) (t := 102) (g := g2) (off := 0) K (SP.get o (i := 0) rfl) K) (Nv (t := 3) K), ?_⟩
 obtain rfl := Qe H
 exact ⟨rfl, SP.sel o [] rfl rfl⟩
end Go.Proofs.YtoflbpmbkmephaaGreatDoor
namespace Go.Proofs.YtoflbpmbkmephaaGreatDoor
open Go.Lib (decDigits)
def Mt (c : UInt8) (s : List UInt8) : List UInt8 × List UInt8 × Bool := if Lib.indexByte s c < 0 then (s, [], false) else (s.take (Lib.indexByte s c).toNat, s.drop ((Lib.indexByte s c).toNat + 1), true)
theorem lCut (c : UInt8) (s : List UInt8) (hs : s.length ≤ 9000) : Ds s [c] = some (Mt c s) := by
  unfold Ds J7 Xw Mt
  simp only [Option.bind_some]
  rcases Ng c s with ⟨h1, _, _⟩ | ⟨i, h1, h2, _, _, _⟩
  · rw [h1]; rfl
  · rw [h1, show decide ((i : Int) ≥ 0) = true by simp, if_neg (by omega), Int.toNat_natCast]
    have w : IntKind.wrap .i64 ((i : Int) + ((List.length [c] : Nat) : Int)) = ((i + 1 : Nat) : Int) := by simp only [List.length_cons, List.length_nil]; rw [J5 (by omega)]; omega
    have s1 : sub s 0 ((i : Nat) : Int) = some (s.take i) := Bn s (i := 0) (j := i) (by omega) (by omega)
    have s2 : sub s ((i + 1 : Nat) : Int) ((s.length : Nat) : Int) = some (s.drop (i + 1)) := by rw [Bn s (by omega) (Nat.le_refl _), List.take_length]
    rw [w]
    simp only [cond_true, s1, s2, Option.bind_some]
theorem rCut_loop (c : UInt8) (s : List UInt8) (hs : s.length ≤ 9000) : ∀ (d k f : Nat), d = s.length - k → k ≤ s.length → d < f → c ∉ s.take k → Yp s c f ((k : Nat) : Int) = some (Mt c s) := by
  intro d
  induction d with
  | zero =>
    intro k f hd hk hf hn
    obtain ⟨f, rfl⟩ : ∃ g, f = g + 1 := ⟨f - 1, by omega⟩
    show Yo (Yp s c f) s c _ = _
    unfold Yo Mt
    rw [List.take_of_length_le (by omega)] at hn
    rw [show decide (((k : Nat) : Int) < ((List.length s : Nat) : Int)) = false by simp; omega]
    rcases Ng c s with ⟨h1, _, _⟩ | ⟨i, h1, h2, h3, _, _⟩
    · rw [h1]; rfl
    · exact absurd (List.mem_of_getElem? h3) hn
  | succ d ih =>
    intro k f hd hk hf hn
    obtain ⟨f, rfl⟩ : ∃ g, f = g + 1 := ⟨f - 1, by omega⟩
    have hlt : k < s.length := by omega
    show Yo (Yp s c f) s c _ = _
    unfold Yo
    have w4 : IntKind.wrap .i64 ((k : Int) + 1) = ((k + 1 : Nat) : Int) := by rw [J5 (by omega)]; omega
    rw [show decide (((k : Nat) : Int) < ((List.length s : Nat) : Int)) = true by simp; omega, show idx s ((k : Nat) : Int) = some s[k] from Zr hlt]
    simp only [cond_true, Option.bind_some, w4]
    by_cases hc : s[k] = c
    · rw [show (((s[k].toNat : Nat) : Int) == ((c.toNat : Nat) : Int)) = true by rw [hc]; simp]
      have s1 : sub s 0 ((k : Nat) : Int) = some (s.take k) := Bn s (i := 0) (j := k) (by omega) (by omega)
      have s2 : sub s ((k + 1 : Nat) : Int) ((s.length : Nat) : Int) = some (s.drop (k + 1)) := by rw [Bn s (by omega) (Nat.le_refl _), List.take_length]
      simp only [cond_true, s1, s2, Option.bind_some]
      unfold Mt
      rcases Ng c s with ⟨h1, _, h3⟩ | ⟨i, h1, h2, h3, h4, _⟩
      · exact absurd (by rw [← hc]; exact List.getElem_mem hlt) h3
      · have hik : i = k := by
          rcases Nat.lt_trichotomy i k with h | h | h
          · exfalso
            refine hn (List.mem_of_getElem? (i := i) ?_)
            rw [List.getElem?_take, if_pos h]
            exact h3
          · exact h
          · exfalso
            refine h4 (List.mem_of_getElem? (i := k) ?_)
            rw [List.getElem?_take, if_pos h, List.getElem?_eq_getElem hlt, hc]
        subst hik
        rw [h1, if_neg (by omega), Int.toNat_natCast]
    · rw [show (((s[k].toNat : Nat) : Int) == ((c.toNat : Nat) : Int)) = false by
        rw [beq_eq_false_iff_ne]
        intro e
        exact hc (UInt8.toNat_inj.1 (by omega))]
      refine ih (k + 1) f (by omega) (by omega) (by omega) ?_
      rw [List.take_succ_eq_append_getElem hlt, List.mem_append, List.mem_singleton]
      rintro (h | h)
      · exact hn h
      · exact hc h.symm
theorem rCut (c : UInt8) (s : List UInt8) (hs : s.length ≤ 9000) : U9 s c = some (Mt c s) := by
  unfold U9
  exact rCut_loop c s hs s.length 0 Zj (by omega) (by omega) (by rw [Fg]; omega) (by simp)
def finA (st : Option (Nat × Nat)) : Option Nat := match st with | none => none | some (a, m) => if m = 4 then some a else none
theorem Oo (s : List UInt8) : Bo s = finA ((Q3 46 s).foldl Xc (some (0, 0))) := rfl
theorem Kr (ps : List (List UInt8)) : finA (ps.foldl Xc none) = none := by rw [Do]; rfl
theorem Oq {a m : Nat} {p : List UInt8} (h : Q9 p = none) : Xc (some (a, m)) p = none := by simp only [Xc, h]
theorem Sw {a m n : Nat} {p : List UInt8} (h : Q9 p = some n) (hn : 255 < n) : Xc (some (a, m)) p = none := by simp only [Xc, h, if_pos (Or.inl hn : 255 < n ∨ 4 ≤ m)]
theorem step_many {a m : Nat} {p : List UInt8} (hm : 4 ≤ m) : Xc (some (a, m)) p = none := by
  unfold Xc
  cases Q9 p with
  | none => rfl
  | some n => exact if_pos (Or.inr hm)
theorem Ot {a m n : Nat} {p : List UInt8} (h : Q9 p = some n) (hn : n ≤ 255) (hm : m < 4) : Xc (some (a, m)) p = some (a * 256 + n, m + 1) := by simp only [Xc, h, if_neg (by omega : ¬ (255 < n ∨ 4 ≤ m))]
theorem Tq : ∀ (d i f a : Nat) (v : List UInt8), d = 4 - i → i ≤ 3 → d < f → a < 256 ^ i → v.length ≤ 9000 → Yb f v (a : Int) (i : Int) = some (Lc (finA ((Q3 46 v).foldl Xc (some (a, i))))) := by
  intro d
  induction d with
  | zero => intro i f a v hd hi; omega
  | succ d ih =>
    intro i f a v hd hi hf ha hv
    obtain ⟨f, rfl⟩ : ∃ g, f = g + 1 := ⟨f - 1, by omega⟩
    show Ug (Yb f) v (a : Int) (i : Int) = _
    unfold Ug Jd
    rw [show decide ((i : Int) < 4) = true by simp; omega, rCut 46 v hv]
    simp only [cond_true, Option.bind_some]
    have hp3 : a < 16777216 := by
      have h3 := Nat.pow_le_pow_right (show 0 < 256 by omega) hi
      have h6 : (256 : Nat) ^ 3 = 16777216 := by decide
      omega
    have wa : ∀ n : Nat, n ≤ 255 → IntKind.wrap .u32 (IntKind.wrap .u32 (256 * (a : Int)) + IntKind.wrap .u32 ((n : Nat) : Int)) = ((a * 256 + n : Nat) : Int) := fun n hn => by
      rw [Kl, Kl, Kl]; omega
    have w4 : IntKind.wrap .i64 ((i : Int) + 1) = ((i + 1 : Nat) : Int) := by rw [J5 (by omega)]; omega
    have d3 : decide ((i : Int) < 3) = decide (i < 3) := by rw [decide_eq_decide]; omega
    unfold Mt
    rcases Ng 46 v with ⟨h1, h2, _⟩ | ⟨k, h1, h2, h3, h4, h5⟩
    · rw [h1, h2]
      simp only [show ((-1 : Int) < 0) from by omega, if_true, Om v (by unfold maxLen; omega), Option.bind_some, List.foldl_cons, List.foldl_nil, d3, w4]
      rcases Option.eq_none_or_eq_some (Q9 v) with hp | ⟨n, hp⟩
      · rw [Oq hp, show (U0 (Q9 v)).2 = false by rw [hp]; rfl]
        rfl
      · rw [show decide ((U0 (Q9 v)).1 > 255) = decide (255 < n) by rw [decide_eq_decide, hp]; show ((n : Int) > 255) ↔ _; omega, show (U0 (Q9 v)).2 = true by rw [hp]; rfl, show (U0 (Q9 v)).1 = (n : Int) by rw [hp]; rfl]
        simp only [Bool.not_true, cond_false]
        by_cases hn : 255 < n
        · rw [Sw hp hn, decide_eq_true hn]
          rfl
        · rw [Ot hp (by omega) (by omega), decide_eq_false hn, wa n (by omega)]
          by_cases hi3 : i < 3
          · rw [decide_eq_true hi3]
            simp only [finA, if_neg (show ¬ i + 1 = 4 by omega)]
            rfl
          · rw [decide_eq_false hi3]
            have hi4 : i = 3 := by omega
            subst hi4
            simp only [finA, if_true]
            obtain ⟨f, rfl⟩ : ∃ g, f = g + 1 := ⟨f - 1, by omega⟩
            rfl
    · rw [h1, h5]
      have hk0 : ¬ ((k : Int) < 0) := by omega
      have htl : (v.take k).length ≤ maxLen := by unfold maxLen; rw [List.length_take]; omega
      simp only [hk0, if_false, Int.toNat_natCast, Om (v.take k) htl, Option.bind_some, List.foldl_cons, d3, w4]
      rcases Option.eq_none_or_eq_some (Q9 (v.take k)) with hp | ⟨n, hp⟩
      · rw [Oq hp, Kr, show (U0 (Q9 (v.take k))).2 = false by rw [hp]; rfl]
        rfl
      · rw [show decide ((U0 (Q9 (v.take k))).1 > 255) = decide (255 < n) by rw [decide_eq_decide, hp]; show ((n : Int) > 255) ↔ _; omega, show (U0 (Q9 (v.take k))).2 = true by rw [hp]; rfl, show (U0 (Q9 (v.take k))).1 = (n : Int) by rw [hp]; rfl]
        simp only [Bool.not_true, cond_false]
        by_cases hn : 255 < n
        · rw [Sw hp hn, Kr, decide_eq_true hn]
          rfl
        · rw [Ot hp (by omega) (by omega), decide_eq_false hn, wa n (by omega)]
          by_cases hi3 : i < 3
          · rw [decide_eq_true hi3]
            exact ih (i + 1) f (a * 256 + n) (v.drop (k + 1)) (by omega) (by omega) (by omega) (by rw [Nat.pow_succ]; omega) (by rw [List.length_drop]; omega)
          · rw [decide_eq_false hi3]
            have hi4 : i = 3 := by omega
            subst hi4
            cases hsp : Q3 46 (v.drop (k + 1)) with
            | nil => exact absurd hsp (U2 _ _)
            | cons q qs =>
              rw [List.foldl_cons, step_many (by omega), Kr]
              rfl
theorem rAddr (s : List UInt8) (hs : s.length ≤ 9000) : Ny s = some (Lc (Bo s)) := by
  unfold Ny
  rw [Oo]
  exact Tq 4 0 Zj 0 s (by omega) (by omega) (by rw [Fg]; omega) (by decide) hs
theorem lAddr (s : List UInt8) (hs : s.length ≤ 9000) : Dq s = some (Lc (Bo s)) := by
  unfold Dq
  rw [Nat.ble_eq_true_of_le (by omega)]
  rfl
theorem Mk {s : List UInt8} {a : Nat} (h : Bo s = some a) : a < 4294967296 := by
  unfold Bo at h
  cases hst : B4 (Q3 46 s) with
  | none => rw [hst] at h; cases h
  | some x =>
    obtain ⟨b, m⟩ := x
    rw [hst] at h
    simp only at h
    by_cases hm : m = 4
    · rw [if_pos hm] at h
      injection h with h
      subst h
      have := (On hst).2
      rw [hm] at this
      have h6 : (256 : Nat) ^ 4 = 4294967296 := by decide
      omega
    · rw [if_neg hm] at h; cases h
def Pz (s : List UInt8) : Option (Nat × Nat) :=
  match (Mt 47 s).2.2, Bo (Mt 47 s).1, Q9 (Mt 47 s).2.1 with
  | true, some a, some n => if n ≤ 32 ∧ Dm a (n : Int) = true then some (a, n) else none
  | _, _, _ => none
def netD (x : Option (Nat × Nat)) : Int × Int × Bool := match x with | none => (0, 0, false) | some (a, n) => ((a : Int), (n : Int), true)
theorem Sx (c : UInt8) (s : List UInt8) : (Mt c s).1.length ≤ s.length ∧ (Mt c s).2.1.length ≤ s.length := by
  unfold Mt
  split
  · simp
  · simp only [List.length_take, List.length_drop]; omega
theorem lNet (s : List UInt8) (hs : s.length ≤ 9000) : Bh s = some (netD (Pz s)) := by
  have hl := Sx 47 s
  unfold Bh Pz Ul
  rw [lCut 47 s hs]
  simp only [Option.bind_some]
  generalize Mt 47 s = z at hl ⊢
  obtain ⟨x, y, b⟩ := z
  simp only at hl
  rw [lAddr x (by omega), lParse y (by omega)]
  simp only [Option.bind_some]
  cases b with
  | false => rfl
  | true =>
    rcases Option.eq_none_or_eq_some (Bo x) with hx | ⟨a, hx⟩
    · rw [show (Lc (Bo x)).2 = false by rw [hx]; rfl, hx]; rfl
    · rw [show (Lc (Bo x)).2 = true by rw [hx]; rfl, show (Lc (Bo x)).1 = (a : Int) by rw [hx]; rfl, hx]
      rcases Option.eq_none_or_eq_some (Q9 y) with hy | ⟨n, hy⟩
      · rw [show (U0 (Q9 y)).2 = false by rw [hy]; rfl, hy]; rfl
      · rw [show decide ((U0 (Q9 y)).1 > 32) = decide (32 < n) by rw [decide_eq_decide, hy]; show ((n : Int) > 32) ↔ _; omega, show (U0 (Q9 y)).2 = true by rw [hy]; rfl, show (U0 (Q9 y)).1 = (n : Int) by rw [hy]; rfl, hy]
        simp only [Bool.not_true, cond_false]
        by_cases hn : n ≤ 32
        · rw [decide_eq_false (by omega : ¬ 32 < n), lRight a (Mk hx)]
          simp only [cond_false, Option.bind_some]
          cases hr : Dm a (n : Int) with
          | true => rw [if_pos ⟨hn, rfl⟩]; rfl
          | false => rw [if_neg (by rintro ⟨_, h⟩; cases h)]; rfl
        · rw [decide_eq_true (by omega : 32 < n), if_neg (fun h => hn h.1)]
          rfl
theorem rNet (s : List UInt8) (hs : s.length ≤ 9000) : Gh s = some (netD (Pz s)) := by
  have hl := Sx 47 s
  unfold Gh Pz Xf
  rw [rCut 47 s hs]
  simp only [Option.bind_some]
  generalize Mt 47 s = z at hl ⊢
  obtain ⟨x, y, b⟩ := z
  simp only at hl
  rw [rAddr x (by omega), Om y (by unfold maxLen; omega)]
  simp only [Option.bind_some]
  cases b with
  | false => rfl
  | true =>
    rcases Option.eq_none_or_eq_some (Bo x) with hx | ⟨a, hx⟩
    · rw [show (Lc (Bo x)).2 = false by rw [hx]; rfl, hx]; rfl
    · rw [show (Lc (Bo x)).2 = true by rw [hx]; rfl, show (Lc (Bo x)).1 = (a : Int) by rw [hx]; rfl, hx]
      rcases Option.eq_none_or_eq_some (Q9 y) with hy | ⟨n, hy⟩
      · rw [show (U0 (Q9 y)).2 = false by rw [hy]; rfl, hy]; rfl
      · rw [show decide ((U0 (Q9 y)).1 > 32) = decide (32 < n) by rw [decide_eq_decide, hy]; show ((n : Int) > 32) ↔ _; omega, show (U0 (Q9 y)).2 = true by rw [hy]; rfl, show (U0 (Q9 y)).1 = (n : Int) by rw [hy]; rfl, hy]
        simp only [Bool.not_true, cond_false]
        by_cases hn : n ≤ 32
        · rw [decide_eq_false (by omega : ¬ 32 < n), rRight a (Mk hx)]
          simp only [cond_false, Option.bind_some]
          cases hr : Dm a (n : Int) with
          | true => rw [if_pos ⟨hn, rfl⟩]; rfl
          | false => rw [if_neg (by rintro ⟨_, h⟩; cases h)]; rfl
        · rw [decide_eq_true (by omega : 32 < n), if_neg (fun h => hn h.1)]
          rfl
theorem Lt (c : UInt8) : ∀ (x r : List UInt8), c ∉ x → Q3 c (x ++ c :: r) = x :: Q3 c r
  | [], r, _ => by simp [Q3]
  | y :: x, r, h => by
    have hy : y ≠ c := fun e => h (by simp [e])
    have ih := Lt c x r (fun hm => h (by simp [hm]))
    rw [List.cons_append]
    conv => lhs; unfold Q3
    rw [if_neg hy, ih]
theorem Ic (c : UInt8) : ∀ (x : List UInt8), c ∉ x → Q3 c x = [x]
  | [], _ => rfl
  | y :: x, h => by
    have hy : y ≠ c := fun e => h (by simp [e])
    have ih := Ic c x (fun hm => h (by simp [hm]))
    unfold Q3
    rw [if_neg hy, ih]
def C1 (c : UInt8) : List (List UInt8) → List UInt8
  | [] => []
  | [p] => p
  | p :: q :: ps => p ++ c :: C1 c (q :: ps)
theorem Ft (c : UInt8) : ∀ s : List UInt8, C1 c (Q3 c s) = s
  | [] => rfl
  | x :: r => by
    have ih := Ft c r
    unfold Q3
    by_cases h : x = c
    · rw [if_pos h]
      cases hs : Q3 c r with
      | nil => exact absurd hs (U2 c r)
      | cons p ps => rw [hs] at ih; show [] ++ c :: C1 c (p :: ps) = _; rw [ih, h]; rfl
    · rw [if_neg h]
      cases hs : Q3 c r with
      | nil => exact absurd hs (U2 c r)
      | cons p ps =>
        rw [hs] at ih
        simp only
        cases ps with
        | nil => rw [← ih]; rfl
        | cons q qs => rw [← ih]; rfl
theorem Hv {st : Option (Nat × Nat)} {p : List UInt8} {a m : Nat} (h : Xc st p = some (a, m)) : ∃ a0 n, st = some (a0, m - 1) ∧ 1 ≤ m ∧ Q9 p = some n ∧ n ≤ 255 ∧ a = a0 * 256 + n := by
  unfold Xc at h
  cases st with
  | none => cases h
  | some x =>
    obtain ⟨a0, m0⟩ := x
    simp only at h
    cases hp : Q9 p with
    | none => rw [hp] at h; cases h
    | some n =>
      rw [hp] at h
      simp only at h
      by_cases hc : 255 < n ∨ 4 ≤ m0
      · rw [if_pos hc] at h; cases h
      · rw [if_neg hc] at h
        injection h with h
        injection h with h1 h2
        exact ⟨a0, n, by rw [← h2]; rfl, by omega, rfl, by omega, h1.symm⟩
theorem Lu : ∀ (ps : List (List UInt8)) (a0 m0 a m : Nat), ps.foldl Xc (some (a0, m0)) = some (a, m) → m = m0 + ps.length
  | [], a0, m0, a, m, h => by simp only [List.foldl_nil, Option.some.injEq, Prod.mk.injEq] at h; rw [List.length_nil]; omega
  | p :: ps, a0, m0, a, m, h => by
    rw [List.foldl_cons] at h
    cases hs : Xc (some (a0, m0)) p with
    | none => rw [hs, Do] at h; cases h
    | some x =>
      obtain ⟨a1, m1⟩ := x
      rw [hs] at h
      have := Lu ps a1 m1 a m h
      obtain ⟨a2, n, h1, h2, _⟩ := Hv hs
      injection h1 with h1
      injection h1 with _ h1
      rw [List.length_cons]
      omega
theorem dots_addr {s : List UInt8} {a : Nat} (h : Bo s = some a) : I1 a = s := by
  rw [Oo] at h
  cases hst : (Q3 46 s).foldl Xc (some (0, 0)) with
  | none => rw [hst] at h; cases h
  | some x =>
    obtain ⟨b, m⟩ := x
    rw [hst] at h
    simp only [finA] at h
    by_cases hm : m = 4
    · rw [if_pos hm] at h
      injection h with h
      subst h hm
      have hlen := Lu _ _ _ _ _ hst
      have hj := Ft 46 s
      generalize Q3 46 s = ps at hst hlen hj
      match ps, hlen with
      | [p0, p1, p2, p3], _ =>
        simp only [List.foldl_cons, List.foldl_nil] at hst
        obtain ⟨a3, n3, h3, _, e3, l3, v3⟩ := Hv hst
        obtain ⟨a2, n2, h2, _, e2, l2, v2⟩ := Hv h3
        obtain ⟨a1, n1, h1, _, e1, l1, v1⟩ := Hv h2
        obtain ⟨a0, n0, h0, _, e0, l0, v0⟩ := Hv h1
        injection h0 with h0
        injection h0 with h0 _
        have q0 := (Cv e0).1
        have q1 := (Cv e1).1
        have q2 := (Cv e2).1
        have q3 := (Cv e3).1
        rw [← hj]
        show I1 b = p0 ++ 46 :: (p1 ++ 46 :: (p2 ++ 46 :: p3))
        unfold I1
        rw [show b / 16777216 % 256 = n0 by omega, show b / 65536 % 256 = n1 by omega, show b / 256 % 256 = n2 by omega, show b % 256 = n3 by omega, q0, q1, q2, q3]
    · rw [if_neg hm] at h; cases h
theorem cutL_true {c : UInt8} {s x y : List UInt8} (h : Mt c s = (x, y, true)) : s = x ++ c :: y := by
  unfold Mt at h
  rcases Ng c s with ⟨h1, _, _⟩ | ⟨i, h1, h2, h3, _, _⟩
  · rw [h1, if_pos (by omega)] at h
    simp at h
  · rw [h1, if_neg (by omega), Int.toNat_natCast] at h
    injection h with hx h
    injection h with hy _
    subst hx hy
    have hc : s[i] = c := by rw [List.getElem?_eq_getElem h2] at h3; exact Option.some.inj h3
    rw [← hc, ← List.drop_eq_getElem_cons h2, List.take_append_drop]
theorem Ou {s : List UInt8} {a n : Nat} (h : Pz s = some (a, n)) : Cg a (n : Int) = s ∧ (47 : UInt8) ∈ s ∧ a < 4294967296 := by
  unfold Pz at h
  cases hz : Mt 47 s with
  | mk x yb =>
    obtain ⟨y, b⟩ := yb
    rw [hz] at h
    simp only at h
    cases b with
    | false => cases h
    | true =>
      have hs := cutL_true hz
      cases hx : Bo x with
      | none => rw [hx] at h; cases h
      | some a' =>
        cases hy : Q9 y with
        | none => rw [hx, hy] at h; cases h
        | some n' =>
          rw [hx, hy] at h
          simp only at h
          by_cases hc : n' ≤ 32 ∧ Dm a' (n' : Int) = true
          · rw [if_pos hc] at h
            injection h with h
            injection h with h1 h2
            subst h1 h2
            refine ⟨?_, by rw [hs]; simp, Mk hx⟩
            unfold Cg
            rw [hc.2, Int.toNat_natCast, dots_addr hx, (Cv hy).1, ← hs]
          · rw [if_neg hc] at h; cases h
end Go.Proofs.YtoflbpmbkmephaaGreatDoor
namespace Go.Proofs.YtoflbpmbkmephaaGreatDoor
open Go.RowKit
def Ni (e : (List UInt8) → Int → Option ((List UInt8))) (p1 : (List UInt8)) (b : (List UInt8)) (a : Int) : Option ((List UInt8)) :=
  (cond (decide (a < ((List.length p1 : Nat) : Int))) ((idx p1 a).bind fun c => ((idx ([48, 49, 50, 51, 52, 53, 54, 55, 56, 57, 97, 98, 99, 100, 101, 102] : List UInt8) (Ip .u8 ((c).toNat : Int) 4)).bind fun f => ((idx ([48, 49, 50, 51, 52, 53, 54, 55, 56, 57, 97, 98, 99, 100, 101, 102] : List UInt8) (bAnd .u8 ((c).toNat : Int) 15)).bind fun g => ((idx b (IntKind.wrap .i64 (2 * a))).bind fun i => ((some (List.set b (Int.toNat (IntKind.wrap .i64 (2 * a))) f)).bind fun d => ((idx d (IntKind.wrap .i64 ((IntKind.wrap .i64 (2 * a)) + 1))).bind fun j => ((some (List.set d (Int.toNat (IntKind.wrap .i64 ((IntKind.wrap .i64 (2 * a)) + 1))) g)).bind fun h => (e h (IntKind.wrap .i64 (a + 1)))))))))) (some (b)))
def Nj (p1 : (List UInt8)) : Nat → (List UInt8) → Int → Option ((List UInt8))
  | 0, _, _ => none
  | f + 1, a, b => Ni  (Nj p1 f) p1 a b
def Bi (p1 : (List UInt8)) : Option ((List UInt8)) :=
  ((chk (decide (0 ≤ (IntKind.wrap .i64 (2 * ((List.length p1 : Nat) : Int))) ∧ (IntKind.wrap .i64 (2 * ((List.length p1 : Nat) : Int))) ≤ 2147483648))).bind fun _ => ((some (List.replicate (Int.toNat (IntKind.wrap .i64 (2 * ((List.length p1 : Nat) : Int)))) ((0 : UInt8) : UInt8))).bind fun l5 => (Nj p1 Zj l5 0)))
set_option maxHeartbeats 40000000 in
theorem Id (A2 : Option Addr) (c3 : Nat) (p1 : Bs) (w0 : World) (a5 : RdT eU8 w0 A2 c3 p1) (r : (Bs)) (H : Bi p1 = some r) :
  Calls Tryz.prog 61 #[(.slice A2 (List.length p1) c3)] w0 (fun e W => e = .returned (sv r) ∧ SP [] w0 W []) := by
 unfold Bi at H
 refine Qt (n := 35) Tryz.func61 K K K ?_
 have b5 := Qw [] w0
 refine aC ?_
 refine iR 1 1 [(2, (sv ([] : Bs)))] ?_
 refine iF ?_
 refine aC ?_
 refine iR 3 3 [(6, (.slice A2 (List.length p1) c3)), (7, (iv (ln p1))), (8, (iv (IntKind.wrap .i64 (2 * (ln p1)))))] ?_
 obtain ⟨hl6, H⟩ := Dh H
 obtain ⟨l5, hyl5, H⟩ := Z4 H
 refine iS 4 ?_
 refine Ko (e := eU8) (l' := l5) (z := (0 : UInt8)) (v := (.int .u8 0)) (b := 1) (T := 48) (E := 5) (x := (.tmp 8)) (y := (.tmp 8)) (k1 := .i64) (k2 := .i64) (iz := (IntKind.wrap .i64 (2 * (ln p1)))) (d := (some 9)) (k := 3) K rfl K K K K K rfl rfl rfl hl6 b5 hyl5 ?_
 intro g7 w8 a6 e7
 have b6 : SP [] w0 w8 [Vh 5 eU8 (some ⟨g7, 0, none⟩) (Int.toNat (IntKind.wrap .i64 (2 * (ln p1)))) l5] := a6
 clear a6
 refine iR 1 5 [(3, (.slice (some ⟨g7, 0, none⟩) (List.length l5) (Int.toNat (IntKind.wrap .i64 (2 * (ln p1))))))] ?_
 refine iF ?_
 refine aQ ?_
 refine aC ?_
 refine iR 3 3 [(10, (.slice A2 (List.length p1) c3)), (11, (iv (ln p1))), (12, (iv 0))] ?_
 refine iF ?_
 refine Z3 K (id := 0) K ?_
 refine Gm K (fun f1 ρ w => ∃ (m : Bs) (f : Int) (g : Option Addr) (h : Nat), Vq ρ [(3, (.slice g (List.length m) h)), (10, (.slice A2 (List.length p1) c3)), (11, (iv (ln p1))), (12, (iv f))] ∧ SP [] w0 w [Vh 5 eU8 g h m] ∧ Nj p1 f1 m f = some r) (by rintro ρ w ⟨m, f, g, h, hk, hs, H⟩; cases H) ?_ Zj ?_
 ·rintro f1 ρ e8 ⟨m, f, g, h, hk, a0, H⟩
  refine At.known _ hk ?_
  replace H := (show Ni (Nj p1 f1) p1 m f = some r from H)
  unfold Ni at H
  refine aC ?_
  refine iR 1 1 [(13, (bv (decide (f < (ln p1)))))] ?_
  refine iF ?_
  refine aQ ?_
  refine cD 13 H (fun H => ?_) fun H => ?_
  ·refine At.skip K ?_
   refine aQ ?_
   refine Z3 K (id := 1) K ?_
   refine aC ?_
   refine iR 1 1 [(14, (iv f))] ?_
   obtain ⟨q, a7, a8, b7, H⟩ := Qu H
   refine jE 2 eU8 p1 A2 c3 48 5 (.tmp 10) (.tmp 12) f 15 (RdT.sp a5 a0) a7 a8 ?_
   intro b8 b9 c0 e9 hc321
   refine jX 3 5 15 b8 (b9 + Int.toNat f * eU8.sz) (.int .u8 ((q).toNat : Int)) 16 (Ql (e := eU8) (Qh (RdT.sp a5 a0) c0 a7 a8) b7 (j := 0) rfl) ?_
   refine iR 2 5 [(4, (iv f)), (5, (.int .u8 ((q).toNat : Int)))] ?_
   refine iF ?_
   obtain ⟨a2, c1, f0, c2, H⟩ := Qu H
   obtain ⟨a1, a9, f2, b0, H⟩ := Qu H
   obtain ⟨f3, b1, b2, f4, H⟩ := Qu H
   obtain ⟨s, hyl341, H⟩ := Z4 H
   have hnl341 : List.length s = List.length m := by rw [← hyl341, List.length_set]
   obtain ⟨f5, b3, b4, f6, H⟩ := Qu H
   obtain ⟨a3, hyl354, H⟩ := Z4 H
   have hnl354 : List.length a3 = List.length s := by rw [← hyl354, List.length_set]
   refine aG [GEq (.slice g (List.length m) h), GEq (iv f), GEq (iv (IntKind.wrap .i64 (2 * f))), GEq (.slice g (List.length m) h), GEq (iv f), GEq (iv (IntKind.wrap .i64 (2 * f))), GEq (iv (IntKind.wrap .i64 ((IntKind.wrap .i64 (2 * f)) + 1))), GEq (.int .u8 ((q).toNat : Int)), GEq (.int .u8 (Ip .u8 ((q).toNat : Int) 4)), GEq (.int .u8 ((a2).toNat : Int)), GEq (.int .u8 ((q).toNat : Int)), GEq (.int .u8 (bAnd .u8 ((q).toNat : Int) 15)), GEq (.int .u8 ((a1).toNat : Int)), Zt g eU8.sz (IntKind.wrap .i64 (2 * f)), Ry, Zt g eU8.sz (IntKind.wrap .i64 ((IntKind.wrap .i64 (2 * f)) + 1)), Ry] [14, 16] [sG [] [] [] w0 [Vh 5 eU8 g h m], sG [14] [undef] [] w0 [Vh 5 eU8 g h s], sG [14, 16] [undef, undef] [] w0 [Vh 5 eU8 g h a3]] 17 2 ⟨trivial, SP.drew a0⟩ ?_ ?_
   iterate 17 refine And.intro ?_ ?_
   exact trivial
   ·exact oU (hC (hS 3 (.slice g (List.length m) h)) (h0))
   ·exact oU (hC (hS 4 (iv f)) (h0))
   ·exact oU (hC (hA 1 18) (h0))
   ·exact oU (hC (hS 3 (.slice g (List.length m) h)) (h0))
   ·exact oU (hC (hS 4 (iv f)) (h0))
   ·exact oU (hC (hA 4 21) (h0))
   ·exact oU (hC (hA 5 22) (h0))
   ·exact oU (hC (hS 5 (.int .u8 ((q).toNat : Int))) (h0))
   ·exact oU (hC (hA 7 24) (h0))
   ·refine oL 0 ?_
    rintro P W hs o ⟨-, f7⟩
    refine kM (kc (kA o 8 25) k0) fun p => ?_
    refine Xg (a := ([48, 49, 50, 51, 52, 53, 54, 55, 56, 57, 97, 98, 99, 100, 101, 102] : Bs)) (u := a2) (T := 9) (x := (.const (.string ⟨List.toArray ([48, 49, 50, 51, 52, 53, 54, 55, 56, 57, 97, 98, 99, 100, 101, 102] : Bs)⟩))) (ix := (.tmp 25)) (ki := .u8) (iz := (Ip .u8 ((q).toNat : Int) 4)) (d := (some 26)) (k := 9) K rfl K K K c1 c2 ?_
    exact eK p
   ·exact oU (hC (hS 5 (.int .u8 ((q).toNat : Int))) (h0))
   ·exact oU (hC (hA 10 27) (h0))
   ·refine Owe.light K [0, 1] K (Qc ?_ (Qc ?_ Qq))
    ·rintro P W hs o ⟨-, f8⟩
     refine kM (kc (kA o 11 28) k0) fun p => ?_
     refine Xg (a := ([48, 49, 50, 51, 52, 53, 54, 55, 56, 57, 97, 98, 99, 100, 101, 102] : Bs)) (u := a1) (T := 9) (x := (.const (.string ⟨List.toArray ([48, 49, 50, 51, 52, 53, 54, 55, 56, 57, 97, 98, 99, 100, 101, 102] : Bs)⟩))) (ix := (.tmp 28)) (ki := .u8) (iz := (bAnd .u8 ((q).toNat : Int) 15)) (d := (some 29)) (k := 12) K rfl K K K a9 b0 ?_
     exact eK p
    rintro P W hs o ⟨⟨f9, -⟩, g0⟩
    refine kM (kc (kA o 11 28) k0) fun p => ?_
    refine Xg (a := ([48, 49, 50, 51, 52, 53, 54, 55, 56, 57, 97, 98, 99, 100, 101, 102] : Bs)) (u := a1) (T := 9) (x := (.const (.string ⟨List.toArray ([48, 49, 50, 51, 52, 53, 54, 55, 56, 57, 97, 98, 99, 100, 101, 102] : Bs)⟩))) (ix := (.tmp 28)) (ki := .u8) (iz := (bAnd .u8 ((q).toNat : Int) 15)) (d := (some 29)) (k := 12) K rfl K K K a9 b0 ?_
    exact eK p
   ·refine oL 0 ?_
    rintro P W hs o ⟨-, c4⟩
    refine kM (kc (kA o 0 17) (kc (kA o 2 19) k0)) fun p => ?_
    refine zE eU8 m g h 48 5 (.tmp 17) (.tmp 19) (IntKind.wrap .i64 (2 * f)) 30 (Qz (SP.get c4 (i := 0) rfl)) b1 b2 ?_
    intro c5 c6 c7 g1 hc378
    exact ⟨rfl, _, Qa p, ⟨c5, c6, c7, rfl⟩⟩
   ·refine oH 0 1 ?_
    rintro P W hs o ⟨-, c8⟩
    obtain ⟨c9, d0, d1, d2⟩ := o 13 30 K
    refine kM (kc d2 (kc (kA o 9 26) k0)) fun p => ?_
    refine R1 (e := eU8) (t := 5) (E := 5) (x := (.tmp 30)) (y := (.tmp 26)) (A := g) (c := h) (l := m) (iz := (IntKind.wrap .i64 (2 * f))) (b := c9) (off := d0) (i := 0) (v := (.int .u8 ((a2).toNat : Int))) (x' := a2) (d := none) (k := 14) K rfl K K c8 rfl d1 rfl b2 b1 rfl K ?_
    rw [hyl341]
    intro g2 d3
    refine ⟨_, Qa p, trivial, ?_⟩
    exact (ai (ai rfl (trivial)) d3)
   ·refine oL 1 ?_
    rintro P W hs o ⟨⟨g3, -⟩, d4⟩
    have a4 := o 3 20 K
    replace a4 : P 20 = (.slice g (List.length s) h) := by rw [hnl341]; exact a4
    refine kM (kc a4 (kc (kA o 6 23) k0)) fun p => ?_
    refine zE eU8 s g h 48 5 (.tmp 20) (.tmp 23) (IntKind.wrap .i64 ((IntKind.wrap .i64 (2 * f)) + 1)) 31 (Qz (SP.get d4 (i := 0) rfl)) b3 b4 ?_
    intro d5 d6 d7 g4 hc394
    exact ⟨rfl, _, Qa p, ⟨d5, d6, d7, rfl⟩⟩
   ·refine oH 1 2 ?_
    rintro P W hs o ⟨⟨d8, -⟩, d9⟩
    obtain ⟨e0, e1, e2, e4⟩ := o 15 31 K
    refine kM (kc e4 (kc (kA o 12 29) k0)) fun p => ?_
    refine R1 (e := eU8) (t := 5) (E := 5) (x := (.tmp 31)) (y := (.tmp 29)) (A := g) (c := h) (l := s) (iz := (IntKind.wrap .i64 ((IntKind.wrap .i64 (2 * f)) + 1))) (b := e0) (off := e1) (i := 0) (v := (.int .u8 ((a1).toNat : Int))) (x' := a1) (d := none) (k := 16) K rfl K K d9 rfl e2 rfl b4 b3 rfl K ?_
    rw [hyl354]
    intro g5 e5
    refine ⟨_, Qa p, trivial, ?_⟩
    exact (ai (ai d8 (ai rfl (trivial))) e5)
   rintro P g6 hs hf ⟨⟨g8, g9, -⟩, e6⟩
   have e3 : P 3 = (.slice g (List.length m) h) := (hs 3 K).trans K
   replace e3 : P 3 = (.slice g (List.length a3) h) := by rw [hnl354, hnl341]; exact e3
   refine Qy _ (kc e3 (kc (kT hs 10 (.slice A2 (List.length p1) c3)) (kc (kT hs 11 (iv (ln p1))) (kc (kT hs 12 (iv f)) k0)))) ?_
   refine aR ?_
   refine iR 2 2 [(32, (iv (IntKind.wrap .i64 (f + 1)))), (12, (iv (IntKind.wrap .i64 (f + 1))))] ?_
   refine iF ?_
   exact ⟨a3, (IntKind.wrap .i64 (f + 1)), g, h, ⟨K, K, K, K, trivial⟩, SP.sel e6 [0] rfl rfl, H⟩
  refine At.exit K (id := 0) K ?_
  refine aC ?_
  refine iR 1 1 [(33, (.slice g (List.length m) h))] ?_
  refine iS 2 ?_
  refine Gf (T := 48) (S' := 9) (E := 5) (x := (.tmp 33)) (A := g) (c := h) (l := m) (d := (some 34)) (k := 1) K rfl K K K K (Qz (SP.get a0 (i := 0) rfl)) ?_
  refine iR 1 3 [(2, (sv m))] ?_
  refine iF ?_
  refine At.ret K ?_
  refine ⟨(sv m), K, ?_⟩
  obtain rfl := Qe H
  exact ⟨rfl, SP.sel a0 [] rfl rfl⟩
 exact ⟨l5, 0, (some ⟨g7, 0, none⟩), (Int.toNat (IntKind.wrap .i64 (2 * (ln p1)))), ⟨K, K, K, K, trivial⟩, SP.sel b6 [0] rfl rfl, H⟩
def Yk (d : (List UInt8) → Int → Option ((List UInt8) × Bool)) (p1 : (List UInt8)) (b : (List UInt8)) (a : Int) : Option ((List UInt8) × Bool) :=
  (cond (decide (a < ((List.length p1 : Nat) : Int))) ((idx p1 a).bind fun e => ((Nf ([48, 49, 50, 51, 52, 53, 54, 55, 56, 57, 97, 98, 99, 100, 101, 102] : List UInt8) e).bind fun c => (cond (decide (c < 0)) (some (([] : List UInt8), false)) ((idx b (IntKind.wrap .i64 (Int.tdiv a 2))).bind fun f => ((idx b (IntKind.wrap .i64 (Int.tdiv a 2))).bind fun h => ((some (List.set b (Int.toNat (IntKind.wrap .i64 (Int.tdiv a 2))) (Ex (bOr .u8 (K4 .u8 ((f).toNat : Int) 4) (IntKind.wrap .u8 c))))).bind fun g => (d g (IntKind.wrap .i64 (a + 1))))))))) (some (b, true)))
def Ji (p1 : (List UInt8)) : Nat → (List UInt8) → Int → Option ((List UInt8) × Bool)
  | 0, _, _ => none
  | f + 1, a, b => Yk  (Ji p1 f) p1 a b
def R5 (p1 : (List UInt8)) : Option ((List UInt8) × Bool) :=
  (cond (decide ((Int.tmod ((List.length p1 : Nat) : Int) 2) > 0)) (some (([] : List UInt8), false)) ((chk (decide (0 ≤ (IntKind.wrap .i64 (Int.tdiv ((List.length p1 : Nat) : Int) 2)) ∧ (IntKind.wrap .i64 (Int.tdiv ((List.length p1 : Nat) : Int) 2)) ≤ 2147483648))).bind fun _ => ((some (List.replicate (Int.toNat (IntKind.wrap .i64 (Int.tdiv ((List.length p1 : Nat) : Int) 2))) ((0 : UInt8) : UInt8))).bind fun l7 => (Ji p1 Zj l7 0))))
set_option maxHeartbeats 40000000 in
theorem Hg  (p1 : Bs) (w0 : World)  (r : (Bs × Bool)) (H : R5 p1 = some r) :
  Calls Tryz.prog 161 #[(sv p1)] w0 (fun e W => ∃ (A2 : Option Addr) (c3 : Nat), e = .returned (.tuple #[(.slice A2 (List.length r.1) c3), (bv r.2)]) ∧ SP [] w0 W [Vh 5 eU8 A2 c3 r.1]) := by
 unfold R5 at H
 refine Qt (n := 41) Tryz.func161 K K K ?_
 have a0 := Qw [] w0
 refine aC ?_
 refine iR 2 2 [(2, (.slice none (List.length ([] : Bs)) 0)), (3, (bv false))] ?_
 refine iF ?_
 refine aQ ?_
 refine aC ?_
 refine iR 4 4 [(7, (sv p1)), (8, (iv (ln p1))), (9, (iv (Int.tmod (ln p1) 2))), (10, (bv (decide ((Int.tmod (ln p1) 2) > 0))))] ?_
 refine iF ?_
 refine cD 10 H (fun H => ?_) fun H => ?_
 ·refine aC ?_
  refine iR 2 2 [(2, (.slice none (List.length ([] : Bs)) 0)), (3, (bv false))] ?_
  refine iF ?_
  refine At.ret K ?_
  have a8 : SP [] w0 w0 [Vh 5 eU8 none 0 ([] : Bs)] := Nu a0 5 eU8
  refine ⟨(.tuple #[(.slice none (List.length ([] : Bs)) 0), (bv false)]), K, ?_⟩
  obtain rfl := Qe H
  exact ⟨none, 0, rfl, SP.sel a8 [0] rfl rfl⟩
 refine At.skip K ?_
 refine aC ?_
 refine iR 3 3 [(11, (sv p1)), (12, (iv (ln p1))), (13, (iv (IntKind.wrap .i64 (Int.tdiv (ln p1) 2))))] ?_
 obtain ⟨hl8, H⟩ := Dh H
 obtain ⟨l7, hyl7, H⟩ := Z4 H
 refine iS 4 ?_
 refine Ko (e := eU8) (l' := l7) (z := (0 : UInt8)) (v := (.int .u8 0)) (b := 1) (T := 48) (E := 5) (x := (.tmp 13)) (y := (.tmp 13)) (k1 := .i64) (k2 := .i64) (iz := (IntKind.wrap .i64 (Int.tdiv (ln p1) 2))) (d := (some 14)) (k := 3) K rfl K K K K K rfl rfl rfl hl8 a0 hyl7 ?_
 intro g9 a9 a1 c6
 have b0 : SP [] w0 a9 [Vh 5 eU8 (some ⟨g9, 0, none⟩) (Int.toNat (IntKind.wrap .i64 (Int.tdiv (ln p1) 2))) l7] := a1
 clear a1
 refine iR 1 5 [(4, (.slice (some ⟨g9, 0, none⟩) (List.length l7) (Int.toNat (IntKind.wrap .i64 (Int.tdiv (ln p1) 2)))))] ?_
 refine iF ?_
 refine aQ ?_
 refine aC ?_
 refine iR 3 3 [(15, (sv p1)), (16, (iv (ln p1))), (17, (iv 0))] ?_
 refine iF ?_
 refine Z3 K (id := 0) K ?_
 refine Gm K (fun f1 ρ w => ∃ (m : Bs) (f : Int) (g : Option Addr) (h : Nat), Vq ρ [(0, (sv p1)), (4, (.slice g (List.length m) h)), (16, (iv (ln p1))), (17, (iv f))] ∧ SP [] w0 w [Vh 5 eU8 g h m] ∧ Ji p1 f1 m f = some r) (by rintro ρ w ⟨m, f, g, h, hk, hs, H⟩; cases H) ?_ Zj ?_
 ·rintro f1 ρ b1 ⟨m, f, g, h, hk, a2, H⟩
  refine At.known _ hk ?_
  replace H := (show Yk (Ji p1 f1) p1 m f = some r from H)
  unfold Yk at H
  refine aC ?_
  refine iR 1 1 [(18, (bv (decide (f < (ln p1)))))] ?_
  refine iF ?_
  refine aQ ?_
  refine cD 18 H (fun H => ?_) fun H => ?_
  ·refine At.skip K ?_
   refine aQ ?_
   refine Z3 K (id := 1) K ?_
   refine aC ?_
   refine iR 2 2 [(19, (iv f)), (5, (iv f))] ?_
   refine iF ?_
   refine aC ?_
   refine iR 2 2 [(20, (sv p1)), (21, (iv f))] ?_
   obtain ⟨a3, b2, c7, b3, H⟩ := Qu H
   refine iS 3 ?_
   refine Xg (a := p1) (u := a3) (T := 9) (x := (.tmp 20)) (ix := (.tmp 21)) (ki := .i64) (iz := f) (d := (some 22)) (k := 2) K rfl K K K b2 b3 ?_
   obtain ⟨o, b4, H⟩ := Qd H
   refine iS 4 ?_
   refine cS a2 89 #[(.const (.string ⟨List.toArray ([48, 49, 50, 51, 52, 53, 54, 55, 56, 57, 97, 98, 99, 100, 101, 102] : Bs)⟩)), (.tmp 22)] #[9, 5] 23 Tryz.call89 (Cy  ([48, 49, 50, 51, 52, 53, 54, 55, 56, 57, 97, 98, 99, 100, 101, 102] : Bs) a3 b1  o b4) ?_
   intro b5 q
   refine iR 1 5 [(6, (iv o))] ?_
   refine iF ?_
   refine aQ ?_
   refine aC ?_
   refine iR 2 2 [(24, (iv o)), (25, (bv (decide (o < 0))))] ?_
   refine iF ?_
   refine cD 25 H (fun H => ?_) fun H => ?_
   ·refine aC ?_
    refine iR 2 2 [(2, (.slice none (List.length ([] : Bs)) 0)), (3, (bv false))] ?_
    refine iF ?_
    refine At.ret K ?_
    have b6 : SP [] w0 b5 [Vh 5 eU8 g h m, Vh 5 eU8 none 0 ([] : Bs)] := Nu q 5 eU8
    refine ⟨(.tuple #[(.slice none (List.length ([] : Bs)) 0), (bv false)]), K, ?_⟩
    obtain rfl := Qe H
    exact ⟨none, 0, rfl, SP.sel b6 [1] rfl rfl⟩
   refine At.skip K ?_
   refine aR ?_
   refine iR 6 6 [(26, (.slice g (List.length m) h)), (27, (iv f)), (28, (iv (IntKind.wrap .i64 (Int.tdiv f 2)))), (29, (.slice g (List.length m) h)), (30, (iv f)), (31, (iv (IntKind.wrap .i64 (Int.tdiv f 2))))] ?_
   obtain ⟨p, a4, a5, b7, H⟩ := Qu H
   refine jE 7 eU8 m g h 48 5 (.tmp 29) (.tmp 31) (IntKind.wrap .i64 (Int.tdiv f 2)) 32 (Qz (SP.get q (i := 0) rfl)) a4 a5 ?_
   intro b8 b9 c0 c8 hc153
   refine jX 8 5 32 b8 (b9 + Int.toNat (IntKind.wrap .i64 (Int.tdiv f 2)) * eU8.sz) (.int .u8 ((p).toNat : Int)) 33 (Ql (e := eU8) (Qh (Qz (SP.get q (i := 0) rfl)) c0 a4 a5) b7 (j := 0) rfl) ?_
   refine iR 4 12 [(34, (.int .u8 (K4 .u8 ((p).toNat : Int) 4))), (35, (iv o)), (36, (.int .u8 (IntKind.wrap .u8 o))), (37, (.int .u8 (bOr .u8 (K4 .u8 ((p).toNat : Int) 4) (IntKind.wrap .u8 o))))] ?_
   obtain ⟨c9, a6, a7, d0, H⟩ := Qu H
   refine jE 13 eU8 m g h 48 5 (.tmp 26) (.tmp 28) (IntKind.wrap .i64 (Int.tdiv f 2)) 38 (Qz (SP.get q (i := 0) rfl)) a6 a7 ?_
   intro c1 c2 c4 d1 hc162
   obtain ⟨s, hyl165, H⟩ := Z4 H
   have hnl165 : List.length s = List.length m := by rw [← hyl165, List.length_set]
   refine iS 14 ?_
   refine R1 (e := eU8) (t := 5) (E := 5) (x := (.tmp 38)) (y := (.tmp 37)) (A := g) (c := h) (l := m) (iz := (IntKind.wrap .i64 (Int.tdiv f 2))) (b := c1) (off := c2) (i := 0) (v := (.int .u8 (bOr .u8 (K4 .u8 ((p).toNat : Int) 4) (IntKind.wrap .u8 o)))) (x' := (Ex (bOr .u8 (K4 .u8 ((p).toNat : Int) 4) (IntKind.wrap .u8 o)))) (d := none) (k := 13) K rfl K K q rfl c4 rfl a7 a6 (by show [Value.int .u8 (((Ex (bOr .u8 (K4 .u8 ((p).toNat : Int) 4) (IntKind.wrap .u8 o)))).toNat : Int)] = _; rw [L8 (u8_or _ _)]) K ?_
   rw [hyl165]
   intro d2 c5
   refine In.known [(4, (.slice g (List.length s) h)), (26, (.slice g (List.length s) h)), (29, (.slice g (List.length s) h))] ⟨(by rw [hnl165]; kernel_rfl), (by rw [hnl165]; kernel_rfl), (by rw [hnl165]; kernel_rfl), trivial⟩ ?_
   refine iF ?_
   refine aR ?_
   refine iR 2 2 [(39, (iv (IntKind.wrap .i64 (f + 1)))), (17, (iv (IntKind.wrap .i64 (f + 1))))] ?_
   refine iF ?_
   exact ⟨s, (IntKind.wrap .i64 (f + 1)), g, h, ⟨K, K, K, K, trivial⟩, SP.sel c5 [0] rfl rfl, H⟩
  refine At.exit K (id := 0) K ?_
  refine aC ?_
  refine iR 3 3 [(40, (.slice g (List.length m) h)), (2, (.slice g (List.length m) h)), (3, (bv true))] ?_
  refine iF ?_
  refine At.ret K ?_
  refine ⟨(.tuple #[(.slice g (List.length m) h), (bv true)]), K, ?_⟩
  obtain rfl := Qe H
  exact ⟨g, h, rfl, SP.sel a2 [0] rfl rfl⟩
 exact ⟨l7, 0, (some ⟨g9, 0, none⟩), (Int.toNat (IntKind.wrap .i64 (Int.tdiv (ln p1) 2))), ⟨K, K, K, K, trivial⟩, SP.sel b0 [0] rfl rfl, H⟩
end Go.Proofs.YtoflbpmbkmephaaGreatDoor
namespace Go.Proofs.YtoflbpmbkmephaaGreatDoor
open Go.RowKit
def Nn (p1 : UInt8) (v8 : Bool) : Option (UInt8) :=
  (cond v8 (some ((Ex (IntKind.wrap .u8 ((IntKind.wrap .u8 (((p1).toNat : Int) - 97)) + 10))))) (some ((16 : UInt8))))
def No (p1 : UInt8) (v3 : Bool) : Option (UInt8) :=
  (cond v3 (some ((Ex (IntKind.wrap .u8 (((p1).toNat : Int) - 48))))) (cond (decide (((p1).toNat : Int) ≥ 97)) (Nn p1 (decide (((p1).toNat : Int) ≤ 102))) (Nn p1 false)))
def Ud (p1 : UInt8) : Option (UInt8) :=
  (cond (decide (((p1).toNat : Int) ≥ 48)) (No p1 (decide (((p1).toNat : Int) ≤ 57))) (No p1 false))
set_option maxHeartbeats 40000000 in
theorem Dc  (p1 : UInt8) (w0 : World)  (r : (UInt8)) (H : Ud p1 = some r) :
  Calls Tryz.prog 146 #[(.int .u8 ((p1).toNat : Int))] w0 (fun e W => e = .returned (.int .u8 ((r).toNat : Int)) ∧ SP [] w0 W []) := by
 unfold Ud at H
 refine Qt (n := 20) Tryz.func146 K K K ?_
 have b := Qw [] w0
 refine aC ?_
 refine iR 1 1 [(2, (.int .u8 0))] ?_
 refine iF ?_
 refine aQ ?_
 refine aQ ?_
 refine At.join (fun ρ w => ∃ (v3 : Bool), Vq ρ [(0, (.int .u8 ((p1).toNat : Int))), (8, (bv v3))] ∧ SP [] w0 w [] ∧ No p1 v3 = some r) ?_ ?_
 ·refine aR ?_
  refine iR 3 3 [(3, (.int .u8 ((p1).toNat : Int))), (4, (bv (decide (((p1).toNat : Int) ≥ 48)))), (5, (bv (decide (((p1).toNat : Int) ≥ 48))))] ?_
  refine gD 5 H (fun H => ?_) fun H => ?_
  ·refine iR 3 6 [(6, (.int .u8 ((p1).toNat : Int))), (7, (bv (decide (((p1).toNat : Int) ≤ 57)))), (8, (bv (decide (((p1).toNat : Int) ≤ 57))))] ?_
   refine iF ?_
   exact ⟨(decide (((p1).toNat : Int) ≤ 57)), ⟨K, K, trivial⟩, SP.sel b [] rfl rfl, H⟩
  refine iR 3 6 [(6, undef), (7, undef), (8, (bv false))] ?_
  refine iF ?_
  exact ⟨false, ⟨K, K, trivial⟩, SP.sel b [] rfl rfl, H⟩
 rintro ρ w4 ⟨v3, hk, a, H⟩
 unfold No at H
 first | refine At.known _ hk ?_ | rw [← Qo hk]
 refine cD 8 H (fun H => ?_) fun H => ?_
 ·refine aC ?_
  refine iR 3 3 [(9, (.int .u8 ((p1).toNat : Int))), (10, (.int .u8 (IntKind.wrap .u8 (((p1).toNat : Int) - 48)))), (2, (.int .u8 (IntKind.wrap .u8 (((p1).toNat : Int) - 48))))] ?_
  refine iF ?_
  refine At.ret K ?_
  refine ⟨(.int .u8 (IntKind.wrap .u8 (((p1).toNat : Int) - 48))), K, ?_⟩
  obtain rfl := Qe H
  exact ⟨(by simp only [L8 (H3 _)]), SP.sel a [] rfl rfl⟩
 refine At.skip K ?_
 refine aQ ?_
 refine aQ ?_
 refine At.join (fun ρ w => ∃ (v8 : Bool), Vq ρ [(0, (.int .u8 ((p1).toNat : Int))), (16, (bv v8))] ∧ SP [] w0 w [] ∧ Nn p1 v8 = some r) ?_ ?_
 ·refine aR ?_
  refine iR 3 3 [(11, (.int .u8 ((p1).toNat : Int))), (12, (bv (decide (((p1).toNat : Int) ≥ 97)))), (13, (bv (decide (((p1).toNat : Int) ≥ 97))))] ?_
  refine gD 13 H (fun H => ?_) fun H => ?_
  ·refine iR 3 6 [(14, (.int .u8 ((p1).toNat : Int))), (15, (bv (decide (((p1).toNat : Int) ≤ 102)))), (16, (bv (decide (((p1).toNat : Int) ≤ 102))))] ?_
   refine iF ?_
   exact ⟨(decide (((p1).toNat : Int) ≤ 102)), ⟨K, K, trivial⟩, SP.sel a [] rfl rfl, H⟩
  refine iR 3 6 [(14, undef), (15, undef), (16, (bv false))] ?_
  refine iF ?_
  exact ⟨false, ⟨K, K, trivial⟩, SP.sel a [] rfl rfl, H⟩
 rintro ρ w9 ⟨v8, hk, c, H⟩
 unfold Nn at H
 first | refine At.known _ hk ?_ | rw [← Qo hk]
 refine cD 16 H (fun H => ?_) fun H => ?_
 ·refine aC ?_
  refine iR 4 4 [(17, (.int .u8 ((p1).toNat : Int))), (18, (.int .u8 (IntKind.wrap .u8 (((p1).toNat : Int) - 97)))), (19, (.int .u8 (IntKind.wrap .u8 ((IntKind.wrap .u8 (((p1).toNat : Int) - 97)) + 10)))), (2, (.int .u8 (IntKind.wrap .u8 ((IntKind.wrap .u8 (((p1).toNat : Int) - 97)) + 10))))] ?_
  refine iF ?_
  refine At.ret K ?_
  refine ⟨(.int .u8 (IntKind.wrap .u8 ((IntKind.wrap .u8 (((p1).toNat : Int) - 97)) + 10))), K, ?_⟩
  obtain rfl := Qe H
  exact ⟨(by simp only [L8 (H3 _)]), SP.sel c [] rfl rfl⟩
 refine At.skip K ?_
 refine aC ?_
 refine iR 1 1 [(2, (.int .u8 16))] ?_
 refine iF ?_
 refine At.ret K ?_
 refine ⟨(.int .u8 16), K, ?_⟩
 obtain rfl := Qe H
 exact ⟨rfl, SP.sel c [] rfl rfl⟩
def Xn (a : (List UInt8) → Int → Option ((List UInt8) × Bool)) (b : (List UInt8)) (c : Int) (d : (UInt8)) (e : (UInt8)) (f : Bool) : Option ((List UInt8) × Bool) :=
  (cond f (some (([] : List UInt8), false)) ((app b ([(Ex (IntKind.wrap .u8 ((IntKind.wrap .u8 (16 * ((d).toNat : Int))) + ((e).toNat : Int))))] : List UInt8)).bind fun g => (a g (IntKind.wrap .i64 (c + 2)))))
def Xo (e : (List UInt8) → Int → Option ((List UInt8) × Bool)) (p1 : (List UInt8)) (b : (List UInt8)) (a : Int) : Option ((List UInt8) × Bool) :=
  (cond (decide (a < ((List.length p1 : Nat) : Int))) ((idx p1 a).bind fun f => ((Ud f).bind fun c => ((idx p1 (IntKind.wrap .i64 (a + 1))).bind fun g => ((Ud g).bind fun d => (cond (decide (((c).toNat : Int) > 15)) (Xn e b a c d true) (Xn e b a c d (decide (((d).toNat : Int) > 15)))))))) (some (b, true)))
def Zw (p1 : (List UInt8)) : Nat → (List UInt8) → Int → Option ((List UInt8) × Bool)
  | 0, _, _ => none
  | f + 1, a, b => Xo  (Zw p1 f) p1 a b
def Nk (p1 : (List UInt8)) : Option ((List UInt8) × Bool) :=
  (cond ((Int.tmod ((List.length p1 : Nat) : Int) 2) == 1) (some (([] : List UInt8), false)) (Zw p1 Zj ([] : List UInt8) 0))
set_option maxHeartbeats 40000000 in
theorem C2  (p1 : Bs) (w0 : World)  (r : (Bs × Bool)) (H : Nk p1 = some r) :
  Calls Tryz.prog 95 #[(sv p1)] w0 (fun e W => ∃ (A2 : Option Addr) (c3 : Nat), e = .returned (.tuple #[(lv A2 r.1 c3), (bv r.2)]) ∧ SP [] w0 W [Vh 5 eU8 A2 c3 r.1]) := by
 unfold Nk at H
 refine Qt (n := 41) Tryz.func95 K K K ?_
 have t := Qw [] w0
 refine aC ?_
 refine iR 2 2 [(2, (lv none ([] : Bs) 0)), (3, (bv false))] ?_
 refine iF ?_
 refine aC ?_
 refine iR 1 1 [(4, (lv none ([] : Bs) 0))] ?_
 refine iF ?_
 refine aQ ?_
 refine aC ?_
 refine iR 4 4 [(8, (sv p1)), (9, (iv (ln p1))), (10, (iv (Int.tmod (ln p1) 2))), (11, (bv ((Int.tmod (ln p1) 2) == 1)))] ?_
 refine iF ?_
 refine cD 11 H (fun H => ?_) fun H => ?_
 ·refine aC ?_
  refine iR 2 2 [(2, (lv none ([] : Bs) 0)), (3, (bv false))] ?_
  refine iF ?_
  refine At.ret K ?_
  have a7 : SP [] w0 w0 [Vh 5 eU8 none 0 ([] : Bs)] := Nu t 5 eU8
  refine ⟨(.tuple #[(lv none ([] : Bs) 0), (bv false)]), K, ?_⟩
  obtain rfl := Qe H
  exact ⟨none, 0, rfl, SP.sel a7 [0] rfl rfl⟩
 refine At.skip K ?_
 refine aQ ?_
 refine aC ?_
 refine iR 1 1 [(5, (iv 0))] ?_
 refine iF ?_
 refine Z3 K (id := 0) K ?_
 refine Gm K (fun f3 ρ w => ∃ (g : Bs) (f : Int) (o : Option Addr) (p : Nat), Vq ρ [(0, (sv p1)), (4, (lv o g p)), (5, (iv f))] ∧ SP [] w0 w [Vh 5 eU8 o p g] ∧ Zw p1 f3 g f = some r) (by rintro ρ w ⟨g, f, o, p, hk, hs, H⟩; cases H) ?_ Zj ?_
 ·rintro f3 ρ a8 ⟨g, f, o, p, hk, v, H⟩
  refine At.known _ hk ?_
  replace H := (show Xo (Zw p1 f3) p1 g f = some r from H)
  unfold Xo at H
  refine aQ ?_
  refine aC ?_
  refine iR 4 4 [(12, (iv f)), (13, (sv p1)), (14, (iv (ln p1))), (15, (bv (decide (f < (ln p1)))))] ?_
  refine iF ?_
  refine cD 15 H (fun H => ?_) fun H => ?_
  ·refine At.skip K ?_
   refine aQ ?_
   refine Z3 K (id := 1) K ?_
   refine aC ?_
   refine iR 2 2 [(18, (sv p1)), (19, (iv f))] ?_
   obtain ⟨z, a9, c1, b0, H⟩ := Qu H
   refine iS 3 ?_
   refine Xg (a := p1) (u := z) (T := 9) (x := (.tmp 18)) (ix := (.tmp 19)) (ki := .i64) (iz := f) (d := (some 20)) (k := 2) K rfl K K K a9 b0 ?_
   obtain ⟨h, b1, H⟩ := Qd H
   refine iS 4 ?_
   refine cS v 146 #[(.tmp 20)] #[5] 21 Tryz.call146 (Dc  z a8  h b1) ?_
   intro b2 b3
   refine iR 1 5 [(6, (.int .u8 ((h).toNat : Int)))] ?_
   refine iF ?_
   refine aC ?_
   refine iR 3 3 [(22, (sv p1)), (23, (iv f)), (24, (iv (IntKind.wrap .i64 (f + 1))))] ?_
   obtain ⟨a0, b4, c2, b5, H⟩ := Qu H
   refine iS 4 ?_
   refine Xg (a := p1) (u := a0) (T := 9) (x := (.tmp 22)) (ix := (.tmp 24)) (ki := .i64) (iz := (IntKind.wrap .i64 (f + 1))) (d := (some 25)) (k := 3) K rfl K K K b4 b5 ?_
   obtain ⟨j, b6, H⟩ := Qd H
   refine iS 5 ?_
   refine cS b3 146 #[(.tmp 25)] #[5] 26 Tryz.call146 (Dc  a0 b2  j b6) ?_
   intro c4 a1
   refine iR 1 6 [(7, (.int .u8 ((j).toNat : Int)))] ?_
   refine iF ?_
   refine aQ ?_
   refine aQ ?_
   refine At.join (fun ρ w => ∃ (q : Bool), Vq ρ [(0, (sv p1)), (4, (lv o g p)), (5, (iv f)), (6, (.int .u8 ((h).toNat : Int))), (7, (.int .u8 ((j).toNat : Int))), (32, (bv q))] ∧ SP [] w0 w [Vh 5 eU8 o p g] ∧ Xn (Zw p1 f3) g f h j q = some r) ?_ ?_
   ·refine aR ?_
    refine iR 3 3 [(27, (.int .u8 ((h).toNat : Int))), (28, (bv (decide (((h).toNat : Int) > 15)))), (29, (bv (decide (((h).toNat : Int) > 15))))] ?_
    refine gD 29 H (fun H => ?_) fun H => ?_
    ·refine iR 3 6 [(30, undef), (31, undef), (32, (bv true))] ?_
     refine iF ?_
     exact ⟨true, ⟨K, K, K, K, K, K, trivial⟩, SP.sel a1 [0] rfl rfl, H⟩
    refine iR 3 6 [(30, (.int .u8 ((j).toNat : Int))), (31, (bv (decide (((j).toNat : Int) > 15)))), (32, (bv (decide (((j).toNat : Int) > 15))))] ?_
    refine iF ?_
    exact ⟨(decide (((j).toNat : Int) > 15)), ⟨K, K, K, K, K, K, trivial⟩, SP.sel a1 [0] rfl rfl, H⟩
   rintro ρ b7 ⟨q, hk, a2, H⟩
   unfold Xn at H
   first | refine At.known _ hk ?_ | rw [← Qo hk]
   refine cD 32 H (fun H => ?_) fun H => ?_
   ·refine aC ?_
    refine iR 2 2 [(2, (lv none ([] : Bs) 0)), (3, (bv false))] ?_
    refine iF ?_
    refine At.ret K ?_
    have b8 : SP [] w0 b7 [Vh 5 eU8 o p g, Vh 5 eU8 none 0 ([] : Bs)] := Nu a2 5 eU8
    refine ⟨(.tuple #[(lv none ([] : Bs) 0), (bv false)]), K, ?_⟩
    obtain rfl := Qe H
    exact ⟨none, 0, rfl, SP.sel b8 [1] rfl rfl⟩
   refine At.skip K ?_
   refine aR ?_
   refine iR 5 5 [(33, (lv o g p)), (34, (.int .u8 ((h).toNat : Int))), (35, (.int .u8 (IntKind.wrap .u8 (16 * ((h).toNat : Int))))), (36, (.int .u8 ((j).toNat : Int))), (37, (.int .u8 (IntKind.wrap .u8 ((IntKind.wrap .u8 (16 * ((h).toNat : Int))) + ((j).toNat : Int)))))] ?_
   refine iS 6 ?_
   refine Di (e := eU8) (T := 48) (E := 5) (len := 1) (parts := #[(0, (.tmp 37))]) (cs := #[(.int .u8 (IntKind.wrap .u8 ((IntKind.wrap .u8 (16 * ((h).toNat : Int))) + ((j).toNat : Int))))]) ([(Ex (IntKind.wrap .u8 ((IntKind.wrap .u8 (16 * ((h).toNat : Int))) + ((j).toNat : Int))))] : Bs) (d := (some 38)) (k := 5) K rfl (fun _ => K) a2 (By (Or.inr ⟨rfl, (H3 _)⟩) rfl) rfl rfl rfl ?_
   intro b9 c5 a3
   obtain ⟨hl129, H⟩ := Zx H
   obtain ⟨a4, hyl130⟩ : ∃ y, g ++ ([(Ex (IntKind.wrap .u8 ((IntKind.wrap .u8 (16 * ((h).toNat : Int))) + ((j).toNat : Int))))] : Bs) = y := ⟨_, rfl⟩
   try rw [hyl130] at H
   refine iS 7 ?_
   refine Qx.append (e := eU8) (l := g) (m := ([(Ex (IntKind.wrap .u8 ((IntKind.wrap .u8 (16 * ((h).toNat : Int))) + ((j).toNat : Int))))] : Bs)) (A := o) (c := p) (T := 48) (TX := 48) (E := 5) (b := 1) (s := (.tmp 33)) (x := (.tmp 38)) (i := 0) (vx := (lv (some ⟨b9, 0, none⟩) ([(Ex (IntKind.wrap .u8 ((IntKind.wrap .u8 (16 * ((h).toNat : Int))) + ((j).toNat : Int))))] : Bs) (List.length ([(Ex (IntKind.wrap .u8 ((IntKind.wrap .u8 (16 * ((h).toNat : Int))) + ((j).toNat : Int))))] : Bs)))) (d := (some 39)) (k := 6) K rfl K K K K rfl a3 rfl (Rj (E := 5) K (Qz (SP.get a3 (i := 1) rfl))) hl129 ?_
   rw [hyl130]
   intro a5 a6 c6 c0
   refine iR 1 8 [(4, (lv a5 a4 a6))] ?_
   refine iF ?_
   refine aR ?_
   refine iR 3 3 [(16, (iv f)), (17, (iv (IntKind.wrap .i64 (f + 2)))), (5, (iv (IntKind.wrap .i64 (f + 2))))] ?_
   refine iF ?_
   exact ⟨a4, (IntKind.wrap .i64 (f + 2)), a5, a6, ⟨K, K, K, trivial⟩, SP.sel c0 [0] rfl rfl, H⟩
  refine At.exit K (id := 0) K ?_
  refine aC ?_
  refine iR 3 3 [(40, (lv o g p)), (2, (lv o g p)), (3, (bv true))] ?_
  refine iF ?_
  refine At.ret K ?_
  refine ⟨(.tuple #[(lv o g p), (bv true)]), K, ?_⟩
  obtain rfl := Qe H
  exact ⟨o, p, rfl, SP.sel v [0] rfl rfl⟩
 exact ⟨([] : Bs), 0, none, 0, ⟨K, K, K, trivial⟩, SP.sel (Nu t 5 eU8) [0] rfl rfl, H⟩
def Yq (c : (List UInt8) → Int → Option ((List UInt8))) (p1 : (List UInt8)) (b : (List UInt8)) (a : Int) : Option ((List UInt8)) :=
  (cond (decide (a < ((List.length p1 : Nat) : Int))) ((idx p1 a).bind fun d => ((idx ([48, 49, 50, 51, 52, 53, 54, 55, 56, 57, 97, 98, 99, 100, 101, 102] : List UInt8) (IntKind.wrap .u8 (Int.tdiv ((d).toNat : Int) 16))).bind fun e => ((idx p1 a).bind fun f => ((idx ([48, 49, 50, 51, 52, 53, 54, 55, 56, 57, 97, 98, 99, 100, 101, 102] : List UInt8) (Int.tmod ((f).toNat : Int) 16)).bind fun g => ((app b ([e, g] : List UInt8)).bind fun h => (c h (IntKind.wrap .i64 (a + 1)))))))) (some (b)))
def Yr (p1 : (List UInt8)) : Nat → (List UInt8) → Int → Option ((List UInt8))
  | 0, _, _ => none
  | f + 1, a, b => Yq  (Yr p1 f) p1 a b
def Rs (p1 : (List UInt8)) : Option ((List UInt8)) :=
  (Yr p1 Zj ([] : List UInt8) 0)
set_option maxHeartbeats 40000000 in
theorem E7 (A2 : Option Addr) (c3 : Nat) (p1 : Bs) (w0 : World) (a7 : RdT eU8 w0 A2 c3 p1) (r : (Bs)) (H : Rs p1 = some r) :
  Calls Tryz.prog 66 #[(lv A2 p1 c3)] w0 (fun e W => e = .returned (sv r) ∧ SP [] w0 W []) := by
 unfold Rs at H
 refine Qt (n := 31) Tryz.func66 K K K ?_
 have c0 := Qw [] w0
 refine aC ?_
 refine iR 1 1 [(2, (sv ([] : Bs)))] ?_
 refine iF ?_
 refine aC ?_
 refine iR 1 1 [(3, (sv ([48, 49, 50, 51, 52, 53, 54, 55, 56, 57, 97, 98, 99, 100, 101, 102] : Bs)))] ?_
 refine iF ?_
 refine aC ?_
 refine iR 1 1 [(4, (lv none ([] : Bs) 0))] ?_
 refine iF ?_
 refine aQ ?_
 refine aC ?_
 refine iR 1 1 [(5, (iv 0))] ?_
 refine iF ?_
 refine Z3 K (id := 0) K ?_
 refine Gm K (fun f1 ρ w => ∃ (t : Bs) (f : Int) (z : Option Addr) (a0 : Nat), Vq ρ [(0, (lv A2 p1 c3)), (3, (sv ([48, 49, 50, 51, 52, 53, 54, 55, 56, 57, 97, 98, 99, 100, 101, 102] : Bs))), (4, (lv z t a0)), (5, (iv f))] ∧ SP [] w0 w [Vh 5 eU8 z a0 t] ∧ Yr p1 f1 t f = some r) (by rintro ρ w ⟨t, f, z, a0, hk, hs, H⟩; cases H) ?_ Zj ?_
 ·rintro f1 ρ f7 ⟨t, f, z, a0, hk, b1, H⟩
  refine At.known _ hk ?_
  replace H := (show Yq (Yr p1 f1) p1 t f = some r from H)
  unfold Yq at H
  refine aQ ?_
  refine aC ?_
  refine iR 4 4 [(6, (iv f)), (7, (lv A2 p1 c3)), (8, (iv (ln p1))), (9, (bv (decide (f < (ln p1)))))] ?_
  refine iF ?_
  refine cD 9 H (fun H => ?_) fun H => ?_
  ·refine At.skip K ?_
   refine aQ ?_
   refine Z3 K (id := 1) K ?_
   obtain ⟨a8, b3, b4, c1, H⟩ := Qu H
   obtain ⟨g, c2, f8, c4, H⟩ := Qu H
   obtain ⟨a9, b5, b6, c5, H⟩ := Qu H
   obtain ⟨o, c6, f9, c7, H⟩ := Qu H
   obtain ⟨hl270, H⟩ := Zx H
   obtain ⟨a1, hyl271⟩ : ∃ y, t ++ ([g, o] : Bs) = y := ⟨_, rfl⟩
   try rw [hyl271] at H
   refine aG [GEq (lv z t a0), GEq (sv ([48, 49, 50, 51, 52, 53, 54, 55, 56, 57, 97, 98, 99, 100, 101, 102] : Bs)), GEq (lv A2 p1 c3), GEq (iv f), Zt A2 eU8.sz f, GEq (.int .u8 ((a8).toNat : Int)), GEq (.int .u8 (IntKind.wrap .u8 (Int.tdiv ((a8).toNat : Int) 16))), GEq (.int .u8 ((g).toNat : Int)), GEq (sv ([48, 49, 50, 51, 52, 53, 54, 55, 56, 57, 97, 98, 99, 100, 101, 102] : Bs)), GEq (lv A2 p1 c3), GEq (iv f), Zt A2 eU8.sz f, GEq (.int .u8 ((a9).toNat : Int)), GEq (.int .u8 (Int.tmod ((a9).toNat : Int) 16)), GEq (.int .u8 ((o).toNat : Int)), Ry, Ry, Ry] [15, 16, 17] ((fun (X0 : Ent) => [([], fun vs w => VL vs [] ∧ SP [] w0 w [X0]), ([15], fun vs w => ∃ (a2 : Nat), VL vs [(lv (some ⟨a2, 0, none⟩) ([g, o] : Bs) (List.length ([g, o] : Bs)))] ∧ SP [] w0 w [X0, Vh 5 eU8 (some ⟨a2, 0, none⟩) (List.length ([g, o] : Bs)) ([g, o] : Bs)]), ([15, 16], fun vs w => ∃ (b0 : Nat), ∃ (a3 : Option Addr), ∃ (a4 : Nat), VL vs [(lv (some ⟨b0, 0, none⟩) ([g, o] : Bs) (List.length ([g, o] : Bs))), (lv a3 a1 a4)] ∧ SP [] w0 w [Vh 5 eU8 a3 a4 a1, Vh 5 eU8 (some ⟨b0, 0, none⟩) (List.length ([g, o] : Bs)) ([g, o] : Bs)]), ([15, 16, 17], fun vs w => ∃ (b2 : Nat), ∃ (a5 : Option Addr), ∃ (a6 : Nat), VL vs [(lv (some ⟨b2, 0, none⟩) ([g, o] : Bs) (List.length ([g, o] : Bs))), (lv a5 a1 a6), (lv a5 a1 a6)] ∧ SP [] w0 w [Vh 5 eU8 a5 a6 a1, Vh 5 eU8 (some ⟨b2, 0, none⟩) (List.length ([g, o] : Bs)) ([g, o] : Bs)])]) (Vh 5 eU8 z a0 t)) 18 3 ⟨trivial, SP.drew b1⟩ ?_ ?_
   iterate 18 refine And.intro ?_ ?_
   exact trivial
   ·exact oU (hC (hS 4 (lv z t a0)) (h0))
   ·exact oU (hC (hS 3 (sv ([48, 49, 50, 51, 52, 53, 54, 55, 56, 57, 97, 98, 99, 100, 101, 102] : Bs))) (h0))
   ·exact oU (hC (hS 0 (lv A2 p1 c3)) (h0))
   ·exact oU (hC (hS 5 (iv f)) (h0))
   ·refine oL 0 ?_
    rintro P W hs p ⟨-, c8⟩
    refine kM (kc (kA p 2 14) (kc (kA p 3 15) k0)) fun q => ?_
    refine zE eU8 p1 A2 c3 48 5 (.tmp 14) (.tmp 15) f 16 (RdT.sp a7 c8) b3 b4 ?_
    intro c9 d0 d1 g0 hc303
    exact ⟨rfl, _, Qa q, ⟨c9, d0, d1, rfl⟩⟩
   ·refine oL 0 ?_
    rintro P W hs p ⟨-, d2⟩
    obtain ⟨d3, d4, d5, d6⟩ := p 4 16 K
    refine kM (kc d6 k0) fun q => ?_
    refine sC 5 16 d3 (d4 + Int.toNat f * eU8.sz) (.int .u8 ((a8).toNat : Int)) 17 (Ql (e := eU8) (Qh (RdT.sp a7 d2) d5 b3 b4) c1 (j := 0) rfl) ?_
    exact eK q
   ·exact oU (hC (hA 5 17) (h0))
   ·refine oL 0 ?_
    rintro P W hs p ⟨-, g1⟩
    refine kM (kc (kA p 1 13) (kc (kA p 6 18) k0)) fun q => ?_
    refine Xg (a := ([48, 49, 50, 51, 52, 53, 54, 55, 56, 57, 97, 98, 99, 100, 101, 102] : Bs)) (u := g) (T := 9) (x := (.tmp 13)) (ix := (.tmp 18)) (ki := .u8) (iz := (IntKind.wrap .u8 (Int.tdiv ((a8).toNat : Int) 16))) (d := (some 19)) (k := 7) K rfl K K K c2 c4 ?_
    exact eK q
   ·exact oU (hC (hS 3 (sv ([48, 49, 50, 51, 52, 53, 54, 55, 56, 57, 97, 98, 99, 100, 101, 102] : Bs))) (h0))
   ·exact oU (hC (hS 0 (lv A2 p1 c3)) (h0))
   ·exact oU (hC (hS 5 (iv f)) (h0))
   ·refine oL 0 ?_
    rintro P W hs p ⟨-, d7⟩
    refine kM (kc (kA p 9 21) (kc (kA p 10 22) k0)) fun q => ?_
    refine zE eU8 p1 A2 c3 48 5 (.tmp 21) (.tmp 22) f 23 (RdT.sp a7 d7) b5 b6 ?_
    intro d8 d9 e0 g2 hc317
    exact ⟨rfl, _, Qa q, ⟨d8, d9, e0, rfl⟩⟩
   ·refine oL 0 ?_
    rintro P W hs p ⟨-, e1⟩
    obtain ⟨e2, e3, e4, e5⟩ := p 11 23 K
    refine kM (kc e5 k0) fun q => ?_
    refine sC 5 23 e2 (e3 + Int.toNat f * eU8.sz) (.int .u8 ((a9).toNat : Int)) 24 (Ql (e := eU8) (Qh (RdT.sp a7 e1) e4 b5 b6) c5 (j := 0) rfl) ?_
    exact eK q
   ·exact oU (hC (hA 12 24) (h0))
   ·refine oL 0 ?_
    rintro P W hs p ⟨-, g3⟩
    refine kM (kc (kA p 8 20) (kc (kA p 13 25) k0)) fun q => ?_
    refine Xg (a := ([48, 49, 50, 51, 52, 53, 54, 55, 56, 57, 97, 98, 99, 100, 101, 102] : Bs)) (u := o) (T := 9) (x := (.tmp 20)) (ix := (.tmp 25)) (ki := .u8) (iz := (Int.tmod ((a9).toNat : Int) 16)) (d := (some 26)) (k := 14) K rfl K K K c6 c7 ?_
    exact eK q
   ·refine oH 0 1 ?_
    rintro P W hs p ⟨-, e6⟩
    refine kM (kc (kA p 7 19) (kc (kA p 14 26) k0)) fun q => ?_
    refine Di (e := eU8) (T := 48) (E := 5) (len := 2) (parts := #[(0, (.tmp 19)), (1, (.tmp 26))]) (cs := #[(.int .u8 ((g).toNat : Int)), (.int .u8 ((o).toNat : Int))]) ([g, o] : Bs) (d := (some 27)) (k := 15) K rfl (fun _ => K) e6 (By (Or.inl rfl) (By (Or.inl rfl) rfl)) rfl rfl rfl ?_
    intro e7 g4 e8
    refine ⟨_, Qa q, trivial, ?_⟩
    exact (ei e7 (ai (ai rfl (trivial)) e8))
   ·refine oH 1 2 ?_
    rintro P W hs p ⟨a2, ⟨b7, -⟩, b8⟩
    refine kN [(12, (lv z t a0)), (27, (lv (some ⟨a2, 0, none⟩) ([g, o] : Bs) (List.length ([g, o] : Bs))))] ⟨p 0 12 K, (Qr (h := 15) K).symm.trans b7, trivial⟩ fun q => ?_
    refine Qx.append (e := eU8) (l := t) (m := ([g, o] : Bs)) (A := z) (c := a0) (T := 48) (TX := 48) (E := 5) (b := 1) (s := (.tmp 12)) (x := (.tmp 27)) (i := 0) (vx := (lv (some ⟨a2, 0, none⟩) ([g, o] : Bs) (List.length ([g, o] : Bs)))) (d := (some 28)) (k := 16) K rfl K K K K rfl b8 rfl (Rj (E := 5) K (Qz (SP.get b8 (i := 1) rfl))) hl270 ?_
    rw [hyl271]
    intro e9 f0 g5 f2
    refine ⟨_, Qa q, trivial, ?_⟩
    exact (ei a2 (ei e9 (ei f0 (ai (ai b7 (ai rfl (trivial))) f2))))
   ·refine oH 2 3 ?_
    rintro P W hs p ⟨b0, a3, a4, ⟨f3, b9, -⟩, f4⟩
    refine kN [(28, (lv a3 a1 a4))] ⟨(Qr (h := 16) K).symm.trans b9, trivial⟩ fun q => ?_
    refine Qx.run (k := 17) (v := (lv a3 a1 a4)) K ?_
    refine ⟨_, Qa q, trivial, ?_⟩
    exact (ei b0 (ei a3 (ei a4 (ai (ai f3 (ai b9 (ai rfl (trivial)))) f4))))
   rintro P g6 hs hf ⟨b2, a5, a6, ⟨g7, g8, f5, -⟩, f6⟩
   refine Qy [(0, (lv A2 p1 c3)), (3, (sv ([48, 49, 50, 51, 52, 53, 54, 55, 56, 57, 97, 98, 99, 100, 101, 102] : Bs))), (4, (lv a5 a1 a6)), (5, (iv f))] ⟨(hs 0 K).trans K, (hs 3 K).trans K, (Qr (h := 17) K).symm.trans f5, (hs 5 K).trans K, trivial⟩ ?_
   refine aR ?_
   refine iR 3 3 [(10, (iv f)), (11, (iv (IntKind.wrap .i64 (f + 1)))), (5, (iv (IntKind.wrap .i64 (f + 1))))] ?_
   refine iF ?_
   exact ⟨a1, (IntKind.wrap .i64 (f + 1)), a5, a6, ⟨K, K, K, K, trivial⟩, SP.sel f6 [0] rfl rfl, H⟩
  refine At.exit K (id := 0) K ?_
  refine aC ?_
  refine iR 1 1 [(29, (lv z t a0))] ?_
  refine iS 2 ?_
  refine Gf (T := 48) (S' := 9) (E := 5) (x := (.tmp 29)) (A := z) (c := a0) (l := t) (d := (some 30)) (k := 1) K rfl K K K K (Qz (SP.get b1 (i := 0) rfl)) ?_
  refine iR 1 3 [(2, (sv t))] ?_
  refine iF ?_
  refine At.ret K ?_
  refine ⟨(sv t), K, ?_⟩
  obtain rfl := Qe H
  exact ⟨rfl, SP.sel b1 [] rfl rfl⟩
 exact ⟨([] : Bs), 0, none, 0, ⟨K, K, K, K, trivial⟩, SP.sel (Nu c0 5 eU8) [0] rfl rfl, H⟩
end Go.Proofs.YtoflbpmbkmephaaGreatDoor
namespace Go.Proofs.YtoflbpmbkmephaaGreatDoor
open Go.RowKit
theorem bShr_nat (k : IntKind) (a b : Nat) (hb : b ≤ k.bits) : Ip k (a : Int) (b : Int) = ((a / 2 ^ b : Nat) : Int) := by
  unfold Ip
  rw [Int.toNat_natCast, Nat.min_eq_left hb, Int.fdiv_eq_ediv_of_nonneg _ (by exact Int.le_of_lt (Int.pow_pos (by omega)))]
  have : ((2 : Int) ^ b) = ((2 ^ b : Nat) : Int) := by push_cast; rfl
  rw [this]
  rfl
theorem Ch {α : Type} (l : List α) (i : Nat) (d : α) (h : i < l.length) : idx l (i : Int) = some (l.getD i d) := by rw [Zr h]; simp [List.getD, h]
def Co : List UInt8 := [48, 49, 50, 51, 52, 53, 54, 55, 56, 57, 97, 98, 99, 100, 101, 102]
def hexC (c : UInt8) : List UInt8 := [Co.getD (c.toNat / 16) 0, Co.getD (c.toNat % 16) 0]
def K6 (b : List UInt8) : List UInt8 := b.flatMap hexC
theorem D5 : ∀ b : List UInt8, (K6 b).length = 2 * b.length
  | [] => rfl
  | c :: b => by
    have := D5 b
    simp [K6, hexC] at *
    omega
theorem Ov (b : List UInt8) (c : UInt8) : K6 (b ++ [c]) = K6 b ++ hexC c := by simp [K6]
theorem Ow {α : Type} (l : List α) (i : Nat) (d : α) (h : i < l.length) : l.take (i + 1) = l.take i ++ [l.getD i d] := by
  rw [List.take_add_one, List.getElem?_eq_getElem h]
  simp [List.getD, h]
theorem hi_ref (c : UInt8) : IntKind.wrap .u8 (Int.tdiv ((c.toNat : Nat) : Int) 16) = ((c.toNat / 16 : Nat) : Int) := by
  have h := c.toNat_lt
  have := Hm c.toNat 16
  rw [show ((16 : Nat) : Int) = 16 from rfl] at this
  rw [this, wrap8]
  omega
theorem lo_ref (c : UInt8) : Int.tmod ((c.toNat : Nat) : Int) 16 = ((c.toNat % 16 : Nat) : Int) := by
  have := Hn c.toNat 16
  rw [show ((16 : Nat) : Int) = 16 from rfl] at this
  exact this
theorem hi_prog (c : UInt8) : Ip .u8 ((c.toNat : Nat) : Int) 4 = ((c.toNat / 16 : Nat) : Int) := bShr_nat .u8 c.toNat 4 (by decide)
theorem lo_prog (c : UInt8) : bAnd .u8 ((c.toNat : Nat) : Int) 15 = ((c.toNat % 16 : Nat) : Int) := by
  have h := c.toNat_lt
  unfold bAnd
  have : (BitVec.ofInt 8 ((c.toNat : Nat) : Int) &&& BitVec.ofInt 8 15).toNat = c.toNat % 16 := by
    rw [BitVec.toNat_and, BitVec.ofInt_natCast, BitVec.toNat_ofNat, Nat.mod_eq_of_lt (by omega)]
    show c.toNat &&& 15 = _
    exact Nat.and_two_pow_sub_one_eq_mod c.toNat 4
  show IntKind.wrap .u8 ((BitVec.ofInt 8 ((c.toNat : Nat) : Int) &&& BitVec.ofInt 8 15).toNat : Int) = _
  rw [this, wrap8]
  omega
theorem Hw : Co.length = 16 := rfl
theorem Ox (b : List UInt8) (hb : b.length ≤ 1000000) : ∀ (d i f : Nat), d = b.length - i → i ≤ b.length → d < f → Yr b f (K6 (b.take i)) (i : Int) = some (K6 b) := by
  intro d
  induction d with
  | zero =>
    intro i f hd hi hf
    obtain ⟨f, rfl⟩ : ∃ g, f = g + 1 := ⟨f - 1, by omega⟩
    have : i = b.length := by omega
    subst this
    show Yq (Yr b f) b (K6 (b.take b.length)) ((b.length : Nat) : Int) = _
    unfold Yq
    rw [show decide (((b.length : Nat) : Int) < ((b.length : Nat) : Int)) = false by simp, cond_false, List.take_length]
  | succ d ih =>
    intro i f hd hi hf
    obtain ⟨f, rfl⟩ : ∃ g, f = g + 1 := ⟨f - 1, by omega⟩
    show Yq (Yr b f) b (K6 (b.take i)) (i : Int) = _
    unfold Yq
    have hl : (K6 (b.take i)).length ≤ 2000000 := by rw [D5, List.length_take]; omega
    rw [show decide ((i : Int) < ((b.length : Nat) : Int)) = true by simp; omega, cond_true, Ch b i 0 (by omega)]
    have hlt := (b.getD i 0).toNat_lt
    have e1 : idx ([48, 49, 50, 51, 52, 53, 54, 55, 56, 57, 97, 98, 99, 100, 101, 102] : List UInt8) (((b.getD i 0).toNat / 16 : Nat) : Int) = some (Co.getD ((b.getD i 0).toNat / 16) 0) := Ch Co _ 0 (by rw [Hw]; omega)
    have e2 : idx ([48, 49, 50, 51, 52, 53, 54, 55, 56, 57, 97, 98, 99, 100, 101, 102] : List UInt8) (((b.getD i 0).toNat % 16 : Nat) : Int) = some (Co.getD ((b.getD i 0).toNat % 16) 0) := Ch Co _ 0 (by rw [Hw]; omega)
    simp only [Option.bind_some, hi_ref, lo_ref, e1, e2]
    rw [Ur (by simp only [List.length_cons, List.length_nil]; omega), Option.bind_some, show ((i : Int) + 1) = ((i + 1 : Nat) : Int) by omega, Uy (by omega)]
    have := ih (i + 1) f (by omega) (by omega) (by omega)
    rw [Ow b i 0 (by omega), Ov] at this
    exact this
theorem ref_hex (b : List UInt8) (hb : b.length ≤ 1000000) : Rs b = some (K6 b) := Ox b hb b.length 0 Zj (by omega) (by omega) (by unfold Zj; omega)
def hexS (b : List UInt8) (i : Nat) : List UInt8 := K6 (b.take i) ++ List.replicate (2 * b.length - 2 * i) 0
theorem P0 (b : List UInt8) (i : Nat) (h : i ≤ b.length) : (hexS b i).length = 2 * b.length := by
  simp [hexS, D5]
  omega
theorem hexS_next (b : List UInt8) (i : Nat) (h : i < b.length) : ((hexS b i).set (2 * i) (Co.getD ((b.getD i 0).toNat / 16) 0)).set (2 * i + 1) (Co.getD ((b.getD i 0).toNat % 16) 0) = hexS b (i + 1) := by
  have hl : (K6 (b.take i)).length = 2 * i := by rw [D5, List.length_take]; omega
  unfold hexS
  rw [show 2 * b.length - 2 * i = (2 * b.length - 2 * (i + 1)) + 1 + 1 by omega, List.replicate_succ, List.replicate_succ]
  rw [List.set_append_right _ _ (by omega), List.set_append_right _ _ (by omega), hl, Nat.sub_self, show 2 * i + 1 - 2 * i = 1 by omega]
  rw [Ow b i 0 h, Ov]
  simp [hexC]
theorem Ml (b : List UInt8) (hb : b.length ≤ 1000000) : ∀ (d i f : Nat), d = b.length - i → i ≤ b.length → d < f → Nj b f (hexS b i) (i : Int) = some (K6 b) := by
  intro d
  induction d with
  | zero =>
    intro i f hd hi hf
    obtain ⟨f, rfl⟩ : ∃ g, f = g + 1 := ⟨f - 1, by omega⟩
    have : i = b.length := by omega
    subst this
    show Ni (Nj b f) b (hexS b b.length) ((b.length : Nat) : Int) = _
    unfold Ni
    rw [show decide (((b.length : Nat) : Int) < ((b.length : Nat) : Int)) = false by simp, cond_false]
    unfold hexS
    rw [List.take_length, Nat.sub_self]
    simp
  | succ d ih =>
    intro i f hd hi hf
    obtain ⟨f, rfl⟩ : ∃ g, f = g + 1 := ⟨f - 1, by omega⟩
    show Ni (Nj b f) b (hexS b i) (i : Int) = _
    unfold Ni
    have hl := P0 b i (by omega)
    rw [show decide ((i : Int) < ((b.length : Nat) : Int)) = true by simp; omega, cond_true, Ch b i 0 (by omega)]
    have hlt := (b.getD i 0).toNat_lt
    have e1 : idx ([48, 49, 50, 51, 52, 53, 54, 55, 56, 57, 97, 98, 99, 100, 101, 102] : List UInt8) (((b.getD i 0).toNat / 16 : Nat) : Int) = some (Co.getD ((b.getD i 0).toNat / 16) 0) := Ch Co _ 0 (by rw [Hw]; omega)
    have e2 : idx ([48, 49, 50, 51, 52, 53, 54, 55, 56, 57, 97, 98, 99, 100, 101, 102] : List UInt8) (((b.getD i 0).toNat % 16 : Nat) : Int) = some (Co.getD ((b.getD i 0).toNat % 16) 0) := Ch Co _ 0 (by rw [Hw]; omega)
    have w2 : IntKind.wrap .i64 (2 * (i : Int)) = ((2 * i : Nat) : Int) := by rw [show (2 * (i : Int)) = ((2 * i : Nat) : Int) by omega, Uy (by omega)]
    have w3 : IntKind.wrap .i64 (((2 * i : Nat) : Int) + 1) = ((2 * i + 1 : Nat) : Int) := by rw [show (((2 * i : Nat) : Int) + 1) = ((2 * i + 1 : Nat) : Int) by omega, Uy (by omega)]
    have w4 : IntKind.wrap .i64 ((i : Int) + 1) = ((i + 1 : Nat) : Int) := by rw [show ((i : Int) + 1) = ((i + 1 : Nat) : Int) by omega, Uy (by omega)]
    simp only [Option.bind_some, hi_prog, lo_prog, e1, e2, w2, w3, w4]
    rw [Ch _ (2 * i) 0 (by omega), Option.bind_some, Ch _ (2 * i + 1) 0 (by simp; omega), Option.bind_some, Int.toNat_natCast, Int.toNat_natCast, hexS_next b i (by omega)]
    exact ih (i + 1) f (by omega) (by omega) (by omega)
theorem prog_hex (b : List UInt8) (hb : b.length ≤ 1000000) : Bi b = some (K6 b) := by
  unfold Bi
  rw [show (2 * ((b.length : Nat) : Int)) = ((2 * b.length : Nat) : Int) by omega, Uy (by omega), show decide (0 ≤ ((2 * b.length : Nat) : Int) ∧ ((2 * b.length : Nat) : Int) ≤ 2147483648) = true from decide_eq_true ⟨by omega, by omega⟩]
  simp only [chk, Option.bind_some, Int.toNat_natCast]
  have := Ml b hb b.length 0 Zj (by omega) (by omega) (by unfold Zj; omega)
  have h0 : hexS b 0 = List.replicate (2 * b.length) 0 := by simp [hexS, K6]
  rw [h0] at this
  exact this
def Oy (c : UInt8) : Option Nat := if 48 ≤ c.toNat ∧ c.toNat ≤ 57 then some (c.toNat - 48) else if 97 ≤ c.toNat ∧ c.toNat ≤ 102 then some (c.toNat - 87) else none
def N5 : List UInt8 → Option (List UInt8)
  | [] => some []
  | [_] => none
  | a :: b :: r => match Oy a, Oy b with
    | some x, some y => (N5 r).map fun l => UInt8.ofNat (16 * x + y) :: l
    | _, _ => none
def Oz (x : Option (List UInt8)) : List UInt8 × Bool := match x with | none => ([], false) | some l => (l, true)
theorem of_fin {p : UInt8 → Prop} (h : ∀ n : Fin 256, p (UInt8.ofNat n.val)) (c : UInt8) : p c := by
  have e := h ⟨c.toNat, c.toNat_lt⟩
  have : UInt8.ofNat c.toNat = c := by simp
  rwa [this] at e
theorem Ie {c : UInt8} {x : Nat} (h : Oy c = some x) : x < 16 := by
  unfold Oy at h
  split at h
  · injection h with h; omega
  · split at h
    · injection h with h; omega
    · cases h
theorem ix_dig (c : UInt8) : Lib.indexByte Co c = match Oy c with | some x => (x : Int) | none => -1 :=
  of_fin (p := fun c => Lib.indexByte Co c = match Oy c with | some x => (x : Int) | none => -1) (by decide +kernel) c
theorem ref_digit (c : UInt8) : Ud c = some (match Oy c with | some x => UInt8.ofNat x | none => 16) :=
  of_fin (p := fun c => Ud c = some (match Oy c with | some x => UInt8.ofNat x | none => 16)) (by decide +kernel) c
theorem hex_dig (c : UInt8) : ∀ x, Oy c = some x → Co.getD x 0 = c :=
  fun x h => by
    have := of_fin (p := fun c => ((Oy c).map fun x => Co.getD x 0) = (Oy c).map fun _ => c) (by decide +kernel) c
    rw [h] at this
    exact Option.some.inj this
theorem hex_pair {x y : Nat} (hx : x < 16) (hy : y < 16) : hexC (UInt8.ofNat (16 * x + y)) = [Co.getD x 0, Co.getD y 0] :=
  (by decide +kernel : ∀ n m : Fin 16, hexC (UInt8.ofNat (16 * n.val + m.val)) = [Co.getD n.val 0, Co.getD m.val 0]) ⟨x, hx⟩ ⟨y, hy⟩
theorem If : ∀ {s b : List UInt8}, N5 s = some b → K6 b = s
  | [], b, h => by injection h with h; subst h; rfl
  | [_], b, h => by cases h
  | a :: c :: r, b, h => by
    simp only [N5] at h
    cases hx : Oy a with
    | none => rw [hx] at h; cases h
    | some x =>
      cases hy : Oy c with
      | none => rw [hx, hy] at h; cases h
      | some y =>
        rw [hx, hy] at h
        simp only [Option.map_eq_some_iff] at h
        obtain ⟨l, hl, rfl⟩ := h
        show hexC _ ++ K6 l = _
        rw [hex_pair (Ie hx) (Ie hy), If hl, hex_dig a x hx, hex_dig c y hy]
        rfl
theorem Lv {s b : List UInt8} (h : N5 s = some b) : s.length = 2 * b.length := by rw [← If h, D5]
theorem Lw {s : List UInt8} (h : s.length % 2 = 1) : N5 s = none := by
  cases hu : N5 s with
  | none => rfl
  | some b => have := Lv hu; omega
theorem set_mid {α : Type} (l r : List α) (x y : α) (k : Nat) (h : l.length = k) : (l ++ x :: r).set k y = l ++ y :: r := by
  subst h
  simp
theorem get_mid {α : Type} (l r : List α) (x : α) (k : Nat) (h : l.length = k) : (l ++ x :: r)[k]? = some x := by
  subst h
  simp
theorem Sy {α : Type} {l : List α} {i : Nat} (h : i + 1 < l.length) : l.drop i = l[i] :: l[i + 1] :: l.drop (i + 2) := by
  rw [List.drop_eq_getElem_cons (by omega), List.drop_eq_getElem_cons h]
theorem or_hi {x : Nat} (hx : x < 16) : Ex (bOr .u8 (K4 .u8 (((0 : UInt8).toNat : Nat) : Int) 4) (IntKind.wrap .u8 (x : Int))) = UInt8.ofNat x :=
  (by decide +kernel : ∀ n : Fin 16, Ex (bOr .u8 (K4 .u8 (((0 : UInt8).toNat : Nat) : Int) 4) (IntKind.wrap .u8 ((n.val : Nat) : Int))) = UInt8.ofNat n.val) ⟨x, hx⟩
theorem or_lo {x y : Nat} (hx : x < 16) (hy : y < 16) : Ex (bOr .u8 (K4 .u8 (((UInt8.ofNat x).toNat : Nat) : Int) 4) (IntKind.wrap .u8 (y : Int))) = UInt8.ofNat (16 * x + y) :=
  (by decide +kernel : ∀ n m : Fin 16, Ex (bOr .u8 (K4 .u8 (((UInt8.ofNat n.val).toNat : Nat) : Int) 4) (IntKind.wrap .u8 ((m.val : Nat) : Int))) = UInt8.ofNat (16 * n.val + m.val)) ⟨x, hx⟩ ⟨y, hy⟩
theorem Ks (s : List UInt8) (hs : s.length ≤ 1000000) : ∀ (n k f : Nat) (dec : List UInt8), s.length = 2 * k + 2 * n → dec.length = k → 2 * n < f →
    Ji s f (dec ++ List.replicate n 0) ((2 * k : Nat) : Int) = some (match N5 (s.drop (2 * k)) with | some l => (dec ++ l, true) | none => ([], false)) := by
  intro n
  induction n with
  | zero =>
    intro k f dec h1 h2 h3
    obtain ⟨f, rfl⟩ : ∃ g, f = g + 1 := ⟨f - 1, by omega⟩
    show Yk (Ji s f) s _ _ = _
    unfold Yk
    rw [show decide (((2 * k : Nat) : Int) < ((s.length : Nat) : Int)) = false by rw [decide_eq_false_iff_not]; omega, List.drop_of_length_le (by omega)]
    simp [N5]
  | succ n ih =>
    intro k f dec h1 h2 h3
    obtain ⟨f, rfl⟩ : ∃ g, f = g + 1 + 1 := ⟨f - 2, by omega⟩
    have t0 : IntKind.wrap .i64 (Int.tdiv ((2 * k : Nat) : Int) 2) = (k : Int) := by
      have := Hm (2 * k) 2
      rw [show ((2 : Nat) : Int) = 2 from rfl] at this
      rw [this, show 2 * k / 2 = k by omega]
      exact Uy (by omega)
    have t1 : IntKind.wrap .i64 (Int.tdiv ((2 * k + 1 : Nat) : Int) 2) = (k : Int) := by
      have := Hm (2 * k + 1) 2
      rw [show ((2 : Nat) : Int) = 2 from rfl] at this
      rw [this, show (2 * k + 1) / 2 = k by omega]
      exact Uy (by omega)
    have w0 : IntKind.wrap .i64 (((2 * k : Nat) : Int) + 1) = ((2 * k + 1 : Nat) : Int) := by rw [J5 (by omega)]; omega
    have w1 : IntKind.wrap .i64 (((2 * k + 1 : Nat) : Int) + 1) = ((2 * (k + 1) : Nat) : Int) := by rw [J5 (by omega)]; omega
    have i0 : idx s ((2 * k : Nat) : Int) = some (s[2 * k]'(by omega)) := Zr (by omega)
    have i1 : idx s ((2 * k + 1 : Nat) : Int) = some (s[2 * k + 1]'(by omega)) := Zr (by omega)
    have e0 : ∀ (x : UInt8) (r : List UInt8), idx (dec ++ x :: r) (k : Int) = some x := fun x r => by rw [Hc]; exact get_mid dec r x k h2
    rw [Sy (show 2 * k + 1 < s.length by omega)]
    show Yk (Ji s (f + 1)) s _ _ = _
    unfold Yk
    rw [show decide (((2 * k : Nat) : Int) < ((s.length : Nat) : Int)) = true by rw [decide_eq_true_eq]; omega, i0, t0, w0]
    simp only [cond_true, Option.bind_some, Nf]
    rw [show Lib.indexByte [48, 49, 50, 51, 52, 53, 54, 55, 56, 57, 97, 98, 99, 100, 101, 102] (s[2 * k]'(by omega)) = _ from ix_dig _]
    cases ha : Oy (s[2 * k]'(by omega)) with
    | none => simp [N5, ha]
    | some x =>
      have hx := Ie ha
      rw [show decide ((x : Int) < 0) = false by rw [decide_eq_false_iff_not]; omega, show List.replicate (n + 1) (0 : UInt8) = 0 :: List.replicate n 0 from rfl]
      simp only [cond_false, e0, Option.bind_some, Int.toNat_natCast]
      rw [set_mid dec _ _ _ k h2, or_hi hx]
      show Yk (Ji s f) s _ _ = _
      unfold Yk
      rw [show decide (((2 * k + 1 : Nat) : Int) < ((s.length : Nat) : Int)) = true by rw [decide_eq_true_eq]; omega, i1, t1, w1]
      simp only [cond_true, Option.bind_some, Nf]
      rw [show Lib.indexByte [48, 49, 50, 51, 52, 53, 54, 55, 56, 57, 97, 98, 99, 100, 101, 102] (s[2 * k + 1]'(by omega)) = _ from ix_dig _]
      cases hb : Oy (s[2 * k + 1]'(by omega)) with
      | none => simp [N5, ha, hb]
      | some y =>
        have hy := Ie hb
        rw [show decide ((y : Int) < 0) = false by rw [decide_eq_false_iff_not]; omega]
        simp only [cond_false, e0, Option.bind_some, Int.toNat_natCast]
        rw [set_mid dec _ _ _ k h2, or_lo hx hy]
        have := ih (k + 1) f (dec ++ [UInt8.ofNat (16 * x + y)]) (by omega) (by simp [h2]) (by omega)
        rw [List.append_assoc, List.singleton_append] at this
        rw [this, show 2 * (k + 1) = 2 * k + 2 by omega]
        simp only [N5, ha, hb]
        cases N5 (s.drop (2 * k + 2)) <;> simp
theorem Tr (s : List UInt8) (hs : s.length ≤ 1000000) : R5 s = some (Oz (N5 s)) := by
  unfold R5
  have tm := Hn s.length 2
  rw [show ((2 : Nat) : Int) = 2 from rfl] at tm
  have td := Hm s.length 2
  rw [show ((2 : Nat) : Int) = 2 from rfl] at td
  rw [tm, td, Uy (show s.length / 2 < 4611686018427387904 by omega)]
  by_cases ho : s.length % 2 = 1
  · rw [show decide (((s.length % 2 : Nat) : Int) > 0) = true by rw [decide_eq_true_eq]; omega, Lw ho]
    rfl
  · rw [show decide (((s.length % 2 : Nat) : Int) > 0) = false by rw [decide_eq_false_iff_not]; omega, show decide (0 ≤ ((s.length / 2 : Nat) : Int) ∧ ((s.length / 2 : Nat) : Int) ≤ 2147483648) = true by rw [decide_eq_true_eq]; omega]
    simp only [cond_false, chk, if_true, Option.bind_some, Int.toNat_natCast]
    have := Ks s hs (s.length / 2) 0 Zj [] (by omega) rfl (by unfold Zj; omega)
    rw [List.nil_append] at this
    refine this.trans ?_
    rw [List.drop_zero]
    cases N5 s <;> rfl
theorem Ld (s : List UInt8) (hs : s.length ≤ 1000000) : ∀ (n k f : Nat) (dec : List UInt8), s.length = 2 * k + 2 * n → dec.length = k → n < f →
    Zw s f dec ((2 * k : Nat) : Int) = some (match N5 (s.drop (2 * k)) with | some l => (dec ++ l, true) | none => ([], false)) := by
  intro n
  induction n with
  | zero =>
    intro k f dec h1 h2 h3
    obtain ⟨f, rfl⟩ : ∃ g, f = g + 1 := ⟨f - 1, by omega⟩
    show Xo (Zw s f) s _ _ = _
    unfold Xo
    rw [show decide (((2 * k : Nat) : Int) < ((s.length : Nat) : Int)) = false by rw [decide_eq_false_iff_not]; omega, List.drop_of_length_le (by omega)]
    simp [N5]
  | succ n ih =>
    intro k f dec h1 h2 h3
    obtain ⟨f, rfl⟩ : ∃ g, f = g + 1 := ⟨f - 1, by omega⟩
    have w0 : IntKind.wrap .i64 (((2 * k : Nat) : Int) + 1) = ((2 * k + 1 : Nat) : Int) := by rw [J5 (by omega)]; omega
    have w2 : IntKind.wrap .i64 (((2 * k : Nat) : Int) + 2) = ((2 * (k + 1) : Nat) : Int) := by rw [J5 (by omega)]; omega
    have i0 : idx s ((2 * k : Nat) : Int) = some (s[2 * k]'(by omega)) := Zr (by omega)
    have i1 : idx s ((2 * k + 1 : Nat) : Int) = some (s[2 * k + 1]'(by omega)) := Zr (by omega)
    rw [Sy (show 2 * k + 1 < s.length by omega)]
    show Xo (Zw s f) s _ _ = _
    unfold Xo
    rw [show decide (((2 * k : Nat) : Int) < ((s.length : Nat) : Int)) = true by rw [decide_eq_true_eq]; omega, i0, w0, i1]
    simp only [cond_true, Option.bind_some, ref_digit]
    have small : ∀ {z : Nat}, z < 16 → decide ((((UInt8.ofNat z).toNat : Nat) : Int) > 15) = false := fun {z} hz => by
      have : (UInt8.ofNat z).toNat = z := by simp; omega
      rw [this, decide_eq_false_iff_not]; omega
    have big : decide ((((16 : UInt8).toNat : Nat) : Int) > 15) = true := rfl
    cases ha : Oy (s[2 * k]'(by omega)) with
    | none =>
      simp only [big, cond_true, Xn, N5, ha]
    | some x =>
      have hx := Ie ha
      simp only [small hx, cond_false]
      cases hb : Oy (s[2 * k + 1]'(by omega)) with
      | none => simp only [big, cond_true, Xn, N5, ha, hb]
      | some y =>
        have hy := Ie hb
        have hv : Ex (IntKind.wrap .u8 (IntKind.wrap .u8 (16 * (((UInt8.ofNat x).toNat : Nat) : Int)) + (((UInt8.ofNat y).toNat : Nat) : Int))) = UInt8.ofNat (16 * x + y) :=
          (by decide +kernel : ∀ n m : Fin 16, Ex (IntKind.wrap .u8 (IntKind.wrap .u8 (16 * (((UInt8.ofNat n.val).toNat : Nat) : Int)) + (((UInt8.ofNat m.val).toNat : Nat) : Int))) = UInt8.ofNat (16 * n.val + m.val)) ⟨x, hx⟩ ⟨y, hy⟩
        simp only [small hy, cond_false, Xn, hv]
        rw [Ur (by simp only [List.length_cons, List.length_nil]; omega), w2]
        simp only [Option.bind_some]
        have := ih (k + 1) f (dec ++ [UInt8.ofNat (16 * x + y)]) (by omega) (by simp [h2]) (by omega)
        rw [this, show 2 * (k + 1) = 2 * k + 2 by omega]
        simp only [N5, ha, hb]
        cases N5 (s.drop (2 * k + 2)) <;> simp
theorem ref_unhex (s : List UInt8) (hs : s.length ≤ 1000000) : Nk s = some (Oz (N5 s)) := by
  unfold Nk
  have tm := Hn s.length 2
  rw [show ((2 : Nat) : Int) = 2 from rfl] at tm
  rw [tm]
  by_cases ho : s.length % 2 = 1
  · rw [ho, Lw ho]
    rfl
  · rw [show (((s.length % 2 : Nat) : Int) == 1) = false by rw [beq_eq_false_iff_ne]; omega]
    have := Ld s hs (s.length / 2) 0 Zj [] (by omega) rfl (by unfold Zj; omega)
    simp only [cond_false]
    refine this.trans ?_
    rw [Nat.mul_zero, List.drop_zero]
    cases N5 s <;> rfl
end Go.Proofs.YtoflbpmbkmephaaGreatDoor
