import Derived.Test.YtmgfanhcdfobhaaGreatDoorPkShakePlays2
set_option linter.unusedSimpArgs false
set_option linter.unusedVariables false
set_option linter.unusedSectionVars false
set_option maxRecDepth 100000
set_option maxHeartbeats 4000000
namespace Go.Proofs.YtmgfanhcdfobhaaGreatDoor
def TenS (t : Qg) : Prop := t.1.length ≤ 9000 ∧ t.2.2.2.1.length ≤ 9000 ∧ t.2.2.2.2.length ≤ 9000 ∧ ∀ x ∈ t.2.2.2.2, x.1.length ≤ 9000 ∧ x.2.1.length ≤ 9000
theorem not_gt {a b : Int} : decide (a > b) = !(decide (a ≤ b)) := by rw [← decide_not]; exact decide_eq_decide.2 (by omega)
theorem not_lt0 {a : Int} : decide (a < 0) = !(decide (0 ≤ a)) := by rw [← decide_not]; exact decide_eq_decide.2 (by omega)
theorem emptyB (s : Str) : (s == ([] : List UInt8)) = !(decide (1 ≤ s.length)) := by
  cases s with
  | nil => rfl
  | cons c s => rw [decide_eq_true (by simp)]; rfl
theorem len32 (s : Str) : decide (((List.length s : Nat) : Int) > 32) = !(decide (s.length ≤ 32)) := by rw [← decide_not]; exact decide_eq_decide.2 (by omega)
theorem tok_step (r10 r13 : Int → Option Bool) (l : List Fv) (i : Nat) (hi : i < l.length) (hl : l.length ≤ 9000) (hx : l[i].1.length ≤ 9000) :
    Vt r10 r13 l (i : Int) = cond (Hs l[i] && (if h : 0 < i then Op.bytesLess (l[i - 1]'(by omega)).1 l[i].1 else true)) (r13 ((i + 1 : Nat) : Int)) (some false) := by
  unfold Vt Qz
  rw [show decide ((i : Int) < ((l.length : Nat) : Int)) = true from decide_eq_true (by omega), cond_true, Jt hi, Option.bind_some, rName _ hx, Option.bind_some]
  simp only [show ((i : Int) + 1) = ((i + 1 : Nat) : Int) by omega, Xh (show i + 1 < 4611686018427387904 by omega), emptyB, len32, not_lt0, not_gt (a := l[i].2.2)]
  unfold Hs
  by_cases h0 : 0 < i
  · rw [dif_pos h0, show decide ((i : Int) > 0) = true from decide_eq_true (by omega), cond_true, show ((i : Int) - 1) = ((i - 1 : Nat) : Int) by omega, Xh (by omega), Jt (by omega : i - 1 < l.length), Option.bind_some]
    cases Ef l[i].1 <;> cases Op.bytesLess l[i - 1].1 l[i].1 <;> cases decide (1 ≤ l[i].2.1.length) <;> cases decide (l[i].2.1.length ≤ 32) <;> cases decide (0 ≤ l[i].2.2) <;> cases decide (l[i].2.2 ≤ 1099511627776) <;> rfl
  · rw [dif_neg h0, show decide ((i : Int) > 0) = false from decide_eq_false (by omega), cond_false]
    cases Ef l[i].1 <;> cases decide (1 ≤ l[i].2.1.length) <;> cases decide (l[i].2.1.length ≤ 32) <;> cases decide (0 ≤ l[i].2.2) <;> cases decide (l[i].2.2 ≤ 1099511627776) <;> rfl
theorem Of (l : List Str) (i : Nat) (hi : i < l.length) : Iw (l.drop (i - 1)) = ((if h : 0 < i then Op.bytesLess (l[i - 1]'(by omega)) l[i] else true) && Iw (l.drop i)) := by
  by_cases h : 0 < i
  · rw [dif_pos h, Id l (i - 1) (by omega)]
    simp only [show i - 1 + 1 = i by omega]
  · rw [dif_neg h, show i - 1 = i by omega]
    rfl
theorem tok_loop (r10 : Int → Option Bool) (l : List Fv) (hl : l.length ≤ 9000) (hx : ∀ x ∈ l, x.1.length ≤ 9000) : ∀ (d i f : Nat), d = l.length - i → i ≤ l.length → d < f →
    Vb r10 l f (i : Int) = some ((l.drop i).all Hs && Iw ((l.map (·.1)).drop (i - 1))) := by
  intro d
  induction d with
  | zero =>
    intro i f hd hi hf
    obtain ⟨f, rfl⟩ : ∃ g, f = g + 1 := ⟨f - 1, by omega⟩
    show Vt r10 (Vb r10 l f) l (i : Int) = _
    unfold Vt
    rw [show decide ((i : Int) < ((l.length : Nat) : Int)) = false from decide_eq_false (by omega), cond_false, List.drop_of_length_le (by omega), Er _ _ (by simp; omega)]
    rfl
  | succ d ih =>
    intro i f hd hi hf
    obtain ⟨f, rfl⟩ : ∃ g, f = g + 1 := ⟨f - 1, by omega⟩
    have hlt : i < l.length := by omega
    show Vt r10 (Vb r10 l f) l (i : Int) = _
    rw [tok_step r10 _ l i hlt hl (hx _ (List.getElem_mem hlt)), ih (i + 1) f (by omega) (by omega) (by omega), List.drop_eq_getElem_cons hlt, List.all_cons, Of _ i (by simpa using hlt), show i + 1 - 1 = i by omega]
    simp only [List.getElem_map]
    generalize (if h : 0 < i then Op.bytesLess (l[i - 1]'(by omega)).1 l[i].1 else true) = b
    cases Hs l[i] <;> cases b <;> simp
theorem net_loop9 (l : List Me) (tk : List Fv) (B : Bool) (hl : l.length ≤ 9000) (hn : ∀ n ∈ l, 0 ≤ n.1 ∧ n.1 < 4294967296) (ht : ∀ r10, Vb r10 tk Zj 0 = some B) : ∀ (d i f : Nat), d = l.length - i → i ≤ l.length → d < f →
    Q6 l tk f (i : Int) = some ((l.drop i).all Ko && B) := by
  intro d
  induction d with
  | zero =>
    intro i f hd hi hf
    obtain ⟨f, rfl⟩ : ∃ g, f = g + 1 := ⟨f - 1, by omega⟩
    show Zg (Q6 l tk f) l tk (i : Int) = _
    unfold Zg
    rw [show decide ((i : Int) < ((l.length : Nat) : Int)) = false from decide_eq_false (by omega), cond_false, List.drop_of_length_le (by omega), ht]
    rfl
  | succ d ih =>
    intro i f hd hi hf
    obtain ⟨f, rfl⟩ : ∃ g, f = g + 1 := ⟨f - 1, by omega⟩
    have hlt : i < l.length := by omega
    have hb := hn _ (List.getElem_mem hlt)
    show Zg (Q6 l tk f) l tk (i : Int) = _
    unfold Zg
    obtain ⟨a, ha⟩ : ∃ a : Nat, l[i].1 = (a : Int) := ⟨l[i].1.toNat, by omega⟩
    rw [show decide ((i : Int) < ((l.length : Nat) : Int)) = true from decide_eq_true (by omega), cond_true, Jt hlt, Option.bind_some, ha, rRight a (by omega), Option.bind_some, show ((i : Int) + 1) = ((i + 1 : Nat) : Int) by omega, Xh (by omega), ih (i + 1) f (by omega) (by omega) (by omega), List.drop_eq_getElem_cons hlt, List.all_cons,
      show Ko l[i] = Bw a l[i].2 by unfold Ko; rw [ha, Int.toNat_natCast]]
    cases Bw a l[i].2 <;> simp
theorem rTenant {t : Qg} (hs : TenS t) (hq : Mh t) : Yp t.1 t.2.1 t.2.2.1 t.2.2.2.1 t.2.2.2.2 = some (Fx t) := by
  obtain ⟨h1, h2, h3, h4⟩ := hs
  have htok : ∀ r10, Vb r10 t.2.2.2.2 Zj 0 = some (t.2.2.2.2.all Hs && Iw (t.2.2.2.2.map (·.1))) := fun r10 => by
    have := tok_loop r10 t.2.2.2.2 h3 (fun x hx => (h4 x hx).1) t.2.2.2.2.length 0 Zj (by omega) (by omega) (by unfold Zj; omega)
    simpa using this
  have hnet := net_loop9 t.2.2.2.1 t.2.2.2.2 _ h2 hq.2.2.2.1 htok t.2.2.2.1.length 0 Zj (by omega) (by omega) (by unfold Zj; omega)
  rw [show ((0 : Nat) : Int) = 0 from rfl, List.drop_zero] at hnet
  unfold Yp Vd
  rw [rName _ h1, Option.bind_some]
  simp only [hnet, not_lt0, not_gt]
  rw [show decide (((List.length t.2.2.2.1 : Nat) : Int) ≤ 4) = decide (t.2.2.2.1.length ≤ 4) from decide_eq_decide.2 (by omega), show decide (((List.length t.2.2.2.2 : Nat) : Int) ≤ 4) = decide (t.2.2.2.2.length ≤ 4) from decide_eq_decide.2 (by omega)]
  unfold Fx qOk
  generalize t.2.2.2.1.all Ko = a1
  generalize t.2.2.2.2.all Hs = a2
  generalize Iw (t.2.2.2.2.map (·.1)) = a3
  cases Ef t.1 <;> cases decide (0 ≤ t.2.1) <;> cases decide (t.2.1 ≤ 8) <;> cases decide (0 ≤ t.2.2.1) <;> cases decide (t.2.2.1 ≤ 8) <;> cases decide (t.2.2.2.1.length ≤ 4) <;> cases decide (t.2.2.2.2.length ≤ 4) <;> cases a1 <;> cases a2 <;> cases a3 <;> rfl
theorem rTime (n : Int) : Yj n = some (Gp n) := by
  unfold Yj Jv Gp
  by_cases h : n ≥ 1
  · rw [decide_eq_true h]; rfl
  · rw [decide_eq_false h]; rfl
def endOk (w g i e : Int) (l : List Qg) : Bool := (Gp w && (Gp g && (Gp i && Gp e))) && decide (l.length ≤ 8)
theorem rCfg_loop (w g i e : Int) (l : List Qg) (hl : l.length ≤ 9000) (hq : ∀ t ∈ l, Mh t) (hs : ∀ t ∈ l, TenS t) : ∀ (d k f : Nat), d = l.length - k → k ≤ l.length → d < f →
    Zr w g i e l f (k : Int) = some (((l.drop k).all Fx && Iw ((l.map (·.1)).drop (k - 1))) && endOk w g i e l) := by
  intro d
  induction d with
  | zero =>
    intro k f hd hk hf
    obtain ⟨f, rfl⟩ : ∃ g, f = g + 1 := ⟨f - 1, by omega⟩
    show Xk (Zr w g i e l f) w g i e l (k : Int) = _
    unfold Xk Zz
    rw [show decide ((k : Int) < ((l.length : Nat) : Int)) = false from decide_eq_false (by omega), cond_false, List.drop_of_length_le (by omega), Er _ _ (by simp; omega), rTime, rTime, rTime, rTime, show decide (((List.length l : Nat) : Int) ≤ 8) = decide (l.length ≤ 8) from decide_eq_decide.2 (by omega)]
    unfold endOk
    cases Gp w <;> cases Gp g <;> cases Gp i <;> cases Gp e <;> rfl
  | succ d ih =>
    intro k f hd hk hf
    obtain ⟨f, rfl⟩ : ∃ g, f = g + 1 := ⟨f - 1, by omega⟩
    have hlt : k < l.length := by omega
    have hm := List.getElem_mem hlt
    show Xk (Zr w g i e l f) w g i e l (k : Int) = _
    unfold Xk Yl
    rw [show decide ((k : Int) < ((l.length : Nat) : Int)) = true from decide_eq_true (by omega), cond_true, Jt hlt, Option.bind_some, rTenant (hs _ hm) (hq _ hm), Option.bind_some, show ((k : Int) + 1) = ((k + 1 : Nat) : Int) by omega, Xh (by omega), ih (k + 1) f (by omega) (by omega) (by omega), List.drop_eq_getElem_cons hlt, List.all_cons, Of _ k (by simpa using hlt), show k + 1 - 1 = k by omega]
    simp only [List.getElem_map]
    by_cases h0 : 0 < k
    · rw [dif_pos h0, show decide ((k : Int) > 0) = true from decide_eq_true (by omega), cond_true, show ((k : Int) - 1) = ((k - 1 : Nat) : Int) by omega, Xh (by omega), Jt (by omega : k - 1 < l.length), Option.bind_some, Option.bind_some]
      cases Fx l[k] <;> cases Op.bytesLess l[k - 1].1 l[k].1 <;> simp
    · rw [dif_neg h0, show decide ((k : Int) > 0) = false from decide_eq_false (by omega), cond_false]
      cases Fx l[k] <;> simp
theorem rCfg (w g i e : Int) (l : List Qg) (hl : l.length ≤ 9000) (hq : ∀ t ∈ l, Mh t) (hs : ∀ t ∈ l, TenS t) : Ur w g i e l = some (Ht w g i e l) := by
  have := rCfg_loop w g i e l hl hq hs l.length 0 Zj (by omega) (by omega) (by unfold Zj; omega)
  unfold Ur
  rw [show ((0 : Nat) : Int) = 0 from rfl] at this
  rw [this, List.drop_zero, Nat.zero_sub, List.drop_zero]
  unfold Ht endOk
  generalize l.all Fx = a
  generalize Iw (l.map (·.1)) = b
  cases (Gp w && (Gp g && (Gp i && Gp e))) <;> cases a <;> cases b <;> cases decide (l.length ≤ 8) <;> rfl
def pl (l : List Qg) (nm : Str) : Option Nat := l.findIdx? (fun x => x.1 == nm)
def Kp : Qg := ([], 0, 0, [], [])
def Hc (l : List Qg) (nm : Str) : Str × Int × Int × List Me × List Fv × Bool := match pl l nm with
  | some k => ((l.getD k Kp).1, (l.getD k Kp).2.1, (l.getD k Kp).2.2.1, (l.getD k Kp).2.2.2.1, (l.getD k Kp).2.2.2.2, true)
  | none => ([], 0, 0, [], [], false)
theorem pl_step {l : List Qg} {nm : Str} {i : Nat} (hi : i < l.length) (hn : (l.take i).any (fun x => x.1 == nm) = false) (hx : (l[i].1 == nm) = true) : pl l nm = some i := by
  unfold pl
  rw [List.findIdx?_eq_some_iff_getElem]
  refine ⟨hi, hx, fun j hj => ?_⟩
  rw [List.any_eq_false] at hn
  have := hn l[j] (by rw [List.mem_take_iff_getElem]; exact ⟨j, by omega, rfl⟩)
  simpa using this
theorem pl_none {l : List Qg} {nm : Str} (hn : l.any (fun x => x.1 == nm) = false) : pl l nm = none := by
  unfold pl
  rw [List.findIdx?_eq_none_iff]
  intro x hx
  rw [List.any_eq_false] at hn
  simpa using hn x hx
theorem any_more {l : List Qg} {nm : Str} {i : Nat} (hi : i < l.length) (hn : (l.take i).any (fun x => x.1 == nm) = false) (hx : (l[i].1 == nm) = false) : (l.take (i + 1)).any (fun x => x.1 == nm) = false := by
  rw [List.take_add_one, List.getElem?_eq_getElem hi, List.any_append, hn]
  simp [hx]
theorem O6 (l : List Qg) (nm : Str) (hl : l.length ≤ 9000) : ∀ (d i f : Nat), d = l.length - i → i ≤ l.length → d < f → (l.take i).any (fun x => x.1 == nm) = false → Xy l nm f (i : Int) = some (Hc l nm) := by
  intro d
  induction d with
  | zero =>
    intro i f hd hi hf hn
    obtain ⟨f, rfl⟩ : ∃ g, f = g + 1 := ⟨f - 1, by omega⟩
    show Xx (Xy l nm f) l nm (i : Int) = _
    unfold Xx Hc
    rw [List.take_of_length_le (by omega)] at hn
    rw [show decide ((i : Int) < ((l.length : Nat) : Int)) = false from decide_eq_false (by omega), cond_false, pl_none hn]
  | succ d ih =>
    intro i f hd hi hf hn
    obtain ⟨f, rfl⟩ : ∃ g, f = g + 1 := ⟨f - 1, by omega⟩
    have hlt : i < l.length := by omega
    show Xx (Xy l nm f) l nm (i : Int) = _
    unfold Xx
    rw [show decide ((i : Int) < ((l.length : Nat) : Int)) = true from decide_eq_true (by omega), cond_true, Jt hlt, Option.bind_some]
    cases hx : (l[i].1 == nm) with
    | true =>
      have hg : l.getD i Kp = l[i] := by simp [List.getD, hlt]
      rw [cond_true, Option.bind_some]
      unfold Hc
      rw [pl_step hlt hn hx]
      simp only [hg]
    | false =>
      rw [cond_false, show ((i : Int) + 1) = ((i + 1 : Nat) : Int) by omega, Xh (by omega)]
      exact ih (i + 1) f (by omega) (by omega) (by omega) (any_more hlt hn hx)
theorem rFind (w g i e : Int) (l : List Qg) (nm : Str) (hl : l.length ≤ 9000) : Gn w g i e l nm = some (Hc l nm) :=
  O6 l nm hl l.length 0 Zj (by omega) (by omega) (by unfold Zj; omega) rfl
theorem Mj (n : Nat) : (if (3000 : Int) < ((n : Nat) : Int) then (3000 : Int) else ((n : Nat) : Int)) = ((min n 3000 : Nat) : Int) := by split <;> omega
theorem great_in (r11 : Int → Int → Option Bool) (i : Int) (t : Qg) (ht : t.2.2.2.2.length ≤ 140737488355328) : ∀ (d k f n : Nat), d = t.2.2.2.2.length - k → k ≤ t.2.2.2.2.length → d < f → n ≤ 562949953421312 →
    ∃ n' : Nat, n ≤ n' ∧ n' ≤ 562949953421312 + 6000 ∧ Zh r11 i t f (n : Int) (k : Int) = r11 (n' : Int) (IntKind.wrap .i64 (i + 1)) ∧ (n' < 3000 → ∀ x ∈ t.2.2.2.2.drop k, x.1.length < 3000 ∧ x.2.1.length < 3000) := by
  intro d
  induction d with
  | zero =>
    intro k f n hd hk hf hn
    obtain ⟨f, rfl⟩ : ∃ g, f = g + 1 := ⟨f - 1, by omega⟩
    refine ⟨n, by omega, by omega, ?_, fun _ x hx => by rw [List.drop_of_length_le (by omega)] at hx; cases hx⟩
    show Z9 r11 (Zh r11 i t f) i t (n : Int) (k : Int) = _
    unfold Z9 Ya
    rw [show decide ((k : Int) < ((t.2.2.2.2.length : Nat) : Int)) = false from decide_eq_false (by omega), cond_false, cond_false]
  | succ d ih =>
    intro k f n hd hk hf hn
    obtain ⟨f, rfl⟩ : ∃ g, f = g + 1 := ⟨f - 1, by omega⟩
    have hlt : k < t.2.2.2.2.length := by omega
    have hstep : Zh r11 i t (f + 1) (n : Int) (k : Int) = Z9 r11 (Zh r11 i t f) i t (n : Int) (k : Int) := rfl
    unfold Z9 Ya at hstep
    rw [show decide ((k : Int) < ((t.2.2.2.2.length : Nat) : Int)) = true from decide_eq_true (by omega), cond_true] at hstep
    by_cases h3 : n < 3000
    · rw [show decide ((n : Int) < 3000) = true from decide_eq_true (by omega), cond_true, Jt hlt, Option.bind_some, Option.bind_some, Mj, Mj, show ((n : Int) + ((min (t.2.2.2.2[k]).1.length 3000 : Nat) : Int)) = ((n + min (t.2.2.2.2[k]).1.length 3000 : Nat) : Int) by omega, Xh (by omega),
        show (((n + min (t.2.2.2.2[k]).1.length 3000 : Nat) : Int) + ((min (t.2.2.2.2[k]).2.1.length 3000 : Nat) : Int)) = ((n + min (t.2.2.2.2[k]).1.length 3000 + min (t.2.2.2.2[k]).2.1.length 3000 : Nat) : Int) by omega, Xh (by omega), show ((k : Int) + 1) = ((k + 1 : Nat) : Int) by omega, Xh (by omega)] at hstep
      obtain ⟨n', h1, h2, h4, h5⟩ := ih (k + 1) f (n + min (t.2.2.2.2[k]).1.length 3000 + min (t.2.2.2.2[k]).2.1.length 3000) (by omega) (by omega) (by omega) (by omega)
      refine ⟨n', by omega, h2, hstep.trans h4, fun hn' x hx => ?_⟩
      rw [List.drop_eq_getElem_cons hlt] at hx
      rcases List.mem_cons.1 hx with rfl | hx
      · exact ⟨by omega, by omega⟩
      · exact h5 hn' x hx
    · rw [show decide ((n : Int) < 3000) = false from decide_eq_false (by omega), cond_false] at hstep
      exact ⟨n, by omega, by omega, hstep, fun h => absurd h h3⟩
theorem great_out (l : List Qg) (hl : l.length ≤ 140737488355328) (hq : ∀ t ∈ l, Mh t) : ∀ (d i f n : Nat), d = l.length - i → i ≤ l.length → d < f → n ≤ 562949953421312 + 6000 → l.length ≤ n →
    (n < 3000 → ∀ t ∈ l.take i, TenS t) → ∃ b, Q7 l f (n : Int) (i : Int) = some b ∧ (b = false → l.length ≤ 3000 ∧ ∀ t ∈ l, TenS t) := by
  intro d
  induction d with
  | zero =>
    intro i f n hd hi hf hn hln hs
    obtain ⟨f, rfl⟩ : ∃ g, f = g + 1 := ⟨f - 1, by omega⟩
    refine ⟨decide ((n : Int) ≥ 3000), ?_, fun hb => ?_⟩
    · show Xn (Q7 l f) l (n : Int) (i : Int) = _
      unfold Xn Yb
      rw [show decide ((i : Int) < ((l.length : Nat) : Int)) = false from decide_eq_false (by omega), cond_false, cond_false]
    · have := of_decide_eq_false hb
      rw [List.take_of_length_le (by omega)] at hs
      exact ⟨by omega, hs (by omega)⟩
  | succ d ih =>
    intro i f n hd hi hf hn hln hs
    obtain ⟨f, rfl⟩ : ∃ g, f = g + 1 := ⟨f - 1, by omega⟩
    have hlt : i < l.length := by omega
    have hstep : Q7 l (f + 1) (n : Int) (i : Int) = Xn (Q7 l f) l (n : Int) (i : Int) := rfl
    unfold Xn Yb at hstep
    rw [show decide ((i : Int) < ((l.length : Nat) : Int)) = true from decide_eq_true (by omega), cond_true] at hstep
    by_cases h3 : n < 3000
    · obtain ⟨q1, q2, q3, q4, q5⟩ := hq _ (List.getElem_mem hlt)
      rw [show decide ((n : Int) < 3000) = true from decide_eq_true (by omega), cond_true, Jt hlt, Option.bind_some, Mj, show ((n : Int) + ((min l[i].1.length 3000 : Nat) : Int)) = ((n + min l[i].1.length 3000 : Nat) : Int) by omega, Xh (by omega),
        show (((n + min l[i].1.length 3000 : Nat) : Int) + ((l[i].2.2.2.1.length : Nat) : Int)) = ((n + min l[i].1.length 3000 + l[i].2.2.2.1.length : Nat) : Int) by omega, Xh (by omega),
        show (((n + min l[i].1.length 3000 + l[i].2.2.2.1.length : Nat) : Int) + ((l[i].2.2.2.2.length : Nat) : Int)) = ((n + min l[i].1.length 3000 + l[i].2.2.2.1.length + l[i].2.2.2.2.length : Nat) : Int) by omega, Xh (by omega)] at hstep
      obtain ⟨n', h1, h2, h4, h5⟩ := great_in (Q7 l f) (i : Int) l[i] q3 l[i].2.2.2.2.length 0 Zj (n + min l[i].1.length 3000 + l[i].2.2.2.1.length + l[i].2.2.2.2.length) (by omega) (by omega) (by unfold Zj; omega) (by omega)
      rw [show ((0 : Nat) : Int) = 0 from rfl] at h4
      rw [h4, show ((i : Int) + 1) = ((i + 1 : Nat) : Int) by omega, Xh (by omega)] at hstep
      obtain ⟨b, hb, hb2⟩ := ih (i + 1) f n' (by omega) (by omega) (by omega) (by omega) (by omega) (fun hn' t ht => by
        rw [List.take_add_one, List.getElem?_eq_getElem hlt, List.mem_append] at ht
        rcases ht with ht | ht
        · exact hs h3 t ht
        · simp only [Option.toList_some, List.mem_singleton] at ht
          subst ht
          rw [List.drop_zero] at h5
          exact ⟨by omega, by omega, by omega, fun x hx => ⟨by have := h5 hn' x hx; omega, by have := h5 hn' x hx; omega⟩⟩)
      exact ⟨b, hstep.trans hb, hb2⟩
    · rw [show decide ((n : Int) < 3000) = false from decide_eq_false (by omega), cond_false] at hstep
      exact ⟨_, hstep, fun hb => by have := of_decide_eq_false hb; omega⟩
theorem cfg_great (w g i e : Int) (l : List Qg) (hl : l.length ≤ 140737488355328) (hq : ∀ t ∈ l, Mh t) : ∃ b, Nx w g i e l = some b ∧ (b = false → l.length ≤ 3000 ∧ ∀ t ∈ l, TenS t) :=
  great_out l hl hq l.length 0 Zj l.length (by omega) (by omega) (by unfold Zj; omega) (by omega) (Nat.le_refl _) (fun _ t ht => by simp at ht)
end Go.Proofs.YtmgfanhcdfobhaaGreatDoor
namespace Go.Proofs.YtmgfanhcdfobhaaGreatDoor
open Go.RowKit
section
variable {α : Type} {e : Enc α} {t t' : TypeId} {g m : Nat} {l : List α} {w w' w0 : World} {S : List Nat} {es : List Ent}
def Vk (t : TypeId) (e : Enc α) (g m : Nat) (l : List α) : Ent :=
  ⟨[g], fun w => l.length = m ∧ m ≤ maxLen ∧ w.heap[g]? = some (.cells (Qd e l).toArray t (0, 0)), fun w w' h hk => ⟨hk.1, hk.2.1, by rw [h g (by simp)]; exact hk.2.2⟩⟩
theorem Vc (h : (Vk t e g m l).ok w) : l.length = m := h.1
theorem Qy (h : (Vk t e g m l).ok w) : RdT e w (some ⟨g, 0, none⟩) m l := by
  obtain ⟨h1, h2, h3⟩ := h
  refine ⟨Vz e l, by omega, h2, fun _ => ⟨g, 0, rfl, (Array.getElem?_eq_some_iff.1 h3).1, fun j u hu => ?_⟩⟩
  rw [Nat.zero_add, cell_of_row w g j _ t (0, 0) h3]
  simpa using hu
theorem SP.pushArr {cs : Array Value} (h : SP S w0 w es) (hc : cs = (Qd e l).toArray) (hl : l.length = m) (hm : m ≤ maxLen) : SP S w0 (w.alloc (.cells cs t)) (es ++ [Vk t e w.heap.size m l]) := by
  subst hc
  refine h.push ((Below.refl _ _).alloc (Nat.le_refl _) _) ⟨hl, hm, heap_alloc_new w _⟩ fun k hk => ?_
  have : k = w.heap.size := by simpa [Vk] using hk
  subst this
  simp
theorem SP.setArr {i : Nat} {l' : List α} (h : SP S w0 w es) (hi : es[i]? = some (Vk t e g m l)) (hl : l'.length = m) {cs : Array Value} (hc : cs = (Qd e l').toArray) : SP S w0 (w.setRow g cs) (es.set i (Vk t e g m l')) := by
  subst hc
  obtain ⟨h1, h2, h3⟩ := h.get hi
  have hlt : g < w.heap.size := (Array.getElem?_eq_some_iff.1 h3).1
  refine h.set hi (Mod.setRow w g _) (fun k hk => hk) ⟨hl, h2, setRow_heap w g _ _ t (0, 0) h3⟩ fun k hk => ⟨.inl hk, ?_⟩
  have : k = g := by simpa [Vk] using hk
  subst this
  simpa [World.setRow] using hlt
def cpy (l : List α) (lo dl : Nat) (x : List α) : List α := l.take lo ++ x.take dl ++ l.drop (lo + min dl x.length)
theorem Es {lo dl : Nat} {x : List α} (h : lo + dl ≤ l.length) : (cpy l lo dl x).length = l.length := by
  unfold cpy
  simp only [List.length_append, List.length_take, List.length_drop]
  omega
end
section
variable {P : Program} {n : Nat} {Q : H1} {ρ : Fr} {w w0 : World} {B : Code} {p : List Bool} {k : Nat} {d : Option Nat} {S : List Nat} {es : List Ent} {K : Fr → World → Prop}
variable {α : Type} {e : Enc α} {l : List α} {t t' : TypeId} {g m : Nat}
theorem Q4 {z : Value} (ho : D3 (Qm B p) k ρ = some (.alloc t, d)) (hd : Ji n d = true) (hz : (P.info? t).bind (·.zero) = some z) (hc : z.cells = (Qd e l).toArray) (hl : l.length = m) (hm : Nat.ble m 2147483648 = true) (hs : SP S w0 w es)
    (next : ∀ (g : Nat) (w' : World), SP S w0 w' (es ++ [Vk t e g m l]) → K (G4 ρ d (.pointer (some ⟨g, 0, none⟩))) w') : Qi P n B p k K ρ w := by
  refine Qi.val ho hd (v := .pointer (some ⟨w.heap.size, 0, none⟩)) (w' := w.alloc (.cells z.cells t)) (fun o hop => ?_) (next _ _ (hs.pushArr hc hl (I5 hm)))
  unfold execOp; rw [hop]
  cases hi : P.info? t with
  | none => rw [hi] at hz; cases hz
  | some i =>
    rw [hi] at hz
    have hz : i.zero = some z := hz
    have hzv : (zeroValue t).run P w = .ok z w := by simp [zeroValue, typeInfo, hi, hz]
    simp only [Instr.alloc, Sem.run_bind, hzv, Result.andThen_ok]
    rfl
theorem Ej {x : Operand} (ho : D3 (Qm B p) k ρ = some (.box t x, d)) (hd : Ji n d = true) (hv : opv ρ x = .agg (Qd e l).toArray) (hl : l.length = m) (hm : Nat.ble m 2147483648 = true) (hs : SP S w0 w es)
    (next : ∀ (g : Nat) (w' : World), SP S w0 w' (es ++ [Vk t e g m l]) → K (G4 ρ d (.pointer (some ⟨g, 0, none⟩))) w') : Qi P n B p k K ρ w := by
  refine Qi.val ho hd (v := .pointer (some ⟨w.heap.size, 0, none⟩)) (w' := w.alloc (.cells (opv ρ x).cells t)) (fun o hop => ?_) (next _ _ (hs.pushArr (by rw [hv]; rfl) hl (I5 hm)))
  unfold execOp; rw [hop]; rfl
theorem Zu {x : Operand} {i : Nat} (ho : D3 (Qm B p) k ρ = some (.load t x, d)) (hd : Ji n d = true) (hv : opv ρ x = .pointer (some ⟨g, 0, none⟩)) (hs : SP S w0 w es) (hi : es[i]? = some (Vk t' e g m l))
    (ht : (P.underlying t).map aggD = some true) (hz : (P.info? t).map (·.size) = some (m * e.sz)) (next : K (G4 ρ d (.agg (Qd e l).toArray)) w) : Qi P n B p k K ρ w := by
  have hok := hs.get hi
  refine Qi.cells ho hd hv ht (by rw [Vz, Vc hok]; exact hz) (fun j u hu => ?_) next
  rw [Nat.zero_add, cell_of_row w g j _ t' (0, 0) hok.2.2]
  simpa using hu
theorem Vf {x y : Operand} {i : Nat} {l' : List α} (ho : D3 (Qm B p) k ρ = some (.store t x y, d)) (hd : Ji n d = true) (hx : opv ρ x = .pointer (some ⟨g, 0, none⟩)) (hy : opv ρ y = .agg (Qd e l').toArray)
    (hl : l'.length = m) (hs : SP S w0 w es) (hi : es[i]? = some (Vk t' e g m l)) (hz : (P.info? t).map (·.size) = some (m * e.sz))
    (next : ∀ w' : World, SP S w0 w' (es.set i (Vk t' e g m l')) → K (G4 ρ d undef) w') : Qi P n B p k K ρ w := by
  obtain ⟨h1, h2, h3⟩ := hs.get hi
  have hcs : (opv ρ y).cells = (Qd e l').toArray := by rw [hy]; rfl
  refine Fi ho hd (w' := w.setRow g (Qd e l').toArray) (fun o hop => ?_) (next _ (hs.setArr hi hl rfl))
  cases hi' : P.info? t with
  | none => rw [hi'] at hz; cases hz
  | some ii =>
    rw [hi'] at hz
    have hz : ii.size = m * e.sz := by simpa using hz
    have hsz : (sizeOf t).run P w = .ok (m * e.sz) w := by simp [sizeOf, typeInfo, hi', hz]
    have hst := run_storeCells_at P g 0 t' (Qd e l') 0 (Qd e l).toArray w h3 (by simp [Vz, hl, h1]) (Cf e l')
    have hd0 : (Qd e l).drop (0 + 0 + (Qd e l').length) = [] := List.drop_of_length_le (by simp [Vz, hl, h1])
    simp only [hd0, Nat.add_zero, List.take_zero, List.nil_append, List.append_nil] at hst
    unfold execOp; rw [hop]
    have hsize : (opv ρ y).cells.size = m * e.sz := by rw [hcs]; simp [Vz, hl]
    simp only [hx, Instr.storeAt, Instr.sureAddr, Sem.run_bind, Sem.run_pure, Result.andThen_ok, storeVar, hsz, hsize, ne_eq, not_true_eq_false, if_false]
    rw [hcs]
    simp only [hst, Result.andThen_ok]
theorem Ql {T E : TypeId} {x ix : Operand} {ki : IntKind} {iz : Int} {i : Nat} (ho : D3 (Qm B p) k ρ = some (.indexAddr T x ix, d)) (hd : Ji n d = true)
    (hx : opv ρ x = .pointer (some ⟨g, 0, none⟩)) (hix : opv ρ ix = .int ki iz) (hT : P.underlying T = some (.array m E)) (hE : (P.info? E).map (·.size) = some e.sz) (hs : SP S w0 w es) (hi : es[i]? = some (Vk t' e g m l)) (h0 : 0 ≤ iz) (h1 : iz < (l.length : Int))
    (next : K (G4 ρ d (.pointer (some ⟨g, 0 + iz.toNat * e.sz, none⟩))) w) : Qi P n B p k K ρ w := by
  have hl := Vc (hs.get hi)
  refine Qi.val ho hd (fun o hop => ?_) next
  cases hi' : P.info? E with
  | none => rw [hi'] at hE; cases hE
  | some ii =>
    rw [hi'] at hE
    have hE : ii.size = e.sz := by simpa using hE
    have hsz : (sizeOf E).run P w = .ok e.sz w := by simp [sizeOf, typeInfo, hi', hE]
    rw [hl] at h1
    unfold execOp; rw [hop]
    simp only [hx, hix, Sem.run_bind, Instr.indexAt, asIntOf, Sem.run_pure, Result.andThen_ok, run_underlying hT, Instr.sureAddr]
    simp [h0, h1, hsz, Bm]
theorem Z3 {x y : Operand} {iz : Int} {v : Value} {x' : α} {i b off : Nat} (ho : D3 (Qm B p) k ρ = some (.store t x y, d)) (hd : Ji n d = true) (hA : some (⟨g, 0, none⟩ : Addr) = some ⟨b, off, none⟩) (hx : opv ρ x = .pointer (some ⟨b, off + iz.toNat * e.sz, none⟩)) (hy : opv ρ y = v)
    (hs : SP S w0 w es) (hi : es[i]? = some (Vk t' e g m l)) (hz : e.sz = 1) (h1 : iz < (l.length : Int)) (h0 : 0 ≤ iz) (hv : e.enc x' = [v]) (ht : (P.info? t).map (·.size) = some 1)
    (next : ∀ w' : World, SP S w0 w' (es.set i (Vk t' e g m (l.set iz.toNat x'))) → K (G4 ρ d undef) w') : Qi P n B p k K ρ w := by
  subst hy
  injection hA with hA
  injection hA with hA1 hA2
  subst hA1 hA2
  obtain ⟨hl, h2, h3⟩ := hs.get hi
  have hlt : iz.toNat < l.length := by omega
  have hlen := Vz e l
  rw [hz, Nat.mul_one] at hlen
  have hone := e.one x' (opv ρ y) (by rw [hv]; simp)
  have hset : (Qd e l).take iz.toNat ++ [opv ρ y] ++ (Qd e l).drop (iz.toNat + 1) = Qd e (l.set iz.toNat x') := by
    have := H6 e l iz.toNat x' hlt
    rw [hz, Nat.mul_one, hv] at this
    exact this
  have hst := run_storeCells_at P g iz.toNat t' [opv ρ y] 0 (Qd e l).toArray w h3 (by simp; omega) (by intro v hv; simp at hv; subst hv; exact hone)
  refine Fi ho hd (w' := w.setRow g (Qd e (l.set iz.toNat x')).toArray) (fun o hop => ?_) (next _ (hs.setArr hi (by simpa using hl) rfl))
  have hcs : (opv ρ y).cells = #[opv ρ y] := by
    cases hvv : opv ρ y <;> first | rfl | (rw [hvv] at hone; cases hone)
  cases hi' : P.info? t with
  | none => rw [hi'] at ht; cases ht
  | some ii =>
    rw [hi'] at ht
    have ht : ii.size = 1 := by simpa using ht
    have hsz : (sizeOf t).run P w = .ok 1 w := by simp [sizeOf, typeInfo, hi', ht]
    unfold execOp; rw [hop]
    rw [hz, Nat.zero_add, Nat.mul_one] at hx
    simp only [Nat.add_zero, List.length_cons, List.length_nil, Nat.zero_add, hset] at hst
    simp only [hx, Instr.storeAt, Instr.sureAddr, Sem.run_bind, Sem.run_pure, Result.andThen_ok, storeVar, hsz, hcs]
    simp [hst]
theorem Mk {cap : Nat} {lo hi : Option Value} {i j : Nat} (hlo : lo = none ∧ i = 0 ∨ ∃ kk, lo = some (.int kk (i : Int))) (hhi : hi = none ∧ j = cap ∨ ∃ kk, hi = some (.int kk (j : Int))) (hij : i ≤ j) (hj : j ≤ cap) (w : World) :
    (Instr.sliceBounds false cap cap lo hi none).run P w = .ok (i, j, cap) w := F4 hlo hhi hij hj (Nat.le_refl _) w
theorem Co {T E : TypeId} {x : Operand} {lo hi : Option Operand} {i j : Int} {l' : List α} {q : Nat} (ho : D3 (Qm B p) k ρ = some (.slice T x lo hi none, d)) (hd : Ji n d = true)
    (hx : opv ρ x = .pointer (some ⟨g, 0, none⟩)) (hT : P.underlying T = some (.array m E)) (hE : (P.info? E).map (·.size) = some e.sz) (hlo : Hm ρ lo i 0) (hhi : Hm ρ hi j l.length) (hs : SP S w0 w es) (hq : es[q]? = some (Vk t' e g m l))
    (h0 : 0 ≤ i) (h1 : i ≤ j) (h2 : j ≤ (l.length : Int)) (hy : (l.take j.toNat).drop i.toNat = l')
    (next : K (G4 ρ d (.slice (F2 e.sz m i.toNat (some ⟨g, 0, none⟩)) l'.length (m - i.toNat))) w) : Qi P n B p k K ρ w := by
  subst hy
  have hl0 := Vc (hs.get hq)
  have hl : ((l.take j.toNat).drop i.toNat).length = j.toNat - i.toNat := by simp; omega
  rw [hl] at next
  refine Qi.val ho hd (v := .slice (F2 e.sz m i.toNat (some ⟨g, 0, none⟩)) (j.toNat - i.toNat) (m - i.toNat)) (fun o hop => ?_) next
  unfold execOp; rw [hop]
  cases hi' : P.info? E with
  | none => rw [hi'] at hE; cases hE
  | some ii =>
    rw [hi'] at hE
    have hE : ii.size = e.sz := by simpa using hE
    have hsz : ∀ w, (sizeOf E).run P w = .ok e.sz w := fun w => by simp [sizeOf, typeInfo, hi', hE]
    have hb := Mk (P := P) (cap := m) (lo := lo.map (opv ρ)) (hi := hi.map (opv ρ)) (i := i.toNat) (j := j.toNat)
      (by
        cases lo with
        | none => exact .inl ⟨rfl, by have : i = 0 := hlo; omega⟩
        | some y => obtain ⟨kk, hh⟩ := hlo; exact .inr ⟨kk, by rw [Option.map_some, hh, Int.toNat_of_nonneg h0]⟩)
      (by
        cases hi with
        | none => exact .inl ⟨rfl, by have : j = (l.length : Int) := hhi; omega⟩
        | some y => obtain ⟨kk, hh⟩ := hhi; exact .inr ⟨kk, by rw [Option.map_some, hh, Int.toNat_of_nonneg (by omega)]⟩)
      (by omega) (by omega) w
    simp only [hx, Instr.sliceAt, Sem.run_bind, run_underlying hT, Result.andThen_ok, Instr.sureAddr, Sem.run_pure, Option.map_none, hb, hsz]
    congr 3
    unfold F2
    split <;> rfl
theorem Uj {T E : TypeId} {x : Operand} {q : Nat} (ho : D3 (Qm B p) k ρ = some (.slice T x none none none, d)) (hd : Ji n d = true)
    (hx : opv ρ x = .pointer (some ⟨g, 0, none⟩)) (hT : P.underlying T = some (.array m E)) (hE : (P.info? E).map (·.size) = some e.sz) (hs : SP S w0 w es) (hq : es[q]? = some (Vk t' e g m l))
    (next : K (G4 ρ d (.slice (some ⟨g, 0, none⟩) l.length m)) w) : Qi P n B p k K ρ w := by
  have hl := Vc (hs.get hq)
  refine Co (l' := l) ho hd hx hT hE (i := 0) (j := (l.length : Int)) rfl rfl hs hq (by omega) (by omega) (by omega) (by simp) ?_
  have : F2 e.sz m (0 : Int).toNat (some ⟨g, 0, none⟩) = some ⟨g, 0, none⟩ := by
    unfold F2
    split
    · rfl
    · simp [Bm]
  rw [this]
  exact next
theorem cut_off {sz c lo : Nat} (h : lo < c) : F2 sz c lo (some ⟨g, 0, none⟩) = some ⟨g, lo * sz, none⟩ := by
  unfold F2
  rw [if_neg (by omega)]
  simp [Bm]
theorem Kb {sz dl : Nat} : dl = 0 ∨ some (⟨g, 0, none⟩ : Addr) = some ⟨g, 0 * sz, none⟩ := .inr (by rw [Nat.zero_mul])
theorem cut_hA {i j : Int} {l' : List α} (hl : l.length = m) (h0 : 0 ≤ i) (h1 : i ≤ j) (h2 : j ≤ (l.length : Int)) (hy : (l.take j.toNat).drop i.toNat = l') : l'.length = 0 ∨ F2 e.sz m i.toNat (some ⟨g, 0, none⟩) = some ⟨g, i.toNat * e.sz, none⟩ := by
  subst hy
  by_cases h : i.toNat < m
  · exact .inr (cut_off h)
  · left
    simp
    omega
theorem cut_dl {i j : Int} {l' : List α} (h0 : 0 ≤ i) (h1 : i ≤ j) (h2 : j ≤ (l.length : Int)) (hy : (l.take j.toNat).drop i.toNat = l') : i.toNat + l'.length ≤ l.length := by
  subst hy
  simp
  omega
theorem G0 {a : Nat} (h : ρ a = .pointer (some ⟨g, 0, none⟩)) (hok : (Vk t' e g m l).ok w) (ht : (P.underlying t).map aggD = some true) (hz : (P.info? t).map (·.size) = some (m * e.sz)) : (rvS ρ (.cell a t)).run P w = .ok (.agg (Qd e l).toArray) w := by
  simp only [rvS, h, asAddr, Sem.run_bind, Sem.run_pure, Result.andThen_ok]
  cases hu : P.underlying t with
  | none => rw [hu] at ht; cases ht
  | some dd =>
    rw [hu] at ht
    have ht : aggD dd = true := by simpa using ht
    have hagg : (isAgg t).run P w = .ok true w := by
      rw [← ht]
      simp only [isAgg, Sem.run_bind, run_underlying hu, Result.andThen_ok]
      cases dd <;> rfl
    cases hi : P.info? t with
    | none => rw [hi] at hz; cases hz
    | some i =>
      rw [hi] at hz
      have hz : i.size = m * e.sz := by simpa using hz
      have hsz : (sizeOf t).run P w = .ok (Qd e l).length w := by rw [Vz, Vc hok]; simp [sizeOf, typeInfo, hi, hz]
      have hload := run_loadCells_list (P := P) w ⟨g, 0, none⟩ (Qd e l) (fun j u hu => by
        rw [Bm, Nat.zero_add, cell_of_row w g j _ t' (0, 0) hok.2.2]
        simpa using hu)
      simp only [loadVar, Sem.run_bind, hagg, Result.andThen_ok, if_true, hsz, hload, Sem.run_pure]
theorem Hd {T T2 E : TypeId} {x y : Operand} {i lo dl dc c2 : Nat} {A A2 : Option Addr} {y' l' : List α} (ho : D3 (Qm B p) k ρ = some (.call { callee := .builtin .copy, args := #[x, y], argTypes := #[T, T2] }, d)) (hd : Ji n d = true)
    (hx : opv ρ x = .slice A dl dc) (hy : opv ρ y = .slice A2 y'.length c2) (hT : P.underlying T = some (.slice E)) (hE : (P.info? E).map (·.size) = some 1) (hz : e.sz = 1)
    (hs : SP S w0 w es) (hi : es[i]? = some (Vk t' e g m l)) (hA : dl = 0 ∨ A = some ⟨g, lo * e.sz, none⟩) (hdl : lo + dl ≤ l.length) (hr : RdT e w A2 c2 y') (hq : cpy l lo dl y' = l')
    (next : ∀ w' : World, SP S w0 w' (es.set i (Vk t' e g m l')) → l'.length = l.length → K (G4 ρ d (.int .i64 (min (y'.length : Int) (dl : Int)))) w') : Qi P n B p k K ρ w := by
  subst hq
  obtain ⟨hl, h2, h3⟩ := hs.get hi
  have hcl := Es (l := l) (x := y') hdl
  have hcells : Qd e (cpy l lo dl y') = (Qd e l).take lo ++ (Qd e y').take dl ++ (Qd e l).drop (lo + min dl y'.length) := by
    have h1 := Dj e l lo
    have h2 := Dj e y' dl
    have h3 := Di e l (lo + min dl y'.length)
    rw [hz, Nat.mul_one] at h1 h2 h3
    rw [h1, h2, h3]
    unfold cpy
    rw [G8, G8]
  have hlen2 := Vz e y'
  have hlen1 := Vz e l
  rw [hz, Nat.mul_one] at hlen1 hlen2
  have hnum : goInt (Nat.min y'.length dl) = .int .i64 (min (y'.length : Int) (dl : Int)) := by
    show Value.int .i64 _ = _
    congr 1
    show ((min y'.length dl : Nat) : Int) = _
    omega
  by_cases h0 : Nat.min y'.length dl = 0
  · have hsame : cpy l lo dl y' = l := by
      unfold cpy
      have h0' : min dl y'.length = 0 := by have : min y'.length dl = 0 := h0; omega
      rw [h0', Nat.add_zero]
      have : y'.take dl = [] := by
        apply List.eq_nil_of_length_eq_zero
        rw [List.length_take]; exact h0'
      rw [this, List.append_nil, List.take_append_drop]
    have hrun := run_copy_none (P := P) w T T2
    refine Qi.val ho hd (v := .int .i64 (min (y'.length : Int) (dl : Int))) (w' := w) (fun o hop => ?_) (next w ?_ hcl)
    · unfold execOp; rw [hop]
      simp only [resolve, Sem.run_bind, Sem.run_pure, Result.andThen_ok, invoke, builtin, List.map_toArray, List.map_cons, List.map_nil, hx, hy]
      rw [hrun o.type E A A2 dl dc y'.length c2 hT hE h0]
      simp [Result.andThen, ← hnum, h0]
    · have : es.set i (Vk t' e g m (cpy l lo dl y')) = es := by
        rw [hsame]
        apply List.ext_getElem?
        intro j
        rw [List.getElem?_set]
        split
        · rename_i hij; subst hij
          split
          · exact hi.symm
          · rename_i hge; rw [List.getElem?_eq_none (by omega)]
        · rfl
      rw [this]
      exact hs
  · have h0' : min y'.length dl ≠ 0 := h0
    rcases hA with hA | hA
    · omega
    · obtain ⟨_, _, _, h4⟩ := hr
      obtain ⟨b, off, hA2, hb, hc⟩ := h4 (by omega)
      subst hA hA2
      have htl : ((Qd e y').take dl).length = Nat.min y'.length dl := by rw [List.length_take, hlen2]; show min dl y'.length = min y'.length dl; omega
      have hrun := fun ty => run_copy_row (P := P) w T T2 ty E g (lo * e.sz) dl dc ⟨b, off, none⟩ y'.length c2 (Qd e l).toArray t' ((Qd e y').take dl) hT hE h3 htl
        (fun j v hj => by
          rw [Bm]
          rw [List.getElem?_take] at hj
          split at hj
          · exact hc j v hj
          · cases hj) (by rw [htl, hz, Nat.mul_one]; simp only [List.size_toArray, hlen1]; show lo + min y'.length dl ≤ l.length; omega) (fun v hv => Cf e y' v (List.mem_of_mem_take hv))
      refine Qi.val ho hd (v := .int .i64 (min (y'.length : Int) (dl : Int))) (w' := w.setRow g (Qd e (cpy l lo dl y')).toArray) (fun o hop => ?_) (next _ (hs.setArr hi (by rw [hcl]; exact hl) rfl) hcl)
      unfold execOp; rw [hop]
      simp only [resolve, Sem.run_bind, Sem.run_pure, Result.andThen_ok, invoke, builtin, List.map_toArray, List.map_cons, List.map_nil, hx, hy]
      rw [hrun o.type, htl, ← hnum, hcells, hz, Nat.mul_one]
      have : min dl y'.length = Nat.min y'.length dl := by show min dl y'.length = min y'.length dl; omega
      rw [this]
      rfl
theorem Lj {T TX E : TypeId} {s x : Operand} {b i : Nat} {vx : Value} {y l' : List α} (ho : D3 (Qm B p) k ρ = some (.call { callee := .builtin .append, args := #[s, x], argTypes := #[T, TX] }, d)) (hd : Ji n d = true)
    (hv : opv ρ s = .slice (some ⟨g, 0, none⟩) l.length m) (hx : opv ρ x = vx) (hT : P.underlying T = some (.slice E)) (hE : (P.info? E).map (fun i => (i.zero.map (·.cells.size), i.size, i.bytes)) = some (some e.sz, e.sz, b)) (hb : (Nat.ble 1 e.sz && Nat.ble b 65536) = true)
    (hs : SP S w0 w es) (hi : es[i]? = some (Vk t' e g m l)) (hsrc : Src P e.sz TX vx y.length (Qd e y) w) (hlen : l.length + y.length ≤ 2147483648) (hq : l ++ y = l')
    (next : ∀ (A' : Option Addr) (c' : Nat) (w' : World), SP S w0 w' es → RdT e w' A' c' l' → K (G4 ρ d (.slice A' l'.length c')) w') : Qi P n B p k K ρ w := by
  subst hx hq
  obtain ⟨i0, z, hi0, hz0, hz1, hz2, hz3⟩ := I4 hE
  simp only [Bool.and_eq_true] at hb
  have hb1 := Nat.le_of_ble_eq_true hb.1
  have hb2 := Nat.le_of_ble_eq_true hb.2
  have hbytes : (l.length + y.length) * b ≤ 140737488355328 := Nat.le_trans (Nat.mul_le_mul hlen hb2) (by omega)
  have hok := hs.get hi
  obtain ⟨hl, h2, h3⟩ := hok
  have hrd : RdT e w (some ⟨g, 0, none⟩) m l := Qy ⟨hl, h2, h3⟩
  obtain ⟨o0, ho0, _⟩ := Eb ho
  rcases Nat.eq_zero_or_pos y.length with h0 | h0
  · have : y = [] := List.eq_nil_of_length_eq_zero h0
    subst this
    rw [List.append_nil] at next
    refine Qi.val ho hd (v := .slice (some ⟨g, 0, none⟩) l.length m) (w' := w) (fun o hop => ?_) (next _ _ _ hs hrd)
    have hh1 := hsrc.len w
    have hh2 : (Builtin.firstCells i0.size 0 (opv ρ x)).run P w = .ok #[] w := by rw [hz1]; exact hsrc.cells
    have hh1 : (Builtin.lenOf (opv ρ x)).run P w = .ok 0 w := hh1
    have hrun : ∀ ty, (Builtin.append_ #[T, TX] ty #[.slice (some ⟨g, 0, none⟩) l.length m, opv ρ x]).run P w = .ok (.slice (some ⟨g, 0, none⟩) l.length m) w := by
      intro ty
      rcases hsrc.kind with ⟨e', hk⟩ | hk <;> simp [Builtin.append_, run_underlying hT, run_underlying hk, sizeOf, typeInfo, hi0, hh1, hh2, storeCells, hl, Qd]
    unfold execOp; rw [hop]
    simp [resolve, invoke, builtin, hv, hrun, Result.andThen]
  · have hxs : ∀ j u, (Qd e l)[j]? = some u → w.drew.cell? ((⟨g, 0, none⟩ : Addr).add j) = some u := by
      intro j u hu
      rw [Bm, Nat.zero_add]
      refine (cell_of_row w.drew g j _ t' (0, 0) h3).trans ?_
      simpa using hu
    have hlen1 : (Qd e l).length = l.length * i0.size := by rw [Vz, hz1]
    have hr := fun ty => run_append_grow_src (P := P) w T TX ty E i0 z hT hi0 hz0 (some ⟨g, 0, none⟩) l.length m (Qd e l) (run_firstCells_some w.drew i0.size l.length ⟨g, 0, none⟩ l.length m (Qd e l) hlen1 hxs) (opv ρ x) y.length (Qd e y) (hz1 ▸ hsrc) (by omega) (by omega)
      (growslice_fits (by omega) (by rw [hz2]; exact hbytes))
    refine Qi.val ho hd (v := .slice (some ⟨w.heap.size, 0, none⟩) (l ++ y).length (grownCap w (l.length + y.length) m E)) (w' := w.drew.alloc (.cells ((Qd e l ++ Qd e y).toArray ++ Builtin.zeroCells z.cells (grownCap w (l.length + y.length) m E - (l.length + y.length))) E)) (fun o hop => ?_) (next _ _ _ (hs.below ((Below.refl _ _).drew.alloc (Nat.le_refl _) _)) ?_)
    · unfold execOp; rw [hop, List.length_append]
      simp [resolve, invoke, builtin, hv, hr, Result.andThen]
    · refine ⟨Vz e _, ?_, grownCap_le_maxLen w _ m E (by unfold maxLen; omega), fun _ => ⟨w.heap.size, 0, rfl, by simp, fun j u hu => ?_⟩⟩
      · rw [List.length_append]; exact grownCap_ge w _ m E
      · rw [Nat.zero_add]
        refine (cell_of_row _ w.heap.size j _ E _ (heap_alloc_new w.drew _)).trans ?_
        rw [G8] at hu
        rw [Array.getElem?_append_left (by simpa using (List.getElem?_eq_some_iff.1 hu).1)]
        simpa using hu
theorem O7 (e : Enc α) (z : α) (hz : e.sz = 1) (v : Value) (hv : e.enc z = [v]) (q : Nat) : (madeCells #[v] q).toList = Qd e (List.replicate q z) := by
  have h1 : Qd e (List.replicate q z) = List.replicate q v := by
    induction q with
    | zero => rfl
    | succ q ih => rw [List.replicate_succ, U2, ih, hv, List.replicate_succ]; rfl
  rw [h1]
  simp [madeCells]
  apply List.ext_getElem
  · simp
  · intro i h1 h2
    simp [Nat.mod_one]
theorem Qi.make {T E : TypeId} {x y : Operand} {k1 k2 : IntKind} {iz : Int} {b : Nat} {z : α} {v : Value} {l' : List α} (ho : D3 (Qm B p) k ρ = some (.makeSlice T x y, d)) (hd : Ji n d = true) (hx : opv ρ x = .int k1 iz) (hy : opv ρ y = .int k2 iz)
    (hT : P.underlying T = some (.slice E)) (hE : (P.info? E).map (fun i => (i.zero, i.size, i.bytes)) = some (some v, 1, b)) (hb : Nat.ble b 65536 = true) (hz : e.sz = 1) (hv : e.enc z = [v]) (hc : v.cells = #[v]) (h0 : decide (0 ≤ iz ∧ iz ≤ 2147483648) = true) (hs : SP S w0 w es) (hq : List.replicate iz.toNat z = l')
    (next : ∀ (g : Nat) (w' : World), SP S w0 w' (es ++ [Yc E e (some ⟨g, 0, none⟩) iz.toNat l']) → l'.length = iz.toNat → K (G4 ρ d (.slice (some ⟨g, 0, none⟩) l'.length iz.toNat)) w') : Qi P n B p k K ρ w := by
  subst hq
  have h0 := of_decide_eq_true h0
  have hb2 := Nat.le_of_ble_eq_true hb
  cases hi : P.info? E with
  | none => rw [hi] at hE; cases hE
  | some i =>
    rw [hi] at hE
    simp only [Option.map_some, Option.some.injEq, Prod.mk.injEq] at hE
    obtain ⟨hz1, hz2, hz3⟩ := hE
    have hbb : (i.bytes : Int) * iz ≤ 281474976710656 := by
      rw [hz3]
      have h1 : (b : Int) * iz ≤ 65536 * 2147483648 := Int.mul_le_mul (by omega) h0.2 h0.1 (by omega)
      omega
    have hr := run_make (P := P) w T E i v hT hi hz1 k1 k2 iz iz h0.1 (Int.le_refl _) hbb (by omega)
    rw [hz2, Nat.mul_one, hc] at hr
    have hlen : (List.replicate iz.toNat z).length = iz.toNat := by simp
    have hnew := hs.newrow (E := E) (cs := madeCells #[v] iz.toNat) e (List.replicate iz.toNat z) (O7 e z hz v hv iz.toNat) (by rw [hlen]; unfold maxLen; omega) (by omega)
    rw [hlen] at hnew
    refine Qi.val ho hd (v := .slice (some ⟨w.heap.size, 0, none⟩) (List.replicate iz.toNat z).length iz.toNat) (w' := w.alloc (.cells (madeCells #[v] iz.toNat) E)) (fun o hop => ?_) (next _ _ hnew hlen)
    unfold execOp; rw [hop, hlen]
    simp only [hx, hy, Sem.run_bind, hr, Result.andThen_ok]
    rfl
end
end Go.Proofs.YtmgfanhcdfobhaaGreatDoor
namespace Go.Proofs.YtmgfanhcdfobhaaGreatDoor
open Go.RowKit
def Z4 (p1 : Int) (p2 : Int) : Option (Int) :=
  ((chk (decide (0 ≤ (Zt .u64 (IntKind.wrap .u64 p2) 31)))).bind fun _ => ((chk (decide (0 ≤ (IntKind.wrap .u64 (32 - (Zt .u64 (IntKind.wrap .u64 p2) 31)))))).bind fun _ => (some ((bOr .u32 (Ns .u32 p1 (Zt .u64 (IntKind.wrap .u64 p2) 31)) (Nm .u32 p1 (IntKind.wrap .u64 (32 - (Zt .u64 (IntKind.wrap .u64 p2) 31)))))))))
theorem J6  (p1 : Int) (p2 : Int) (w0 : World)  (r : (Int)) (H : Z4 p1 p2 = some r) :
  Calls Tryz.prog 138 #[(.int .u32 p1), (.int .i64 p2)] w0 (fun e w' => e = .returned (.int .u32 r) ∧ SP [] w0 w' []) := by
 unfold Z4 at H
 refine Qs (n := 17) Tryz.func138 K K K ?_
 have c := Q0 [] w0
 refine aQ ?_
 refine aR ?_
 refine iR 1 1 [(4, (.int .u32 0))] ?_
 refine iF ?_
 refine aQ ?_
 refine aR ?_
 refine iR 4 4 [(6, (.int .i64 p2)), (7, (.int .u64 (IntKind.wrap .u64 p2))), (8, (.int .u64 (Zt .u64 (IntKind.wrap .u64 p2) 31))), (5, (.int .u64 (Zt .u64 (IntKind.wrap .u64 p2) 31)))] ?_
 refine iF ?_
 refine aQ ?_
 refine aR ?_
 refine iR 2 2 [(9, (.int .u32 p1)), (10, (.int .u64 (Zt .u64 (IntKind.wrap .u64 p2) 31)))] ?_
 obtain ⟨hl3, H⟩ := V4 H
 refine iS 3 ?_
 refine Qi.shift (op := .shl) (T := 111) (T' := 127) (x := (.tmp 9)) (y := (.tmp 10)) (kx := .u32) (ky := .u64) (a := p1) (b := (Zt .u64 (IntKind.wrap .u64 p2) 31)) (v := (.int .u32 (Ns .u32 p1 (Zt .u64 (IntKind.wrap .u64 p2) 31)))) (d := (some 11)) (k := 2) K rfl K K (of_decide_eq_true hl3) rfl ?_
 refine iR 3 6 [(12, (.int .u32 p1)), (13, (.int .u64 (Zt .u64 (IntKind.wrap .u64 p2) 31))), (14, (.int .u64 (IntKind.wrap .u64 (32 - (Zt .u64 (IntKind.wrap .u64 p2) 31)))))] ?_
 obtain ⟨hl4, H⟩ := V4 H
 refine iS 7 ?_
 refine Qi.shift (op := .shr) (T := 111) (T' := 127) (x := (.tmp 12)) (y := (.tmp 14)) (kx := .u32) (ky := .u64) (a := p1) (b := (IntKind.wrap .u64 (32 - (Zt .u64 (IntKind.wrap .u64 p2) 31)))) (v := (.int .u32 (Nm .u32 p1 (IntKind.wrap .u64 (32 - (Zt .u64 (IntKind.wrap .u64 p2) 31)))))) (d := (some 15)) (k := 6) K rfl K K (of_decide_eq_true hl4) rfl ?_
 refine iR 2 9 [(16, (.int .u32 (bOr .u32 (Ns .u32 p1 (Zt .u64 (IntKind.wrap .u64 p2) 31)) (Nm .u32 p1 (IntKind.wrap .u64 (32 - (Zt .u64 (IntKind.wrap .u64 p2) 31))))))), (4, (.int .u32 (bOr .u32 (Ns .u32 p1 (Zt .u64 (IntKind.wrap .u64 p2) 31)) (Nm .u32 p1 (IntKind.wrap .u64 (32 - (Zt .u64 (IntKind.wrap .u64 p2) 31)))))))] ?_
 refine iF ?_
 refine At.ret K ?_
 refine ⟨(.int .u32 (bOr .u32 (Ns .u32 p1 (Zt .u64 (IntKind.wrap .u64 p2) 31)) (Nm .u32 p1 (IntKind.wrap .u64 (32 - (Zt .u64 (IntKind.wrap .u64 p2) 31)))))), K, ?_⟩
 obtain rfl := Qe H
 exact ⟨rfl, SP.sel c [] rfl rfl⟩
def Gq  : Option ((List Int)) :=
  (some (([1779033703, 3144134277, 1013904242, 2773480762, 1359893119, 2600822924, 528734635, 1541459225] : List Int)))
theorem Cp   (w0 : World)  (r : ((List Int))) (H : Gq  = some r) :
  Calls Tryz.prog 114 #[] w0 (fun e w' => e = .returned (.agg (Qd (Qc .u32) r).toArray) ∧ SP [] w0 w' []) := by
 unfold Gq at H
 refine Qs (n := 2) Tryz.func114 K K K ?_
 have c := Q0 [] w0
 refine aQ ?_
 refine aR ?_
 refine iS 1 ?_
 refine Q4 (e := (Qc .u32)) (l := (List.replicate 8 0)) (m := 8) (t := 149) (z := .agg (Qd (Qc .u32) (List.replicate 8 0)).toArray) (d := (some 0)) (k := 0) K rfl K rfl rfl K c ?_
 intro g1 w2 f
 refine iF ?_
 refine aQ ?_
 refine aR ?_
 refine iR 1 1 [(1, (.agg (Qd (Qc .u32) ([1779033703, 3144134277, 1013904242, 2773480762, 1359893119, 2600822924, 528734635, 1541459225] : List Int)).toArray))] ?_
 refine iS 2 ?_
 refine Vf (e := (Qc .u32)) (l := (List.replicate 8 0)) (l' := ([1779033703, 3144134277, 1013904242, 2773480762, 1359893119, 2600822924, 528734635, 1541459225] : List Int)) (m := 8) (t := 149) (x := (.tmp 0)) (y := (.tmp 1)) (g := g1) (i := 0) (d := none) (k := 1) K rfl K K rfl f rfl K ?_
 intro w5 b
 refine iF ?_
 refine At.ret K ?_
 refine ⟨(.agg (Qd (Qc .u32) ([1779033703, 3144134277, 1013904242, 2773480762, 1359893119, 2600822924, 528734635, 1541459225] : List Int)).toArray), Bs K (G0 (e := (Qc .u32)) (l := ([1779033703, 3144134277, 1013904242, 2773480762, 1359893119, 2600822924, 528734635, 1541459225] : List Int)) (a := 0) (t := 149) K (SP.get b (i := 0) rfl) K K), ?_⟩
 obtain rfl := Qe H
 exact ⟨rfl, SP.sel b [] rfl rfl⟩
def Dh  : Option ((List Int)) :=
  (some (([1116352408, 1899447441, 3049323471, 3921009573, 961987163, 1508970993, 2453635748, 2870763221, 3624381080, 310598401, 607225278, 1426881987, 1925078388, 2162078206, 2614888103, 3248222580, 3835390401, 4022224774, 264347078, 604807628, 770255983, 1249150122, 1555081692, 1996064986, 2554220882, 2821834349, 2952996808, 3210313671, 3336571891, 3584528711, 113926993, 338241895, 666307205, 773529912, 1294757372, 1396182291, 1695183700, 1986661051, 2177026350, 2456956037, 2730485921, 2820302411, 3259730800, 3345764771, 3516065817, 3600352804, 4094571909, 275423344, 430227734, 506948616, 659060556, 883997877, 958139571, 1322822218, 1537002063, 1747873779, 1955562222, 2024104815, 2227730452, 2361852424, 2428436474, 2756734187, 3204031479, 3329325298] : List Int)))
theorem Ny   (w0 : World)  (r : ((List Int))) (H : Dh  = some r) :
  Calls Tryz.prog 127 #[] w0 (fun e w' => e = .returned (.agg (Qd (Qc .u32) r).toArray) ∧ SP [] w0 w' []) := by
 unfold Dh at H
 refine Qs (n := 2) Tryz.func127 K K K ?_
 have c := Q0 [] w0
 refine aQ ?_
 refine aR ?_
 refine iS 1 ?_
 refine Q4 (e := (Qc .u32)) (l := (List.replicate 64 0)) (m := 64) (t := 135) (z := .agg (Qd (Qc .u32) (List.replicate 64 0)).toArray) (d := (some 0)) (k := 0) K rfl K rfl rfl K c ?_
 intro g1 w2 f
 refine iF ?_
 refine aQ ?_
 refine aR ?_
 refine iR 1 1 [(1, (.agg (Qd (Qc .u32) ([1116352408, 1899447441, 3049323471, 3921009573, 961987163, 1508970993, 2453635748, 2870763221, 3624381080, 310598401, 607225278, 1426881987, 1925078388, 2162078206, 2614888103, 3248222580, 3835390401, 4022224774, 264347078, 604807628, 770255983, 1249150122, 1555081692, 1996064986, 2554220882, 2821834349, 2952996808, 3210313671, 3336571891, 3584528711, 113926993, 338241895, 666307205, 773529912, 1294757372, 1396182291, 1695183700, 1986661051, 2177026350, 2456956037, 2730485921, 2820302411, 3259730800, 3345764771, 3516065817, 3600352804, 4094571909, 275423344, 430227734, 506948616, 659060556, 883997877, 958139571, 1322822218, 1537002063, 1747873779, 1955562222, 2024104815, 2227730452, 2361852424, 2428436474, 2756734187, 3204031479, 3329325298] : List Int)).toArray))] ?_
 refine iS 2 ?_
 refine Vf (e := (Qc .u32)) (l := (List.replicate 64 0)) (l' := ([1116352408, 1899447441, 3049323471, 3921009573, 961987163, 1508970993, 2453635748, 2870763221, 3624381080, 310598401, 607225278, 1426881987, 1925078388, 2162078206, 2614888103, 3248222580, 3835390401, 4022224774, 264347078, 604807628, 770255983, 1249150122, 1555081692, 1996064986, 2554220882, 2821834349, 2952996808, 3210313671, 3336571891, 3584528711, 113926993, 338241895, 666307205, 773529912, 1294757372, 1396182291, 1695183700, 1986661051, 2177026350, 2456956037, 2730485921, 2820302411, 3259730800, 3345764771, 3516065817, 3600352804, 4094571909, 275423344, 430227734, 506948616, 659060556, 883997877, 958139571, 1322822218, 1537002063, 1747873779, 1955562222, 2024104815, 2227730452, 2361852424, 2428436474, 2756734187, 3204031479, 3329325298] : List Int)) (m := 64) (t := 135) (x := (.tmp 0)) (y := (.tmp 1)) (g := g1) (i := 0) (d := none) (k := 1) K rfl K K rfl f rfl K ?_
 intro w5 b
 refine iF ?_
 refine At.ret K ?_
 refine ⟨(.agg (Qd (Qc .u32) ([1116352408, 1899447441, 3049323471, 3921009573, 961987163, 1508970993, 2453635748, 2870763221, 3624381080, 310598401, 607225278, 1426881987, 1925078388, 2162078206, 2614888103, 3248222580, 3835390401, 4022224774, 264347078, 604807628, 770255983, 1249150122, 1555081692, 1996064986, 2554220882, 2821834349, 2952996808, 3210313671, 3336571891, 3584528711, 113926993, 338241895, 666307205, 773529912, 1294757372, 1396182291, 1695183700, 1986661051, 2177026350, 2456956037, 2730485921, 2820302411, 3259730800, 3345764771, 3516065817, 3600352804, 4094571909, 275423344, 430227734, 506948616, 659060556, 883997877, 958139571, 1322822218, 1537002063, 1747873779, 1955562222, 2024104815, 2227730452, 2361852424, 2428436474, 2756734187, 3204031479, 3329325298] : List Int)).toArray), Bs K (G0 (e := (Qc .u32)) (l := ([1116352408, 1899447441, 3049323471, 3921009573, 961987163, 1508970993, 2453635748, 2870763221, 3624381080, 310598401, 607225278, 1426881987, 1925078388, 2162078206, 2614888103, 3248222580, 3835390401, 4022224774, 264347078, 604807628, 770255983, 1249150122, 1555081692, 1996064986, 2554220882, 2821834349, 2952996808, 3210313671, 3336571891, 3584528711, 113926993, 338241895, 666307205, 773529912, 1294757372, 1396182291, 1695183700, 1986661051, 2177026350, 2456956037, 2730485921, 2820302411, 3259730800, 3345764771, 3516065817, 3600352804, 4094571909, 275423344, 430227734, 506948616, 659060556, 883997877, 958139571, 1322822218, 1537002063, 1747873779, 1955562222, 2024104815, 2227730452, 2361852424, 2428436474, 2756734187, 3204031479, 3329325298] : List Int)) (a := 0) (t := 135) K (SP.get b (i := 0) rfl) K K), ?_⟩
 obtain rfl := Qe H
 exact ⟨rfl, SP.sel b [] rfl rfl⟩
def Yw (p1 : Int) (p2 : (List Int)) (a : Int) : Option (Int) :=
  ((idx p2 0).bind fun b => ((Z4 p1 (IntKind.wrap .i64 (0 - b))).bind fun c => ((idx p2 1).bind fun d => ((Z4 p1 (IntKind.wrap .i64 (0 - d))).bind fun e => (some ((V7 .u32 (V7 .u32 c e) a)))))))
def Z7 (p1 : Int) (p2 : (List Int)) (p4 : Bool) : Option (Int) :=
  ((idx p2 2).bind fun x9 => ((Z4 p1 (IntKind.wrap .i64 (0 - x9))).bind fun b => (cond p4 ((idx p2 2).bind fun a => ((chk (decide (0 ≤ a))).bind fun _ => (Yw p1 p2 (Nm .u32 p1 a)))) (Yw p1 p2 b))))
theorem Nz  (p1 : Int) (p2 : (List Int)) (p4 : Bool) (w0 : World) (b9 : List.length p2 = 3) (r : (Int)) (H : Z7 p1 p2 p4 = some r) :
  Calls Tryz.prog 128 #[(.int .u32 p1), (.agg (Qd (Qc .i64) p2).toArray), (.bool p4)] w0 (fun e w' => e = .returned (.int .u32 r) ∧ SP [] w0 w' []) := by
 unfold Z7 at H
 refine Qs (n := 31) Tryz.func128 K K K ?_
 have c0 := Q0 [] w0
 refine aQ ?_
 refine aR ?_
 refine iS 1 ?_
 refine Ej (e := (Qc .i64)) (l := p2) (m := 3) (t := 168) (x := (.tmp 1)) (d := (some 4)) (k := 0) K rfl K b9 K c0 ?_
 intro g5 w6 a3
 refine iR 1 2 [(6, (.int .u32 0))] ?_
 refine iF ?_
 refine aQ ?_
 refine aR ?_
 refine iR 1 1 [(8, (.int .u32 p1))] ?_
 obtain ⟨x9, a7, a8, c1, H⟩ := Qo H
 refine iS 2 ?_
 refine Ql (e := (Qc .i64)) (l := p2) (m := 3) (g := g5) (T := 168) (E := 3) (x := (.tmp 4)) (ix := (.const (.int .i64 (2)))) (ki := .i64) (iz := 2) (i := 0) (d := (some 9)) (k := 1) K rfl K K K K a3 rfl a7 a8 ?_
 refine iS 3 ?_
 refine sC 3 9 g5 (0 + Int.toNat 2 * (Qc .i64).sz) (.int .i64 x9) 10 (Qk (e := (Qc .i64)) (Qh (Qy (SP.get a3 (i := 0) rfl)) rfl a7 a8) c1 (j := 0) rfl) ?_
 refine iR 1 4 [(11, (.int .i64 (IntKind.wrap .i64 (0 - x9))))] ?_
 obtain ⟨a4, c2, H⟩ := Qb H
 refine iS 5 ?_
 refine cF 138 #[(.tmp 8), (.tmp 11)] #[111, 3] 12 Tryz.call138 (J6  p1 (IntKind.wrap .i64 (0 - x9)) w6  a4 c2) ?_
 rintro e e9 ⟨rfl, a9⟩
 refine ⟨_, rfl, ?_⟩
 have a0 := SP.call a3 a9
 clear a9
 refine iR 1 6 [(7, (.int .u32 a4))] ?_
 refine iF ?_
 refine aQ ?_
 refine aQ ?_
 refine aR ?_
 refine iR 1 1 [(13, (.bool p4))] ?_
 refine iF ?_
 refine At.join (fun ρ w => ∃ (f : Int), V6 ρ [(0, (.int .u32 p1)), (4, (pt g5 0)), (7, (.int .u32 f))] ∧ SP [] w0 w [Vk 168 (Qc .i64) g5 3 p2] ∧ Yw p1 p2 f = some r) ?_ ?_
 ·refine V1 K (o := (.tmp 13)) K (b := p4) K (fun a5 => ?_) (fun a5 => ?_)
  ·have H := ct H a5
   refine aR ?_
   refine iR 1 1 [(14, (.int .u32 p1))] ?_
   obtain ⟨u, b0, b1, c3, H⟩ := Qo H
   refine iS 2 ?_
   refine Ql (e := (Qc .i64)) (l := p2) (m := 3) (g := g5) (T := 168) (E := 3) (x := (.tmp 4)) (ix := (.const (.int .i64 (2)))) (ki := .i64) (iz := 2) (i := 0) (d := (some 15)) (k := 1) K rfl K K K K a0 rfl b0 b1 ?_
   refine iS 3 ?_
   refine sC 3 15 g5 (0 + Int.toNat 2 * (Qc .i64).sz) (.int .i64 u) 16 (Qk (e := (Qc .i64)) (Qh (Qy (SP.get a0 (i := 0) rfl)) rfl b0 b1) c3 (j := 0) rfl) ?_
   obtain ⟨hl107, H⟩ := V4 H
   refine iS 4 ?_
   refine Qi.shift (op := .shr) (T := 111) (T' := 3) (x := (.tmp 14)) (y := (.tmp 16)) (kx := .u32) (ky := .i64) (a := p1) (b := u) (v := (.int .u32 (Nm .u32 p1 u))) (d := (some 17)) (k := 3) K rfl K K (of_decide_eq_true hl107) rfl ?_
   refine iR 1 5 [(7, (.int .u32 (Nm .u32 p1 u)))] ?_
   refine iF ?_
   exact ⟨(Nm .u32 p1 u), ⟨K, K, K, trivial⟩, SP.sel a0 [0] rfl rfl, H⟩
  ·have H := cf H a5
   refine At.skip K ?_
   exact ⟨a4, ⟨K, K, K, trivial⟩, SP.sel a0 [0] rfl rfl, H⟩
 ·rintro ρ f0 ⟨f, hk, b2, H⟩
  unfold Yw at H
  first | refine At.known [(0, (.int .u32 p1)), (4, (pt g5 0)), (7, (.int .u32 f))] hk ?_ | rw [← Qv (l := [(0, (.int .u32 p1)), (4, (pt g5 0)), (7, (.int .u32 f))]) hk]
  have f1 := Vc (SP.get b2 (i := 0) rfl)
  refine aQ ?_
  obtain ⟨z, b3, b4, c4, H⟩ := Qo H
  obtain ⟨p, c5, H⟩ := Qb H
  obtain ⟨s, a1, a2, b5, H⟩ := Qo H
  obtain ⟨q, c6, H⟩ := Qb H
  refine aG [GEq (.int .u32 p1), Vr (some ⟨g5, 0, none⟩) (Qc .i64).sz 0, GEq (.int .i64 z), GEq (.int .i64 (IntKind.wrap .i64 (0 - z))), GEq (.int .u32 p), GEq (.int .u32 p1), Vr (some ⟨g5, 0, none⟩) (Qc .i64).sz 1, GEq (.int .i64 s), GEq (.int .i64 (IntKind.wrap .i64 (0 - s))), GEq (.int .u32 q), GEq (.int .u32 (V7 .u32 p q)), GEq (.int .u32 f), GEq (.int .u32 (V7 .u32 (V7 .u32 p q) f)), GEq (.int .u32 (V7 .u32 (V7 .u32 p q) f))] [4, 9] (tG [] w0 [Vk 168 (Qc .i64) g5 3 p2] [([], []), ([4], [(.int .u32 p)]), ([4, 9], [(.int .u32 p), (.int .u32 q)])]) 14 2 ⟨trivial, SP.drew b2⟩ ?_ ?_
  iterate 14 refine And.intro ?_ ?_
  exact trivial
  ·exact oV (hC (hS 0 (.int .u32 p1)) (h0)) (.int .u32 p1)
  ·refine oL 0 ?_
   ·rintro ρ' w' hs h ⟨f2, c7⟩
    refine kM (kc (kS hs 4 (pt g5 0)) k0) fun c => ?_
    refine Ql (e := (Qc .i64)) (l := p2) (m := 3) (g := g5) (T := 168) (E := 3) (x := (.tmp 4)) (ix := (.const (.int .i64 (0)))) (ki := .i64) (iz := 0) (i := 0) (d := (some 19)) (k := 1) K rfl K K K K c7 rfl b3 b4 ?_
    exact ⟨rfl, _, Qa c, ⟨g5, 0, rfl, rfl⟩⟩
  ·refine oL 0 ?_
   ·rintro ρ' w' hs h ⟨f3, c8⟩
    obtain ⟨c9, d0, d1, d2⟩ := h 1 19 K
    refine kM (kc d2 k0) fun c => ?_
    refine sC 3 19 c9 (d0 + Int.toNat 0 * (Qc .i64).sz) (.int .i64 z) 20 (Qk (e := (Qc .i64)) (Qh (Qy (SP.get c8 (i := 0) rfl)) d1 b3 b4) c4 (j := 0) rfl) ?_
    exact eK c
  ·exact oV (hC (hA 2 20) (h0)) (.int .i64 (IntKind.wrap .i64 (0 - z)))
  ·refine oH 0 1 ?_
   ·rintro ρ' w' hs h ⟨f4, d3⟩
    refine kM (kc (kA h 0 18) (kc (kA h 3 21) k0)) fun c => ?_
    refine cF 138 #[(.tmp 18), (.tmp 21)] #[111, 3] 22 Tryz.call138 (J6  p1 (IntKind.wrap .i64 (0 - z)) w'  p c5) ?_
    rintro e f5 ⟨rfl, b6⟩
    refine ⟨_, rfl, ?_⟩
    have d4 := SP.call d3 b6
    clear b6
    refine ⟨_, Qa c, rfl, ?_⟩
    exact (And.intro (And.intro rfl (trivial)) (d4))
  ·exact oV (hC (hS 0 (.int .u32 p1)) (h0)) (.int .u32 p1)
  ·refine Owe.light K [0, 1] K (Qf ?_ (Qf ?_ Q8))
   ·rintro ρ' w' hs h ⟨f6, d5⟩
    refine kM (kc (kS hs 4 (pt g5 0)) k0) fun c => ?_
    refine Ql (e := (Qc .i64)) (l := p2) (m := 3) (g := g5) (T := 168) (E := 3) (x := (.tmp 4)) (ix := (.const (.int .i64 (1)))) (ki := .i64) (iz := 1) (i := 0) (d := (some 24)) (k := 6) K rfl K K K K d5 rfl a1 a2 ?_
    exact ⟨rfl, _, Qa c, ⟨g5, 0, rfl, rfl⟩⟩
   ·rintro ρ' w' hs h ⟨⟨f7, -⟩, d6⟩
    refine kM (kc (kS hs 4 (pt g5 0)) k0) fun c => ?_
    refine Ql (e := (Qc .i64)) (l := p2) (m := 3) (g := g5) (T := 168) (E := 3) (x := (.tmp 4)) (ix := (.const (.int .i64 (1)))) (ki := .i64) (iz := 1) (i := 0) (d := (some 24)) (k := 6) K rfl K K K K d6 rfl a1 a2 ?_
    exact ⟨rfl, _, Qa c, ⟨g5, 0, rfl, rfl⟩⟩
  ·refine Owe.light K [0, 1] K (Qf ?_ (Qf ?_ Q8))
   ·rintro ρ' w' hs h ⟨f8, d7⟩
    obtain ⟨d8, d9, e0, a6⟩ := h 6 24 K
    refine kM (kc a6 k0) fun c => ?_
    refine sC 3 24 d8 (d9 + Int.toNat 1 * (Qc .i64).sz) (.int .i64 s) 25 (Qk (e := (Qc .i64)) (Qh (Qy (SP.get d7 (i := 0) rfl)) e0 a1 a2) b5 (j := 0) rfl) ?_
    exact eK c
   ·rintro ρ' w' hs h ⟨⟨f9, -⟩, e1⟩
    obtain ⟨e2, e3, e4, a6⟩ := h 6 24 K
    refine kM (kc a6 k0) fun c => ?_
    refine sC 3 24 e2 (e3 + Int.toNat 1 * (Qc .i64).sz) (.int .i64 s) 25 (Qk (e := (Qc .i64)) (Qh (Qy (SP.get e1 (i := 0) rfl)) e4 a1 a2) b5 (j := 0) rfl) ?_
    exact eK c
  ·exact oV (hC (hA 7 25) (h0)) (.int .i64 (IntKind.wrap .i64 (0 - s)))
  ·refine oH 1 2 ?_
   ·rintro ρ' w' hs h ⟨⟨e5, -⟩, e6⟩
    refine kM (kc (kA h 5 23) (kc (kA h 8 26) k0)) fun c => ?_
    refine cF 138 #[(.tmp 23), (.tmp 26)] #[111, 3] 27 Tryz.call138 (J6  p1 (IntKind.wrap .i64 (0 - s)) w'  q c6) ?_
    rintro e g0 ⟨rfl, b7⟩
    refine ⟨_, rfl, ?_⟩
    have e7 := SP.call e6 b7
    clear b7
    refine ⟨_, Qa c, rfl, ?_⟩
    exact (And.intro (And.intro e5 (And.intro rfl (trivial))) (e7))
  ·exact oV (hC (hA 4 22) (hC (hA 9 27) (h0))) (.int .u32 (V7 .u32 p q))
  ·exact oV (hC (hS 7 (.int .u32 f)) (h0)) (.int .u32 f)
  ·exact oV (hC (hA 10 28) (hC (hA 11 29) (h0))) (.int .u32 (V7 .u32 (V7 .u32 p q) f))
  ·exact oV (hC (hA 12 30) (h0)) (.int .u32 (V7 .u32 (V7 .u32 p q) f))
  ·rintro ρ' w' hs hf ⟨⟨g1, g2, -⟩, b8⟩
   refine Q3 [(6, (.int .u32 (V7 .u32 (V7 .u32 p q) f)))] ⟨hf 13 6 K, trivial⟩ ?_
   obtain ⟨g3, e8⟩ : ∃ x, w' = x := ⟨_, rfl⟩
   rw [e8] at b8 ⊢
   refine At.ret K ?_
   refine ⟨(.int .u32 (V7 .u32 (V7 .u32 p q) f)), K, ?_⟩
   obtain rfl := Qe H
   exact ⟨rfl, SP.sel b8 [] rfl rfl⟩
def No (k : (List Int) → Int → Option ((List Int))) (c : (List Int) → Int → Option ((List Int))) (b : (List Int)) (a : Int) : Option ((List Int)) :=
  (cond (decide (a < 64)) ((idx b (IntKind.wrap .i64 (a - 2))).bind fun d => ((Z7 d ([17, 19, 10] : List Int) true).bind fun e => ((idx b (IntKind.wrap .i64 (a - 7))).bind fun f => ((idx b (IntKind.wrap .i64 (a - 15))).bind fun g => ((Z7 g ([7, 18, 3] : List Int) true).bind fun h => ((idx b (IntKind.wrap .i64 (a - 16))).bind fun i => ((idx b a).bind fun l => ((some (List.set b (Int.toNat a) (IntKind.wrap .u32 ((IntKind.wrap .u32 ((IntKind.wrap .u32 (e + f)) + h)) + i)))).bind fun j => (c j (IntKind.wrap .i64 (a + 1))))))))))) (some (b)))
def Jl (a : (List Int) → Int → Option ((List Int))) : Nat → (List Int) → Int → Option ((List Int))
  | 0, _, _ => none
  | f + 1, b, c => No a (Jl a f) b c
def Jm (c : (List Int) → Int → Option ((List Int))) (d : (List UInt8)) (b : (List Int)) (a : Int) : Option ((List Int)) :=
  (cond (decide (a < ((List.length d : Nat) : Int))) ((idx d a).bind fun e => ((idx b (IntKind.wrap .i64 (Int.tdiv a 4))).bind fun f => ((idx b (IntKind.wrap .i64 (Int.tdiv a 4))).bind fun h => ((some (List.set b (Int.toNat (IntKind.wrap .i64 (Int.tdiv a 4))) (bOr .u32 (Ns .u32 f 8) (IntKind.wrap .u32 ((e).toNat : Int))))).bind fun g => (c g (IntKind.wrap .i64 (a + 1))))))) (Jl c Zj b 16))
def Xi (a : (List UInt8)) : Nat → (List Int) → Int → Option ((List Int))
  | 0, _, _ => none
  | f + 1, b, c => Jm  (Xi a f) a b c
def Gf (p1 : (List UInt8)) : Option ((List Int)) :=
  ((sub p1 0 64).bind fun a => (Xi a Zj (List.replicate 64 0) 0))
theorem D6 (A2 : Option Addr) (c3 : Nat) (p1 : (List UInt8)) (w0 : World) (b8 : RdT eU8 w0 A2 c3 p1) (r : ((List Int))) (H : Gf p1 = some r) :
  Calls Tryz.prog 116 #[(.slice A2 (List.length p1) c3)] w0 (fun e w' => e = .returned (.agg (Qd (Qc .u32) r).toArray) ∧ SP [] w0 w' []) := by
 unfold Gf at H
 refine Qs (n := 57) Tryz.func116 K K K ?_
 have e8 := Q0 [] w0
 refine aQ ?_
 refine aR ?_
 refine iS 1 ?_
 refine Q4 (e := (Qc .u32)) (l := (List.replicate 64 0)) (m := 64) (t := 135) (z := .agg (Qd (Qc .u32) (List.replicate 64 0)).toArray) (d := (some 2)) (k := 0) K rfl K rfl rfl K e8 ?_
 intro g5 w6 e9
 refine iF ?_
 refine aQ ?_
 refine aR ?_
 refine iS 1 ?_
 refine Q4 (e := (Qc .u32)) (l := (List.replicate 64 0)) (m := 64) (t := 135) (z := .agg (Qd (Qc .u32) (List.replicate 64 0)).toArray) (d := (some 3)) (k := 0) K rfl K rfl rfl K e9 ?_
 intro g9 m7 d0
 refine iF ?_
 refine aQ ?_
 refine aQ ?_
 refine aR ?_
 refine iR 1 1 [(7, (.slice A2 (List.length p1) c3))] ?_
 obtain ⟨b9, c0, c1, H⟩ := Dw H
 obtain ⟨u, hyl16⟩ : ∃ y, (List.drop (Int.toNat 0) (List.take (Int.toNat 64) p1)) = y := ⟨_, rfl⟩
 rw [hyl16] at H
 refine iS 2 ?_
 refine Cj (e := eU8) (l := p1) (m := u) (A := A2) (c := c3) (T := 52) (E := 5) (x := (.tmp 7)) (lo := none) (hi := (some (.const (.int .i64 (64))))) (i := 0) (j := 64) (d := (some 8)) (k := 1) K rfl K K K rfl ⟨.i64, K⟩ (RdX.le (RdT.sp b8 d0)) b9 c0 c1 hyl16 ?_
 refine iR 2 4 [(9, (.int .i64 ((List.length u : Nat) : Int))), (10, (.int .i64 0))] ?_
 refine iF ?_
 refine Z1 K (id := 0) K ?_
 refine Nl K (fun f4 ρ w => ∃ (a2 : (List Int)) (s : Int), V6 ρ [(2, (pt g5 0)), (3, (pt g9 0)), (8, (.slice (F2 eU8.sz c3 (Int.toNat 0) A2) (List.length u) (c3 - Int.toNat 0))), (9, (.int .i64 ((List.length u : Nat) : Int))), (10, (.int .i64 s))] ∧ SP [] w0 w [Vk 135 (Qc .u32) g5 64 (List.replicate 64 0), Vk 135 (Qc .u32) g9 64 a2] ∧ Xi u f4 a2 s = some r) (by rintro ρ w ⟨a2, s, hk, hs, H⟩; cases H) ?_ Zj ?_
 ·rintro f4 ρ d1 ⟨a2, s, hk, a4, H⟩
  refine At.known [(2, (pt g5 0)), (3, (pt g9 0)), (8, (.slice (F2 eU8.sz c3 (Int.toNat 0) A2) (List.length u) (c3 - Int.toNat 0))), (9, (.int .i64 ((List.length u : Nat) : Int))), (10, (.int .i64 s))] hk ?_
  replace H := (show Jm (Xi u f4) u a2 s = some r from H)
  unfold Jm at H
  have m8 := Vc (SP.get a4 (i := 0) rfl)
  have m9 := Vc (SP.get a4 (i := 1) rfl)
  refine aQ ?_
  refine aR ?_
  refine iR 1 1 [(11, (.bool (decide (s < ((List.length u : Nat) : Int)))))] ?_
  refine iF ?_
  refine aQ ?_
  refine V1 K (o := (.tmp 11)) K (b := (decide (s < ((List.length u : Nat) : Int)))) K (fun c2 => ?_) (fun c2 => ?_)
  ·have H := ct H c2
   refine At.skip K ?_
   refine aQ ?_
   refine Z1 K (id := 1) K ?_
   refine aQ ?_
   refine aR ?_
   refine iR 1 1 [(12, (.int .i64 s))] ?_
   obtain ⟨a6, d2, d3, f0, H⟩ := Qo H
   refine iS 2 ?_
   refine Vi (e := eU8) (l := u) (A := (F2 eU8.sz c3 (Int.toNat 0) A2)) (c := (c3 - Int.toNat 0)) (T := 52) (E := 5) (x := (.tmp 8)) (ix := (.tmp 10)) (ki := .i64) (iz := s) (d := (some 13)) (k := 1) K rfl K K K K ((Ia b9 c0 c1 hyl16) d1 (RdT.sp b8 a4)) d2 d3 ?_
   intro f1 f2 f3 n0 hc2226
   refine iS 3 ?_
   refine sC 5 13 f1 (f2 + Int.toNat s * eU8.sz) (.int .u8 ((a6).toNat : Int)) 14 (Qk (e := eU8) (Qh ((Ia b9 c0 c1 hyl16) d1 (RdT.sp b8 a4)) f3 d2 d3) f0 (j := 0) rfl) ?_
   refine iR 2 5 [(4, (.int .i64 s)), (5, (.int .u8 ((a6).toNat : Int)))] ?_
   refine iF ?_
   refine aR ?_
   refine iR 4 4 [(15, (.int .i64 s)), (16, (.int .i64 (IntKind.wrap .i64 (Int.tdiv s 4)))), (17, (.int .i64 s)), (18, (.int .i64 (IntKind.wrap .i64 (Int.tdiv s 4))))] ?_
   obtain ⟨b1, d4, d5, f6, H⟩ := Qo H
   refine iS 5 ?_
   refine Ql (e := (Qc .u32)) (l := a2) (m := 64) (g := g9) (T := 135) (E := 111) (x := (.tmp 3)) (ix := (.tmp 18)) (ki := .i64) (iz := (IntKind.wrap .i64 (Int.tdiv s 4))) (i := 1) (d := (some 19)) (k := 4) K rfl K K K K a4 rfl d4 d5 ?_
   refine iS 6 ?_
   refine sC 111 19 g9 (0 + Int.toNat (IntKind.wrap .i64 (Int.tdiv s 4)) * (Qc .u32).sz) (.int .u32 b1) 20 (Qk (e := (Qc .u32)) (Qh (Qy (SP.get a4 (i := 1) rfl)) rfl d4 d5) f6 (j := 0) rfl) ?_
   refine iR 4 10 [(21, (.int .u32 (Ns .u32 b1 8))), (22, (.int .u8 ((a6).toNat : Int))), (23, (.int .u32 (IntKind.wrap .u32 ((a6).toNat : Int)))), (24, (.int .u32 (bOr .u32 (Ns .u32 b1 8) (IntKind.wrap .u32 ((a6).toNat : Int)))))] ?_
   obtain ⟨n1, d6, d7, n2, H⟩ := Qo H
   refine iS 11 ?_
   refine Ql (e := (Qc .u32)) (l := a2) (m := 64) (g := g9) (T := 135) (E := 111) (x := (.tmp 3)) (ix := (.tmp 16)) (ki := .i64) (iz := (IntKind.wrap .i64 (Int.tdiv s 4))) (i := 1) (d := (some 25)) (k := 10) K rfl K K K K a4 rfl d6 d7 ?_
   obtain ⟨d8, hyl2237, H⟩ := Zk H
   have hnl2237 : List.length d8 = List.length a2 := by rw [← hyl2237, List.length_set]
   refine iS 12 ?_
   refine Z3 (e := (Qc .u32)) (t := 111) (x := (.tmp 25)) (y := (.tmp 24)) (l := a2) (iz := (IntKind.wrap .i64 (Int.tdiv s 4))) (m := 64) (g := g9) (b := g9) (off := 0) (i := 1) (v := (.int .u32 (bOr .u32 (Ns .u32 b1 8) (IntKind.wrap .u32 ((a6).toNat : Int))))) (x' := (bOr .u32 (Ns .u32 b1 8) (IntKind.wrap .u32 ((a6).toNat : Int)))) (d := none) (k := 11) K rfl rfl K K a4 rfl rfl d7 d6 rfl K ?_
   rw [hyl2237]
   intro n3 f7
   refine In.known [] trivial ?_
   refine iF ?_
   refine aR ?_
   refine iR 2 2 [(26, (.int .i64 (IntKind.wrap .i64 (s + 1)))), (10, (.int .i64 (IntKind.wrap .i64 (s + 1))))] ?_
   refine iF ?_
   exact ⟨d8, (IntKind.wrap .i64 (s + 1)), ⟨K, K, K, K, K, trivial⟩, SP.sel f7 [0, 1] rfl rfl, H⟩
  ·have H := cf H c2
   refine At.exit K (id := 0) K ?_
   refine aQ ?_
   refine aQ ?_
   refine aR ?_
   refine iR 1 1 [(6, (.int .i64 16))] ?_
   refine iF ?_
   refine Z1 K (id := 2) K ?_
   refine Nl K (fun f5 ρ w => ∃ (q : (List Int)) (f : Int), V6 ρ [(2, (pt g5 0)), (3, (pt g9 0)), (6, (.int .i64 f))] ∧ SP [] w0 w [Vk 135 (Qc .u32) g5 64 (List.replicate 64 0), Vk 135 (Qc .u32) g9 64 q] ∧ Jl (Xi u f4) f5 q f = some r) (by rintro ρ w ⟨q, f, hk, hs, H⟩; cases H) ?_ Zj ?_
   ·rintro f5 ρ n4 ⟨q, f, hk, b2, H⟩
    refine At.known [(2, (pt g5 0)), (3, (pt g9 0)), (6, (.int .i64 f))] hk ?_
    replace H := (show No (Xi u f4) (Jl (Xi u f4) f5) q f = some r from H)
    unfold No at H
    have n5 := Vc (SP.get b2 (i := 0) rfl)
    have f8 := Vc (SP.get b2 (i := 1) rfl)
    refine aQ ?_
    refine aQ ?_
    refine aR ?_
    refine iR 2 2 [(27, (.int .i64 f)), (28, (.bool (decide (f < 64))))] ?_
    refine iF ?_
    refine V1 K (o := (.tmp 28)) K (b := (decide (f < 64))) K (fun c4 => ?_) (fun c4 => ?_)
    ·have H := ct H c4
     refine At.skip K ?_
     refine aQ ?_
     refine Z1 K (id := 3) K ?_
     obtain ⟨c5, d9, e0, f9, H⟩ := Qo H
     obtain ⟨a0, g0, H⟩ := Qb H
     obtain ⟨a1, a7, a8, c6, H⟩ := Qo H
     obtain ⟨b5, b6, b7, e1, H⟩ := Qo H
     obtain ⟨a3, g1, H⟩ := Qb H
     obtain ⟨a5, a9, b0, c7, H⟩ := Qo H
     obtain ⟨n6, e2, e3, n7, H⟩ := Qo H
     obtain ⟨c8, hyl2808, H⟩ := Zk H
     have hnl2808 : List.length c8 = List.length q := by rw [← hyl2808, List.length_set]
     refine aG [GEq (.int .i64 f), GEq (.int .i64 f), GEq (.int .i64 (IntKind.wrap .i64 (f - 2))), Vr (some ⟨g9, 0, none⟩) (Qc .u32).sz (IntKind.wrap .i64 (f - 2)), GEq (.int .u32 c5), GEq (.agg (Qd (Qc .i64) ([17, 19, 10] : List Int)).toArray), GEq (.int .u32 a0), GEq (.int .i64 f), GEq (.int .i64 (IntKind.wrap .i64 (f - 7))), Vr (some ⟨g9, 0, none⟩) (Qc .u32).sz (IntKind.wrap .i64 (f - 7)), GEq (.int .u32 a1), GEq (.int .u32 (IntKind.wrap .u32 (a0 + a1))), GEq (.int .i64 f), GEq (.int .i64 (IntKind.wrap .i64 (f - 15))), Vr (some ⟨g9, 0, none⟩) (Qc .u32).sz (IntKind.wrap .i64 (f - 15)), GEq (.int .u32 b5), GEq (.agg (Qd (Qc .i64) ([7, 18, 3] : List Int)).toArray), GEq (.int .u32 a3), GEq (.int .u32 (IntKind.wrap .u32 ((IntKind.wrap .u32 (a0 + a1)) + a3))), GEq (.int .i64 f), GEq (.int .i64 (IntKind.wrap .i64 (f - 16))), Vr (some ⟨g9, 0, none⟩) (Qc .u32).sz (IntKind.wrap .i64 (f - 16)), GEq (.int .u32 a5), GEq (.int .u32 (IntKind.wrap .u32 ((IntKind.wrap .u32 ((IntKind.wrap .u32 (a0 + a1)) + a3)) + a5))), Vr (some ⟨g9, 0, none⟩) (Qc .u32).sz f, Ey] [6, 17, 25] [sG [] [] [] w0 [Vk 135 (Qc .u32) g5 64 (List.replicate 64 0), Vk 135 (Qc .u32) g9 64 q], sG [6] [(.int .u32 a0)] [] w0 [Vk 135 (Qc .u32) g5 64 (List.replicate 64 0), Vk 135 (Qc .u32) g9 64 q], sG [6, 17] [(.int .u32 a0), (.int .u32 a3)] [] w0 [Vk 135 (Qc .u32) g5 64 (List.replicate 64 0), Vk 135 (Qc .u32) g9 64 q], sG [6, 17, 25] [(.int .u32 a0), (.int .u32 a3), undef] [] w0 [Vk 135 (Qc .u32) g5 64 (List.replicate 64 0), Vk 135 (Qc .u32) g9 64 c8]] 26 3 ⟨trivial, SP.drew b2⟩ ?_ ?_
     iterate 26 refine And.intro ?_ ?_
     exact trivial
     ·exact oV (hC (hS 6 (.int .i64 f)) (h0)) (.int .i64 f)
     ·exact oV (hC (hS 6 (.int .i64 f)) (h0)) (.int .i64 f)
     ·exact oV (hC (hA 1 32) (h0)) (.int .i64 (IntKind.wrap .i64 (f - 2)))
     ·refine oL 0 ?_
      ·rintro ρ' w' hs h ⟨n8, g2⟩
       refine kM (kc (kS hs 3 (pt g9 0)) (kc (kA h 2 33) k0)) fun p => ?_
       refine Ql (e := (Qc .u32)) (l := q) (m := 64) (g := g9) (T := 135) (E := 111) (x := (.tmp 3)) (ix := (.tmp 33)) (ki := .i64) (iz := (IntKind.wrap .i64 (f - 2))) (i := 1) (d := (some 34)) (k := 3) K rfl K K K K g2 rfl d9 e0 ?_
       exact ⟨rfl, _, Qa p, ⟨g9, 0, rfl, rfl⟩⟩
     ·refine oL 0 ?_
      ·rintro ρ' w' hs h ⟨n9, g3⟩
       obtain ⟨g4, g6, g7, g8⟩ := h 3 34 K
       refine kM (kc g8 k0) fun p => ?_
       refine sC 111 34 g4 (g6 + Int.toNat (IntKind.wrap .i64 (f - 2)) * (Qc .u32).sz) (.int .u32 c5) 35 (Qk (e := (Qc .u32)) (Qh (Qy (SP.get g3 (i := 1) rfl)) g7 d9 e0) f9 (j := 0) rfl) ?_
       exact eK p
     ·exact Owe.run K [] trivial (.agg (Qd (Qc .i64) ([17, 19, 10] : List Int)).toArray) (fun _ _ => K) rfl
     ·refine oH 0 1 ?_
      ·rintro ρ' w' hs h ⟨o0, h1⟩
       refine kM (kc (kA h 4 35) (kc (kA h 5 36) k0)) fun p => ?_
       refine cF 128 #[(.tmp 35), (.tmp 36), (.const (.bool true))] #[111, 168, 4] 37 Tryz.call128 (Nz  c5 ([17, 19, 10] : List Int) true w' rfl a0 g0) ?_
       rintro e o1 ⟨rfl, e4⟩
       refine ⟨_, rfl, ?_⟩
       have h2 := SP.call h1 e4
       clear e4
       refine ⟨_, Qa p, rfl, ?_⟩
       exact (And.intro (And.intro rfl (trivial)) (h2))
     ·exact oV (hC (hS 6 (.int .i64 f)) (h0)) (.int .i64 f)
     ·exact oV (hC (hA 7 38) (h0)) (.int .i64 (IntKind.wrap .i64 (f - 7)))
     ·refine Owe.light K [0, 1, 2] K (Qf ?_ (Qf ?_ (Qf ?_ Q8)))
      ·rintro ρ' w' hs h ⟨o2, h3⟩
       refine kM (kc (kS hs 3 (pt g9 0)) (kc (kA h 8 39) k0)) fun p => ?_
       refine Ql (e := (Qc .u32)) (l := q) (m := 64) (g := g9) (T := 135) (E := 111) (x := (.tmp 3)) (ix := (.tmp 39)) (ki := .i64) (iz := (IntKind.wrap .i64 (f - 7))) (i := 1) (d := (some 40)) (k := 9) K rfl K K K K h3 rfl a7 a8 ?_
       exact ⟨rfl, _, Qa p, ⟨g9, 0, rfl, rfl⟩⟩
      ·rintro ρ' w' hs h ⟨⟨o3, -⟩, h4⟩
       refine kM (kc (kS hs 3 (pt g9 0)) (kc (kA h 8 39) k0)) fun p => ?_
       refine Ql (e := (Qc .u32)) (l := q) (m := 64) (g := g9) (T := 135) (E := 111) (x := (.tmp 3)) (ix := (.tmp 39)) (ki := .i64) (iz := (IntKind.wrap .i64 (f - 7))) (i := 1) (d := (some 40)) (k := 9) K rfl K K K K h4 rfl a7 a8 ?_
       exact ⟨rfl, _, Qa p, ⟨g9, 0, rfl, rfl⟩⟩
      ·rintro ρ' w' hs h ⟨⟨o4, o5, -⟩, h5⟩
       refine kM (kc (kS hs 3 (pt g9 0)) (kc (kA h 8 39) k0)) fun p => ?_
       refine Ql (e := (Qc .u32)) (l := q) (m := 64) (g := g9) (T := 135) (E := 111) (x := (.tmp 3)) (ix := (.tmp 39)) (ki := .i64) (iz := (IntKind.wrap .i64 (f - 7))) (i := 1) (d := (some 40)) (k := 9) K rfl K K K K h5 rfl a7 a8 ?_
       exact ⟨rfl, _, Qa p, ⟨g9, 0, rfl, rfl⟩⟩
     ·refine Owe.light K [0, 1, 2] K (Qf ?_ (Qf ?_ (Qf ?_ Q8)))
      ·rintro ρ' w' hs h ⟨o6, h6⟩
       obtain ⟨h7, h8, h9, b3⟩ := h 9 40 K
       refine kM (kc b3 k0) fun p => ?_
       refine sC 111 40 h7 (h8 + Int.toNat (IntKind.wrap .i64 (f - 7)) * (Qc .u32).sz) (.int .u32 a1) 41 (Qk (e := (Qc .u32)) (Qh (Qy (SP.get h6 (i := 1) rfl)) h9 a7 a8) c6 (j := 0) rfl) ?_
       exact eK p
      ·rintro ρ' w' hs h ⟨⟨o7, -⟩, i0⟩
       obtain ⟨i1, i2, i3, b3⟩ := h 9 40 K
       refine kM (kc b3 k0) fun p => ?_
       refine sC 111 40 i1 (i2 + Int.toNat (IntKind.wrap .i64 (f - 7)) * (Qc .u32).sz) (.int .u32 a1) 41 (Qk (e := (Qc .u32)) (Qh (Qy (SP.get i0 (i := 1) rfl)) i3 a7 a8) c6 (j := 0) rfl) ?_
       exact eK p
      ·rintro ρ' w' hs h ⟨⟨o8, o9, -⟩, i4⟩
       obtain ⟨i5, i6, i7, b3⟩ := h 9 40 K
       refine kM (kc b3 k0) fun p => ?_
       refine sC 111 40 i5 (i6 + Int.toNat (IntKind.wrap .i64 (f - 7)) * (Qc .u32).sz) (.int .u32 a1) 41 (Qk (e := (Qc .u32)) (Qh (Qy (SP.get i4 (i := 1) rfl)) i7 a7 a8) c6 (j := 0) rfl) ?_
       exact eK p
     ·exact oV (hC (hA 6 37) (hC (hA 10 41) (h0))) (.int .u32 (IntKind.wrap .u32 (a0 + a1)))
     ·exact oV (hC (hS 6 (.int .i64 f)) (h0)) (.int .i64 f)
     ·exact oV (hC (hA 12 43) (h0)) (.int .i64 (IntKind.wrap .i64 (f - 15)))
     ·refine Owe.light K [0, 1] K (Qf ?_ (Qf ?_ Q8))
      ·rintro ρ' w' hs h ⟨p0, i8⟩
       refine kM (kc (kS hs 3 (pt g9 0)) (kc (kA h 13 44) k0)) fun p => ?_
       refine Ql (e := (Qc .u32)) (l := q) (m := 64) (g := g9) (T := 135) (E := 111) (x := (.tmp 3)) (ix := (.tmp 44)) (ki := .i64) (iz := (IntKind.wrap .i64 (f - 15))) (i := 1) (d := (some 45)) (k := 14) K rfl K K K K i8 rfl b6 b7 ?_
       exact ⟨rfl, _, Qa p, ⟨g9, 0, rfl, rfl⟩⟩
      ·rintro ρ' w' hs h ⟨⟨p2, -⟩, i9⟩
       refine kM (kc (kS hs 3 (pt g9 0)) (kc (kA h 13 44) k0)) fun p => ?_
       refine Ql (e := (Qc .u32)) (l := q) (m := 64) (g := g9) (T := 135) (E := 111) (x := (.tmp 3)) (ix := (.tmp 44)) (ki := .i64) (iz := (IntKind.wrap .i64 (f - 15))) (i := 1) (d := (some 45)) (k := 14) K rfl K K K K i9 rfl b6 b7 ?_
       exact ⟨rfl, _, Qa p, ⟨g9, 0, rfl, rfl⟩⟩
     ·refine Owe.light K [0, 1] K (Qf ?_ (Qf ?_ Q8))
      ·rintro ρ' w' hs h ⟨p3, j0⟩
       obtain ⟨j1, j2, j3, c9⟩ := h 14 45 K
       refine kM (kc c9 k0) fun p => ?_
       refine sC 111 45 j1 (j2 + Int.toNat (IntKind.wrap .i64 (f - 15)) * (Qc .u32).sz) (.int .u32 b5) 46 (Qk (e := (Qc .u32)) (Qh (Qy (SP.get j0 (i := 1) rfl)) j3 b6 b7) e1 (j := 0) rfl) ?_
       exact eK p
      ·rintro ρ' w' hs h ⟨⟨p4, -⟩, j4⟩
       obtain ⟨j5, j6, j7, c9⟩ := h 14 45 K
       refine kM (kc c9 k0) fun p => ?_
       refine sC 111 45 j5 (j6 + Int.toNat (IntKind.wrap .i64 (f - 15)) * (Qc .u32).sz) (.int .u32 b5) 46 (Qk (e := (Qc .u32)) (Qh (Qy (SP.get j4 (i := 1) rfl)) j7 b6 b7) e1 (j := 0) rfl) ?_
       exact eK p
     ·exact Owe.run K [] trivial (.agg (Qd (Qc .i64) ([7, 18, 3] : List Int)).toArray) (fun _ _ => K) rfl
     ·refine oH 1 2 ?_
      ·rintro ρ' w' hs h ⟨⟨j8, -⟩, j9⟩
       refine kM (kc (kA h 15 46) (kc (kA h 16 47) k0)) fun p => ?_
       refine cF 128 #[(.tmp 46), (.tmp 47), (.const (.bool true))] #[111, 168, 4] 48 Tryz.call128 (Nz  b5 ([7, 18, 3] : List Int) true w' rfl a3 g1) ?_
       rintro e p5 ⟨rfl, e5⟩
       refine ⟨_, rfl, ?_⟩
       have k1 := SP.call j9 e5
       clear e5
       refine ⟨_, Qa p, rfl, ?_⟩
       exact (And.intro (And.intro j8 (And.intro rfl (trivial))) (k1))
     ·exact oV (hC (hA 11 42) (hC (hA 17 48) (h0))) (.int .u32 (IntKind.wrap .u32 ((IntKind.wrap .u32 (a0 + a1)) + a3)))
     ·exact oV (hC (hS 6 (.int .i64 f)) (h0)) (.int .i64 f)
     ·exact oV (hC (hA 19 50) (h0)) (.int .i64 (IntKind.wrap .i64 (f - 16)))
     ·refine Owe.light K [0, 1, 2] K (Qf ?_ (Qf ?_ (Qf ?_ Q8)))
      ·rintro ρ' w' hs h ⟨p6, k2⟩
       refine kM (kc (kS hs 3 (pt g9 0)) (kc (kA h 20 51) k0)) fun p => ?_
       refine Ql (e := (Qc .u32)) (l := q) (m := 64) (g := g9) (T := 135) (E := 111) (x := (.tmp 3)) (ix := (.tmp 51)) (ki := .i64) (iz := (IntKind.wrap .i64 (f - 16))) (i := 1) (d := (some 52)) (k := 21) K rfl K K K K k2 rfl a9 b0 ?_
       exact ⟨rfl, _, Qa p, ⟨g9, 0, rfl, rfl⟩⟩
      ·rintro ρ' w' hs h ⟨⟨p7, -⟩, k3⟩
       refine kM (kc (kS hs 3 (pt g9 0)) (kc (kA h 20 51) k0)) fun p => ?_
       refine Ql (e := (Qc .u32)) (l := q) (m := 64) (g := g9) (T := 135) (E := 111) (x := (.tmp 3)) (ix := (.tmp 51)) (ki := .i64) (iz := (IntKind.wrap .i64 (f - 16))) (i := 1) (d := (some 52)) (k := 21) K rfl K K K K k3 rfl a9 b0 ?_
       exact ⟨rfl, _, Qa p, ⟨g9, 0, rfl, rfl⟩⟩
      ·rintro ρ' w' hs h ⟨⟨p8, p9, -⟩, k4⟩
       refine kM (kc (kS hs 3 (pt g9 0)) (kc (kA h 20 51) k0)) fun p => ?_
       refine Ql (e := (Qc .u32)) (l := q) (m := 64) (g := g9) (T := 135) (E := 111) (x := (.tmp 3)) (ix := (.tmp 51)) (ki := .i64) (iz := (IntKind.wrap .i64 (f - 16))) (i := 1) (d := (some 52)) (k := 21) K rfl K K K K k4 rfl a9 b0 ?_
       exact ⟨rfl, _, Qa p, ⟨g9, 0, rfl, rfl⟩⟩
     ·refine Owe.light K [0, 1, 2] K (Qf ?_ (Qf ?_ (Qf ?_ Q8)))
      ·rintro ρ' w' hs h ⟨q0, k5⟩
       obtain ⟨k6, k7, k8, b4⟩ := h 21 52 K
       refine kM (kc b4 k0) fun p => ?_
       refine sC 111 52 k6 (k7 + Int.toNat (IntKind.wrap .i64 (f - 16)) * (Qc .u32).sz) (.int .u32 a5) 53 (Qk (e := (Qc .u32)) (Qh (Qy (SP.get k5 (i := 1) rfl)) k8 a9 b0) c7 (j := 0) rfl) ?_
       exact eK p
      ·rintro ρ' w' hs h ⟨⟨q1, -⟩, k9⟩
       obtain ⟨l0, l1, l2, b4⟩ := h 21 52 K
       refine kM (kc b4 k0) fun p => ?_
       refine sC 111 52 l0 (l1 + Int.toNat (IntKind.wrap .i64 (f - 16)) * (Qc .u32).sz) (.int .u32 a5) 53 (Qk (e := (Qc .u32)) (Qh (Qy (SP.get k9 (i := 1) rfl)) l2 a9 b0) c7 (j := 0) rfl) ?_
       exact eK p
      ·rintro ρ' w' hs h ⟨⟨q2, q3, -⟩, l3⟩
       obtain ⟨l4, l5, l6, b4⟩ := h 21 52 K
       refine kM (kc b4 k0) fun p => ?_
       refine sC 111 52 l4 (l5 + Int.toNat (IntKind.wrap .i64 (f - 16)) * (Qc .u32).sz) (.int .u32 a5) 53 (Qk (e := (Qc .u32)) (Qh (Qy (SP.get l3 (i := 1) rfl)) l6 a9 b0) c7 (j := 0) rfl) ?_
       exact eK p
     ·exact oV (hC (hA 18 49) (hC (hA 22 53) (h0))) (.int .u32 (IntKind.wrap .u32 ((IntKind.wrap .u32 ((IntKind.wrap .u32 (a0 + a1)) + a3)) + a5)))
     ·refine oL 2 ?_
      ·rintro ρ' w' hs h ⟨⟨q4, q5, -⟩, l7⟩
       refine kM (kc (kS hs 3 (pt g9 0)) (kc (kA h 0 31) k0)) fun p => ?_
       refine Ql (e := (Qc .u32)) (l := q) (m := 64) (g := g9) (T := 135) (E := 111) (x := (.tmp 3)) (ix := (.tmp 31)) (ki := .i64) (iz := f) (i := 1) (d := (some 55)) (k := 24) K rfl K K K K l7 rfl e2 e3 ?_
       exact ⟨rfl, _, Qa p, ⟨g9, 0, rfl, rfl⟩⟩
     ·refine oH 2 3 ?_
      ·rintro ρ' w' hs h ⟨⟨l8, l9, -⟩, m0⟩
       obtain ⟨m1, m2, m3, m4⟩ := h 24 55 K
       refine kM (kc m4 (kc (kA h 23 54) k0)) fun p => ?_
       refine Z3 (e := (Qc .u32)) (t := 111) (x := (.tmp 55)) (y := (.tmp 54)) (l := q) (iz := f) (m := 64) (g := g9) (b := m1) (off := m2) (i := 1) (v := (.int .u32 (IntKind.wrap .u32 ((IntKind.wrap .u32 ((IntKind.wrap .u32 (a0 + a1)) + a3)) + a5)))) (x' := (IntKind.wrap .u32 ((IntKind.wrap .u32 ((IntKind.wrap .u32 (a0 + a1)) + a3)) + a5))) (d := none) (k := 25) K rfl m3 K K m0 rfl rfl e3 e2 rfl K ?_
       rw [hyl2808]
       intro q6 m5
       refine ⟨_, Qa p, trivial, ?_⟩
       exact (And.intro (And.intro l8 (And.intro l9 (And.intro rfl (trivial)))) (m5))
     ·rintro ρ' w' hs hf ⟨⟨q7, q8, q9, -⟩, e6⟩
      refine Q3 [(2, (pt g5 0)), (3, (pt g9 0)), (6, (.int .i64 f))] ⟨(hs 2 K).trans K, (hs 3 K).trans K, (hs 6 K).trans K, trivial⟩ ?_
      obtain ⟨r0, m6⟩ : ∃ x, w' = x := ⟨_, rfl⟩
      rw [m6] at e6 ⊢
      refine aR ?_
      refine iR 3 3 [(29, (.int .i64 f)), (30, (.int .i64 (IntKind.wrap .i64 (f + 1)))), (6, (.int .i64 (IntKind.wrap .i64 (f + 1))))] ?_
      refine iF ?_
      exact ⟨c8, (IntKind.wrap .i64 (f + 1)), ⟨K, K, K, trivial⟩, SP.sel e6 [0, 1] rfl rfl, H⟩
    ·have H := cf H c4
     refine At.exit K (id := 2) K ?_
     refine aQ ?_
     refine aR ?_
     refine iS 1 ?_
     refine Zu (e := (Qc .u32)) (l := q) (m := 64) (t := 135) (x := (.tmp 3)) (g := g9) (i := 1) (d := (some 56)) (k := 0) K rfl K b2 rfl K K ?_
     refine iS 2 ?_
     refine Vf (e := (Qc .u32)) (l := (List.replicate 64 0)) (l' := q) (m := 64) (t := 135) (x := (.tmp 2)) (y := (.tmp 56)) (g := g5) (i := 0) (d := none) (k := 1) K rfl K K f8 b2 rfl K ?_
     intro r1 e7
     refine iF ?_
     refine At.ret K ?_
     refine ⟨(.agg (Qd (Qc .u32) q).toArray), Bs K (G0 (e := (Qc .u32)) (l := q) (a := 2) (t := 135) K (SP.get e7 (i := 0) rfl) K K), ?_⟩
     obtain rfl := Qe H
     exact ⟨rfl, SP.sel e7 [] rfl rfl⟩
   ·exact ⟨a2, 16, ⟨K, K, K, trivial⟩, SP.sel a4 [0, 1] rfl rfl, H⟩
 ·exact ⟨(List.replicate 64 0), 0, ⟨K, K, K, K, K, trivial⟩, SP.sel d0 [0, 1] rfl rfl, H⟩
def Np (g : (List Int) → Int → Option ((List Int))) (c : (List Int) → Int → Option ((List Int))) (p1 : (List Int)) (b : (List Int)) (a : Int) : Option ((List Int)) :=
  (cond (decide (a < 8)) ((idx b a).bind fun d => ((idx p1 a).bind fun e => ((idx b a).bind fun h => ((some (List.set b (Int.toNat a) (IntKind.wrap .u32 (d + e)))).bind fun f => (c f (IntKind.wrap .i64 (a + 1))))))) (some (b)))
def Yx (a : (List Int) → Int → Option ((List Int))) (p1 : (List Int)) : Nat → (List Int) → Int → Option ((List Int))
  | 0, _, _ => none
  | f + 1, b, c => Np a (Yx a p1 f) p1 b c
def Zs (e : (List Int) → Int → Option ((List Int))) (p1 : (List Int)) (p3 : (List Int)) (q : ((List Int))) (a : (List Int)) (b : Int) : Option ((List Int)) :=
  (cond (decide (b < 64)) ((idx a 0).bind fun f => ((idx a 1).bind fun g => ((idx a 2).bind fun h => ((idx a 4).bind fun c => ((idx a 7).bind fun i => ((Z7 c ([6, 11, 25] : List Int) false).bind fun j => ((idx a 6).bind fun k => ((idx a 5).bind fun l => ((idx a 6).bind fun m => ((idx q b).bind fun n => ((idx p3 b).bind fun o => ((Z7 f ([2, 13, 22] : List Int) false).bind fun r => ((sub a 1 ((List.length a : Nat) : Int)).bind fun s => ((sub a 0 7).bind fun t => ((some (cpy a (Int.toNat 1) (List.length s) t)).bind fun d => ((idx d 4).bind fun u => ((idx d 0).bind fun w => ((some (List.set d (Int.toNat 0) (IntKind.wrap .u32 ((IntKind.wrap .u32 ((IntKind.wrap .u32 ((IntKind.wrap .u32 ((IntKind.wrap .u32 (i + j)) + (V7 .u32 k (Zt .u32 c (V7 .u32 l m))))) + n)) + o)) + (IntKind.wrap .u32 (r + (bOr .u32 (Zt .u32 f (bOr .u32 g h)) (Zt .u32 g h)))))))).bind fun p => ((idx p 4).bind fun x => ((some (List.set p (Int.toNat 4) (IntKind.wrap .u32 (u + (IntKind.wrap .u32 ((IntKind.wrap .u32 ((IntKind.wrap .u32 ((IntKind.wrap .u32 (i + j)) + (V7 .u32 k (Zt .u32 c (V7 .u32 l m))))) + n)) + o)))))).bind fun v => (e v (IntKind.wrap .i64 (b + 1))))))))))))))))))))))) (Yx e p1 Zj a 0))
def Vu (p1 : (List Int)) (p3 : (List Int)) (a : ((List Int))) : Nat → (List Int) → Int → Option ((List Int))
  | 0, _, _ => none
  | f + 1, b, c => Zs  (Vu p1 p3 a f) p1 p3 a b c
def Yy (p1 : (List Int)) (p3 : (List Int)) : Option ((List Int)) :=
  ((Dh ).bind fun a => ((chk (Nat.beq (List.length a) 64)).bind fun _ => (Vu p1 p3 a Zj p1 0)))
theorem G3  (p1 : (List Int)) (p3 : (List Int)) (w0 : World) (g8 : List.length p1 = 8) (l8 : List.length p3 = 64) (r : ((List Int))) (H : Yy p1 p3 = some r) :
  Calls Tryz.prog 115 #[(.agg (Qd (Qc .u32) p1).toArray), (.agg (Qd (Qc .u32) p3).toArray)] w0 (fun e w' => e = .returned (.agg (Qd (Qc .u32) r).toArray) ∧ SP [] w0 w' []) := by
 unfold Yy at H
 refine Qs (n := 92) Tryz.func115 K K K ?_
 have l9 := Q0 [] w0
 refine aQ ?_
 refine aR ?_
 refine iS 1 ?_
 refine Ej (e := (Qc .u32)) (l := p1) (m := 8) (t := 149) (x := (.tmp 0)) (d := (some 2)) (k := 0) K rfl K g8 K l9 ?_
 intro g5 w6 m0
 refine iS 2 ?_
 refine Ej (e := (Qc .u32)) (l := p3) (m := 64) (t := 135) (x := (.tmp 1)) (d := (some 3)) (k := 1) K rfl K l8 K m0 ?_
 intro g9 w10 m1
 refine iS 3 ?_
 refine Q4 (e := (Qc .u32)) (l := (List.replicate 8 0)) (m := 8) (t := 149) (z := .agg (Qd (Qc .u32) (List.replicate 8 0)).toArray) (d := (some 4)) (k := 2) K rfl K rfl rfl K m1 ?_
 intro a0 w14 m2
 refine iF ?_
 refine aQ ?_
 obtain ⟨a3, d5, H⟩ := Qb H
 obtain ⟨f6, H⟩ := V4 H
 replace f6 := Nat.eq_of_beq_eq_true f6
 refine aG [GEq (.agg (Qd (Qc .u32) p1).toArray), GEq (.agg (Qd (Qc .u32) a3).toArray), Ey, Ey, Ey, Ey] [1, 2, 3, 4, 5] [([], fun vs w => VL vs [] ∧ SP [] w0 w [Vk 149 (Qc .u32) g5 8 p1, Vk 135 (Qc .u32) g9 64 p3, Vk 149 (Qc .u32) a0 8 (List.replicate 8 0)]), ([1], fun vs w => VL vs [(.agg (Qd (Qc .u32) a3).toArray)] ∧ SP [] w0 w [Vk 149 (Qc .u32) g5 8 p1, Vk 135 (Qc .u32) g9 64 p3, Vk 149 (Qc .u32) a0 8 (List.replicate 8 0)]), ([2], fun vs w => ∃ (b8 : Nat), VL vs [(pt b8 0)] ∧ SP [] w0 w [Vk 149 (Qc .u32) g5 8 p1, Vk 135 (Qc .u32) g9 64 p3, Vk 149 (Qc .u32) a0 8 (List.replicate 8 0), Vk 149 (Qc .u32) b8 8 (List.replicate 8 0)]), ([3], fun vs w => ∃ (b9 : Nat), VL vs [(pt b9 0)] ∧ SP [] w0 w [Vk 149 (Qc .u32) g5 8 p1, Vk 135 (Qc .u32) g9 64 p3, Vk 149 (Qc .u32) a0 8 (List.replicate 8 0), Vk 135 (Qc .u32) b9 64 (List.replicate 64 0)]), ([1, 2], fun vs w => ∃ (c7 : Nat), VL vs [(.agg (Qd (Qc .u32) a3).toArray), (pt c7 0)] ∧ SP [] w0 w [Vk 149 (Qc .u32) g5 8 p1, Vk 135 (Qc .u32) g9 64 p3, Vk 149 (Qc .u32) a0 8 (List.replicate 8 0), Vk 149 (Qc .u32) c7 8 (List.replicate 8 0)]), ([1, 3], fun vs w => ∃ (c8 : Nat), VL vs [(.agg (Qd (Qc .u32) a3).toArray), (pt c8 0)] ∧ SP [] w0 w [Vk 149 (Qc .u32) g5 8 p1, Vk 135 (Qc .u32) g9 64 p3, Vk 149 (Qc .u32) a0 8 (List.replicate 8 0), Vk 135 (Qc .u32) c8 64 (List.replicate 64 0)]), ([2, 3], fun vs w => ∃ (c9 : Nat), ∃ (d0 : Nat), VL vs [(pt c9 0), (pt d0 0)] ∧ SP [] w0 w [Vk 149 (Qc .u32) g5 8 p1, Vk 135 (Qc .u32) g9 64 p3, Vk 149 (Qc .u32) a0 8 (List.replicate 8 0), Vk 149 (Qc .u32) c9 8 (List.replicate 8 0), Vk 135 (Qc .u32) d0 64 (List.replicate 64 0)]), ([1, 2, 3], fun vs w => ∃ (c0 : Nat), ∃ (d1 : Nat), VL vs [(.agg (Qd (Qc .u32) a3).toArray), (pt c0 0), (pt d1 0)] ∧ SP [] w0 w [Vk 149 (Qc .u32) g5 8 p1, Vk 135 (Qc .u32) g9 64 p3, Vk 149 (Qc .u32) a0 8 (List.replicate 8 0), Vk 149 (Qc .u32) c0 8 (List.replicate 8 0), Vk 135 (Qc .u32) d1 64 (List.replicate 64 0)]), ([1, 2, 3, 4], fun vs w => ∃ (d6 : Nat), ∃ (c3 : Nat), VL vs [(.agg (Qd (Qc .u32) a3).toArray), (pt d6 0), (pt c3 0), undef] ∧ SP [] w0 w [Vk 149 (Qc .u32) g5 8 p1, Vk 135 (Qc .u32) g9 64 p3, Vk 149 (Qc .u32) a0 8 (List.replicate 8 0), Vk 149 (Qc .u32) d6 8 p1, Vk 135 (Qc .u32) c3 64 (List.replicate 64 0)]), ([1, 2, 3, 4, 5], fun vs w => ∃ (p : Nat), ∃ (b1 : Nat), VL vs [(.agg (Qd (Qc .u32) a3).toArray), (pt p 0), (pt b1 0), undef, undef] ∧ SP [] w0 w [Vk 149 (Qc .u32) g5 8 p1, Vk 135 (Qc .u32) g9 64 p3, Vk 149 (Qc .u32) a0 8 (List.replicate 8 0), Vk 149 (Qc .u32) p 8 p1, Vk 135 (Qc .u32) b1 64 a3])] 6 9 ⟨trivial, SP.drew m2⟩ ?_ ?_
 iterate 6 refine And.intro ?_ ?_
 exact trivial
 ·refine Owe.light K [0, 1, 2, 3, 4, 5, 6, 7] K (Qf ?_ (Qf ?_ (Qf ?_ (Qf ?_ (Qf ?_ (Qf ?_ (Qf ?_ (Qf ?_ Q8))))))))
  ·rintro ρ' w' hs f ⟨af8, m3⟩
   refine kM (kc (kS hs 2 (pt g5 0)) k0) fun c => ?_
   refine Zu (e := (Qc .u32)) (l := p1) (m := 8) (t := 149) (x := (.tmp 2)) (g := g5) (i := 0) (d := (some 15)) (k := 0) K rfl K m3 rfl K K ?_
   exact eK c
  ·rintro ρ' w' hs f ⟨⟨af9, -⟩, m4⟩
   refine kM (kc (kS hs 2 (pt g5 0)) k0) fun c => ?_
   refine Zu (e := (Qc .u32)) (l := p1) (m := 8) (t := 149) (x := (.tmp 2)) (g := g5) (i := 0) (d := (some 15)) (k := 0) K rfl K m4 rfl K K ?_
   exact eK c
  ·rintro ρ' w' hs f ⟨b8, ⟨ag0, -⟩, m5⟩
   refine kM (kc (kS hs 2 (pt g5 0)) k0) fun c => ?_
   refine Zu (e := (Qc .u32)) (l := p1) (m := 8) (t := 149) (x := (.tmp 2)) (g := g5) (i := 0) (d := (some 15)) (k := 0) K rfl K m5 rfl K K ?_
   exact eK c
  ·rintro ρ' w' hs f ⟨b9, ⟨ag1, -⟩, m6⟩
   refine kM (kc (kS hs 2 (pt g5 0)) k0) fun c => ?_
   refine Zu (e := (Qc .u32)) (l := p1) (m := 8) (t := 149) (x := (.tmp 2)) (g := g5) (i := 0) (d := (some 15)) (k := 0) K rfl K m6 rfl K K ?_
   exact eK c
  ·rintro ρ' w' hs f ⟨c7, ⟨ag2, ag3, -⟩, m7⟩
   refine kM (kc (kS hs 2 (pt g5 0)) k0) fun c => ?_
   refine Zu (e := (Qc .u32)) (l := p1) (m := 8) (t := 149) (x := (.tmp 2)) (g := g5) (i := 0) (d := (some 15)) (k := 0) K rfl K m7 rfl K K ?_
   exact eK c
  ·rintro ρ' w' hs f ⟨c8, ⟨ag4, ag5, -⟩, m8⟩
   refine kM (kc (kS hs 2 (pt g5 0)) k0) fun c => ?_
   refine Zu (e := (Qc .u32)) (l := p1) (m := 8) (t := 149) (x := (.tmp 2)) (g := g5) (i := 0) (d := (some 15)) (k := 0) K rfl K m8 rfl K K ?_
   exact eK c
  ·rintro ρ' w' hs f ⟨c9, d0, ⟨ag6, ag7, -⟩, m9⟩
   refine kM (kc (kS hs 2 (pt g5 0)) k0) fun c => ?_
   refine Zu (e := (Qc .u32)) (l := p1) (m := 8) (t := 149) (x := (.tmp 2)) (g := g5) (i := 0) (d := (some 15)) (k := 0) K rfl K m9 rfl K K ?_
   exact eK c
  ·rintro ρ' w' hs f ⟨c0, d1, ⟨ag8, ag9, ah0, -⟩, n0⟩
   refine kM (kc (kS hs 2 (pt g5 0)) k0) fun c => ?_
   refine Zu (e := (Qc .u32)) (l := p1) (m := 8) (t := 149) (x := (.tmp 2)) (g := g5) (i := 0) (d := (some 15)) (k := 0) K rfl K n0 rfl K K ?_
   exact eK c
 ·refine Owe.heavy K [(0, 1), (2, 4), (3, 5), (6, 7)] K (Qf ⟨K, K, ?_⟩ (Qf ⟨K, K, ?_⟩ (Qf ⟨K, K, ?_⟩ (Qf ⟨K, K, ?_⟩ Q8))))
  ·rintro ρ' w' hs f ⟨ah1, n1⟩
   refine kN [] trivial fun c => ?_
   refine cF 127 #[] #[] 16 Tryz.call127 (Ny   w'  a3 d5) ?_
   rintro e ah2 ⟨rfl, h1⟩
   refine ⟨_, rfl, ?_⟩
   have n2 := SP.call n1 h1
   clear h1
   refine ⟨_, Qa c, rfl, ?_⟩
   exact (And.intro (And.intro rfl (trivial)) (n2))
  ·rintro ρ' w' hs f ⟨b8, ⟨n3, -⟩, n4⟩
   refine kN [] trivial fun c => ?_
   refine cF 127 #[] #[] 16 Tryz.call127 (Ny   w'  a3 d5) ?_
   rintro e ah3 ⟨rfl, h2⟩
   refine ⟨_, rfl, ?_⟩
   have n5 := SP.call n4 h2
   clear h2
   refine ⟨_, Qa c, rfl, ?_⟩
   exact (Exists.intro b8 (And.intro (And.intro rfl (And.intro n3 (trivial))) (n5)))
  ·rintro ρ' w' hs f ⟨b9, ⟨n6, -⟩, n7⟩
   refine kN [] trivial fun c => ?_
   refine cF 127 #[] #[] 16 Tryz.call127 (Ny   w'  a3 d5) ?_
   rintro e ah4 ⟨rfl, h3⟩
   refine ⟨_, rfl, ?_⟩
   have n8 := SP.call n7 h3
   clear h3
   refine ⟨_, Qa c, rfl, ?_⟩
   exact (Exists.intro b9 (And.intro (And.intro rfl (And.intro n6 (trivial))) (n8)))
  ·rintro ρ' w' hs f ⟨c9, d0, ⟨n9, o0, -⟩, o1⟩
   refine kN [] trivial fun c => ?_
   refine cF 127 #[] #[] 16 Tryz.call127 (Ny   w'  a3 d5) ?_
   rintro e ah5 ⟨rfl, h4⟩
   refine ⟨_, rfl, ?_⟩
   have o2 := SP.call o1 h4
   clear h4
   refine ⟨_, Qa c, rfl, ?_⟩
   exact (Exists.intro c9 (Exists.intro d0 (And.intro (And.intro rfl (And.intro n9 (And.intro o0 (trivial)))) (o2))))
 ·refine Owe.heavy K [(0, 2), (1, 4), (3, 6), (5, 7)] K (Qf ⟨K, K, ?_⟩ (Qf ⟨K, K, ?_⟩ (Qf ⟨K, K, ?_⟩ (Qf ⟨K, K, ?_⟩ Q8))))
  ·rintro ρ' w' hs f ⟨ah6, o3⟩
   refine kN [] trivial fun c => ?_
   refine Q4 (e := (Qc .u32)) (l := (List.replicate 8 0)) (m := 8) (t := 149) (z := .agg (Qd (Qc .u32) (List.replicate 8 0)).toArray) (d := (some 5)) (k := 2) K rfl K rfl rfl K o3 ?_
   intro o4 ah7 o5
   refine ⟨_, Qa c, trivial, ?_⟩
   exact (Exists.intro o4 (And.intro (And.intro rfl (trivial)) (o5)))
  ·rintro ρ' w' hs f ⟨⟨o6, -⟩, o7⟩
   refine kN [] trivial fun c => ?_
   refine Q4 (e := (Qc .u32)) (l := (List.replicate 8 0)) (m := 8) (t := 149) (z := .agg (Qd (Qc .u32) (List.replicate 8 0)).toArray) (d := (some 5)) (k := 2) K rfl K rfl rfl K o7 ?_
   intro o8 ah8 o9
   refine ⟨_, Qa c, trivial, ?_⟩
   exact (Exists.intro o8 (And.intro (And.intro o6 (And.intro rfl (trivial))) (o9)))
  ·rintro ρ' w' hs f ⟨b9, ⟨p0, -⟩, p2⟩
   refine kN [] trivial fun c => ?_
   refine Q4 (e := (Qc .u32)) (l := (List.replicate 8 0)) (m := 8) (t := 149) (z := .agg (Qd (Qc .u32) (List.replicate 8 0)).toArray) (d := (some 5)) (k := 2) K rfl K rfl rfl K p2 ?_
   intro p4 ah9 p5
   refine ⟨_, Qa c, trivial, ?_⟩
   exact (Exists.intro p4 (Exists.intro b9 (And.intro (And.intro rfl (And.intro p0 (trivial))) (SP.sel p5 [0, 1, 2, 4, 3] rfl rfl))))
  ·rintro ρ' w' hs f ⟨c8, ⟨p6, p7, -⟩, p8⟩
   refine kN [] trivial fun c => ?_
   refine Q4 (e := (Qc .u32)) (l := (List.replicate 8 0)) (m := 8) (t := 149) (z := .agg (Qd (Qc .u32) (List.replicate 8 0)).toArray) (d := (some 5)) (k := 2) K rfl K rfl rfl K p8 ?_
   intro p9 ai0 q0
   refine ⟨_, Qa c, trivial, ?_⟩
   exact (Exists.intro p9 (Exists.intro c8 (And.intro (And.intro p6 (And.intro rfl (And.intro p7 (trivial)))) (SP.sel q0 [0, 1, 2, 4, 3] rfl rfl))))
 ·refine Owe.heavy K [(0, 3), (1, 5), (2, 6), (4, 7)] K (Qf ⟨K, K, ?_⟩ (Qf ⟨K, K, ?_⟩ (Qf ⟨K, K, ?_⟩ (Qf ⟨K, K, ?_⟩ Q8))))
  ·rintro ρ' w' hs f ⟨ai1, q1⟩
   refine kN [] trivial fun c => ?_
   refine Q4 (e := (Qc .u32)) (l := (List.replicate 64 0)) (m := 64) (t := 135) (z := .agg (Qd (Qc .u32) (List.replicate 64 0)).toArray) (d := (some 6)) (k := 3) K rfl K rfl rfl K q1 ?_
   intro q2 ai2 q3
   refine ⟨_, Qa c, trivial, ?_⟩
   exact (Exists.intro q2 (And.intro (And.intro rfl (trivial)) (q3)))
  ·rintro ρ' w' hs f ⟨⟨q4, -⟩, q5⟩
   refine kN [] trivial fun c => ?_
   refine Q4 (e := (Qc .u32)) (l := (List.replicate 64 0)) (m := 64) (t := 135) (z := .agg (Qd (Qc .u32) (List.replicate 64 0)).toArray) (d := (some 6)) (k := 3) K rfl K rfl rfl K q5 ?_
   intro q6 ai3 q7
   refine ⟨_, Qa c, trivial, ?_⟩
   exact (Exists.intro q6 (And.intro (And.intro q4 (And.intro rfl (trivial))) (q7)))
  ·rintro ρ' w' hs f ⟨b8, ⟨q8, -⟩, q9⟩
   refine kN [] trivial fun c => ?_
   refine Q4 (e := (Qc .u32)) (l := (List.replicate 64 0)) (m := 64) (t := 135) (z := .agg (Qd (Qc .u32) (List.replicate 64 0)).toArray) (d := (some 6)) (k := 3) K rfl K rfl rfl K q9 ?_
   intro r0 ai4 r1
   refine ⟨_, Qa c, trivial, ?_⟩
   exact (Exists.intro b8 (Exists.intro r0 (And.intro (And.intro q8 (And.intro rfl (trivial))) (r1))))
  ·rintro ρ' w' hs f ⟨c7, ⟨r2, r3, -⟩, r4⟩
   refine kN [] trivial fun c => ?_
   refine Q4 (e := (Qc .u32)) (l := (List.replicate 64 0)) (m := 64) (t := 135) (z := .agg (Qd (Qc .u32) (List.replicate 64 0)).toArray) (d := (some 6)) (k := 3) K rfl K rfl rfl K r4 ?_
   intro r5 ai5 r6
   refine ⟨_, Qa c, trivial, ?_⟩
   exact (Exists.intro c7 (Exists.intro r5 (And.intro (And.intro r2 (And.intro r3 (And.intro rfl (trivial)))) (r6))))
 ·refine oH 7 8 ?_
  ·rintro ρ' w' hs f ⟨c0, d1, ⟨r7, h5, r8, -⟩, r9⟩
   refine kN [(5, (pt c0 0)), (15, (.agg (Qd (Qc .u32) p1).toArray))] ⟨(Jd (h := 2) K).symm.trans h5, f 0 15 K, trivial⟩ fun c => ?_
   refine Vf (e := (Qc .u32)) (l := (List.replicate 8 0)) (l' := p1) (m := 8) (t := 149) (x := (.tmp 5)) (y := (.tmp 15)) (g := c0) (i := 3) (d := none) (k := 4) K rfl K K g8 r9 rfl K ?_
   intro ai6 s0
   refine ⟨_, Qa c, trivial, ?_⟩
   exact (Exists.intro c0 (Exists.intro d1 (And.intro (And.intro r7 (And.intro h5 (And.intro r8 (And.intro rfl (trivial))))) (s0))))
 ·refine oH 8 9 ?_
  ·rintro ρ' w' hs f ⟨d6, c3, ⟨h6, s1, h7, s2, -⟩, s3⟩
   refine kN [(6, (pt c3 0)), (16, (.agg (Qd (Qc .u32) a3).toArray))] ⟨(Jd (h := 3) K).symm.trans h7, (Jd (h := 1) K).symm.trans h6, trivial⟩ fun c => ?_
   refine Vf (e := (Qc .u32)) (l := (List.replicate 64 0)) (l' := a3) (m := 64) (t := 135) (x := (.tmp 6)) (y := (.tmp 16)) (g := c3) (i := 4) (d := none) (k := 5) K rfl K K f6 s3 rfl K ?_
   intro ai7 s4
   refine ⟨_, Qa c, trivial, ?_⟩
   exact (Exists.intro d6 (Exists.intro c3 (And.intro (And.intro h6 (And.intro s1 (And.intro h7 (And.intro s2 (And.intro rfl (trivial)))))) (s4))))
 ·rintro ρ' w' hs hf ⟨p, b1, ⟨ai8, s5, s6, ai9, aj0, -⟩, h8⟩
  refine Q3 [(2, (pt g5 0)), (3, (pt g9 0)), (4, (pt a0 0)), (5, (pt p 0)), (6, (pt b1 0))] ⟨(hs 2 K).trans K, (hs 3 K).trans K, (hs 4 K).trans K, (Jd (h := 2) K).symm.trans s5, (Jd (h := 3) K).symm.trans s6, trivial⟩ ?_
  obtain ⟨aj1, s7⟩ : ∃ x, w' = x := ⟨_, rfl⟩
  rw [s7] at h8 ⊢
  refine aQ ?_
  refine aQ ?_
  refine aR ?_
  refine iR 1 1 [(17, (.int .i64 0))] ?_
  refine iF ?_
  refine Z1 K (id := 0) K ?_
  refine Nl K (fun f4 ρ w => ∃ (a1 : (List Int)) (u : Int), V6 ρ [(2, (pt g5 0)), (3, (pt g9 0)), (4, (pt a0 0)), (5, (pt p 0)), (6, (pt b1 0)), (17, (.int .i64 u))] ∧ SP [] w0 w [Vk 149 (Qc .u32) g5 8 p1, Vk 135 (Qc .u32) g9 64 p3, Vk 149 (Qc .u32) a0 8 (List.replicate 8 0), Vk 149 (Qc .u32) p 8 a1, Vk 135 (Qc .u32) b1 64 a3] ∧ Vu p1 p3 a3 f4 a1 u = some r) (by rintro ρ w ⟨a1, u, hk, hs, H⟩; cases H) ?_ Zj ?_
  ·rintro f4 ρ aj2 ⟨a1, u, hk, c1, H⟩
   refine At.known [(2, (pt g5 0)), (3, (pt g9 0)), (4, (pt a0 0)), (5, (pt p 0)), (6, (pt b1 0)), (17, (.int .i64 u))] hk ?_
   replace H := (show Zs (Vu p1 p3 a3 f4) p1 p3 a3 a1 u = some r from H)
   unfold Zs at H
   have aj3 := Vc (SP.get c1 (i := 0) rfl)
   have aj4 := Vc (SP.get c1 (i := 1) rfl)
   have aj5 := Vc (SP.get c1 (i := 2) rfl)
   have aj6 := Vc (SP.get c1 (i := 3) rfl)
   have aj7 := Vc (SP.get c1 (i := 4) rfl)
   refine aQ ?_
   refine aR ?_
   refine iR 1 1 [(18, (.bool (decide (u < 64))))] ?_
   refine iF ?_
   refine aQ ?_
   refine V1 K (o := (.tmp 18)) K (b := (decide (u < 64))) K (fun f7 => ?_) (fun f7 => ?_)
   ·have H := ct H f7
    refine At.skip K ?_
    refine aQ ?_
    refine Z1 K (id := 1) K ?_
    refine aQ ?_
    refine aR ?_
    refine iR 2 2 [(19, (.int .i64 u)), (7, (.int .i64 u))] ?_
    refine iF ?_
    refine aQ ?_
    obtain ⟨b3, h9, i0, s8, H⟩ := Qo H
    obtain ⟨a4, i1, i2, s9, H⟩ := Qo H
    obtain ⟨a5, i3, i4, t0, H⟩ := Qo H
    obtain ⟨s, i5, i6, t1, H⟩ := Qo H
    refine aG [Vr (some ⟨p, 0, none⟩) (Qc .u32).sz 0, GEq (.int .u32 b3), Vr (some ⟨p, 0, none⟩) (Qc .u32).sz 1, GEq (.int .u32 a4), Vr (some ⟨p, 0, none⟩) (Qc .u32).sz 2, GEq (.int .u32 a5), Vr (some ⟨p, 0, none⟩) (Qc .u32).sz 4, GEq (.int .u32 s), GEq (.int .u32 b3), GEq (.int .u32 a4), GEq (.int .u32 a5), GEq (.int .u32 s)] [] (tG [] w0 [Vk 149 (Qc .u32) g5 8 p1, Vk 135 (Qc .u32) g9 64 p3, Vk 149 (Qc .u32) a0 8 (List.replicate 8 0), Vk 149 (Qc .u32) p 8 a1, Vk 135 (Qc .u32) b1 64 a3] [([], [])]) 12 0 ⟨trivial, SP.drew c1⟩ ?_ ?_
    iterate 12 refine And.intro ?_ ?_
    exact trivial
    ·refine oL 0 ?_
     ·rintro ρ' w' hs f ⟨aj8, t2⟩
      refine kM (kc (kS hs 5 (pt p 0)) k0) fun c => ?_
      refine Ql (e := (Qc .u32)) (l := a1) (m := 8) (g := p) (T := 149) (E := 111) (x := (.tmp 5)) (ix := (.const (.int .i64 (0)))) (ki := .i64) (iz := 0) (i := 3) (d := (some 20)) (k := 0) K rfl K K K K t2 rfl h9 i0 ?_
      exact ⟨rfl, _, Qa c, ⟨p, 0, rfl, rfl⟩⟩
    ·refine oL 0 ?_
     ·rintro ρ' w' hs f ⟨aj9, t3⟩
      obtain ⟨t4, t5, t6, t7⟩ := f 0 20 K
      refine kM (kc t7 k0) fun c => ?_
      refine sC 111 20 t4 (t5 + Int.toNat 0 * (Qc .u32).sz) (.int .u32 b3) 21 (Qk (e := (Qc .u32)) (Qh (Qy (SP.get t3 (i := 3) rfl)) t6 h9 i0) s8 (j := 0) rfl) ?_
      exact eK c
    ·refine oL 0 ?_
     ·rintro ρ' w' hs f ⟨ak0, t8⟩
      refine kM (kc (kS hs 5 (pt p 0)) k0) fun c => ?_
      refine Ql (e := (Qc .u32)) (l := a1) (m := 8) (g := p) (T := 149) (E := 111) (x := (.tmp 5)) (ix := (.const (.int .i64 (1)))) (ki := .i64) (iz := 1) (i := 3) (d := (some 22)) (k := 2) K rfl K K K K t8 rfl i1 i2 ?_
      exact ⟨rfl, _, Qa c, ⟨p, 0, rfl, rfl⟩⟩
    ·refine oL 0 ?_
     ·rintro ρ' w' hs f ⟨ak1, t9⟩
      obtain ⟨u0, u1, u2, u3⟩ := f 2 22 K
      refine kM (kc u3 k0) fun c => ?_
      refine sC 111 22 u0 (u1 + Int.toNat 1 * (Qc .u32).sz) (.int .u32 a4) 23 (Qk (e := (Qc .u32)) (Qh (Qy (SP.get t9 (i := 3) rfl)) u2 i1 i2) s9 (j := 0) rfl) ?_
      exact eK c
    ·refine oL 0 ?_
     ·rintro ρ' w' hs f ⟨ak2, u4⟩
      refine kM (kc (kS hs 5 (pt p 0)) k0) fun c => ?_
      refine Ql (e := (Qc .u32)) (l := a1) (m := 8) (g := p) (T := 149) (E := 111) (x := (.tmp 5)) (ix := (.const (.int .i64 (2)))) (ki := .i64) (iz := 2) (i := 3) (d := (some 24)) (k := 4) K rfl K K K K u4 rfl i3 i4 ?_
      exact ⟨rfl, _, Qa c, ⟨p, 0, rfl, rfl⟩⟩
    ·refine oL 0 ?_
     ·rintro ρ' w' hs f ⟨ak3, u5⟩
      obtain ⟨u6, u7, u8, u9⟩ := f 4 24 K
      refine kM (kc u9 k0) fun c => ?_
      refine sC 111 24 u6 (u7 + Int.toNat 2 * (Qc .u32).sz) (.int .u32 a5) 25 (Qk (e := (Qc .u32)) (Qh (Qy (SP.get u5 (i := 3) rfl)) u8 i3 i4) t0 (j := 0) rfl) ?_
      exact eK c
    ·refine oL 0 ?_
     ·rintro ρ' w' hs f ⟨ak4, v0⟩
      refine kM (kc (kS hs 5 (pt p 0)) k0) fun c => ?_
      refine Ql (e := (Qc .u32)) (l := a1) (m := 8) (g := p) (T := 149) (E := 111) (x := (.tmp 5)) (ix := (.const (.int .i64 (4)))) (ki := .i64) (iz := 4) (i := 3) (d := (some 26)) (k := 6) K rfl K K K K v0 rfl i5 i6 ?_
      exact ⟨rfl, _, Qa c, ⟨p, 0, rfl, rfl⟩⟩
    ·refine oL 0 ?_
     ·rintro ρ' w' hs f ⟨ak5, v1⟩
      obtain ⟨v2, v3, v4, v5⟩ := f 6 26 K
      refine kM (kc v5 k0) fun c => ?_
      refine sC 111 26 v2 (v3 + Int.toNat 4 * (Qc .u32).sz) (.int .u32 s) 27 (Qk (e := (Qc .u32)) (Qh (Qy (SP.get v1 (i := 3) rfl)) v4 i5 i6) t1 (j := 0) rfl) ?_
      exact eK c
    ·exact oV (hC (hA 1 21) (h0)) (.int .u32 b3)
    ·exact oV (hC (hA 3 23) (h0)) (.int .u32 a4)
    ·exact oV (hC (hA 5 25) (h0)) (.int .u32 a5)
    ·exact oV (hC (hA 7 27) (h0)) (.int .u32 s)
    ·rintro ρ' w' hs hf ⟨ak6, i7⟩
     refine Q3 [(2, (pt g5 0)), (3, (pt g9 0)), (4, (pt a0 0)), (5, (pt p 0)), (6, (pt b1 0)), (7, (.int .i64 u)), (8, (.int .u32 b3)), (9, (.int .u32 a4)), (10, (.int .u32 a5)), (11, (.int .u32 s)), (17, (.int .i64 u))] ⟨(hs 2 K).trans K, (hs 3 K).trans K, (hs 4 K).trans K, (hs 5 K).trans K, (hs 6 K).trans K, (hs 7 K).trans K, hf 8 8 K, hf 9 9 K, hf 10 10 K, hf 11 11 K, (hs 17 K).trans K, trivial⟩ ?_
     obtain ⟨ak7, v6⟩ : ∃ x, w' = x := ⟨_, rfl⟩
     rw [v6] at i7 ⊢
     refine aQ ?_
     obtain ⟨a8, d7, d8, i8, H⟩ := Qo H
     obtain ⟨a9, v7, H⟩ := Qb H
     obtain ⟨b0, d9, e0, i9, H⟩ := Qo H
     obtain ⟨a6, e1, e2, j0, H⟩ := Qo H
     obtain ⟨a7, e3, e4, j1, H⟩ := Qo H
     obtain ⟨b2, e5, e6, j2, H⟩ := Qo H
     obtain ⟨b4, e7, e8, j3, H⟩ := Qo H
     refine aG [Vr (some ⟨p, 0, none⟩) (Qc .u32).sz 7, GEq (.int .u32 a8), GEq (.int .u32 s), GEq (.agg (Qd (Qc .i64) ([6, 11, 25] : List Int)).toArray), GEq (.int .u32 a9), GEq (.int .u32 (IntKind.wrap .u32 (a8 + a9))), Vr (some ⟨p, 0, none⟩) (Qc .u32).sz 6, GEq (.int .u32 b0), GEq (.int .u32 s), Vr (some ⟨p, 0, none⟩) (Qc .u32).sz 5, GEq (.int .u32 a6), Vr (some ⟨p, 0, none⟩) (Qc .u32).sz 6, GEq (.int .u32 a7), GEq (.int .u32 (V7 .u32 a6 a7)), GEq (.int .u32 (Zt .u32 s (V7 .u32 a6 a7))), GEq (.int .u32 (V7 .u32 b0 (Zt .u32 s (V7 .u32 a6 a7)))), GEq (.int .u32 (IntKind.wrap .u32 ((IntKind.wrap .u32 (a8 + a9)) + (V7 .u32 b0 (Zt .u32 s (V7 .u32 a6 a7)))))), GEq (.int .i64 u), Vr (some ⟨b1, 0, none⟩) (Qc .u32).sz u, GEq (.int .u32 b2), GEq (.int .u32 (IntKind.wrap .u32 ((IntKind.wrap .u32 ((IntKind.wrap .u32 (a8 + a9)) + (V7 .u32 b0 (Zt .u32 s (V7 .u32 a6 a7))))) + b2))), GEq (.int .i64 u), Vr (some ⟨g9, 0, none⟩) (Qc .u32).sz u, GEq (.int .u32 b4), GEq (.int .u32 (IntKind.wrap .u32 ((IntKind.wrap .u32 ((IntKind.wrap .u32 ((IntKind.wrap .u32 (a8 + a9)) + (V7 .u32 b0 (Zt .u32 s (V7 .u32 a6 a7))))) + b2)) + b4))), GEq (.int .u32 (IntKind.wrap .u32 ((IntKind.wrap .u32 ((IntKind.wrap .u32 ((IntKind.wrap .u32 (a8 + a9)) + (V7 .u32 b0 (Zt .u32 s (V7 .u32 a6 a7))))) + b2)) + b4)))] [4] (tG [] w0 [Vk 149 (Qc .u32) g5 8 p1, Vk 135 (Qc .u32) g9 64 p3, Vk 149 (Qc .u32) a0 8 (List.replicate 8 0), Vk 149 (Qc .u32) p 8 a1, Vk 135 (Qc .u32) b1 64 a3] [([], []), ([4], [(.int .u32 a9)])]) 26 1 ⟨trivial, SP.drew i7⟩ ?_ ?_
     iterate 26 refine And.intro ?_ ?_
     exact trivial
     ·refine Owe.light K [0, 1] K (Qf ?_ (Qf ?_ Q8))
      ·rintro ρ' w' hs f ⟨ak8, v8⟩
       refine kM (kc (kS hs 5 (pt p 0)) k0) fun c => ?_
       refine Ql (e := (Qc .u32)) (l := a1) (m := 8) (g := p) (T := 149) (E := 111) (x := (.tmp 5)) (ix := (.const (.int .i64 (7)))) (ki := .i64) (iz := 7) (i := 3) (d := (some 28)) (k := 0) K rfl K K K K v8 rfl d7 d8 ?_
       exact ⟨rfl, _, Qa c, ⟨p, 0, rfl, rfl⟩⟩
      ·rintro ρ' w' hs f ⟨⟨ak9, -⟩, v9⟩
       refine kM (kc (kS hs 5 (pt p 0)) k0) fun c => ?_
       refine Ql (e := (Qc .u32)) (l := a1) (m := 8) (g := p) (T := 149) (E := 111) (x := (.tmp 5)) (ix := (.const (.int .i64 (7)))) (ki := .i64) (iz := 7) (i := 3) (d := (some 28)) (k := 0) K rfl K K K K v9 rfl d7 d8 ?_
       exact ⟨rfl, _, Qa c, ⟨p, 0, rfl, rfl⟩⟩
     ·refine Owe.light K [0, 1] K (Qf ?_ (Qf ?_ Q8))
      ·rintro ρ' w' hs f ⟨al0, w1⟩
       obtain ⟨w2, w3, w4, f8⟩ := f 0 28 K
       refine kM (kc f8 k0) fun c => ?_
       refine sC 111 28 w2 (w3 + Int.toNat 7 * (Qc .u32).sz) (.int .u32 a8) 29 (Qk (e := (Qc .u32)) (Qh (Qy (SP.get w1 (i := 3) rfl)) w4 d7 d8) i8 (j := 0) rfl) ?_
       exact eK c
      ·rintro ρ' w' hs f ⟨⟨al1, -⟩, w5⟩
       obtain ⟨w7, w8, w9, f8⟩ := f 0 28 K
       refine kM (kc f8 k0) fun c => ?_
       refine sC 111 28 w7 (w8 + Int.toNat 7 * (Qc .u32).sz) (.int .u32 a8) 29 (Qk (e := (Qc .u32)) (Qh (Qy (SP.get w5 (i := 3) rfl)) w9 d7 d8) i8 (j := 0) rfl) ?_
       exact eK c
     ·exact oV (hC (hS 11 (.int .u32 s)) (h0)) (.int .u32 s)
     ·exact Owe.run K [] trivial (.agg (Qd (Qc .i64) ([6, 11, 25] : List Int)).toArray) (fun _ _ => K) rfl
     ·refine oH 0 1 ?_
      ·rintro ρ' w' hs f ⟨al2, x0⟩
       refine kM (kc (kA f 2 30) (kc (kA f 3 31) k0)) fun c => ?_
       refine cF 128 #[(.tmp 30), (.tmp 31), (.const (.bool false))] #[111, 168, 4] 32 Tryz.call128 (Nz  s ([6, 11, 25] : List Int) false w' rfl a9 v7) ?_
       rintro e al3 ⟨rfl, j4⟩
       refine ⟨_, rfl, ?_⟩
       have x1 := SP.call x0 j4
       clear j4
       refine ⟨_, Qa c, rfl, ?_⟩
       exact (And.intro (And.intro rfl (trivial)) (x1))
     ·exact oV (hC (hA 1 29) (hC (hA 4 32) (h0))) (.int .u32 (IntKind.wrap .u32 (a8 + a9)))
     ·refine Owe.light K [0, 1] K (Qf ?_ (Qf ?_ Q8))
      ·rintro ρ' w' hs f ⟨al4, x2⟩
       refine kM (kc (kS hs 5 (pt p 0)) k0) fun c => ?_
       refine Ql (e := (Qc .u32)) (l := a1) (m := 8) (g := p) (T := 149) (E := 111) (x := (.tmp 5)) (ix := (.const (.int .i64 (6)))) (ki := .i64) (iz := 6) (i := 3) (d := (some 34)) (k := 6) K rfl K K K K x2 rfl d9 e0 ?_
       exact ⟨rfl, _, Qa c, ⟨p, 0, rfl, rfl⟩⟩
      ·rintro ρ' w' hs f ⟨⟨al5, -⟩, x3⟩
       refine kM (kc (kS hs 5 (pt p 0)) k0) fun c => ?_
       refine Ql (e := (Qc .u32)) (l := a1) (m := 8) (g := p) (T := 149) (E := 111) (x := (.tmp 5)) (ix := (.const (.int .i64 (6)))) (ki := .i64) (iz := 6) (i := 3) (d := (some 34)) (k := 6) K rfl K K K K x3 rfl d9 e0 ?_
       exact ⟨rfl, _, Qa c, ⟨p, 0, rfl, rfl⟩⟩
     ·refine Owe.light K [0, 1] K (Qf ?_ (Qf ?_ Q8))
      ·rintro ρ' w' hs f ⟨al6, x4⟩
       obtain ⟨x5, x6, x7, f9⟩ := f 6 34 K
       refine kM (kc f9 k0) fun c => ?_
       refine sC 111 34 x5 (x6 + Int.toNat 6 * (Qc .u32).sz) (.int .u32 b0) 35 (Qk (e := (Qc .u32)) (Qh (Qy (SP.get x4 (i := 3) rfl)) x7 d9 e0) i9 (j := 0) rfl) ?_
       exact eK c
      ·rintro ρ' w' hs f ⟨⟨al7, -⟩, x8⟩
       obtain ⟨x9, y0, y1, f9⟩ := f 6 34 K
       refine kM (kc f9 k0) fun c => ?_
       refine sC 111 34 x9 (y0 + Int.toNat 6 * (Qc .u32).sz) (.int .u32 b0) 35 (Qk (e := (Qc .u32)) (Qh (Qy (SP.get x8 (i := 3) rfl)) y1 d9 e0) i9 (j := 0) rfl) ?_
       exact eK c
     ·exact oV (hC (hS 11 (.int .u32 s)) (h0)) (.int .u32 s)
     ·refine Owe.light K [0, 1] K (Qf ?_ (Qf ?_ Q8))
      ·rintro ρ' w' hs f ⟨al8, y2⟩
       refine kM (kc (kS hs 5 (pt p 0)) k0) fun c => ?_
       refine Ql (e := (Qc .u32)) (l := a1) (m := 8) (g := p) (T := 149) (E := 111) (x := (.tmp 5)) (ix := (.const (.int .i64 (5)))) (ki := .i64) (iz := 5) (i := 3) (d := (some 37)) (k := 9) K rfl K K K K y2 rfl e1 e2 ?_
       exact ⟨rfl, _, Qa c, ⟨p, 0, rfl, rfl⟩⟩
      ·rintro ρ' w' hs f ⟨⟨al9, -⟩, y3⟩
       refine kM (kc (kS hs 5 (pt p 0)) k0) fun c => ?_
       refine Ql (e := (Qc .u32)) (l := a1) (m := 8) (g := p) (T := 149) (E := 111) (x := (.tmp 5)) (ix := (.const (.int .i64 (5)))) (ki := .i64) (iz := 5) (i := 3) (d := (some 37)) (k := 9) K rfl K K K K y3 rfl e1 e2 ?_
       exact ⟨rfl, _, Qa c, ⟨p, 0, rfl, rfl⟩⟩
     ·refine Owe.light K [0, 1] K (Qf ?_ (Qf ?_ Q8))
      ·rintro ρ' w' hs f ⟨am0, y4⟩
       obtain ⟨y5, y6, y7, g0⟩ := f 9 37 K
       refine kM (kc g0 k0) fun c => ?_
       refine sC 111 37 y5 (y6 + Int.toNat 5 * (Qc .u32).sz) (.int .u32 a6) 38 (Qk (e := (Qc .u32)) (Qh (Qy (SP.get y4 (i := 3) rfl)) y7 e1 e2) j0 (j := 0) rfl) ?_
       exact eK c
      ·rintro ρ' w' hs f ⟨⟨am1, -⟩, y8⟩
       obtain ⟨y9, z0, z1, g0⟩ := f 9 37 K
       refine kM (kc g0 k0) fun c => ?_
       refine sC 111 37 y9 (z0 + Int.toNat 5 * (Qc .u32).sz) (.int .u32 a6) 38 (Qk (e := (Qc .u32)) (Qh (Qy (SP.get y8 (i := 3) rfl)) z1 e1 e2) j0 (j := 0) rfl) ?_
       exact eK c
     ·refine Owe.light K [0, 1] K (Qf ?_ (Qf ?_ Q8))
      ·rintro ρ' w' hs f ⟨am2, z2⟩
       refine kM (kc (kS hs 5 (pt p 0)) k0) fun c => ?_
       refine Ql (e := (Qc .u32)) (l := a1) (m := 8) (g := p) (T := 149) (E := 111) (x := (.tmp 5)) (ix := (.const (.int .i64 (6)))) (ki := .i64) (iz := 6) (i := 3) (d := (some 39)) (k := 11) K rfl K K K K z2 rfl e3 e4 ?_
       exact ⟨rfl, _, Qa c, ⟨p, 0, rfl, rfl⟩⟩
      ·rintro ρ' w' hs f ⟨⟨am3, -⟩, z3⟩
       refine kM (kc (kS hs 5 (pt p 0)) k0) fun c => ?_
       refine Ql (e := (Qc .u32)) (l := a1) (m := 8) (g := p) (T := 149) (E := 111) (x := (.tmp 5)) (ix := (.const (.int .i64 (6)))) (ki := .i64) (iz := 6) (i := 3) (d := (some 39)) (k := 11) K rfl K K K K z3 rfl e3 e4 ?_
       exact ⟨rfl, _, Qa c, ⟨p, 0, rfl, rfl⟩⟩
     ·refine Owe.light K [0, 1] K (Qf ?_ (Qf ?_ Q8))
      ·rintro ρ' w' hs f ⟨am4, z4⟩
       obtain ⟨z5, z6, z7, g1⟩ := f 11 39 K
       refine kM (kc g1 k0) fun c => ?_
       refine sC 111 39 z5 (z6 + Int.toNat 6 * (Qc .u32).sz) (.int .u32 a7) 40 (Qk (e := (Qc .u32)) (Qh (Qy (SP.get z4 (i := 3) rfl)) z7 e3 e4) j1 (j := 0) rfl) ?_
       exact eK c
      ·rintro ρ' w' hs f ⟨⟨am5, -⟩, z8⟩
       obtain ⟨z9, aa0, aa1, g1⟩ := f 11 39 K
       refine kM (kc g1 k0) fun c => ?_
       refine sC 111 39 z9 (aa0 + Int.toNat 6 * (Qc .u32).sz) (.int .u32 a7) 40 (Qk (e := (Qc .u32)) (Qh (Qy (SP.get z8 (i := 3) rfl)) aa1 e3 e4) j1 (j := 0) rfl) ?_
       exact eK c
     ·exact oV (hC (hA 10 38) (hC (hA 12 40) (h0))) (.int .u32 (V7 .u32 a6 a7))
     ·exact oV (hC (hA 8 36) (hC (hA 13 41) (h0))) (.int .u32 (Zt .u32 s (V7 .u32 a6 a7)))
     ·exact oV (hC (hA 7 35) (hC (hA 14 42) (h0))) (.int .u32 (V7 .u32 b0 (Zt .u32 s (V7 .u32 a6 a7))))
     ·exact oV (hC (hA 5 33) (hC (hA 15 43) (h0))) (.int .u32 (IntKind.wrap .u32 ((IntKind.wrap .u32 (a8 + a9)) + (V7 .u32 b0 (Zt .u32 s (V7 .u32 a6 a7))))))
     ·exact oV (hC (hS 7 (.int .i64 u)) (h0)) (.int .i64 u)
     ·refine Owe.light K [0, 1] K (Qf ?_ (Qf ?_ Q8))
      ·rintro ρ' w' hs f ⟨am6, aa2⟩
       refine kM (kc (kS hs 6 (pt b1 0)) (kc (kA f 17 45) k0)) fun c => ?_
       refine Ql (e := (Qc .u32)) (l := a3) (m := 64) (g := b1) (T := 135) (E := 111) (x := (.tmp 6)) (ix := (.tmp 45)) (ki := .i64) (iz := u) (i := 4) (d := (some 46)) (k := 18) K rfl K K K K aa2 rfl e5 e6 ?_
       exact ⟨rfl, _, Qa c, ⟨b1, 0, rfl, rfl⟩⟩
      ·rintro ρ' w' hs f ⟨⟨am7, -⟩, aa3⟩
       refine kM (kc (kS hs 6 (pt b1 0)) (kc (kA f 17 45) k0)) fun c => ?_
       refine Ql (e := (Qc .u32)) (l := a3) (m := 64) (g := b1) (T := 135) (E := 111) (x := (.tmp 6)) (ix := (.tmp 45)) (ki := .i64) (iz := u) (i := 4) (d := (some 46)) (k := 18) K rfl K K K K aa3 rfl e5 e6 ?_
       exact ⟨rfl, _, Qa c, ⟨b1, 0, rfl, rfl⟩⟩
     ·refine Owe.light K [0, 1] K (Qf ?_ (Qf ?_ Q8))
      ·rintro ρ' w' hs f ⟨am8, aa4⟩
       obtain ⟨aa5, aa6, aa7, g2⟩ := f 18 46 K
       refine kM (kc g2 k0) fun c => ?_
       refine sC 111 46 aa5 (aa6 + Int.toNat u * (Qc .u32).sz) (.int .u32 b2) 47 (Qk (e := (Qc .u32)) (Qh (Qy (SP.get aa4 (i := 4) rfl)) aa7 e5 e6) j2 (j := 0) rfl) ?_
       exact eK c
      ·rintro ρ' w' hs f ⟨⟨am9, -⟩, aa8⟩
       obtain ⟨aa9, ab0, ab1, g2⟩ := f 18 46 K
       refine kM (kc g2 k0) fun c => ?_
       refine sC 111 46 aa9 (ab0 + Int.toNat u * (Qc .u32).sz) (.int .u32 b2) 47 (Qk (e := (Qc .u32)) (Qh (Qy (SP.get aa8 (i := 4) rfl)) ab1 e5 e6) j2 (j := 0) rfl) ?_
       exact eK c
     ·exact oV (hC (hA 16 44) (hC (hA 19 47) (h0))) (.int .u32 (IntKind.wrap .u32 ((IntKind.wrap .u32 ((IntKind.wrap .u32 (a8 + a9)) + (V7 .u32 b0 (Zt .u32 s (V7 .u32 a6 a7))))) + b2)))
     ·exact oV (hC (hS 7 (.int .i64 u)) (h0)) (.int .i64 u)
     ·refine Owe.light K [0, 1] K (Qf ?_ (Qf ?_ Q8))
      ·rintro ρ' w' hs f ⟨an0, ab2⟩
       refine kM (kc (kS hs 3 (pt g9 0)) (kc (kA f 21 49) k0)) fun c => ?_
       refine Ql (e := (Qc .u32)) (l := p3) (m := 64) (g := g9) (T := 135) (E := 111) (x := (.tmp 3)) (ix := (.tmp 49)) (ki := .i64) (iz := u) (i := 1) (d := (some 50)) (k := 22) K rfl K K K K ab2 rfl e7 e8 ?_
       exact ⟨rfl, _, Qa c, ⟨g9, 0, rfl, rfl⟩⟩
      ·rintro ρ' w' hs f ⟨⟨an1, -⟩, ab3⟩
       refine kM (kc (kS hs 3 (pt g9 0)) (kc (kA f 21 49) k0)) fun c => ?_
       refine Ql (e := (Qc .u32)) (l := p3) (m := 64) (g := g9) (T := 135) (E := 111) (x := (.tmp 3)) (ix := (.tmp 49)) (ki := .i64) (iz := u) (i := 1) (d := (some 50)) (k := 22) K rfl K K K K ab3 rfl e7 e8 ?_
       exact ⟨rfl, _, Qa c, ⟨g9, 0, rfl, rfl⟩⟩
     ·refine Owe.light K [0, 1] K (Qf ?_ (Qf ?_ Q8))
      ·rintro ρ' w' hs f ⟨an2, ab4⟩
       obtain ⟨ab5, ab6, ab7, g3⟩ := f 22 50 K
       refine kM (kc g3 k0) fun c => ?_
       refine sC 111 50 ab5 (ab6 + Int.toNat u * (Qc .u32).sz) (.int .u32 b4) 51 (Qk (e := (Qc .u32)) (Qh (Qy (SP.get ab4 (i := 1) rfl)) ab7 e7 e8) j3 (j := 0) rfl) ?_
       exact eK c
      ·rintro ρ' w' hs f ⟨⟨an3, -⟩, ab8⟩
       obtain ⟨ab9, ac0, ac1, g3⟩ := f 22 50 K
       refine kM (kc g3 k0) fun c => ?_
       refine sC 111 50 ab9 (ac0 + Int.toNat u * (Qc .u32).sz) (.int .u32 b4) 51 (Qk (e := (Qc .u32)) (Qh (Qy (SP.get ab8 (i := 1) rfl)) ac1 e7 e8) j3 (j := 0) rfl) ?_
       exact eK c
     ·exact oV (hC (hA 20 48) (hC (hA 23 51) (h0))) (.int .u32 (IntKind.wrap .u32 ((IntKind.wrap .u32 ((IntKind.wrap .u32 ((IntKind.wrap .u32 (a8 + a9)) + (V7 .u32 b0 (Zt .u32 s (V7 .u32 a6 a7))))) + b2)) + b4)))
     ·exact oV (hC (hA 24 52) (h0)) (.int .u32 (IntKind.wrap .u32 ((IntKind.wrap .u32 ((IntKind.wrap .u32 ((IntKind.wrap .u32 (a8 + a9)) + (V7 .u32 b0 (Zt .u32 s (V7 .u32 a6 a7))))) + b2)) + b4)))
     ·rintro ρ' w' hs hf ⟨⟨an4, -⟩, j5⟩
      refine Q3 [(2, (pt g5 0)), (3, (pt g9 0)), (4, (pt a0 0)), (5, (pt p 0)), (6, (pt b1 0)), (8, (.int .u32 b3)), (9, (.int .u32 a4)), (10, (.int .u32 a5)), (12, (.int .u32 (IntKind.wrap .u32 ((IntKind.wrap .u32 ((IntKind.wrap .u32 ((IntKind.wrap .u32 (a8 + a9)) + (V7 .u32 b0 (Zt .u32 s (V7 .u32 a6 a7))))) + b2)) + b4)))), (17, (.int .i64 u))] ⟨(hs 2 K).trans K, (hs 3 K).trans K, (hs 4 K).trans K, (hs 5 K).trans K, (hs 6 K).trans K, (hs 8 K).trans K, (hs 9 K).trans K, (hs 10 K).trans K, hf 25 12 K, (hs 17 K).trans K, trivial⟩ ?_
      obtain ⟨ac2, ac3⟩ : ∃ x, w' = x := ⟨_, rfl⟩
      rw [ac3] at j5 ⊢
      refine aQ ?_
      refine aR ?_
      refine iR 2 2 [(53, (.int .u32 b3)), (54, (.agg (Qd (Qc .i64) ([2, 13, 22] : List Int)).toArray))] ?_
      obtain ⟨b6, ac4, H⟩ := Qb H
      refine iS 3 ?_
      refine cF 128 #[(.tmp 53), (.tmp 54), (.const (.bool false))] #[111, 168, 4] 55 Tryz.call128 (Nz  b3 ([2, 13, 22] : List Int) false ac2 rfl b6 ac4) ?_
      rintro e an5 ⟨rfl, j6⟩
      refine ⟨_, rfl, ?_⟩
      have ac5 := SP.call j5 j6
      clear j6
      refine iR 11 14 [(56, (.int .u32 b3)), (57, (.int .u32 a4)), (58, (.int .u32 a5)), (59, (.int .u32 (bOr .u32 a4 a5))), (60, (.int .u32 (Zt .u32 b3 (bOr .u32 a4 a5)))), (61, (.int .u32 a4)), (62, (.int .u32 a5)), (63, (.int .u32 (Zt .u32 a4 a5))), (64, (.int .u32 (bOr .u32 (Zt .u32 b3 (bOr .u32 a4 a5)) (Zt .u32 a4 a5)))), (65, (.int .u32 (IntKind.wrap .u32 (b6 + (bOr .u32 (Zt .u32 b3 (bOr .u32 a4 a5)) (Zt .u32 a4 a5)))))), (13, (.int .u32 (IntKind.wrap .u32 (b6 + (bOr .u32 (Zt .u32 b3 (bOr .u32 a4 a5)) (Zt .u32 a4 a5))))))] ?_
      refine iF ?_
      refine aQ ?_
      obtain ⟨e9, f0, f1, H⟩ := Dw H
      obtain ⟨d2, hyl1878⟩ : ∃ y, (List.drop (Int.toNat 1) (List.take (Int.toNat ((List.length a1 : Nat) : Int)) a1)) = y := ⟨_, rfl⟩
      rw [hyl1878] at H
      obtain ⟨j7, j8, j9, H⟩ := Dw H
      obtain ⟨d3, hyl1882⟩ : ∃ y, (List.drop (Int.toNat 0) (List.take (Int.toNat 7) a1)) = y := ⟨_, rfl⟩
      rw [hyl1882] at H
      obtain ⟨b7, hyl1883, H⟩ := Zk H
      have hnl1883 : List.length b7 = List.length a1 := by rw [← hyl1883]; exact Es (cut_dl e9 f0 f1 hyl1878)
      refine aG [GEq (.slice (F2 (Qc .u32).sz 8 (Int.toNat 1) (some ⟨p, 0, none⟩)) (List.length d2) (8 - Int.toNat 1)), GEq (.slice (F2 (Qc .u32).sz 8 (Int.toNat 0) (some ⟨p, 0, none⟩)) (List.length d3) (8 - Int.toNat 0)), GEq (.int .i64 (min ((List.length d3 : Nat) : Int) (((List.length d2) : Nat) : Int)))] [2] [sG [] [] [] w0 [Vk 149 (Qc .u32) g5 8 p1, Vk 135 (Qc .u32) g9 64 p3, Vk 149 (Qc .u32) a0 8 (List.replicate 8 0), Vk 149 (Qc .u32) p 8 a1, Vk 135 (Qc .u32) b1 64 a3], sG [2] [(.int .i64 (min ((List.length d3 : Nat) : Int) (((List.length d2) : Nat) : Int)))] [] w0 [Vk 149 (Qc .u32) g5 8 p1, Vk 135 (Qc .u32) g9 64 p3, Vk 149 (Qc .u32) a0 8 (List.replicate 8 0), Vk 149 (Qc .u32) p 8 b7, Vk 135 (Qc .u32) b1 64 a3]] 3 1 ⟨trivial, SP.drew ac5⟩ ?_ ?_
      iterate 3 refine And.intro ?_ ?_
      exact trivial
      ·refine oL 0 ?_
       ·rintro ρ' w' hs f ⟨an6, ac6⟩
        refine kM (kc (kS hs 5 (pt p 0)) k0) fun c => ?_
        refine Co (e := (Qc .u32)) (l := a1) (l' := d2) (m := 8) (g := p) (T := 149) (E := 111) (x := (.tmp 5)) (lo := (some (.const (.int .i64 (1))))) (hi := none) (i := 1) (j := ((List.length a1 : Nat) : Int)) (q := 3) (d := (some 66)) (k := 0) K rfl K K K ⟨.i64, K⟩ rfl ac6 rfl e9 f0 f1 hyl1878 ?_
        exact eK c
      ·refine oL 0 ?_
       ·rintro ρ' w' hs f ⟨an7, ac7⟩
        refine kM (kc (kS hs 5 (pt p 0)) k0) fun c => ?_
        refine Co (e := (Qc .u32)) (l := a1) (l' := d3) (m := 8) (g := p) (T := 149) (E := 111) (x := (.tmp 5)) (lo := none) (hi := (some (.const (.int .i64 (7))))) (i := 0) (j := 7) (q := 3) (d := (some 67)) (k := 1) K rfl K K K rfl ⟨.i64, K⟩ ac7 rfl j7 j8 j9 hyl1882 ?_
        exact eK c
      ·refine oH 0 1 ?_
       ·rintro ρ' w' hs f ⟨an8, g4⟩
        refine kM (kc (kA f 0 66) (kc (kA f 1 67) k0)) fun c => ?_
        refine Hd (e := (Qc .u32)) (l := a1) (y' := d3) (l' := b7) (m := 8) (g := p) (lo := (Int.toNat 1)) (dl := (List.length d2)) (T := 169) (T2 := 169) (E := 111) (x := (.tmp 66)) (y := (.tmp 67)) (i := 3) (A := (F2 (Qc .u32).sz 8 (Int.toNat 1) (some ⟨p, 0, none⟩))) (dc := (8 - Int.toNat 1)) (A2 := (F2 (Qc .u32).sz 8 (Int.toNat 0) (some ⟨p, 0, none⟩))) (c2 := (8 - Int.toNat 0)) (d := (some 68)) (k := 2) K rfl K K K K rfl g4 rfl (cut_hA (e := (Qc .u32)) (Vc (SP.get g4 (i := 3) rfl)) e9 f0 f1 hyl1878) (cut_dl e9 f0 f1 hyl1878) ((Ia j7 j8 j9 hyl1882) w' (Qy (SP.get g4 (i := 3) rfl))) hyl1883 ?_
        intro ac8 k1 _
        have ac9 : SP [] w0 ac8 [Vk 149 (Qc .u32) g5 8 p1, Vk 135 (Qc .u32) g9 64 p3, Vk 149 (Qc .u32) a0 8 (List.replicate 8 0), Vk 149 (Qc .u32) p 8 b7, Vk 135 (Qc .u32) b1 64 a3] := k1
        clear k1
        refine ⟨_, Qa c, rfl, ?_⟩
        exact (And.intro (And.intro rfl (trivial)) (ac9))
      ·rintro ρ' w' hs hf ⟨⟨an9, -⟩, d4⟩
       refine Q3 [(2, (pt g5 0)), (3, (pt g9 0)), (4, (pt a0 0)), (5, (pt p 0)), (6, (pt b1 0)), (12, (.int .u32 (IntKind.wrap .u32 ((IntKind.wrap .u32 ((IntKind.wrap .u32 ((IntKind.wrap .u32 (a8 + a9)) + (V7 .u32 b0 (Zt .u32 s (V7 .u32 a6 a7))))) + b2)) + b4)))), (13, (.int .u32 (IntKind.wrap .u32 (b6 + (bOr .u32 (Zt .u32 b3 (bOr .u32 a4 a5)) (Zt .u32 a4 a5)))))), (17, (.int .i64 u))] ⟨(hs 2 K).trans K, (hs 3 K).trans K, (hs 4 K).trans K, (hs 5 K).trans K, (hs 6 K).trans K, (hs 12 K).trans K, (hs 13 K).trans K, (hs 17 K).trans K, trivial⟩ ?_
       obtain ⟨ao0, ad0⟩ : ∃ x, w' = x := ⟨_, rfl⟩
       rw [ad0] at d4 ⊢
       refine aR ?_
       refine iR 3 3 [(69, (.int .u32 (IntKind.wrap .u32 ((IntKind.wrap .u32 ((IntKind.wrap .u32 ((IntKind.wrap .u32 (a8 + a9)) + (V7 .u32 b0 (Zt .u32 s (V7 .u32 a6 a7))))) + b2)) + b4)))), (70, (.int .u32 (IntKind.wrap .u32 (b6 + (bOr .u32 (Zt .u32 b3 (bOr .u32 a4 a5)) (Zt .u32 a4 a5)))))), (71, (.int .u32 (IntKind.wrap .u32 ((IntKind.wrap .u32 ((IntKind.wrap .u32 ((IntKind.wrap .u32 ((IntKind.wrap .u32 (a8 + a9)) + (V7 .u32 b0 (Zt .u32 s (V7 .u32 a6 a7))))) + b2)) + b4)) + (IntKind.wrap .u32 (b6 + (bOr .u32 (Zt .u32 b3 (bOr .u32 a4 a5)) (Zt .u32 a4 a5))))))))] ?_
       obtain ⟨f2, k2, k3, ad1, H⟩ := Qo H
       refine iS 4 ?_
       refine Ql (e := (Qc .u32)) (l := b7) (m := 8) (g := p) (T := 149) (E := 111) (x := (.tmp 5)) (ix := (.const (.int .i64 (4)))) (ki := .i64) (iz := 4) (i := 3) (d := (some 72)) (k := 3) K rfl K K K K d4 rfl k2 k3 ?_
       refine iS 5 ?_
       refine sC 111 72 p (0 + Int.toNat 4 * (Qc .u32).sz) (.int .u32 f2) 73 (Qk (e := (Qc .u32)) (Qh (Qy (SP.get d4 (i := 3) rfl)) rfl k2 k3) ad1 (j := 0) rfl) ?_
       refine iR 2 7 [(74, (.int .u32 (IntKind.wrap .u32 ((IntKind.wrap .u32 ((IntKind.wrap .u32 ((IntKind.wrap .u32 (a8 + a9)) + (V7 .u32 b0 (Zt .u32 s (V7 .u32 a6 a7))))) + b2)) + b4)))), (75, (.int .u32 (IntKind.wrap .u32 (f2 + (IntKind.wrap .u32 ((IntKind.wrap .u32 ((IntKind.wrap .u32 ((IntKind.wrap .u32 (a8 + a9)) + (V7 .u32 b0 (Zt .u32 s (V7 .u32 a6 a7))))) + b2)) + b4))))))] ?_
       obtain ⟨ao1, k4, k5, ao2, H⟩ := Qo H
       refine iS 8 ?_
       refine Ql (e := (Qc .u32)) (l := b7) (m := 8) (g := p) (T := 149) (E := 111) (x := (.tmp 5)) (ix := (.const (.int .i64 (0)))) (ki := .i64) (iz := 0) (i := 3) (d := (some 76)) (k := 7) K rfl K K K K d4 rfl k4 k5 ?_
       obtain ⟨f3, hyl1912, H⟩ := Zk H
       have hnl1912 : List.length f3 = List.length b7 := by rw [← hyl1912, List.length_set]
       refine iS 9 ?_
       refine Z3 (e := (Qc .u32)) (t := 111) (x := (.tmp 76)) (y := (.tmp 71)) (l := b7) (iz := 0) (m := 8) (g := p) (b := p) (off := 0) (i := 3) (v := (.int .u32 (IntKind.wrap .u32 ((IntKind.wrap .u32 ((IntKind.wrap .u32 ((IntKind.wrap .u32 ((IntKind.wrap .u32 (a8 + a9)) + (V7 .u32 b0 (Zt .u32 s (V7 .u32 a6 a7))))) + b2)) + b4)) + (IntKind.wrap .u32 (b6 + (bOr .u32 (Zt .u32 b3 (bOr .u32 a4 a5)) (Zt .u32 a4 a5)))))))) (x' := (IntKind.wrap .u32 ((IntKind.wrap .u32 ((IntKind.wrap .u32 ((IntKind.wrap .u32 ((IntKind.wrap .u32 (a8 + a9)) + (V7 .u32 b0 (Zt .u32 s (V7 .u32 a6 a7))))) + b2)) + b4)) + (IntKind.wrap .u32 (b6 + (bOr .u32 (Zt .u32 b3 (bOr .u32 a4 a5)) (Zt .u32 a4 a5))))))) (d := none) (k := 8) K rfl rfl K K d4 rfl rfl k5 k4 rfl K ?_
       rw [hyl1912]
       intro ao3 k6
       refine In.known [] trivial ?_
       obtain ⟨ao4, k7, k8, ao5, H⟩ := Qo H
       refine iS 10 ?_
       refine Ql (e := (Qc .u32)) (l := f3) (m := 8) (g := p) (T := 149) (E := 111) (x := (.tmp 5)) (ix := (.const (.int .i64 (4)))) (ki := .i64) (iz := 4) (i := 3) (d := (some 77)) (k := 9) K rfl K K K K k6 rfl k7 k8 ?_
       obtain ⟨k9, hyl1920, H⟩ := Zk H
       have hnl1920 : List.length k9 = List.length f3 := by rw [← hyl1920, List.length_set]
       refine iS 11 ?_
       refine Z3 (e := (Qc .u32)) (t := 111) (x := (.tmp 77)) (y := (.tmp 75)) (l := f3) (iz := 4) (m := 8) (g := p) (b := p) (off := 0) (i := 3) (v := (.int .u32 (IntKind.wrap .u32 (f2 + (IntKind.wrap .u32 ((IntKind.wrap .u32 ((IntKind.wrap .u32 ((IntKind.wrap .u32 (a8 + a9)) + (V7 .u32 b0 (Zt .u32 s (V7 .u32 a6 a7))))) + b2)) + b4)))))) (x' := (IntKind.wrap .u32 (f2 + (IntKind.wrap .u32 ((IntKind.wrap .u32 ((IntKind.wrap .u32 ((IntKind.wrap .u32 (a8 + a9)) + (V7 .u32 b0 (Zt .u32 s (V7 .u32 a6 a7))))) + b2)) + b4))))) (d := none) (k := 10) K rfl rfl K K k6 rfl rfl k8 k7 rfl K ?_
       rw [hyl1920]
       intro ao6 ad2
       refine In.known [] trivial ?_
       refine iF ?_
       refine aR ?_
       refine iR 2 2 [(78, (.int .i64 (IntKind.wrap .i64 (u + 1)))), (17, (.int .i64 (IntKind.wrap .i64 (u + 1))))] ?_
       refine iF ?_
       exact ⟨k9, (IntKind.wrap .i64 (u + 1)), ⟨K, K, K, K, K, K, trivial⟩, SP.sel ad2 [0, 1, 2, 3, 4] rfl rfl, H⟩
   ·have H := cf H f7
    refine At.exit K (id := 0) K ?_
    refine aQ ?_
    refine aQ ?_
    refine aR ?_
    refine iR 1 1 [(79, (.int .i64 0))] ?_
    refine iF ?_
    refine Z1 K (id := 2) K ?_
    refine Nl K (fun f5 ρ w => ∃ (b5 : (List Int)) (a2 : Int), V6 ρ [(2, (pt g5 0)), (4, (pt a0 0)), (5, (pt p 0)), (79, (.int .i64 a2))] ∧ SP [] w0 w [Vk 149 (Qc .u32) g5 8 p1, Vk 149 (Qc .u32) a0 8 (List.replicate 8 0), Vk 149 (Qc .u32) p 8 b5] ∧ Yx (Vu p1 p3 a3 f4) p1 f5 b5 a2 = some r) (by rintro ρ w ⟨b5, a2, hk, hs, H⟩; cases H) ?_ Zj ?_
    ·rintro f5 ρ ao7 ⟨b5, a2, hk, c4, H⟩
     refine At.known [(2, (pt g5 0)), (4, (pt a0 0)), (5, (pt p 0)), (79, (.int .i64 a2))] hk ?_
     replace H := (show Np (Vu p1 p3 a3 f4) (Yx (Vu p1 p3 a3 f4) p1 f5) p1 b5 a2 = some r from H)
     unfold Np at H
     have ao8 := Vc (SP.get c4 (i := 0) rfl)
     have ao9 := Vc (SP.get c4 (i := 1) rfl)
     have ad3 := Vc (SP.get c4 (i := 2) rfl)
     refine aQ ?_
     refine aR ?_
     refine iR 1 1 [(80, (.bool (decide (a2 < 8))))] ?_
     refine iF ?_
     refine aQ ?_
     refine V1 K (o := (.tmp 80)) K (b := (decide (a2 < 8))) K (fun g6 => ?_) (fun g6 => ?_)
     ·have H := ct H g6
      refine At.skip K ?_
      refine aQ ?_
      refine Z1 K (id := 3) K ?_
      refine aQ ?_
      refine aR ?_
      refine iR 2 2 [(81, (.int .i64 a2)), (14, (.int .i64 a2))] ?_
      refine iF ?_
      obtain ⟨c5, l0, l1, ad4, H⟩ := Qo H
      obtain ⟨c6, l2, l3, ad5, H⟩ := Qo H
      obtain ⟨ap0, l4, l5, ap1, H⟩ := Qo H
      obtain ⟨g7, hyl2109, H⟩ := Zk H
      have hnl2109 : List.length g7 = List.length b5 := by rw [← hyl2109, List.length_set]
      refine aG [GEq (.int .i64 a2), Vr (some ⟨p, 0, none⟩) (Qc .u32).sz a2, GEq (.int .u32 c5), GEq (.int .i64 a2), Vr (some ⟨g5, 0, none⟩) (Qc .u32).sz a2, GEq (.int .u32 c6), GEq (.int .u32 (IntKind.wrap .u32 (c5 + c6))), Vr (some ⟨p, 0, none⟩) (Qc .u32).sz a2, Ey] [8] [sG [] [] [] w0 [Vk 149 (Qc .u32) g5 8 p1, Vk 149 (Qc .u32) a0 8 (List.replicate 8 0), Vk 149 (Qc .u32) p 8 b5], sG [8] [undef] [] w0 [Vk 149 (Qc .u32) g5 8 p1, Vk 149 (Qc .u32) a0 8 (List.replicate 8 0), Vk 149 (Qc .u32) p 8 g7]] 9 1 ⟨trivial, SP.drew c4⟩ ?_ ?_
      iterate 9 refine And.intro ?_ ?_
      exact trivial
      ·exact oV (hC (hS 14 (.int .i64 a2)) (h0)) (.int .i64 a2)
      ·refine oL 0 ?_
       ·rintro ρ' w' hs f ⟨ap2, ad6⟩
        refine kM (kc (kS hs 5 (pt p 0)) (kc (kA f 0 82) k0)) fun c => ?_
        refine Ql (e := (Qc .u32)) (l := b5) (m := 8) (g := p) (T := 149) (E := 111) (x := (.tmp 5)) (ix := (.tmp 82)) (ki := .i64) (iz := a2) (i := 2) (d := (some 83)) (k := 1) K rfl K K K K ad6 rfl l0 l1 ?_
        exact ⟨rfl, _, Qa c, ⟨p, 0, rfl, rfl⟩⟩
      ·refine oL 0 ?_
       ·rintro ρ' w' hs f ⟨ap3, ad7⟩
        obtain ⟨ad8, ad9, ae0, e83⟩ := f 1 83 K
        refine kM (kc e83 k0) fun c => ?_
        refine sC 111 83 ad8 (ad9 + Int.toNat a2 * (Qc .u32).sz) (.int .u32 c5) 84 (Qk (e := (Qc .u32)) (Qh (Qy (SP.get ad7 (i := 2) rfl)) ae0 l0 l1) ad4 (j := 0) rfl) ?_
        exact eK c
      ·exact oV (hC (hS 14 (.int .i64 a2)) (h0)) (.int .i64 a2)
      ·refine oL 0 ?_
       ·rintro ρ' w' hs f ⟨ap4, ae2⟩
        refine kM (kc (kS hs 2 (pt g5 0)) (kc (kA f 3 85) k0)) fun c => ?_
        refine Ql (e := (Qc .u32)) (l := p1) (m := 8) (g := g5) (T := 149) (E := 111) (x := (.tmp 2)) (ix := (.tmp 85)) (ki := .i64) (iz := a2) (i := 0) (d := (some 86)) (k := 4) K rfl K K K K ae2 rfl l2 l3 ?_
        exact ⟨rfl, _, Qa c, ⟨g5, 0, rfl, rfl⟩⟩
      ·refine oL 0 ?_
       ·rintro ρ' w' hs f ⟨ap5, ae3⟩
        obtain ⟨ae4, ae5, ae6, e86⟩ := f 4 86 K
        refine kM (kc e86 k0) fun c => ?_
        refine sC 111 86 ae4 (ae5 + Int.toNat a2 * (Qc .u32).sz) (.int .u32 c6) 87 (Qk (e := (Qc .u32)) (Qh (Qy (SP.get ae3 (i := 0) rfl)) ae6 l2 l3) ad5 (j := 0) rfl) ?_
        exact eK c
      ·exact oV (hC (hA 2 84) (hC (hA 5 87) (h0))) (.int .u32 (IntKind.wrap .u32 (c5 + c6)))
      ·refine oL 0 ?_
       ·rintro ρ' w' hs f ⟨ap6, ae8⟩
        refine kM (kc (kS hs 5 (pt p 0)) (kc (kA f 0 82) k0)) fun c => ?_
        refine Ql (e := (Qc .u32)) (l := b5) (m := 8) (g := p) (T := 149) (E := 111) (x := (.tmp 5)) (ix := (.tmp 82)) (ki := .i64) (iz := a2) (i := 2) (d := (some 89)) (k := 7) K rfl K K K K ae8 rfl l4 l5 ?_
        exact ⟨rfl, _, Qa c, ⟨p, 0, rfl, rfl⟩⟩
      ·refine oH 0 1 ?_
       ·rintro ρ' w' hs f ⟨ap7, ae9⟩
        obtain ⟨af0, af1, af2, e89⟩ := f 7 89 K
        refine kM (kc e89 (kc (kA f 6 88) k0)) fun c => ?_
        refine Z3 (e := (Qc .u32)) (t := 111) (x := (.tmp 89)) (y := (.tmp 88)) (l := b5) (iz := a2) (m := 8) (g := p) (b := af0) (off := af1) (i := 2) (v := (.int .u32 (IntKind.wrap .u32 (c5 + c6)))) (x' := (IntKind.wrap .u32 (c5 + c6))) (d := none) (k := 8) K rfl af2 K K ae9 rfl rfl l5 l4 rfl K ?_
        rw [hyl2109]
        intro ap8 af4
        refine ⟨_, Qa c, trivial, ?_⟩
        exact (And.intro (And.intro rfl (trivial)) (af4))
      ·rintro ρ' w' hs hf ⟨⟨ap9, -⟩, l6⟩
       refine Q3 [(2, (pt g5 0)), (4, (pt a0 0)), (5, (pt p 0)), (79, (.int .i64 a2))] ⟨(hs 2 K).trans K, (hs 4 K).trans K, (hs 5 K).trans K, (hs 79 K).trans K, trivial⟩ ?_
       obtain ⟨aq0, af5⟩ : ∃ x, w' = x := ⟨_, rfl⟩
       rw [af5] at l6 ⊢
       refine aR ?_
       refine iR 2 2 [(90, (.int .i64 (IntKind.wrap .i64 (a2 + 1)))), (79, (.int .i64 (IntKind.wrap .i64 (a2 + 1))))] ?_
       refine iF ?_
       exact ⟨g7, (IntKind.wrap .i64 (a2 + 1)), ⟨K, K, K, K, trivial⟩, SP.sel l6 [0, 1, 2] rfl rfl, H⟩
     ·have H := cf H g6
      refine At.exit K (id := 2) K ?_
      refine aQ ?_
      refine aR ?_
      refine iS 1 ?_
      refine Zu (e := (Qc .u32)) (l := b5) (m := 8) (t := 149) (x := (.tmp 5)) (g := p) (i := 2) (d := (some 91)) (k := 0) K rfl K c4 rfl K K ?_
      refine iS 2 ?_
      refine Vf (e := (Qc .u32)) (l := (List.replicate 8 0)) (l' := b5) (m := 8) (t := 149) (x := (.tmp 4)) (y := (.tmp 91)) (g := a0) (i := 1) (d := none) (k := 1) K rfl K K ad3 c4 rfl K ?_
      intro aq1 l7
      refine iF ?_
      refine At.ret K ?_
      refine ⟨(.agg (Qd (Qc .u32) b5).toArray), Bs K (G0 (e := (Qc .u32)) (l := b5) (a := 4) (t := 149) K (SP.get l7 (i := 1) rfl) K K), ?_⟩
      obtain rfl := Qe H
      exact ⟨rfl, SP.sel l7 [] rfl rfl⟩
    ·exact ⟨a1, 0, ⟨K, K, K, K, trivial⟩, SP.sel c1 [0, 2, 3] rfl rfl, H⟩
  ·exact ⟨p1, 0, ⟨K, K, K, K, K, K, trivial⟩, SP.sel h8 [0, 1, 2, 3, 4] rfl rfl, H⟩
def J7 (g : (List Int) → Int → Option ((List UInt8))) (h : (List UInt8) → Int → Option ((List UInt8))) (i : (List Int) → Int → Option ((List UInt8))) (c : (List UInt8) → Int → Option ((List UInt8))) (d : (List Int)) (b : (List UInt8)) (a : Int) : Option ((List UInt8)) :=
  (cond (decide (a < 32)) ((idx d (IntKind.wrap .i64 (Int.tdiv a 4))).bind fun e => ((chk (decide (0 ≤ (IntKind.wrap .i64 (24 - (IntKind.wrap .i64 ((Int.tmod a 4) * 8))))))).bind fun _ => ((idx b a).bind fun j => ((some (List.set b (Int.toNat a) (Bc (IntKind.wrap .u8 (Nm .u32 e (IntKind.wrap .i64 (24 - (IntKind.wrap .i64 ((Int.tmod a 4) * 8))))))))).bind fun f => (c f (IntKind.wrap .i64 (a + 1))))))) (some (b)))
def J8 (a : (List Int) → Int → Option ((List UInt8))) (b : (List UInt8) → Int → Option ((List UInt8))) (c : (List Int) → Int → Option ((List UInt8))) (d : (List Int)) : Nat → (List UInt8) → Int → Option ((List UInt8))
  | 0, _, _ => none
  | f + 1, e, g => J7 a b c (J8 a b c d f) d e g
def J9 (g : (List Int) → Int → Option ((List UInt8))) (h : (List UInt8) → Int → Option ((List UInt8))) (b : (List Int) → Int → Option ((List UInt8))) (i : Int) (c : (List UInt8)) (d : (List Int)) (a : Int) : Option ((List UInt8)) :=
  (cond (decide (a < i)) ((sub c a ((List.length c : Nat) : Int)).bind fun j => ((Gf j).bind fun e => ((chk (Nat.beq (List.length e) 64)).bind fun _ => ((Yy d e).bind fun f => ((chk (Nat.beq (List.length f) 8)).bind fun _ => (b f (IntKind.wrap .i64 (a + 64)))))))) (J8 g h b d Zj (List.replicate 32 (0 : UInt8)) 0))
def Xd (a : (List Int) → Int → Option ((List UInt8))) (b : (List UInt8) → Int → Option ((List UInt8))) (c : Int) (d : (List UInt8)) : Nat → (List Int) → Int → Option ((List UInt8))
  | 0, _, _ => none
  | f + 1, e, g => J9 a b (Xd a b c d f) c d e g
def Ua (e : (List Int) → Int → Option ((List UInt8))) (d : (List UInt8) → Int → Option ((List UInt8))) (p1 : (List UInt8)) (f : (List Int)) (b : Int) (c : (List UInt8)) (a : Int) : Option ((List UInt8)) :=
  (cond (decide (a < 8)) ((chk (decide (0 ≤ (IntKind.wrap .i64 (8 * a))))).bind fun _ => ((idx c (IntKind.wrap .i64 ((IntKind.wrap .i64 (b - 1)) - a))).bind fun h => ((some (List.set c (Int.toNat (IntKind.wrap .i64 ((IntKind.wrap .i64 (b - 1)) - a))) (Bc (IntKind.wrap .u8 (Nm .u64 (IntKind.wrap .u64 ((IntKind.wrap .u64 ((List.length p1 : Nat) : Int)) * 8)) (IntKind.wrap .i64 (8 * a))))))).bind fun g => (d g (IntKind.wrap .i64 (a + 1)))))) (Xd e d b c Zj f 0))
def Vy (a : (List Int) → Int → Option ((List UInt8))) (p1 : (List UInt8)) (b : (List Int)) (c : Int) : Nat → (List UInt8) → Int → Option ((List UInt8))
  | 0, _, _ => none
  | f + 1, d, e => Ua a (Vy a p1 b c f) p1 b c d e
def U1 (a : (List Int) → Int → Option ((List UInt8))) (p1 : (List UInt8)) (b : (List Int)) (c : (List UInt8)) (d : Int) : Option ((List UInt8)) :=
  (Vy a p1 b d Zj c 0)
def Ub (b : (List Int) → Int → Option ((List UInt8))) (p1 : (List UInt8)) (c : (List Int)) (d : Int) : Option ((List UInt8)) :=
  (cond (decide (d < (IntKind.wrap .i64 ((IntKind.wrap .i64 (Int.tdiv ((List.length p1 : Nat) : Int) 64)) * 64)))) ((sub p1 d ((List.length p1 : Nat) : Int)).bind fun i => ((Gf i).bind fun e => ((chk (Nat.beq (List.length e) 64)).bind fun _ => ((Yy c e).bind fun f => ((chk (Nat.beq (List.length f) 8)).bind fun _ => (b f (IntKind.wrap .i64 (d + 64)))))))) ((sub p1 (IntKind.wrap .i64 ((IntKind.wrap .i64 (Int.tdiv ((List.length p1 : Nat) : Int) 64)) * 64)) ((List.length p1 : Nat) : Int)).bind fun a => ((some (cpy (List.replicate 128 (0 : UInt8)) 0 (List.length (List.replicate 128 (0 : UInt8))) a)).bind fun g => ((idx g (min ((List.length a : Nat) : Int) (((List.length (List.replicate 128 (0 : UInt8))) : Nat) : Int))).bind fun j => ((some (List.set g (Int.toNat (min ((List.length a : Nat) : Int) (((List.length (List.replicate 128 (0 : UInt8))) : Nat) : Int))) (128 : UInt8))).bind fun h => (cond (decide ((IntKind.wrap .i64 ((IntKind.wrap .i64 ((min ((List.length a : Nat) : Int) (((List.length (List.replicate 128 (0 : UInt8))) : Nat) : Int)) + 1)) + 8)) > 64)) (U1 b p1 c h 128) (U1 b p1 c h 64)))))))
def Qw (p1 : (List UInt8)) : Nat → (List Int) → Int → Option ((List UInt8))
  | 0, _, _ => none
  | f + 1, a, b => Ub  (Qw p1 f) p1 a b
def Rs (p1 : (List UInt8)) : Option ((List UInt8)) :=
  ((Gq ).bind fun z9 => ((chk (Nat.beq (List.length z9) 8)).bind fun _ => (Qw p1 Zj z9 0)))
theorem B2 (A2 : Option Addr) (c3 : Nat) (p1 : (List UInt8)) (w0 : World) (c5 : RdT eU8 w0 A2 c3 p1) (r : ((List UInt8))) (H : Rs p1 = some r) :
  Calls Tryz.prog 100 #[(.slice A2 (List.length p1) c3)] w0 (fun e w' => e = .returned (.agg (Qd eU8 r).toArray) ∧ SP [] w0 w' []) := by
 unfold Rs at H
 refine Qs (n := 84) Tryz.func100 K K K ?_
 have i1 := Q0 [] w0
 refine aQ ?_
 refine aR ?_
 refine iS 1 ?_
 refine Q4 (e := eU8) (l := (List.replicate 32 (0 : UInt8))) (m := 32) (t := 89) (z := .agg (Qd eU8 (List.replicate 32 (0 : UInt8))).toArray) (d := (some 2)) (k := 0) K rfl K rfl rfl K i1 ?_
 intro g5 w6 i2
 refine iF ?_
 refine aQ ?_
 refine aR ?_
 obtain ⟨z9, i3, H⟩ := Qb H
 obtain ⟨c9, H⟩ := V4 H
 replace c9 := Nat.eq_of_beq_eq_true c9
 refine iS 1 ?_
 refine cF 114 #[] #[] 13 Tryz.call114 (Cp   w6  z9 i3) ?_
 rintro e m5 ⟨rfl, e3⟩
 refine ⟨_, rfl, ?_⟩
 have i4 := SP.call i2 e3
 clear e3
 refine iS 2 ?_
 refine Q4 (e := (Qc .u32)) (l := (List.replicate 8 0)) (m := 8) (t := 149) (z := .agg (Qd (Qc .u32) (List.replicate 8 0)).toArray) (d := (some 3)) (k := 1) K rfl K rfl rfl K i4 ?_
 intro f m6 i5
 refine iS 3 ?_
 refine Vf (e := (Qc .u32)) (l := (List.replicate 8 0)) (l' := z9) (m := 8) (t := 149) (x := (.tmp 3)) (y := (.tmp 13)) (g := f) (i := 1) (d := none) (k := 2) K rfl K K c9 i5 rfl K ?_
 intro m7 i6
 refine iF ?_
 refine aQ ?_
 refine aR ?_
 refine iR 5 5 [(14, (.slice A2 (List.length p1) c3)), (15, (.int .i64 ((List.length p1 : Nat) : Int))), (16, (.int .i64 (IntKind.wrap .i64 (Int.tdiv ((List.length p1 : Nat) : Int) 64)))), (17, (.int .i64 (IntKind.wrap .i64 ((IntKind.wrap .i64 (Int.tdiv ((List.length p1 : Nat) : Int) 64)) * 64)))), (4, (.int .i64 (IntKind.wrap .i64 ((IntKind.wrap .i64 (Int.tdiv ((List.length p1 : Nat) : Int) 64)) * 64))))] ?_
 refine iF ?_
 refine aQ ?_
 refine aQ ?_
 refine aR ?_
 refine iR 1 1 [(5, (.int .i64 0))] ?_
 refine iF ?_
 refine Z1 K (id := 0) K ?_
 refine Nl K (fun a2 ρ w => ∃ (u : (List Int)) (a5 : Int), V6 ρ [(0, (.slice A2 (List.length p1) c3)), (2, (pt g5 0)), (3, (pt f 0)), (4, (.int .i64 (IntKind.wrap .i64 ((IntKind.wrap .i64 (Int.tdiv ((List.length p1 : Nat) : Int) 64)) * 64)))), (5, (.int .i64 a5))] ∧ SP [] w0 w [Vk 89 eU8 g5 32 (List.replicate 32 (0 : UInt8)), Vk 149 (Qc .u32) f 8 u] ∧ Qw p1 a2 u a5 = some r) (by rintro ρ w ⟨u, a5, hk, hs, H⟩; cases H) ?_ Zj ?_
 ·rintro a2 ρ m8 ⟨u, a5, hk, c6, H⟩
  refine At.known [(0, (.slice A2 (List.length p1) c3)), (2, (pt g5 0)), (3, (pt f 0)), (4, (.int .i64 (IntKind.wrap .i64 ((IntKind.wrap .i64 (Int.tdiv ((List.length p1 : Nat) : Int) 64)) * 64)))), (5, (.int .i64 a5))] hk ?_
  replace H := (show Ub (Qw p1 a2) p1 u a5 = some r from H)
  unfold Ub at H
  have m9 := Vc (SP.get c6 (i := 0) rfl)
  have i7 := Vc (SP.get c6 (i := 1) rfl)
  refine aQ ?_
  refine aQ ?_
  refine aR ?_
  refine iR 3 3 [(18, (.int .i64 a5)), (19, (.int .i64 (IntKind.wrap .i64 ((IntKind.wrap .i64 (Int.tdiv ((List.length p1 : Nat) : Int) 64)) * 64)))), (20, (.bool (decide (a5 < (IntKind.wrap .i64 ((IntKind.wrap .i64 (Int.tdiv ((List.length p1 : Nat) : Int) 64)) * 64))))))] ?_
  refine iF ?_
  refine V1 K (o := (.tmp 20)) K (b := (decide (a5 < (IntKind.wrap .i64 ((IntKind.wrap .i64 (Int.tdiv ((List.length p1 : Nat) : Int) 64)) * 64))))) K (fun d0 => ?_) (fun d0 => ?_)
  ·have H := ct H d0
   refine At.skip K ?_
   refine aQ ?_
   refine Z1 K (id := 1) K ?_
   obtain ⟨e4, e5, e6, H⟩ := Dw H
   obtain ⟨d1, hyl8928⟩ : ∃ y, (List.drop (Int.toNat a5) (List.take (Int.toNat ((List.length p1 : Nat) : Int)) p1)) = y := ⟨_, rfl⟩
   rw [hyl8928] at H
   obtain ⟨b5, i8, H⟩ := Qb H
   obtain ⟨d2, H⟩ := V4 H
   replace d2 := Nat.eq_of_beq_eq_true d2
   obtain ⟨b3, i9, H⟩ := Qb H
   obtain ⟨d3, H⟩ := V4 H
   replace d3 := Nat.eq_of_beq_eq_true d3
   refine aG [GEq (.agg (Qd (Qc .u32) u).toArray), GEq (.slice A2 (List.length p1) c3), GEq (.int .i64 a5), GEq (.slice (F2 eU8.sz c3 (Int.toNat a5) A2) (List.length d1) (c3 - Int.toNat a5)), GEq (.agg (Qd (Qc .u32) b5).toArray), GEq (.agg (Qd (Qc .u32) b3).toArray), Ey] [4, 5, 6] [sG [] [] [] w0 [Vk 89 eU8 g5 32 (List.replicate 32 (0 : UInt8)), Vk 149 (Qc .u32) f 8 u], sG [4] [(.agg (Qd (Qc .u32) b5).toArray)] [] w0 [Vk 89 eU8 g5 32 (List.replicate 32 (0 : UInt8)), Vk 149 (Qc .u32) f 8 u], sG [4, 5] [(.agg (Qd (Qc .u32) b5).toArray), (.agg (Qd (Qc .u32) b3).toArray)] [] w0 [Vk 89 eU8 g5 32 (List.replicate 32 (0 : UInt8)), Vk 149 (Qc .u32) f 8 u], sG [4, 5, 6] [(.agg (Qd (Qc .u32) b5).toArray), (.agg (Qd (Qc .u32) b3).toArray), undef] [] w0 [Vk 89 eU8 g5 32 (List.replicate 32 (0 : UInt8)), Vk 149 (Qc .u32) f 8 b3]] 7 3 ⟨trivial, SP.drew c6⟩ ?_ ?_
   iterate 7 refine And.intro ?_ ?_
   exact trivial
   ·refine Owe.light K [0, 1] K (Qf ?_ (Qf ?_ Q8))
    ·rintro ρ' w' hs a3 ⟨n0, j0⟩
     refine kM (kc (kS hs 3 (pt f 0)) k0) fun a1 => ?_
     refine Zu (e := (Qc .u32)) (l := u) (m := 8) (t := 149) (x := (.tmp 3)) (g := f) (i := 1) (d := (some 23)) (k := 0) K rfl K j0 rfl K K ?_
     exact eK a1
    ·rintro ρ' w' hs a3 ⟨⟨n1, -⟩, j1⟩
     refine kM (kc (kS hs 3 (pt f 0)) k0) fun a1 => ?_
     refine Zu (e := (Qc .u32)) (l := u) (m := 8) (t := 149) (x := (.tmp 3)) (g := f) (i := 1) (d := (some 23)) (k := 0) K rfl K j1 rfl K K ?_
     exact eK a1
   ·exact oV (hC (hS 0 (.slice A2 (List.length p1) c3)) (h0)) (.slice A2 (List.length p1) c3)
   ·exact oV (hC (hS 5 (.int .i64 a5)) (h0)) (.int .i64 a5)
   ·refine oL 0 ?_
    ·rintro ρ' w' hs a3 ⟨n2, j2⟩
     refine kM (kc (kA a3 1 24) (kc (kA a3 2 25) k0)) fun a1 => ?_
     refine Cj (e := eU8) (l := p1) (m := d1) (A := A2) (c := c3) (T := 52) (E := 5) (x := (.tmp 24)) (lo := (some (.tmp 25))) (hi := none) (i := a5) (j := ((List.length p1 : Nat) : Int)) (d := (some 26)) (k := 3) K rfl K K K ⟨.i64, K⟩ rfl (RdX.le (RdT.sp c5 j2)) e4 e5 e6 hyl8928 ?_
     exact eK a1
   ·refine oH 0 1 ?_
    ·rintro ρ' w' hs a3 ⟨n3, e7⟩
     refine kM (kc (kA a3 3 26) k0) fun a1 => ?_
     refine cF 116 #[(.tmp 26)] #[52] 27 Tryz.call116 (D6 (F2 eU8.sz c3 (Int.toNat a5) A2) (c3 - Int.toNat a5) d1 w' ((Ia e4 e5 e6 hyl8928) w' (RdT.sp c5 e7)) b5 i8) ?_
     rintro e n4 ⟨rfl, e8⟩
     refine ⟨_, rfl, ?_⟩
     have j3 := SP.call e7 e8
     clear e8
     refine ⟨_, Qa a1, rfl, ?_⟩
     exact (And.intro (And.intro rfl (trivial)) (j3))
   ·refine oH 1 2 ?_
    ·rintro ρ' w' hs a3 ⟨⟨e9, -⟩, j4⟩
     refine kN [(23, (.agg (Qd (Qc .u32) u).toArray)), (27, (.agg (Qd (Qc .u32) b5).toArray))] ⟨a3 0 23 K, (Jd (h := 4) K).symm.trans e9, trivial⟩ fun a1 => ?_
     refine cF 115 #[(.tmp 23), (.tmp 27)] #[149, 135] 28 Tryz.call115 (G3  u b5 w' i7 d2 b3 i9) ?_
     rintro e n5 ⟨rfl, f0⟩
     refine ⟨_, rfl, ?_⟩
     have j5 := SP.call j4 f0
     clear f0
     refine ⟨_, Qa a1, rfl, ?_⟩
     exact (And.intro (And.intro e9 (And.intro rfl (trivial))) (j5))
   ·refine oH 2 3 ?_
    ·rintro ρ' w' hs a3 ⟨⟨j6, f1, -⟩, j7⟩
     refine kN [(3, (pt f 0)), (28, (.agg (Qd (Qc .u32) b3).toArray))] ⟨(hs 3 K).trans K, (Jd (h := 5) K).symm.trans f1, trivial⟩ fun a1 => ?_
     refine Vf (e := (Qc .u32)) (l := u) (l' := b3) (m := 8) (t := 149) (x := (.tmp 3)) (y := (.tmp 28)) (g := f) (i := 1) (d := none) (k := 6) K rfl K K d3 j7 rfl K ?_
     intro n6 j8
     refine ⟨_, Qa a1, trivial, ?_⟩
     exact (And.intro (And.intro j6 (And.intro f1 (And.intro rfl (trivial)))) (j8))
   ·rintro ρ' w' hs hf ⟨⟨n7, n8, n9, -⟩, f2⟩
    refine Q3 [(0, (.slice A2 (List.length p1) c3)), (2, (pt g5 0)), (3, (pt f 0)), (4, (.int .i64 (IntKind.wrap .i64 ((IntKind.wrap .i64 (Int.tdiv ((List.length p1 : Nat) : Int) 64)) * 64)))), (5, (.int .i64 a5))] ⟨(hs 0 K).trans K, (hs 2 K).trans K, (hs 3 K).trans K, (hs 4 K).trans K, (hs 5 K).trans K, trivial⟩ ?_
    obtain ⟨o0, j9⟩ : ∃ x, w' = x := ⟨_, rfl⟩
    rw [j9] at f2 ⊢
    refine aR ?_
    refine iR 3 3 [(21, (.int .i64 a5)), (22, (.int .i64 (IntKind.wrap .i64 (a5 + 64)))), (5, (.int .i64 (IntKind.wrap .i64 (a5 + 64))))] ?_
    refine iF ?_
    exact ⟨b3, (IntKind.wrap .i64 (a5 + 64)), ⟨K, K, K, K, K, trivial⟩, SP.sel f2 [0, 1] rfl rfl, H⟩
  ·have H := cf H d0
   refine At.exit K (id := 0) K ?_
   refine aQ ?_
   refine aR ?_
   refine iS 1 ?_
   refine Q4 (e := eU8) (l := (List.replicate 128 (0 : UInt8))) (m := 128) (t := 152) (z := .agg (Qd eU8 (List.replicate 128 (0 : UInt8))).toArray) (d := (some 6)) (k := 0) K rfl K rfl rfl K c6 ?_
   intro s o1 k1
   refine iF ?_
   refine aQ ?_
   obtain ⟨f3, f4, f5, H⟩ := Dw H
   obtain ⟨a9, hyl9009⟩ : ∃ y, (List.drop (Int.toNat (IntKind.wrap .i64 ((IntKind.wrap .i64 (Int.tdiv ((List.length p1 : Nat) : Int) 64)) * 64))) (List.take (Int.toNat ((List.length p1 : Nat) : Int)) p1)) = y := ⟨_, rfl⟩
   rw [hyl9009] at H
   obtain ⟨b6, hyl9010, H⟩ := Zk H
   have hnl9010 : List.length b6 = List.length (List.replicate 128 (0 : UInt8)) := by rw [← hyl9010]; exact Es (by omega)
   refine aG [GEq (.slice (some ⟨s, 0, none⟩) (List.length (List.replicate 128 (0 : UInt8))) 128), GEq (.slice A2 (List.length p1) c3), GEq (.int .i64 (IntKind.wrap .i64 ((IntKind.wrap .i64 (Int.tdiv ((List.length p1 : Nat) : Int) 64)) * 64))), GEq (.slice (F2 eU8.sz c3 (Int.toNat (IntKind.wrap .i64 ((IntKind.wrap .i64 (Int.tdiv ((List.length p1 : Nat) : Int) 64)) * 64))) A2) (List.length a9) (c3 - Int.toNat (IntKind.wrap .i64 ((IntKind.wrap .i64 (Int.tdiv ((List.length p1 : Nat) : Int) 64)) * 64)))), GEq (.int .i64 (min ((List.length a9 : Nat) : Int) (((List.length (List.replicate 128 (0 : UInt8))) : Nat) : Int))), GEq (.int .i64 (min ((List.length a9 : Nat) : Int) (((List.length (List.replicate 128 (0 : UInt8))) : Nat) : Int)))] [4] [sG [] [] [] w0 [Vk 89 eU8 g5 32 (List.replicate 32 (0 : UInt8)), Vk 149 (Qc .u32) f 8 u, Vk 152 eU8 s 128 (List.replicate 128 (0 : UInt8))], sG [4] [(.int .i64 (min ((List.length a9 : Nat) : Int) (((List.length (List.replicate 128 (0 : UInt8))) : Nat) : Int)))] [] w0 [Vk 89 eU8 g5 32 (List.replicate 32 (0 : UInt8)), Vk 149 (Qc .u32) f 8 u, Vk 152 eU8 s 128 b6]] 6 1 ⟨trivial, SP.drew k1⟩ ?_ ?_
   iterate 6 refine And.intro ?_ ?_
   exact trivial
   ·refine oL 0 ?_
    ·rintro ρ' w' hs a3 ⟨o2, k2⟩
     refine kM (kc (kS hs 6 (pt s 0)) k0) fun a1 => ?_
     refine Uj (e := eU8) (l := (List.replicate 128 (0 : UInt8))) (m := 128) (g := s) (T := 152) (E := 5) (x := (.tmp 6)) (q := 2) (d := (some 29)) (k := 0) K rfl K K K k2 rfl ?_
     exact eK a1
   ·exact oV (hC (hS 0 (.slice A2 (List.length p1) c3)) (h0)) (.slice A2 (List.length p1) c3)
   ·exact oV (hC (hS 4 (.int .i64 (IntKind.wrap .i64 ((IntKind.wrap .i64 (Int.tdiv ((List.length p1 : Nat) : Int) 64)) * 64)))) (h0)) (.int .i64 (IntKind.wrap .i64 ((IntKind.wrap .i64 (Int.tdiv ((List.length p1 : Nat) : Int) 64)) * 64)))
   ·refine oL 0 ?_
    ·rintro ρ' w' hs a3 ⟨o3, k3⟩
     refine kM (kc (kA a3 1 30) (kc (kA a3 2 31) k0)) fun a1 => ?_
     refine Cj (e := eU8) (l := p1) (m := a9) (A := A2) (c := c3) (T := 52) (E := 5) (x := (.tmp 30)) (lo := (some (.tmp 31))) (hi := none) (i := (IntKind.wrap .i64 ((IntKind.wrap .i64 (Int.tdiv ((List.length p1 : Nat) : Int) 64)) * 64))) (j := ((List.length p1 : Nat) : Int)) (d := (some 32)) (k := 3) K rfl K K K ⟨.i64, K⟩ rfl (RdX.le (RdT.sp c5 k3)) f3 f4 f5 hyl9009 ?_
     exact eK a1
   ·refine oH 0 1 ?_
    ·rintro ρ' w' hs a3 ⟨o4, f6⟩
     refine kM (kc (kA a3 0 29) (kc (kA a3 3 32) k0)) fun a1 => ?_
     refine Hd (e := eU8) (l := (List.replicate 128 (0 : UInt8))) (y' := a9) (l' := b6) (m := 128) (g := s) (lo := 0) (dl := (List.length (List.replicate 128 (0 : UInt8)))) (T := 52) (T2 := 52) (E := 5) (x := (.tmp 29)) (y := (.tmp 32)) (i := 2) (A := (some ⟨s, 0, none⟩)) (dc := 128) (A2 := (F2 eU8.sz c3 (Int.toNat (IntKind.wrap .i64 ((IntKind.wrap .i64 (Int.tdiv ((List.length p1 : Nat) : Int) 64)) * 64))) A2)) (c2 := (c3 - Int.toNat (IntKind.wrap .i64 ((IntKind.wrap .i64 (Int.tdiv ((List.length p1 : Nat) : Int) 64)) * 64)))) (d := (some 33)) (k := 4) K rfl K K K K rfl f6 rfl (Kb) (by omega) ((Ia f3 f4 f5 hyl9009) w' (RdT.sp c5 f6)) hyl9010 ?_
     intro k4 f7 _
     have k5 : SP [] w0 k4 [Vk 89 eU8 g5 32 (List.replicate 32 (0 : UInt8)), Vk 149 (Qc .u32) f 8 u, Vk 152 eU8 s 128 b6] := f7
     clear f7
     refine ⟨_, Qa a1, rfl, ?_⟩
     exact (And.intro (And.intro rfl (trivial)) (k5))
   ·exact oV (hC (hA 4 33) (h0)) (.int .i64 (min ((List.length a9 : Nat) : Int) (((List.length (List.replicate 128 (0 : UInt8))) : Nat) : Int)))
   ·rintro ρ' w' hs hf ⟨⟨o5, -⟩, d4⟩
    refine Q3 [(0, (.slice A2 (List.length p1) c3)), (2, (pt g5 0)), (3, (pt f 0)), (6, (pt s 0)), (7, (.int .i64 (min ((List.length a9 : Nat) : Int) (((List.length (List.replicate 128 (0 : UInt8))) : Nat) : Int))))] ⟨(hs 0 K).trans K, (hs 2 K).trans K, (hs 3 K).trans K, (hs 6 K).trans K, hf 5 7 K, trivial⟩ ?_
    obtain ⟨o6, k6⟩ : ∃ x, w' = x := ⟨_, rfl⟩
    rw [k6] at d4 ⊢
    refine aQ ?_
    refine aR ?_
    refine iR 1 1 [(34, (.int .i64 (min ((List.length a9 : Nat) : Int) (((List.length (List.replicate 128 (0 : UInt8))) : Nat) : Int))))] ?_
    obtain ⟨o7, f8, f9, o8, H⟩ := Qo H
    refine iS 2 ?_
    refine Ql (e := eU8) (l := b6) (m := 128) (g := s) (T := 152) (E := 5) (x := (.tmp 6)) (ix := (.tmp 34)) (ki := .i64) (iz := (min ((List.length a9 : Nat) : Int) (((List.length (List.replicate 128 (0 : UInt8))) : Nat) : Int))) (i := 2) (d := (some 35)) (k := 1) K rfl K K K K d4 rfl f8 f9 ?_
    obtain ⟨c7, hyl9035, H⟩ := Zk H
    have hnl9035 : List.length c7 = List.length b6 := by rw [← hyl9035, List.length_set]
    refine iS 3 ?_
    refine Z3 (e := eU8) (t := 5) (x := (.tmp 35)) (y := (.const (.int .u8 (128)))) (l := b6) (iz := (min ((List.length a9 : Nat) : Int) (((List.length (List.replicate 128 (0 : UInt8))) : Nat) : Int))) (m := 128) (g := s) (b := s) (off := 0) (i := 2) (v := (.int .u8 128)) (x' := (128 : UInt8)) (d := none) (k := 2) K rfl rfl K K d4 rfl rfl f9 f8 rfl K ?_
    rw [hyl9035]
    intro o9 g0
    refine In.known [] trivial ?_
    refine iF ?_
    refine aQ ?_
    refine aR ?_
    refine iR 1 1 [(8, (.int .i64 64))] ?_
    refine iF ?_
    refine aQ ?_
    refine aQ ?_
    refine aR ?_
    refine iR 4 4 [(36, (.int .i64 (min ((List.length a9 : Nat) : Int) (((List.length (List.replicate 128 (0 : UInt8))) : Nat) : Int)))), (37, (.int .i64 (IntKind.wrap .i64 ((min ((List.length a9 : Nat) : Int) (((List.length (List.replicate 128 (0 : UInt8))) : Nat) : Int)) + 1)))), (38, (.int .i64 (IntKind.wrap .i64 ((IntKind.wrap .i64 ((min ((List.length a9 : Nat) : Int) (((List.length (List.replicate 128 (0 : UInt8))) : Nat) : Int)) + 1)) + 8)))), (39, (.bool (decide ((IntKind.wrap .i64 ((IntKind.wrap .i64 ((min ((List.length a9 : Nat) : Int) (((List.length (List.replicate 128 (0 : UInt8))) : Nat) : Int)) + 1)) + 8)) > 64))))] ?_
    refine iF ?_
    refine At.join (fun ρ w => ∃ (p : Int), V6 ρ [(0, (.slice A2 (List.length p1) c3)), (2, (pt g5 0)), (3, (pt f 0)), (6, (pt s 0)), (8, (.int .i64 p))] ∧ SP [] w0 w [Vk 89 eU8 g5 32 (List.replicate 32 (0 : UInt8)), Vk 149 (Qc .u32) f 8 u, Vk 152 eU8 s 128 c7] ∧ U1 (Qw p1 a2) p1 u c7 p = some r) ?_ ?_
    ·refine V1 K (o := (.tmp 39)) K (b := (decide ((IntKind.wrap .i64 ((IntKind.wrap .i64 ((min ((List.length a9 : Nat) : Int) (((List.length (List.replicate 128 (0 : UInt8))) : Nat) : Int)) + 1)) + 8)) > 64))) K (fun d5 => ?_) (fun d5 => ?_)
     ·have H := ct H d5
      refine aR ?_
      refine iR 1 1 [(8, (.int .i64 128))] ?_
      refine iF ?_
      exact ⟨128, ⟨K, K, K, K, K, trivial⟩, SP.sel g0 [0, 1, 2] rfl rfl, H⟩
     ·have H := cf H d5
      refine At.skip K ?_
      exact ⟨64, ⟨K, K, K, K, K, trivial⟩, SP.sel g0 [0, 1, 2] rfl rfl, H⟩
    ·rintro ρ p0 ⟨p, hk, c8, H⟩
     unfold U1 at H
     first | refine At.known [(0, (.slice A2 (List.length p1) c3)), (2, (pt g5 0)), (3, (pt f 0)), (6, (pt s 0)), (8, (.int .i64 p))] hk ?_ | rw [← Qv (l := [(0, (.slice A2 (List.length p1) c3)), (2, (pt g5 0)), (3, (pt f 0)), (6, (pt s 0)), (8, (.int .i64 p))]) hk]
     have p2 := Vc (SP.get c8 (i := 0) rfl)
     have p3 := Vc (SP.get c8 (i := 1) rfl)
     have p4 := Vc (SP.get c8 (i := 2) rfl)
     refine aQ ?_
     refine aQ ?_
     refine aR ?_
     refine iR 1 1 [(40, (.int .i64 0))] ?_
     refine iF ?_
     refine Z1 K (id := 2) K ?_
     refine Nl K (fun b0 ρ w => ∃ (a6 : (List UInt8)) (a4 : Int), V6 ρ [(0, (.slice A2 (List.length p1) c3)), (2, (pt g5 0)), (3, (pt f 0)), (6, (pt s 0)), (8, (.int .i64 p)), (40, (.int .i64 a4))] ∧ SP [] w0 w [Vk 89 eU8 g5 32 (List.replicate 32 (0 : UInt8)), Vk 149 (Qc .u32) f 8 u, Vk 152 eU8 s 128 a6] ∧ Vy (Qw p1 a2) p1 u p b0 a6 a4 = some r) (by rintro ρ w ⟨a6, a4, hk, hs, H⟩; cases H) ?_ Zj ?_
     ·rintro b0 ρ p5 ⟨a6, a4, hk, c0, H⟩
      refine At.known [(0, (.slice A2 (List.length p1) c3)), (2, (pt g5 0)), (3, (pt f 0)), (6, (pt s 0)), (8, (.int .i64 p)), (40, (.int .i64 a4))] hk ?_
      replace H := (show Ua (Qw p1 a2) (Vy (Qw p1 a2) p1 u p b0) p1 u p a6 a4 = some r from H)
      unfold Ua at H
      have p6 := Vc (SP.get c0 (i := 0) rfl)
      have p7 := Vc (SP.get c0 (i := 1) rfl)
      have p8 := Vc (SP.get c0 (i := 2) rfl)
      refine aQ ?_
      refine aR ?_
      refine iR 1 1 [(41, (.bool (decide (a4 < 8))))] ?_
      refine iF ?_
      refine aQ ?_
      refine V1 K (o := (.tmp 41)) K (b := (decide (a4 < 8))) K (fun d6 => ?_) (fun d6 => ?_)
      ·have H := ct H d6
       refine At.skip K ?_
       refine aQ ?_
       refine Z1 K (id := 3) K ?_
       refine aQ ?_
       refine aR ?_
       refine iR 2 2 [(42, (.int .i64 a4)), (9, (.int .i64 a4))] ?_
       refine iF ?_
       refine aR ?_
       refine iR 10 10 [(43, (.int .i64 p)), (44, (.int .i64 (IntKind.wrap .i64 (p - 1)))), (45, (.int .i64 a4)), (46, (.int .i64 (IntKind.wrap .i64 ((IntKind.wrap .i64 (p - 1)) - a4)))), (47, (.slice A2 (List.length p1) c3)), (48, (.int .i64 ((List.length p1 : Nat) : Int))), (49, (.int .u64 (IntKind.wrap .u64 ((List.length p1 : Nat) : Int)))), (50, (.int .u64 (IntKind.wrap .u64 ((IntKind.wrap .u64 ((List.length p1 : Nat) : Int)) * 8)))), (51, (.int .i64 a4)), (52, (.int .i64 (IntKind.wrap .i64 (8 * a4))))] ?_
       obtain ⟨hl11181, H⟩ := V4 H
       refine iS 11 ?_
       refine Qi.shift (op := .shr) (T := 153) (T' := 3) (x := (.tmp 50)) (y := (.tmp 52)) (kx := .u64) (ky := .i64) (a := (IntKind.wrap .u64 ((IntKind.wrap .u64 ((List.length p1 : Nat) : Int)) * 8))) (b := (IntKind.wrap .i64 (8 * a4))) (v := (.int .u64 (Nm .u64 (IntKind.wrap .u64 ((IntKind.wrap .u64 ((List.length p1 : Nat) : Int)) * 8)) (IntKind.wrap .i64 (8 * a4))))) (d := (some 53)) (k := 10) K rfl K K (of_decide_eq_true hl11181) rfl ?_
       refine iR 1 12 [(54, (.int .u8 (IntKind.wrap .u8 (Nm .u64 (IntKind.wrap .u64 ((IntKind.wrap .u64 ((List.length p1 : Nat) : Int)) * 8)) (IntKind.wrap .i64 (8 * a4))))))] ?_
       obtain ⟨p9, g1, g2, q0, H⟩ := Qo H
       refine iS 13 ?_
       refine Ql (e := eU8) (l := a6) (m := 128) (g := s) (T := 152) (E := 5) (x := (.tmp 6)) (ix := (.tmp 46)) (ki := .i64) (iz := (IntKind.wrap .i64 ((IntKind.wrap .i64 (p - 1)) - a4))) (i := 2) (d := (some 55)) (k := 12) K rfl K K K K c0 rfl g1 g2 ?_
       obtain ⟨g3, hyl11186, H⟩ := Zk H
       have hnl11186 : List.length g3 = List.length a6 := by rw [← hyl11186, List.length_set]
       refine iS 14 ?_
       refine Z3 (e := eU8) (t := 5) (x := (.tmp 55)) (y := (.tmp 54)) (l := a6) (iz := (IntKind.wrap .i64 ((IntKind.wrap .i64 (p - 1)) - a4))) (m := 128) (g := s) (b := s) (off := 0) (i := 2) (v := (.int .u8 (IntKind.wrap .u8 (Nm .u64 (IntKind.wrap .u64 ((IntKind.wrap .u64 ((List.length p1 : Nat) : Int)) * 8)) (IntKind.wrap .i64 (8 * a4)))))) (x' := (Bc (IntKind.wrap .u8 (Nm .u64 (IntKind.wrap .u64 ((IntKind.wrap .u64 ((List.length p1 : Nat) : Int)) * 8)) (IntKind.wrap .i64 (8 * a4)))))) (d := none) (k := 13) K rfl rfl K K c0 rfl rfl g2 g1 (by show [Value.int .u8 (((Bc (IntKind.wrap .u8 (Nm .u64 (IntKind.wrap .u64 ((IntKind.wrap .u64 ((List.length p1 : Nat) : Int)) * 8)) (IntKind.wrap .i64 (8 * a4)))))).toNat : Int)] = _; rw [D5 (Ec _)]) K ?_
       rw [hyl11186]
       intro q1 k7
       refine In.known [] trivial ?_
       refine iF ?_
       refine aR ?_
       refine iR 2 2 [(56, (.int .i64 (IntKind.wrap .i64 (a4 + 1)))), (40, (.int .i64 (IntKind.wrap .i64 (a4 + 1))))] ?_
       refine iF ?_
       exact ⟨g3, (IntKind.wrap .i64 (a4 + 1)), ⟨K, K, K, K, K, K, trivial⟩, SP.sel k7 [0, 1, 2] rfl rfl, H⟩
      ·have H := cf H d6
       refine At.exit K (id := 2) K ?_
       refine aQ ?_
       refine aQ ?_
       refine aR ?_
       refine iR 1 1 [(10, (.int .i64 0))] ?_
       refine iF ?_
       refine Z1 K (id := 4) K ?_
       refine Nl K (fun c1 ρ w => ∃ (a8 : (List Int)) (a7 : Int), V6 ρ [(2, (pt g5 0)), (3, (pt f 0)), (6, (pt s 0)), (8, (.int .i64 p)), (10, (.int .i64 a7))] ∧ SP [] w0 w [Vk 89 eU8 g5 32 (List.replicate 32 (0 : UInt8)), Vk 149 (Qc .u32) f 8 a8, Vk 152 eU8 s 128 a6] ∧ Xd (Qw p1 a2) (Vy (Qw p1 a2) p1 u p b0) p a6 c1 a8 a7 = some r) (by rintro ρ w ⟨a8, a7, hk, hs, H⟩; cases H) ?_ Zj ?_
       ·rintro c1 ρ q2 ⟨a8, a7, hk, c4, H⟩
        refine At.known [(2, (pt g5 0)), (3, (pt f 0)), (6, (pt s 0)), (8, (.int .i64 p)), (10, (.int .i64 a7))] hk ?_
        replace H := (show J9 (Qw p1 a2) (Vy (Qw p1 a2) p1 u p b0) (Xd (Qw p1 a2) (Vy (Qw p1 a2) p1 u p b0) p a6 c1) p a6 a8 a7 = some r from H)
        unfold J9 at H
        have q3 := Vc (SP.get c4 (i := 0) rfl)
        have k8 := Vc (SP.get c4 (i := 1) rfl)
        have q4 := Vc (SP.get c4 (i := 2) rfl)
        refine aQ ?_
        refine aQ ?_
        refine aR ?_
        refine iR 3 3 [(57, (.int .i64 a7)), (58, (.int .i64 p)), (59, (.bool (decide (a7 < p))))] ?_
        refine iF ?_
        refine V1 K (o := (.tmp 59)) K (b := (decide (a7 < p))) K (fun d7 => ?_) (fun d7 => ?_)
        ·have H := ct H d7
         refine At.skip K ?_
         refine aQ ?_
         refine Z1 K (id := 5) K ?_
         obtain ⟨g4, g6, g7, H⟩ := Dw H
         obtain ⟨d8, hyl11720⟩ : ∃ y, (List.drop (Int.toNat a7) (List.take (Int.toNat ((List.length a6 : Nat) : Int)) a6)) = y := ⟨_, rfl⟩
         rw [hyl11720] at H
         obtain ⟨b7, k9, H⟩ := Qb H
         obtain ⟨d9, H⟩ := V4 H
         replace d9 := Nat.eq_of_beq_eq_true d9
         obtain ⟨b4, l0, H⟩ := Qb H
         obtain ⟨e0, H⟩ := V4 H
         replace e0 := Nat.eq_of_beq_eq_true e0
         refine aG [GEq (.agg (Qd (Qc .u32) a8).toArray), GEq (.int .i64 a7), GEq (.slice (F2 eU8.sz 128 (Int.toNat a7) (some ⟨s, 0, none⟩)) (List.length d8) (128 - Int.toNat a7)), GEq (.agg (Qd (Qc .u32) b7).toArray), GEq (.agg (Qd (Qc .u32) b4).toArray), Ey] [3, 4, 5] [sG [] [] [] w0 [Vk 89 eU8 g5 32 (List.replicate 32 (0 : UInt8)), Vk 149 (Qc .u32) f 8 a8, Vk 152 eU8 s 128 a6], sG [3] [(.agg (Qd (Qc .u32) b7).toArray)] [] w0 [Vk 89 eU8 g5 32 (List.replicate 32 (0 : UInt8)), Vk 149 (Qc .u32) f 8 a8, Vk 152 eU8 s 128 a6], sG [3, 4] [(.agg (Qd (Qc .u32) b7).toArray), (.agg (Qd (Qc .u32) b4).toArray)] [] w0 [Vk 89 eU8 g5 32 (List.replicate 32 (0 : UInt8)), Vk 149 (Qc .u32) f 8 a8, Vk 152 eU8 s 128 a6], sG [3, 4, 5] [(.agg (Qd (Qc .u32) b7).toArray), (.agg (Qd (Qc .u32) b4).toArray), undef] [] w0 [Vk 89 eU8 g5 32 (List.replicate 32 (0 : UInt8)), Vk 149 (Qc .u32) f 8 b4, Vk 152 eU8 s 128 a6]] 6 3 ⟨trivial, SP.drew c4⟩ ?_ ?_
         iterate 6 refine And.intro ?_ ?_
         exact trivial
         ·refine Owe.light K [0, 1] K (Qf ?_ (Qf ?_ Q8))
          ·rintro ρ' w' hs a3 ⟨q5, l1⟩
           refine kM (kc (kS hs 3 (pt f 0)) k0) fun a1 => ?_
           refine Zu (e := (Qc .u32)) (l := a8) (m := 8) (t := 149) (x := (.tmp 3)) (g := f) (i := 1) (d := (some 62)) (k := 0) K rfl K l1 rfl K K ?_
           exact eK a1
          ·rintro ρ' w' hs a3 ⟨⟨q6, -⟩, l2⟩
           refine kM (kc (kS hs 3 (pt f 0)) k0) fun a1 => ?_
           refine Zu (e := (Qc .u32)) (l := a8) (m := 8) (t := 149) (x := (.tmp 3)) (g := f) (i := 1) (d := (some 62)) (k := 0) K rfl K l2 rfl K K ?_
           exact eK a1
         ·exact oV (hC (hS 10 (.int .i64 a7)) (h0)) (.int .i64 a7)
         ·refine oL 0 ?_
          ·rintro ρ' w' hs a3 ⟨q7, l3⟩
           refine kM (kc (kS hs 6 (pt s 0)) (kc (kA a3 1 63) k0)) fun a1 => ?_
           refine Co (e := eU8) (l := a6) (l' := d8) (m := 128) (g := s) (T := 152) (E := 5) (x := (.tmp 6)) (lo := (some (.tmp 63))) (hi := none) (i := a7) (j := ((List.length a6 : Nat) : Int)) (q := 2) (d := (some 64)) (k := 2) K rfl K K K ⟨.i64, K⟩ rfl l3 rfl g4 g6 g7 hyl11720 ?_
           exact eK a1
         ·refine oH 0 1 ?_
          ·rintro ρ' w' hs a3 ⟨q8, g8⟩
           refine kM (kc (kA a3 2 64) k0) fun a1 => ?_
           refine cF 116 #[(.tmp 64)] #[52] 65 Tryz.call116 (D6 (F2 eU8.sz 128 (Int.toNat a7) (some ⟨s, 0, none⟩)) (128 - Int.toNat a7) d8 w' ((Ia g4 g6 g7 hyl11720) w' (Qy (SP.get g8 (i := 2) rfl))) b7 k9) ?_
           rintro e q9 ⟨rfl, g9⟩
           refine ⟨_, rfl, ?_⟩
           have l4 := SP.call g8 g9
           clear g9
           refine ⟨_, Qa a1, rfl, ?_⟩
           exact (And.intro (And.intro rfl (trivial)) (l4))
         ·refine oH 1 2 ?_
          ·rintro ρ' w' hs a3 ⟨⟨h1, -⟩, l5⟩
           refine kN [(62, (.agg (Qd (Qc .u32) a8).toArray)), (65, (.agg (Qd (Qc .u32) b7).toArray))] ⟨a3 0 62 K, (Jd (h := 3) K).symm.trans h1, trivial⟩ fun a1 => ?_
           refine cF 115 #[(.tmp 62), (.tmp 65)] #[149, 135] 66 Tryz.call115 (G3  a8 b7 w' k8 d9 b4 l0) ?_
           rintro e r0 ⟨rfl, h2⟩
           refine ⟨_, rfl, ?_⟩
           have l6 := SP.call l5 h2
           clear h2
           refine ⟨_, Qa a1, rfl, ?_⟩
           exact (And.intro (And.intro h1 (And.intro rfl (trivial))) (l6))
         ·refine oH 2 3 ?_
          ·rintro ρ' w' hs a3 ⟨⟨l7, h3, -⟩, l8⟩
           refine kN [(3, (pt f 0)), (66, (.agg (Qd (Qc .u32) b4).toArray))] ⟨(hs 3 K).trans K, (Jd (h := 4) K).symm.trans h3, trivial⟩ fun a1 => ?_
           refine Vf (e := (Qc .u32)) (l := a8) (l' := b4) (m := 8) (t := 149) (x := (.tmp 3)) (y := (.tmp 66)) (g := f) (i := 1) (d := none) (k := 5) K rfl K K e0 l8 rfl K ?_
           intro r1 l9
           refine ⟨_, Qa a1, trivial, ?_⟩
           exact (And.intro (And.intro l7 (And.intro h3 (And.intro rfl (trivial)))) (l9))
         ·rintro ρ' w' hs hf ⟨⟨r2, r3, r4, -⟩, h4⟩
          refine Q3 [(2, (pt g5 0)), (3, (pt f 0)), (6, (pt s 0)), (8, (.int .i64 p)), (10, (.int .i64 a7))] ⟨(hs 2 K).trans K, (hs 3 K).trans K, (hs 6 K).trans K, (hs 8 K).trans K, (hs 10 K).trans K, trivial⟩ ?_
          obtain ⟨r5, m0⟩ : ∃ x, w' = x := ⟨_, rfl⟩
          rw [m0] at h4 ⊢
          refine aR ?_
          refine iR 3 3 [(60, (.int .i64 a7)), (61, (.int .i64 (IntKind.wrap .i64 (a7 + 64)))), (10, (.int .i64 (IntKind.wrap .i64 (a7 + 64))))] ?_
          refine iF ?_
          exact ⟨b4, (IntKind.wrap .i64 (a7 + 64)), ⟨K, K, K, K, K, trivial⟩, SP.sel h4 [0, 1, 2] rfl rfl, H⟩
        ·have H := cf H d7
         refine At.exit K (id := 4) K ?_
         refine aQ ?_
         refine aR ?_
         refine iS 1 ?_
         refine Q4 (e := eU8) (l := (List.replicate 32 (0 : UInt8))) (m := 32) (t := 89) (z := .agg (Qd eU8 (List.replicate 32 (0 : UInt8))).toArray) (d := (some 11)) (k := 0) K rfl K rfl rfl K c4 ?_
         intro b8 r6 m1
         refine iF ?_
         refine aQ ?_
         refine aQ ?_
         refine aR ?_
         refine iR 1 1 [(67, (.int .i64 0))] ?_
         refine iF ?_
         refine Z1 K (id := 6) K ?_
         refine Nl K (fun e1 ρ w => ∃ (b1 : (List UInt8)) (a0 : Int), V6 ρ [(2, (pt g5 0)), (3, (pt f 0)), (11, (pt b8 0)), (67, (.int .i64 a0))] ∧ SP [] w0 w [Vk 89 eU8 g5 32 (List.replicate 32 (0 : UInt8)), Vk 149 (Qc .u32) f 8 a8, Vk 89 eU8 b8 32 b1] ∧ J8 (Qw p1 a2) (Vy (Qw p1 a2) p1 u p b0) (Xd (Qw p1 a2) (Vy (Qw p1 a2) p1 u p b0) p a6 c1) a8 e1 b1 a0 = some r) (by rintro ρ w ⟨b1, a0, hk, hs, H⟩; cases H) ?_ Zj ?_
         ·rintro e1 ρ r7 ⟨b1, a0, hk, b2, H⟩
          refine At.known [(2, (pt g5 0)), (3, (pt f 0)), (11, (pt b8 0)), (67, (.int .i64 a0))] hk ?_
          replace H := (show J7 (Qw p1 a2) (Vy (Qw p1 a2) p1 u p b0) (Xd (Qw p1 a2) (Vy (Qw p1 a2) p1 u p b0) p a6 c1) (J8 (Qw p1 a2) (Vy (Qw p1 a2) p1 u p b0) (Xd (Qw p1 a2) (Vy (Qw p1 a2) p1 u p b0) p a6 c1) a8 e1) a8 b1 a0 = some r from H)
          unfold J7 at H
          have r8 := Vc (SP.get b2 (i := 0) rfl)
          have r9 := Vc (SP.get b2 (i := 1) rfl)
          have m2 := Vc (SP.get b2 (i := 2) rfl)
          refine aQ ?_
          refine aR ?_
          refine iR 1 1 [(68, (.bool (decide (a0 < 32))))] ?_
          refine iF ?_
          refine aQ ?_
          refine V1 K (o := (.tmp 68)) K (b := (decide (a0 < 32))) K (fun e2 => ?_) (fun e2 => ?_)
          ·have H := ct H e2
           refine At.skip K ?_
           refine aQ ?_
           refine Z1 K (id := 7) K ?_
           refine aQ ?_
           refine aR ?_
           refine iR 2 2 [(69, (.int .i64 a0)), (12, (.int .i64 a0))] ?_
           refine iF ?_
           refine aR ?_
           refine iR 3 3 [(70, (.int .i64 a0)), (71, (.int .i64 a0)), (72, (.int .i64 (IntKind.wrap .i64 (Int.tdiv a0 4))))] ?_
           obtain ⟨b9, h5, h6, m3, H⟩ := Qo H
           refine iS 4 ?_
           refine Ql (e := (Qc .u32)) (l := a8) (m := 8) (g := f) (T := 149) (E := 111) (x := (.tmp 3)) (ix := (.tmp 72)) (ki := .i64) (iz := (IntKind.wrap .i64 (Int.tdiv a0 4))) (i := 1) (d := (some 73)) (k := 3) K rfl K K K K b2 rfl h5 h6 ?_
           refine iS 5 ?_
           refine sC 111 73 f (0 + Int.toNat (IntKind.wrap .i64 (Int.tdiv a0 4)) * (Qc .u32).sz) (.int .u32 b9) 74 (Qk (e := (Qc .u32)) (Qh (Qy (SP.get b2 (i := 1) rfl)) rfl h5 h6) m3 (j := 0) rfl) ?_
           refine iR 4 9 [(75, (.int .i64 a0)), (76, (.int .i64 (Int.tmod a0 4))), (77, (.int .i64 (IntKind.wrap .i64 ((Int.tmod a0 4) * 8)))), (78, (.int .i64 (IntKind.wrap .i64 (24 - (IntKind.wrap .i64 ((Int.tmod a0 4) * 8))))))] ?_
           obtain ⟨hl11873, H⟩ := V4 H
           refine iS 10 ?_
           refine Qi.shift (op := .shr) (T := 111) (T' := 3) (x := (.tmp 74)) (y := (.tmp 78)) (kx := .u32) (ky := .i64) (a := b9) (b := (IntKind.wrap .i64 (24 - (IntKind.wrap .i64 ((Int.tmod a0 4) * 8))))) (v := (.int .u32 (Nm .u32 b9 (IntKind.wrap .i64 (24 - (IntKind.wrap .i64 ((Int.tmod a0 4) * 8))))))) (d := (some 79)) (k := 9) K rfl K K (of_decide_eq_true hl11873) rfl ?_
           refine iR 1 11 [(80, (.int .u8 (IntKind.wrap .u8 (Nm .u32 b9 (IntKind.wrap .i64 (24 - (IntKind.wrap .i64 ((Int.tmod a0 4) * 8))))))))] ?_
           obtain ⟨s0, h7, h8, s1, H⟩ := Qo H
           refine iS 12 ?_
           refine Ql (e := eU8) (l := b1) (m := 32) (g := b8) (T := 89) (E := 5) (x := (.tmp 11)) (ix := (.tmp 70)) (ki := .i64) (iz := a0) (i := 2) (d := (some 81)) (k := 11) K rfl K K K K b2 rfl h7 h8 ?_
           obtain ⟨h9, hyl11878, H⟩ := Zk H
           have hnl11878 : List.length h9 = List.length b1 := by rw [← hyl11878, List.length_set]
           refine iS 13 ?_
           refine Z3 (e := eU8) (t := 5) (x := (.tmp 81)) (y := (.tmp 80)) (l := b1) (iz := a0) (m := 32) (g := b8) (b := b8) (off := 0) (i := 2) (v := (.int .u8 (IntKind.wrap .u8 (Nm .u32 b9 (IntKind.wrap .i64 (24 - (IntKind.wrap .i64 ((Int.tmod a0 4) * 8)))))))) (x' := (Bc (IntKind.wrap .u8 (Nm .u32 b9 (IntKind.wrap .i64 (24 - (IntKind.wrap .i64 ((Int.tmod a0 4) * 8)))))))) (d := none) (k := 12) K rfl rfl K K b2 rfl rfl h8 h7 (by show [Value.int .u8 (((Bc (IntKind.wrap .u8 (Nm .u32 b9 (IntKind.wrap .i64 (24 - (IntKind.wrap .i64 ((Int.tmod a0 4) * 8)))))))).toNat : Int)] = _; rw [D5 (Ec _)]) K ?_
           rw [hyl11878]
           intro s2 m4
           refine In.known [] trivial ?_
           refine iF ?_
           refine aR ?_
           refine iR 2 2 [(82, (.int .i64 (IntKind.wrap .i64 (a0 + 1)))), (67, (.int .i64 (IntKind.wrap .i64 (a0 + 1))))] ?_
           refine iF ?_
           exact ⟨h9, (IntKind.wrap .i64 (a0 + 1)), ⟨K, K, K, K, trivial⟩, SP.sel m4 [0, 1, 2] rfl rfl, H⟩
          ·have H := cf H e2
           refine At.exit K (id := 6) K ?_
           refine aQ ?_
           refine aR ?_
           refine iS 1 ?_
           refine Zu (e := eU8) (l := b1) (m := 32) (t := 89) (x := (.tmp 11)) (g := b8) (i := 2) (d := (some 83)) (k := 0) K rfl K b2 rfl K K ?_
           refine iS 2 ?_
           refine Vf (e := eU8) (l := (List.replicate 32 (0 : UInt8))) (l' := b1) (m := 32) (t := 89) (x := (.tmp 2)) (y := (.tmp 83)) (g := g5) (i := 0) (d := none) (k := 1) K rfl K K m2 b2 rfl K ?_
           intro s3 i0
           refine iF ?_
           refine At.ret K ?_
           refine ⟨(.agg (Qd eU8 b1).toArray), Bs K (G0 (e := eU8) (l := b1) (a := 2) (t := 89) K (SP.get i0 (i := 0) rfl) K K), ?_⟩
           obtain rfl := Qe H
           exact ⟨rfl, SP.sel i0 [] rfl rfl⟩
         ·exact ⟨(List.replicate 32 (0 : UInt8)), 0, ⟨K, K, K, K, trivial⟩, SP.sel m1 [0, 1, 3] rfl rfl, H⟩
       ·exact ⟨u, 0, ⟨K, K, K, K, K, trivial⟩, SP.sel c0 [0, 1, 2] rfl rfl, H⟩
     ·exact ⟨c7, 0, ⟨K, K, K, K, K, K, trivial⟩, SP.sel c8 [0, 1, 2] rfl rfl, H⟩
 ·exact ⟨z9, 0, ⟨K, K, K, K, K, trivial⟩, SP.sel i6 [0, 1] rfl rfl, H⟩
def Us (e : (List UInt8) → Int → Option ((List UInt8))) (p1 : (List UInt8)) (b : (List UInt8)) (a : Int) : Option ((List UInt8)) :=
  (cond (decide (a < ((List.length p1 : Nat) : Int))) ((idx p1 a).bind fun c => ((idx ([48, 49, 50, 51, 52, 53, 54, 55, 56, 57, 97, 98, 99, 100, 101, 102] : List UInt8) (Nm .u8 ((c).toNat : Int) 4)).bind fun f => ((idx ([48, 49, 50, 51, 52, 53, 54, 55, 56, 57, 97, 98, 99, 100, 101, 102] : List UInt8) (Zt .u8 ((c).toNat : Int) 15)).bind fun g => ((idx b (IntKind.wrap .i64 (2 * a))).bind fun i => ((some (List.set b (Int.toNat (IntKind.wrap .i64 (2 * a))) f)).bind fun d => ((idx d (IntKind.wrap .i64 ((IntKind.wrap .i64 (2 * a)) + 1))).bind fun j => ((some (List.set d (Int.toNat (IntKind.wrap .i64 ((IntKind.wrap .i64 (2 * a)) + 1))) g)).bind fun h => (e h (IntKind.wrap .i64 (a + 1)))))))))) (some (b)))
def Ut (p1 : (List UInt8)) : Nat → (List UInt8) → Int → Option ((List UInt8))
  | 0, _, _ => none
  | f + 1, a, b => Us  (Ut p1 f) p1 a b
def Dm (p1 : (List UInt8)) : Option ((List UInt8)) :=
  ((chk (decide (0 ≤ (IntKind.wrap .i64 (2 * ((List.length p1 : Nat) : Int))) ∧ (IntKind.wrap .i64 (2 * ((List.length p1 : Nat) : Int))) ≤ 2147483648))).bind fun _ => ((some (List.replicate (Int.toNat (IntKind.wrap .i64 (2 * ((List.length p1 : Nat) : Int)))) ((0 : UInt8) : UInt8))).bind fun l5 => (Ut p1 Zj l5 0)))
theorem He (A2 : Option Addr) (c3 : Nat) (p1 : (List UInt8)) (w0 : World) (a7 : RdT eU8 w0 A2 c3 p1) (r : ((List UInt8))) (H : Dm p1 = some r) :
  Calls Tryz.prog 71 #[(.slice A2 (List.length p1) c3)] w0 (fun e w' => e = .returned (.string ⟨List.toArray r⟩) ∧ SP [] w0 w' []) := by
 unfold Dm at H
 refine Qs (n := 35) Tryz.func71 K K K ?_
 have b8 := Q0 [] w0
 refine aQ ?_
 refine aR ?_
 refine iR 1 1 [(2, (.string ⟨List.toArray ([] : List UInt8)⟩))] ?_
 refine iF ?_
 refine aQ ?_
 refine aR ?_
 refine iR 3 3 [(6, (.slice A2 (List.length p1) c3)), (7, (.int .i64 ((List.length p1 : Nat) : Int))), (8, (.int .i64 (IntKind.wrap .i64 (2 * ((List.length p1 : Nat) : Int)))))] ?_
 obtain ⟨hl6, H⟩ := V4 H
 obtain ⟨l5, hyl5, H⟩ := Zk H
 refine iS 4 ?_
 refine Qi.make (e := eU8) (l' := l5) (z := (0 : UInt8)) (v := (.int .u8 0)) (b := 1) (T := 52) (E := 5) (x := (.tmp 8)) (y := (.tmp 8)) (k1 := .i64) (k2 := .i64) (iz := (IntKind.wrap .i64 (2 * ((List.length p1 : Nat) : Int)))) (d := (some 9)) (k := 3) K rfl K K K K K rfl rfl rfl hl6 b8 hyl5 ?_
 intro g7 w8 a8 f0
 have b9 : SP [] w0 w8 [Yc 5 eU8 (some ⟨g7, 0, none⟩) (Int.toNat (IntKind.wrap .i64 (2 * ((List.length p1 : Nat) : Int)))) l5] := a8
 clear a8
 refine iR 1 5 [(3, (.slice (some ⟨g7, 0, none⟩) (List.length l5) (Int.toNat (IntKind.wrap .i64 (2 * ((List.length p1 : Nat) : Int))))))] ?_
 refine iF ?_
 refine aQ ?_
 refine aQ ?_
 refine aR ?_
 refine iR 3 3 [(10, (.slice A2 (List.length p1) c3)), (11, (.int .i64 ((List.length p1 : Nat) : Int))), (12, (.int .i64 0))] ?_
 refine iF ?_
 refine Z1 K (id := 0) K ?_
 refine Nl K (fun f1 ρ w => ∃ (m : (List UInt8)) (f : Int) (g : Option Addr) (h : Nat), V6 ρ [(3, (.slice g (List.length m) h)), (10, (.slice A2 (List.length p1) c3)), (11, (.int .i64 ((List.length p1 : Nat) : Int))), (12, (.int .i64 f))] ∧ SP [] w0 w [Yc 5 eU8 g h m] ∧ Ut p1 f1 m f = some r) (by rintro ρ w ⟨m, f, g, h, hk, hs, H⟩; cases H) ?_ Zj ?_
 ·rintro f1 ρ f2 ⟨m, f, g, h, hk, a1, H⟩
  refine At.known [(3, (.slice g (List.length m) h)), (10, (.slice A2 (List.length p1) c3)), (11, (.int .i64 ((List.length p1 : Nat) : Int))), (12, (.int .i64 f))] hk ?_
  replace H := (show Us (Ut p1 f1) p1 m f = some r from H)
  unfold Us at H
  refine aQ ?_
  refine aR ?_
  refine iR 1 1 [(13, (.bool (decide (f < ((List.length p1 : Nat) : Int)))))] ?_
  refine iF ?_
  refine aQ ?_
  refine V1 K (o := (.tmp 13)) K (b := (decide (f < ((List.length p1 : Nat) : Int)))) K (fun a5 => ?_) (fun a5 => ?_)
  ·have H := ct H a5
   refine At.skip K ?_
   refine aQ ?_
   refine Z1 K (id := 1) K ?_
   refine aQ ?_
   refine aR ?_
   refine iR 1 1 [(14, (.int .i64 f))] ?_
   obtain ⟨q, a9, b0, c0, H⟩ := Qo H
   refine iS 2 ?_
   refine Vi (e := eU8) (l := p1) (A := A2) (c := c3) (T := 52) (E := 5) (x := (.tmp 10)) (ix := (.tmp 12)) (ki := .i64) (iz := f) (d := (some 15)) (k := 1) K rfl K K K K (RdT.sp a7 a1) a9 b0 ?_
   intro c1 c2 c4 f3 hc321
   refine iS 3 ?_
   refine sC 5 15 c1 (c2 + Int.toNat f * eU8.sz) (.int .u8 ((q).toNat : Int)) 16 (Qk (e := eU8) (Qh (RdT.sp a7 a1) c4 a9 b0) c0 (j := 0) rfl) ?_
   refine iR 2 5 [(4, (.int .i64 f)), (5, (.int .u8 ((q).toNat : Int)))] ?_
   refine iF ?_
   obtain ⟨a4, c5, f4, c6, H⟩ := Qo H
   obtain ⟨a2, b1, f5, b2, H⟩ := Qo H
   obtain ⟨f6, b3, b4, f7, H⟩ := Qo H
   obtain ⟨a0, hyl341, H⟩ := Zk H
   have hnl341 : List.length a0 = List.length m := by rw [← hyl341, List.length_set]
   obtain ⟨f8, b5, b6, f9, H⟩ := Qo H
   obtain ⟨a3, hyl354, H⟩ := Zk H
   have hnl354 : List.length a3 = List.length a0 := by rw [← hyl354, List.length_set]
   refine aG [GEq (.slice g (List.length m) h), GEq (.int .i64 f), GEq (.int .i64 (IntKind.wrap .i64 (2 * f))), GEq (.slice g (List.length m) h), GEq (.int .i64 f), GEq (.int .i64 (IntKind.wrap .i64 (2 * f))), GEq (.int .i64 (IntKind.wrap .i64 ((IntKind.wrap .i64 (2 * f)) + 1))), GEq (.int .u8 ((q).toNat : Int)), GEq (.int .u8 (Nm .u8 ((q).toNat : Int) 4)), GEq (.int .u8 ((a4).toNat : Int)), GEq (.int .u8 ((q).toNat : Int)), GEq (.int .u8 (Zt .u8 ((q).toNat : Int) 15)), GEq (.int .u8 ((a2).toNat : Int)), Vr g eU8.sz (IntKind.wrap .i64 (2 * f)), Ey, Vr g eU8.sz (IntKind.wrap .i64 ((IntKind.wrap .i64 (2 * f)) + 1)), Ey] [14, 16] [sG [] [] [] w0 [Yc 5 eU8 g h m], sG [14] [undef] [] w0 [Yc 5 eU8 g h a0], sG [14, 16] [undef, undef] [] w0 [Yc 5 eU8 g h a3]] 17 2 ⟨trivial, SP.drew a1⟩ ?_ ?_
   iterate 17 refine And.intro ?_ ?_
   exact trivial
   ·exact oV (hC (hS 3 (.slice g (List.length m) h)) (h0)) (.slice g (List.length m) h)
   ·exact oV (hC (hS 4 (.int .i64 f)) (h0)) (.int .i64 f)
   ·exact oV (hC (hA 1 18) (h0)) (.int .i64 (IntKind.wrap .i64 (2 * f)))
   ·exact oV (hC (hS 3 (.slice g (List.length m) h)) (h0)) (.slice g (List.length m) h)
   ·exact oV (hC (hS 4 (.int .i64 f)) (h0)) (.int .i64 f)
   ·exact oV (hC (hA 4 21) (h0)) (.int .i64 (IntKind.wrap .i64 (2 * f)))
   ·exact oV (hC (hA 5 22) (h0)) (.int .i64 (IntKind.wrap .i64 ((IntKind.wrap .i64 (2 * f)) + 1)))
   ·exact oV (hC (hS 5 (.int .u8 ((q).toNat : Int))) (h0)) (.int .u8 ((q).toNat : Int))
   ·exact oV (hC (hA 7 24) (h0)) (.int .u8 (Nm .u8 ((q).toNat : Int) 4))
   ·refine oL 0 ?_
    ·rintro ρ' w' hs p ⟨g0, g1⟩
     refine kM (kc (kA p 8 25) k0) fun s => ?_
     refine Gr (a := ([48, 49, 50, 51, 52, 53, 54, 55, 56, 57, 97, 98, 99, 100, 101, 102] : List UInt8)) (u := a4) (T := 9) (x := (.const (.string ⟨List.toArray ([48, 49, 50, 51, 52, 53, 54, 55, 56, 57, 97, 98, 99, 100, 101, 102] : List UInt8)⟩))) (ix := (.tmp 25)) (ki := .u8) (iz := (Nm .u8 ((q).toNat : Int) 4)) (d := (some 26)) (k := 9) K rfl K K K c5 c6 ?_
     exact eK s
   ·exact oV (hC (hS 5 (.int .u8 ((q).toNat : Int))) (h0)) (.int .u8 ((q).toNat : Int))
   ·exact oV (hC (hA 10 27) (h0)) (.int .u8 (Zt .u8 ((q).toNat : Int) 15))
   ·refine Owe.light K [0, 1] K (Qf ?_ (Qf ?_ Q8))
    ·rintro ρ' w' hs p ⟨g2, g3⟩
     refine kM (kc (kA p 11 28) k0) fun s => ?_
     refine Gr (a := ([48, 49, 50, 51, 52, 53, 54, 55, 56, 57, 97, 98, 99, 100, 101, 102] : List UInt8)) (u := a2) (T := 9) (x := (.const (.string ⟨List.toArray ([48, 49, 50, 51, 52, 53, 54, 55, 56, 57, 97, 98, 99, 100, 101, 102] : List UInt8)⟩))) (ix := (.tmp 28)) (ki := .u8) (iz := (Zt .u8 ((q).toNat : Int) 15)) (d := (some 29)) (k := 12) K rfl K K K b1 b2 ?_
     exact eK s
    ·rintro ρ' w' hs p ⟨⟨g4, -⟩, g5⟩
     refine kM (kc (kA p 11 28) k0) fun s => ?_
     refine Gr (a := ([48, 49, 50, 51, 52, 53, 54, 55, 56, 57, 97, 98, 99, 100, 101, 102] : List UInt8)) (u := a2) (T := 9) (x := (.const (.string ⟨List.toArray ([48, 49, 50, 51, 52, 53, 54, 55, 56, 57, 97, 98, 99, 100, 101, 102] : List UInt8)⟩))) (ix := (.tmp 28)) (ki := .u8) (iz := (Zt .u8 ((q).toNat : Int) 15)) (d := (some 29)) (k := 12) K rfl K K K b1 b2 ?_
     exact eK s
   ·refine oL 0 ?_
    ·rintro ρ' w' hs p ⟨g6, c7⟩
     refine kM (kc (kA p 0 17) (kc (kA p 2 19) k0)) fun s => ?_
     refine Vi (e := eU8) (l := m) (A := g) (c := h) (T := 52) (E := 5) (x := (.tmp 17)) (ix := (.tmp 19)) (ki := .i64) (iz := (IntKind.wrap .i64 (2 * f))) (d := (some 30)) (k := 13) K rfl K K K K (Vs (SP.get c7 (i := 0) rfl)) b3 b4 ?_
     intro c8 c9 d0 g8 hc378
     exact ⟨rfl, _, Qa s, ⟨c8, c9, d0, rfl⟩⟩
   ·refine oH 0 1 ?_
    ·rintro ρ' w' hs p ⟨g9, d1⟩
     obtain ⟨d2, d3, d4, d5⟩ := p 13 30 K
     refine kM (kc d5 (kc (kA p 9 26) k0)) fun s => ?_
     refine Bn (e := eU8) (t := 5) (E := 5) (x := (.tmp 30)) (y := (.tmp 26)) (A := g) (c := h) (l := m) (iz := (IntKind.wrap .i64 (2 * f))) (b := d2) (off := d3) (i := 0) (v := (.int .u8 ((a4).toNat : Int))) (x' := a4) (d := none) (k := 14) K rfl K K d1 rfl d4 rfl b4 b3 rfl K ?_
     rw [hyl341]
     intro h1 d6
     refine ⟨_, Qa s, trivial, ?_⟩
     exact (And.intro (And.intro rfl (trivial)) (d6))
   ·refine oL 1 ?_
    ·rintro ρ' w' hs p ⟨⟨h2, -⟩, d7⟩
     have a6 := p 3 20 K
     replace a6 : ρ' 20 = (.slice g (List.length a0) h) := by rw [hnl341]; exact a6
     refine kM (kc a6 (kc (kA p 6 23) k0)) fun s => ?_
     refine Vi (e := eU8) (l := a0) (A := g) (c := h) (T := 52) (E := 5) (x := (.tmp 20)) (ix := (.tmp 23)) (ki := .i64) (iz := (IntKind.wrap .i64 ((IntKind.wrap .i64 (2 * f)) + 1))) (d := (some 31)) (k := 15) K rfl K K K K (Vs (SP.get d7 (i := 0) rfl)) b5 b6 ?_
     intro d8 d9 e0 h3 hc394
     exact ⟨rfl, _, Qa s, ⟨d8, d9, e0, rfl⟩⟩
   ·refine oH 1 2 ?_
    ·rintro ρ' w' hs p ⟨⟨e1, -⟩, e2⟩
     obtain ⟨e4, e5, e6, e7⟩ := p 15 31 K
     refine kM (kc e7 (kc (kA p 12 29) k0)) fun s => ?_
     refine Bn (e := eU8) (t := 5) (E := 5) (x := (.tmp 31)) (y := (.tmp 29)) (A := g) (c := h) (l := a0) (iz := (IntKind.wrap .i64 ((IntKind.wrap .i64 (2 * f)) + 1))) (b := e4) (off := e5) (i := 0) (v := (.int .u8 ((a2).toNat : Int))) (x' := a2) (d := none) (k := 16) K rfl K K e2 rfl e6 rfl b6 b5 rfl K ?_
     rw [hyl354]
     intro h4 e8
     refine ⟨_, Qa s, trivial, ?_⟩
     exact (And.intro (And.intro e1 (And.intro rfl (trivial))) (e8))
   ·rintro ρ' w' hs hf ⟨⟨h5, h6, -⟩, b7⟩
    have e3 : ρ' 3 = (.slice g (List.length m) h) := (hs 3 K).trans K
    replace e3 : ρ' 3 = (.slice g (List.length a3) h) := by rw [hnl354, hnl341]; exact e3
    refine Q3 [(3, (.slice g (List.length a3) h)), (10, (.slice A2 (List.length p1) c3)), (11, (.int .i64 ((List.length p1 : Nat) : Int))), (12, (.int .i64 f))] ⟨e3, (hs 10 K).trans K, (hs 11 K).trans K, (hs 12 K).trans K, trivial⟩ ?_
    obtain ⟨h7, e9⟩ : ∃ x, w' = x := ⟨_, rfl⟩
    rw [e9] at b7 ⊢
    refine aR ?_
    refine iR 2 2 [(32, (.int .i64 (IntKind.wrap .i64 (f + 1)))), (12, (.int .i64 (IntKind.wrap .i64 (f + 1))))] ?_
    refine iF ?_
    exact ⟨a3, (IntKind.wrap .i64 (f + 1)), g, h, ⟨K, K, K, K, trivial⟩, SP.sel b7 [0] rfl rfl, H⟩
  ·have H := cf H a5
   refine At.exit K (id := 0) K ?_
   refine aQ ?_
   refine aR ?_
   refine iR 1 1 [(33, (.slice g (List.length m) h))] ?_
   refine iS 2 ?_
   refine I3 (T := 52) (S' := 9) (E := 5) (x := (.tmp 33)) (A := g) (c := h) (l := m) (d := (some 34)) (k := 1) K rfl K K K K (Vs (SP.get a1 (i := 0) rfl)) ?_
   refine iR 1 3 [(2, (.string ⟨List.toArray m⟩))] ?_
   refine iF ?_
   refine At.ret K ?_
   refine ⟨(.string ⟨List.toArray m⟩), K, ?_⟩
   obtain rfl := Qe H
   exact ⟨rfl, SP.sel a1 [] rfl rfl⟩
 ·exact ⟨l5, 0, (some ⟨g7, 0, none⟩), (Int.toNat (IntKind.wrap .i64 (2 * ((List.length p1 : Nat) : Int)))), ⟨K, K, K, K, trivial⟩, SP.sel b9 [0] rfl rfl, H⟩
end Go.Proofs.YtmgfanhcdfobhaaGreatDoor
