/- What the lifted functions of subwayref05 compute, in the words of WireSpec. -/
import Derived.Test.YtjpchjbbfbmjgaaLR5
import Derived.Test.YtjpchjbbfbmjgaaSpecR1
import Derived.Test.YtjpchjbbfbmjgaaWireSpec
namespace Go.Proofs.Ytjpchjbbfbmjgaa
set_option linter.unusedSimpArgs false
set_option linter.unusedVariables false
def letters (k : Int) : List UInt8 := if k < 1 ∨ 14 < k then [46] else ([[46], [65, 66], [65], [65], [], [78], [65, 78], [65, 78, 77], [65, 78, 77], [65, 78], [65, 78], [65, 66], [66], [], [65]] : List (List UInt8)).getD k.toNat []
theorem kinds14 (p : Int → Prop) (k : Int) (h1 : 1 ≤ k) (h2 : k ≤ 14) (h : ∀ n : Nat, n ∈ [1, 2, 3, 4, 5, 6, 7, 8, 9, 10, 11, 12, 13, 14] → p n) : p k := by
  obtain ⟨n, rfl⟩ := Int.eq_ofNat_of_zero_le (show 0 ≤ k by omega)
  refine h n ?_
  have : n = 1 ∨ n = 2 ∨ n = 3 ∨ n = 4 ∨ n = 5 ∨ n = 6 ∨ n = 7 ∨ n = 8 ∨ n = 9 ∨ n = 10 ∨ n = 11 ∨ n = 12 ∨ n = 13 ∨ n = 14 := by omega
  simp only [List.mem_cons, List.not_mem_nil, or_false]
  exact this
theorem rHas_eq (k : Int) : L_subwayref05_has k = some (letters k) := by
  by_cases h : k < 1 ∨ 14 < k
  · unfold letters
    rw [if_pos h]
    unfold L_subwayref05_has L_subwayref05_has_k1
    by_cases h1 : k < 1
    · rw [show decide (k < 1) = true by simp; omega]; rfl
    · rw [show decide (k < 1) = false by simp; omega, show decide (k > 14) = true by simp; omega]; rfl
  · refine kinds14 (fun k => L_subwayref05_has k = some (letters k)) k (by omega) (by omega) ?_
    intro n hn
    simp only [List.mem_cons, List.not_mem_nil, or_false] at hn
    rcases hn with rfl | rfl | rfl | rfl | rfl | rfl | rfl | rfl | rfl | rfl | rfl | rfl | rfl | rfl <;> decide +kernel
theorem rOf_loop (s : List UInt8) (c : UInt8) (hs : s.length ≤ 1000) : ∀ (d i f : Nat), d = s.length - i → i ≤ s.length → d < f → L_subwayref05_of_l1 s c f (i : Int) = some ((s.drop i).contains c) := by
  intro d
  induction d with
  | zero =>
    intro i f hd hi hf
    obtain ⟨f, rfl⟩ : ∃ g, f = g + 1 := ⟨f - 1, by omega⟩
    show L_subwayref05_of_b1 (L_subwayref05_of_l1 s c f) s c _ = _
    unfold L_subwayref05_of_b1
    rw [show decide ((i : Int) < ((List.length s : Nat) : Int)) = false by simp; omega, List.drop_of_length_le (by omega)]
    rfl
  | succ d ih =>
    intro i f hd hi hf
    obtain ⟨f, rfl⟩ : ∃ g, f = g + 1 := ⟨f - 1, by omega⟩
    show L_subwayref05_of_b1 (L_subwayref05_of_l1 s c f) s c _ = _
    unfold L_subwayref05_of_b1
    have hlt : i < s.length := by omega
    rw [show decide ((i : Int) < ((List.length s : Nat) : Int)) = true by simp; omega, idx_get hlt]
    simp only [cond_true, Option.bind_some]
    rw [List.drop_eq_getElem_cons hlt, List.contains_cons]
    by_cases hc : s[i] = c
    · subst hc
      simp
    · have h1 : (((s[i].toNat : Nat) : Int) == ((c.toNat : Nat) : Int)) = false := by
        rw [beq_eq_false_iff_ne]
        intro h
        exact hc (UInt8.toNat_inj.1 (by omega))
      have h2 : (c == s[i]) = false := by
        rw [beq_eq_false_iff_ne]
        exact fun h => hc h.symm
      rw [h1, h2]
      have w : IntKind.wrap .i64 ((i : Int) + 1) = ((i + 1 : Nat) : Int) := by rw [wrap64 (by omega)]; omega
      rw [w]
      simp only [cond_false, Bool.false_or]
      exact ih (i + 1) f (by omega) (by omega) (by omega)
theorem rOf_eq (s : List UInt8) (c : UInt8) (hs : s.length ≤ 1000) : L_subwayref05_of s c = some (s.contains c) := by
  unfold L_subwayref05_of
  have := rOf_loop s c hs s.length 0 fuel (by omega) (by omega) (by rw [fuel_eq]; omega)
  simpa using this
theorem letters_len (k : Int) : (letters k).length ≤ 3 := by
  by_cases h : k < 1 ∨ 14 < k
  · unfold letters; rw [if_pos h]; decide
  · refine kinds14 (fun k => (letters k).length ≤ 3) k (by omega) (by omega) ?_
    intro n hn
    simp only [List.mem_cons, List.not_mem_nil, or_false] at hn
    rcases hn with rfl | rfl | rfl | rfl | rfl | rfl | rfl | rfl | rfl | rfl | rfl | rfl | rfl | rfl <;> decide +kernel
theorem letters_has (k : Int) (h1 : 1 ≤ k) (h2 : k ≤ 14) : (letters k).contains 65 = hasA k ∧ (letters k).contains 66 = hasB k ∧ (letters k).contains 78 = hasN k ∧ (letters k).contains 77 = hasM k ∧ (letters k == [46]) = false ∧ isKind k = true := by
  refine kinds14 (fun k => (letters k).contains 65 = hasA k ∧ (letters k).contains 66 = hasB k ∧ (letters k).contains 78 = hasN k ∧ (letters k).contains 77 = hasM k ∧ (letters k == [46]) = false ∧ isKind k = true) k h1 h2 ?_
  intro n hn
  simp only [List.mem_cons, List.not_mem_nil, or_false] at hn
  rcases hn with rfl | rfl | rfl | rfl | rfl | rfl | rfl | rfl | rfl | rfl | rfl | rfl | rfl | rfl <;> decide +kernel
theorem letters_out {k : Int} (h : k < 1 ∨ 14 < k) : letters k = [46] ∧ isKind k = false := by
  refine ⟨by unfold letters; rw [if_pos h], ?_⟩
  simp [isKind]
  omega
theorem bsz (a : List UInt8) : (⟨a.toArray⟩ : ByteArray).size = a.length := str_size a
theorem wordB_eq (a : List UInt8) (h : Bool) : wordB ⟨a.toArray⟩ h = (decide (((List.length a : Nat) : Int) ≤ 64) && (h || a == [])) := by
  unfold wordB
  rw [bsz]
  have h1 : decide (a.length ≤ 64) = decide (((List.length a : Nat) : Int) ≤ 64) := by
    apply decide_eq_decide.2
    omega
  rw [h1]
  cases a <;> rfl
theorem numB_eq (n : Int) (h : Bool) : numB n h = (decide (n ≥ 0) && (decide (n ≤ 1099511627776) && (h || n == 0))) := by
  unfold numB
  rw [Bool.and_assoc]
theorem rk1 (n m : Int) (a b : List UInt8) (v : Bool) : L_subwayref05_Right_k1 a b n m v = some (!v && (decide (((List.length a : Nat) : Int) ≤ 64) && (decide (((List.length b : Nat) : Int) ≤ 64) && (decide (n ≥ 0) && (decide (n ≤ 1099511627776) && (decide (m ≥ 0) && decide (m ≤ 1099511627776))))))) := by
  unfold L_subwayref05_Right_k1 L_subwayref05_Right_k2
  generalize decide (((List.length a : Nat) : Int) ≤ 64) = p1
  generalize decide (((List.length b : Nat) : Int) ≤ 64) = p2
  generalize decide (n ≥ 0) = p3
  generalize decide (n ≤ 1099511627776) = p4
  generalize decide (m ≥ 0) = p5
  generalize decide (m ≤ 1099511627776) = p6
  cases v <;> cases p1 <;> cases p2 <;> cases p3 <;> cases p4 <;> cases p5 <;> rfl
theorem rRight_eq (k n m : Int) (a b : List UInt8) : L_subwayref05_Right k a b n m = some (rightB k ⟨a.toArray⟩ ⟨b.toArray⟩ n m) := by
  unfold L_subwayref05_Right rightB
  rw [rHas_eq]
  simp only [Option.bind_some]
  by_cases h : k < 1 ∨ 14 < k
  · obtain ⟨h1, h2⟩ := letters_out h
    rw [h1, h2]
    rfl
  · obtain ⟨hA, hB, hN, hM, hd, hk⟩ := letters_has k (by omega) (by omega)
    have hl := letters_len k
    have of1 := fun c => rOf_eq (letters k) c (by omega)
    simp only [hd, hk, of1, hA, hB, hN, hM, Option.bind_some, cond_false, wordB_eq, numB_eq, rk1, Bool.true_and, bne]
    generalize decide (((List.length a : Nat) : Int) ≤ 64) = p1
    generalize decide (((List.length b : Nat) : Int) ≤ 64) = p2
    generalize decide (n ≥ 0) = p3
    generalize decide (n ≤ 1099511627776) = p4
    generalize decide (m ≥ 0) = p5
    generalize decide (m ≤ 1099511627776) = p6
    generalize (a == ([] : List UInt8)) = qa
    generalize (b == ([] : List UInt8)) = qb
    generalize (n == 0) = qn
    generalize (m == 0) = qm
    cases hasA k <;> cases hasB k <;> cases hasN k <;> cases hasM k <;> cases qa <;> cases qb <;> cases qn <;> cases qm <;> simp [Bool.and_assoc]
theorem letters4 (k : Int) : (letters k).contains 65 = hasA k ∧ (letters k).contains 66 = hasB k ∧ (letters k).contains 78 = hasN k ∧ (letters k).contains 77 = hasM k := by
  by_cases h : k < 1 ∨ 14 < k
  · obtain ⟨h1, _⟩ := letters_out h
    have hb : kbits k = 16 ∨ kbits k = 16 := by
      rcases kbits_cases k with ⟨_, e⟩ | ⟨e, _⟩
      · exact .inl e
      · omega
    have hb : kbits k = 16 := by simpa using hb
    unfold hasA hasB hasN hasM
    rw [h1, hb]
    decide +kernel
  · obtain ⟨hA, hB, hN, hM, _, _⟩ := letters_has k (by omega) (by omega)
    exact ⟨hA, hB, hN, hM⟩
/-- a part that is put, or not -/
theorem put_step {β : Type} (h : Bool) (t out : List UInt8) (K : List UInt8 → Option β) (hl : out.length + t.length ≤ 2147483648) :
    cond h ((app out t).bind fun l => K l) (K out) = K (out ++ if h then t else []) := by
  cases h
  · simp
  · simp [app_ok hl]
theorem textL_le (s : List UInt8) (h : s.length ≤ 64) : (textL s).length ≤ 65 := by
  unfold textL
  rw [if_neg (by omega)]
  simp only [List.length_cons]
  omega
theorem putL_le (n : Int) : (putL n).length ≤ 7 := by
  unfold putL
  split
  · exact putN_length_le _
  · simp
theorem rPutM_eq (k n m : Int) (a b : List UInt8) : L_subwayref05_Put k a b n m = some (wputL k ⟨a.toArray⟩ ⟨b.toArray⟩ n m) := by
  unfold L_subwayref05_Put wputL
  rw [rRight_eq]
  simp only [Option.bind_some]
  cases hr : rightB k ⟨a.toArray⟩ ⟨b.toArray⟩ n m with
  | false => rfl
  | true =>
    have hr' := hr
    simp only [rightB, Bool.and_eq_true] at hr'
    obtain ⟨hk, ha, hb, _⟩ := hr'
    simp [wordB] at ha hb
    have la : a.length ≤ 64 := by have := ha.1; rw [bsz] at this; exact this
    have lb : b.length ≤ 64 := by have := hb.1; rw [bsz] at this; exact this
    have kk : 1 ≤ k ∧ k ≤ 14 := by simp [isKind] at hk; omega
    have hl := letters_len k
    have of1 := fun c => rOf_eq (letters k) c (by omega)
    obtain ⟨hA, hB, hN, hM⟩ := letters4 k
    have ta := textL_le a la
    have tb := textL_le b lb
    have tn := putL_le n
    have tm := putL_le m
    have hkb : toU8 (IntKind.wrap .u8 k) = UInt8.ofNat k.toNat := by
      obtain ⟨j, rfl⟩ := Int.eq_ofNat_of_zero_le (show 0 ≤ k by omega)
      exact toU8_wrap j
    simp only [Bool.not_true, cond_false, rHas_eq, of1, hA, hB, hN, hM, Option.bind_some, rText_eq, rPut_eq, hkb, L_subwayref05_Put_k1, L_subwayref05_Put_k2, L_subwayref05_Put_k3, L_subwayref05_Put_k4]
    rw [put_step (hasA k) (textL a) _ _ (by simp only [List.length_cons, List.length_nil]; omega)]
    have l1 : (if hasA k = true then textL a else []).length ≤ 65 := by split <;> simp_all
    generalize hx1 : (if hasA k = true then textL a else []) = x1 at l1 ⊢
    rw [put_step (hasB k) (textL b) _ _ (by simp only [List.length_append, List.length_cons, List.length_nil]; omega)]
    have l2 : (if hasB k = true then textL b else []).length ≤ 65 := by split <;> simp_all
    generalize hx2 : (if hasB k = true then textL b else []) = x2 at l2 ⊢
    rw [put_step (hasN k) (putL n) _ _ (by simp only [List.length_append, List.length_cons, List.length_nil]; omega)]
    have l3 : (if hasN k = true then putL n else []).length ≤ 7 := by split <;> simp_all
    generalize hx3 : (if hasN k = true then putL n else []) = x3 at l3 ⊢
    rw [put_step (hasM k) (putL m) _ _ (by simp only [List.length_append, List.length_cons, List.length_nil]; omega)]
    simp only [if_true]
    unfold putT putI
    rw [hx1, hx2, hx3]
    simp
/-- a text that is read, or not -/
theorem readT_step {β : Type} (h : Bool) (v : List UInt8) (hv : v.length ≤ maxLen) (K : List UInt8 → List UInt8 → Option β) (no : Option β) :
    cond h ((L_subwayref01_Read v).bind fun z => cond (!z.2.2) no ((sub v z.2.1 ((List.length v : Nat) : Int)).bind fun l => K z.1 l)) (K [] v) = match rdT h v with | none => no | some (a, r) => K a.data.toList r := by
  cases h with
  | false => rfl
  | true =>
    rw [rRead_eq v hv]
    unfold rdT
    simp only [cond_true, Option.bind_some, if_true]
    cases hr : readL v with
    | none => rfl
    | some x =>
      obtain ⟨s, k⟩ := x
      have hk := readL_le hr
      simp only [readD, Bool.not_true, cond_false]
      rw [sub_nat v hk.2.1 (Nat.le_refl _), List.take_length]
      rfl
theorem readI_step {β : Type} (h : Bool) (v : List UInt8) (hv : v.length ≤ maxLen) (K : Int → List UInt8 → Option β) (no : Option β) :
    cond h ((L_subwayref01_Get v).bind fun z => cond (!z.2.2) no ((sub v z.2.1 ((List.length v : Nat) : Int)).bind fun l => K z.1 l)) (K 0 v) = match rdI h v with | none => no | some (n, r) => K n r := by
  cases h with
  | false => rfl
  | true =>
    rw [rGet_eq v hv]
    unfold rdI
    simp only [cond_true, Option.bind_some, if_true]
    cases hr : getL v with
    | none => rfl
    | some x =>
      obtain ⟨n, k⟩ := x
      have hk := getL_le hr
      simp only [getD3, Bool.not_true, cond_false]
      rw [sub_nat v hk.2.2.1 (Nat.le_refl _), List.take_length]
      rfl
theorem rdT_len {h : Bool} {v r : List UInt8} {a : ByteArray} (e : rdT h v = some (a, r)) : r.length ≤ v.length := by
  unfold rdT at e
  split at e
  · split at e
    · cases e
    · simp only [Option.some.injEq, Prod.mk.injEq] at e
      rw [← e.2, List.length_drop]; omega
  · simp only [Option.some.injEq, Prod.mk.injEq] at e
    rw [e.2]; omega
theorem rdI_len {h : Bool} {v r : List UInt8} {n : Int} (e : rdI h v = some (n, r)) : r.length ≤ v.length := by
  unfold rdI at e
  split at e
  · split at e
    · cases e
    · simp only [Option.some.injEq, Prod.mk.injEq] at e
      rw [← e.2, List.length_drop]; omega
  · simp only [Option.some.injEq, Prod.mk.injEq] at e
    rw [e.2]; omega
/-- a message that is read, as data -/
def msgD' (x : Option WMsg) : Int × List UInt8 × List UInt8 × Int × Int × Bool :=
  match x with
  | none => (0, [], [], 0, 0, false)
  | some M => (M.k, M.a.data.toList, M.b.data.toList, M.n, M.m, true)
theorem rGetM_eq (l : List UInt8) (hl : l.length ≤ maxLen) : L_subwayref05_Get l = some (msgD' (wgetL l)) := by
  cases l with
  | nil => rfl
  | cons c r0 =>
    have hc := u8_lt c
    have hl' := hl
    simp only [List.length_cons, maxLen] at hl'
    unfold L_subwayref05_Get wgetL wgetK
    have h0 : (((List.length (c :: r0) : Nat) : Int) == 0) = false := by rw [beq_eq_false_iff_ne]; simp only [List.length_cons]; omega
    have hi : idx (c :: r0) 0 = some c := rfl
    have w1 : IntKind.wrap .i64 ((c.toNat : Int)) = (c.toNat : Int) := wrap64 (by omega)
    have hs : sub (c :: r0) 1 ((List.length (c :: r0) : Nat) : Int) = some r0 := by
      have := sub_nat (c :: r0) (i := 1) (j := (c :: r0).length) (by simp only [List.length_cons]; omega) (Nat.le_refl _)
      rw [List.take_length] at this
      exact this
    have hll := letters_len (c.toNat : Int)
    have of1 := fun x => rOf_eq (letters (c.toNat : Int)) x (by omega)
    obtain ⟨hA, hB, hN, hM⟩ := letters4 (c.toNat : Int)
    simp only [h0, cond_false, hi, Option.bind_some, w1, rHas_eq, hs, of1, hA]
    rw [readT_step (hasA (c.toNat : Int)) r0 (by unfold maxLen; omega) (fun a l => L_subwayref05_Get_k1 c (letters (c.toNat : Int)) a l)]
    cases e1 : rdT (hasA (c.toNat : Int)) r0 with
    | none => rfl
    | some x1 =>
      obtain ⟨a, r1⟩ := x1
      have q1 := rdT_len e1
      simp only [L_subwayref05_Get_k1, of1, hB, Option.bind_some]
      rw [readT_step (hasB (c.toNat : Int)) r1 (by unfold maxLen; omega) (fun b l => L_subwayref05_Get_k2 c (letters (c.toNat : Int)) a.data.toList b l)]
      cases e2 : rdT (hasB (c.toNat : Int)) r1 with
      | none => rfl
      | some x2 =>
        obtain ⟨b, r2⟩ := x2
        have q2 := rdT_len e2
        simp only [L_subwayref05_Get_k2, of1, hN, Option.bind_some]
        rw [readI_step (hasN (c.toNat : Int)) r2 (by unfold maxLen; omega) (fun n l => L_subwayref05_Get_k3 c (letters (c.toNat : Int)) a.data.toList b.data.toList n l)]
        cases e3 : rdI (hasN (c.toNat : Int)) r2 with
        | none => rfl
        | some x3 =>
          obtain ⟨n, r3⟩ := x3
          have q3 := rdI_len e3
          simp only [L_subwayref05_Get_k3, of1, hM, Option.bind_some]
          rw [readI_step (hasM (c.toNat : Int)) r3 (by unfold maxLen; omega) (fun m l => L_subwayref05_Get_k4 c a.data.toList b.data.toList n m l)]
          cases e4 : rdI (hasM (c.toNat : Int)) r3 with
          | none => rfl
          | some x4 =>
            obtain ⟨m, r4⟩ := x4
            simp only [L_subwayref05_Get_k4, w1, rRight_eq, Option.bind_some]
            have ea : (⟨a.data.toList.toArray⟩ : ByteArray) = a := rfl
            have eb : (⟨b.data.toList.toArray⟩ : ByteArray) = b := rfl
            rw [ea, eb]
            cases r4 with
            | cons y z =>
              rw [if_neg (by simp), show decide (((List.length (y :: z) : Nat) : Int) > 0) = true by simp only [List.length_cons, decide_eq_true_eq]; omega]
              rfl
            | nil =>
              cases hR : rightB (c.toNat : Int) a b n m with
              | false => rw [if_neg (by simp)]; rfl
              | true =>
                rw [if_pos ⟨rfl, rfl⟩]
                simp only [L_subwayref05_Get_k5, w1]
                rfl
end Go.Proofs.Ytjpchjbbfbmjgaa
