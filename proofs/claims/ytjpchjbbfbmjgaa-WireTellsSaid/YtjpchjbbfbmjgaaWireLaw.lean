/- Plain laws of messages in bytes. Nothing of the program. -/
import Derived.Test.YtjpchjbbfbmjgaaNumLaw
import Derived.Test.YtjpchjbbfbmjgaaWireSpec
namespace Go.Proofs.Ytjpchjbbfbmjgaa
set_option linter.unusedSimpArgs false
set_option linter.unusedVariables false
theorem textL_length {s : List UInt8} (h : s.length ≤ 255) : (textL s).length = s.length + 1 := by
  unfold textL
  rw [if_neg (by omega)]
  rfl
theorem rdT_put {h : Bool} {s : ByteArray} (hw : wordB s h = true) (r : List UInt8) : rdT h (putT h s ++ r) = some (s, r) := by
  simp only [wordB, Bool.and_eq_true, Bool.or_eq_true, decide_eq_true_eq] at hw
  cases h with
  | true =>
    have hs : s.data.toList.length ≤ 255 := by rw [Array.length_toList]; have : s.size = s.data.size := rfl; omega
    unfold rdT putT
    rw [if_pos rfl, if_pos rfl, read_text hs]
    simp only [Option.some.injEq, Prod.mk.injEq]
    refine ⟨by trivial, ?_⟩
    rw [← textL_length hs, List.drop_left']
    rfl
  | false =>
    have he : s.data.toList = [] := by simpa using hw.2
    unfold rdT putT
    rw [if_neg (by simp), if_neg (by simp)]
    obtain ⟨⟨d⟩⟩ := s
    simp only at he
    subst he
    rfl
theorem rdI_put {h : Bool} {n : Int} (hn : numB n h = true) (r : List UInt8) : rdI h (putI h n ++ r) = some (n, r) := by
  simp only [numB, Bool.and_eq_true, Bool.or_eq_true, decide_eq_true_eq, beq_iff_eq] at hn
  obtain ⟨⟨h0, h1⟩, h2⟩ := hn
  cases h with
  | true =>
    have hm : n.toNat ≤ maxNum := by unfold maxNum; omega
    unfold rdI putI putL
    rw [if_pos rfl, if_pos rfl, if_pos ⟨h0, h1⟩, get_put hm]
    simp only [Option.some.injEq, Prod.mk.injEq]
    exact ⟨by omega, List.drop_left' rfl⟩
  | false =>
    have : n = 0 := by simpa using h2
    subst this
    rfl
/-- what a right message was put as, and bytes behind it -/
theorem wget_put {k n m : Int} {a b : ByteArray} (h : rightB k a b n m = true) (r : List UInt8) : wgetL (wputL k a b n m ++ r) = if r = [] then some ⟨k, a, b, n, m⟩ else none := by
  have hr := h
  simp only [rightB, Bool.and_eq_true] at hr
  obtain ⟨hk, ha, hb, hn, hm⟩ := hr
  simp only [isKind, Bool.and_eq_true, decide_eq_true_eq] at hk
  have e : ((UInt8.ofNat k.toNat).toNat : Int) = k := by simp; omega
  unfold wputL
  rw [if_pos h, List.cons_append]
  unfold wgetL
  simp only [e]
  unfold wgetK
  simp only [List.append_assoc]
  rw [rdT_put ha]
  simp only
  rw [rdT_put hb]
  simp only
  rw [rdI_put hn]
  simp only
  rw [rdI_put hm]
  simp only [h, and_true]
theorem rdT_back {h : Bool} {l r : List UInt8} {s : ByteArray} (e : rdT h l = some (s, r)) : l = putT h s ++ r := by
  unfold rdT at e
  unfold putT
  cases h with
  | true =>
    rw [if_pos rfl] at e
    rw [if_pos rfl]
    cases hq : readL l with
    | none => rw [hq] at e; cases e
    | some p =>
      obtain ⟨t, k⟩ := p
      rw [hq] at e
      simp only [Option.some.injEq, Prod.mk.injEq] at e
      obtain ⟨rfl, rfl⟩ := e
      exact (text_read hq).1
  | false =>
    rw [if_neg (by simp)] at e
    rw [if_neg (by simp)]
    simp only [Option.some.injEq, Prod.mk.injEq] at e
    rw [e.2]
    rfl
theorem rdI_back {h : Bool} {l r : List UInt8} {n : Int} (e : rdI h l = some (n, r)) : l = putI h n ++ r := by
  unfold rdI at e
  unfold putI
  cases h with
  | true =>
    rw [if_pos rfl] at e
    rw [if_pos rfl]
    cases hq : getL l with
    | none => rw [hq] at e; cases e
    | some p =>
      obtain ⟨t, k⟩ := p
      rw [hq] at e
      simp only [Option.some.injEq, Prod.mk.injEq] at e
      obtain ⟨rfl, rfl⟩ := e
      obtain ⟨h1, h2, h3⟩ := put_get hq
      unfold putL
      rw [if_pos ⟨by omega, by unfold maxNum at h3; omega⟩]
      exact h1
  | false =>
    rw [if_neg (by simp)] at e
    rw [if_neg (by simp)]
    simp only [Option.some.injEq, Prod.mk.injEq] at e
    rw [e.2]
    rfl
/-- what is read of bytes is right, and has these -/
theorem put_wget {l : List UInt8} {x : WMsg} (h : wgetL l = some x) : rightB x.k x.a x.b x.n x.m = true ∧ wputL x.k x.a x.b x.n x.m = l := by
  cases l with
  | nil => cases h
  | cons c r0 =>
    unfold wgetL wgetK at h
    simp only at h
    cases h1 : rdT (hasA c.toNat) r0 with
    | none => rw [h1] at h; cases h
    | some p1 =>
      obtain ⟨a, r1⟩ := p1
      rw [h1] at h
      simp only at h
      cases h2 : rdT (hasB c.toNat) r1 with
      | none => rw [h2] at h; cases h
      | some p2 =>
        obtain ⟨b, r2⟩ := p2
        rw [h2] at h
        simp only at h
        cases h3 : rdI (hasN c.toNat) r2 with
        | none => rw [h3] at h; cases h
        | some p3 =>
          obtain ⟨n, r3⟩ := p3
          rw [h3] at h
          simp only at h
          cases h4 : rdI (hasM c.toNat) r3 with
          | none => rw [h4] at h; cases h
          | some p4 =>
            obtain ⟨m, r4⟩ := p4
            rw [h4] at h
            simp only at h
            split at h
            · rename_i hc
              obtain ⟨rfl, hr⟩ := hc
              simp only [Option.some.injEq] at h
              subst h
              refine ⟨hr, ?_⟩
              unfold wputL
              simp only
              rw [if_pos hr]
              have e0 : UInt8.ofNat ((c.toNat : Int)).toNat = c := by simp
              rw [e0, rdT_back h1, rdT_back h2, rdI_back h3, rdI_back h4, List.append_nil]
            · cases h
/-- bytes of unlike messages are unlike -/
theorem wput_inj {k n m k' n' m' : Int} {a b a' b' : ByteArray} (h : rightB k a b n m = true) (h' : rightB k' a' b' n' m' = true) (e : wputL k a b n m = wputL k' a' b' n' m') :
    k = k' ∧ a = a' ∧ b = b' ∧ n = n' ∧ m = m' := by
  have g := wget_put h []
  have g' := wget_put h' []
  rw [List.append_nil, if_pos rfl] at g g'
  rw [e, g'] at g
  simp only [Option.some.injEq, WMsg.mk.injEq] at g
  obtain ⟨h1, h2, h3, h4, h5⟩ := g
  exact ⟨h1.symm, h2.symm, h3.symm, h4.symm, h5.symm⟩
/-- of a right message's bytes, cut, none is read -/
theorem wget_cut {k n m : Int} {a b : ByteArray} (h : rightB k a b n m = true) (j : Nat) (hj : j < (wputL k a b n m).length) : wgetL ((wputL k a b n m).take j) = none := by
  cases hq : wgetL ((wputL k a b n m).take j) with
  | none => rfl
  | some x =>
    obtain ⟨h1, h2⟩ := put_wget hq
    have g := wget_put h1 ((wputL k a b n m).drop j)
    rw [h2, List.take_append_drop, if_neg (by intro e; have := congrArg List.length e; simp at this; omega)] at g
    have g' := wget_put h []
    rw [List.append_nil, if_pos rfl, g] at g'
    cases g'
theorem wget_long {k n m : Int} {a b : ByteArray} (h : rightB k a b n m = true) (c : UInt8) : wgetL (wputL k a b n m ++ [c]) = none := by
  rw [wget_put h, if_neg (by simp)]
theorem wput_cons {k n m : Int} {a b : ByteArray} (h : rightB k a b n m = true) : ∃ r, wputL k a b n m = UInt8.ofNat k.toNat :: r ∧ r.length ≤ 146 ∧ ((UInt8.ofNat k.toNat).toNat : Int) = k := by
  have hr := h
  simp only [rightB, Bool.and_eq_true] at hr
  obtain ⟨hk, ha, hb, hn, hm⟩ := hr
  simp only [isKind, Bool.and_eq_true, decide_eq_true_eq] at hk
  unfold wputL
  rw [if_pos h]
  refine ⟨_, rfl, ?_, by simp; omega⟩
  have t : ∀ (s : ByteArray) (x : Bool), wordB s x = true → (putT x s).length ≤ 65 := by
    intro s x hw
    simp only [wordB, Bool.and_eq_true, decide_eq_true_eq] at hw
    have hs : s.data.toList.length ≤ 64 := by rw [Array.length_toList]; have : s.size = s.data.size := rfl; omega
    unfold putT
    split
    · rw [textL_length (by omega)]; omega
    · simp
  have i : ∀ (n : Int) (x : Bool), (putI x n).length ≤ 7 := by
    intro n x
    unfold putI putL
    split
    · split
      · exact putN_length_le _
      · simp
    · simp
  have := t a _ ha
  have := t b _ hb
  have := i n (hasN k)
  have := i m (hasM k)
  simp only [List.length_append]
  omega
end Go.Proofs.Ytjpchjbbfbmjgaa
