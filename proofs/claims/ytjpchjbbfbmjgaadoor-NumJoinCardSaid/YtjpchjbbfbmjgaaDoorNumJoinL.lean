/- The plain law of NumJoin: what the lifted law computes is true. -/
import Derived.Test.YtjpchjbbfbmjgaaDoorLNumJoin
import Derived.Test.YtjpchjbbfbmjgaaDoorNumHead
namespace Go.Proofs.YtjpchjbbfbmjgaaDoor
set_option linter.unusedSimpArgs false
set_option linter.unusedVariables false
/-- numbers and texts, one behind the other -/
def joinN : List Int → List (List UInt8) → List UInt8
  | n :: p, s :: q => putN n.toNat ++ (textL s ++ joinN p q)
  | _, _ => []
def Small (p : List Int) : Prop := ∀ n ∈ p, 0 ≤ n ∧ n < 4294967296
def Short (p : List Int) (q : List (List UInt8)) : Prop := ∀ j, j < p.length → ∀ s, q[j]? = some s → s.length ≤ 255
theorem textL_length {s : List UInt8} (h : s.length ≤ 255) : (textL s).length = s.length + 1 := by unfold textL; rw [if_neg (by omega)]; rfl
theorem joinN_length : ∀ (p : List Int) (q : List (List UInt8)), Short p q → (joinN p q).length ≤ 263 * p.length
  | [], q, _ => by simp [joinN]
  | n :: p, [], _ => by simp [joinN]
  | n :: p, s :: q, h => by
    have h1 := h 0 (by simp) s rfl
    have ih := joinN_length p q fun j hj s' hs => h (j + 1) (by simpa using hj) s' (by simpa using hs)
    have h2 := putN_length_le n.toNat
    have h3 := textL_length h1
    simp only [joinN, List.length_append, List.length_cons]
    omega
theorem joinN_step {p : List Int} {q : List (List UInt8)} {i : Nat} (hp : i < p.length) (hq : i < q.length) :
    joinN (p.drop i) (q.drop i) = putN (p[i]).toNat ++ (textL q[i] ++ joinN (p.drop (i + 1)) (q.drop (i + 1))) := by
  rw [List.drop_eq_getElem_cons hp, List.drop_eq_getElem_cons hq]
  rfl
theorem joinN_end {p : List Int} {q : List (List UInt8)} {i : Nat} (h : p.length ≤ i ∨ q.length ≤ i) : joinN (p.drop i) (q.drop i) = [] := by
  rcases h with h | h
  · rw [List.drop_of_length_le h]; rfl
  · rw [List.drop_of_length_le h]
    cases p.drop i <;> rfl
theorem short_drop {p : List Int} {q : List (List UInt8)} (h : Short p q) (i : Nat) : Short (p.drop i) (q.drop i) := fun j hj s hs =>
  h (i + j) (by rw [List.length_drop] at hj; omega) s (by rw [List.getElem?_drop] at hs; exact hs)
theorem join_second (g : List UInt8 → Int → Option Bool) (p : List Int) (q : List (List UInt8)) (hp : Small p) (hs : Short p q) (h1 : p.length ≤ 100) (h2 : q.length ≤ 100) :
    ∀ (d i f : Nat), d = p.length - i → i ≤ p.length → d < f → L_subwaylaw01_NumJoin_l36 g p q true f (joinN (p.drop i) (q.drop i)) ((i : Nat) : Int) = some true := by
  intro d
  induction d with
  | zero =>
    intro i f hd hi hf
    obtain ⟨f, rfl⟩ : ∃ x, f = x + 1 := ⟨f - 1, by omega⟩
    show L_subwaylaw01_NumJoin_b36 g (L_subwaylaw01_NumJoin_l36 g p q true f) p q true _ _ = _
    unfold L_subwaylaw01_NumJoin_b36
    rw [show decide (((i : Nat) : Int) < ((List.length p : Nat) : Int)) = false by simp; omega, joinN_end (.inl (by omega))]
    rfl
  | succ d ih =>
    intro i f hd hi hf
    obtain ⟨f, rfl⟩ : ∃ x, f = x + 1 := ⟨f - 1, by omega⟩
    show L_subwaylaw01_NumJoin_b36 g (L_subwaylaw01_NumJoin_l36 g p q true f) p q true _ _ = _
    unfold L_subwaylaw01_NumJoin_b36
    have hip : i < p.length := by omega
    rw [show decide (((i : Nat) : Int) < ((List.length p : Nat) : Int)) = true by simp; omega]
    simp only [cond_true]
    by_cases hiq : i < q.length
    · rw [show decide (((i : Nat) : Int) < ((List.length q : Nat) : Int)) = true by simp; omega]
      have hn := hp p[i] (List.getElem_mem hip)
      have hs255 := hs i hip q[i] (List.getElem?_eq_getElem hiq)
      have hJ := joinN_length _ _ (short_drop hs (i + 1))
      rw [List.length_drop] at hJ
      have hpl := putN_length_le (p[i]).toNat
      have htl := textL_length hs255
      have g1 := get_put (n := (p[i]).toNat) (by unfold maxNum; omega) (textL q[i] ++ joinN (p.drop (i + 1)) (q.drop (i + 1)))
      have g2 := read_text hs255 (joinN (p.drop (i + 1)) (q.drop (i + 1)))
      have hpos : 0 < (putN (p[i]).toNat).length := by have := putN_length (p[i]).toNat; omega
      have hwn : ((((p[i]).toNat : Nat) : Int) != IntKind.wrap .i64 p[i]) = false := by rw [wrap64 (by omega), Int.toNat_of_nonneg hn.1]; simp
      have hx1 : idx p ((i : Nat) : Int) = some p[i] := idx_get hip
      have hx2 : idx q ((i : Nat) : Int) = some q[i] := idx_get hiq
      have w4 : IntKind.wrap .i64 ((i : Int) + 1) = ((i + 1 : Nat) : Int) := by rw [wrap64 (by omega)]; omega
      have ihh := ih (i + 1) f (by omega) (by omega) (by omega)
      rw [joinN_step hip hiq]
      generalize joinN (p.drop (i + 1)) (q.drop (i + 1)) = J at hJ g1 g2 ihh ⊢
      generalize hT : textL q[i] = T at htl g1 g2 ⊢
      generalize hN : putN (p[i]).toNat = N at hpl g1 hpos ⊢
      have htot : (N ++ (T ++ J)).length = N.length + (T.length + J.length) := by simp
      have htot2 : (T ++ J).length = T.length + J.length := by simp
      have s1 : sub (N ++ (T ++ J)) ((N.length : Nat) : Int) (((N ++ (T ++ J)).length : Nat) : Int) = some (T ++ J) := by
        rw [sub_nat _ (by omega) (Nat.le_refl _), List.take_length, List.drop_left' rfl]
      have s2 : sub (T ++ J) ((q[i].length + 1 : Nat) : Int) (((T ++ J).length : Nat) : Int) = some J := by
        rw [← htl, sub_nat _ (by omega) (Nat.le_refl _), List.take_length, List.drop_left' rfl]
      have a1 : app ([] : List UInt8) (T ++ J) = some (T ++ J) := by rw [app_ok (by simp only [List.length_nil]; omega)]; rfl
      have a2 : app ([] : List UInt8) J = some J := by rw [app_ok (by simp only [List.length_nil]; omega)]; rfl
      have G1 : L_num_Get (N ++ (T ++ J)) = some ((((p[i]).toNat : Nat) : Int), ((N.length : Nat) : Int), true) := by unfold L_num_Get; rw [g1]; rfl
      have G2 : L_num_Read (T ++ J) = some (q[i], ((q[i].length + 1 : Nat) : Int), true) := by unfold L_num_Read; rw [g2]; rfl
      have c1 : decide (((N.length : Nat) : Int) < 1) = false := by simp; omega
      have c2 : decide (((N.length : Nat) : Int) > (((N ++ (T ++ J)).length : Nat) : Int)) = false := by simp only [decide_eq_false_iff_not]; omega
      have c3 : decide (((q[i].length + 1 : Nat) : Int) < 1) = false := by simp only [decide_eq_false_iff_not]; omega
      have c4 : decide (((q[i].length + 1 : Nat) : Int) > (((T ++ J).length : Nat) : Int)) = false := by simp only [decide_eq_false_iff_not]; omega
      unfold L_subwaylaw01_NumJoin_k41
      rw [G1]
      show ((idx p ((i : Nat) : Int)).bind fun x => cond ((((p[i]).toNat : Nat) : Int) != IntKind.wrap .i64 x) _ (cond (decide (((N.length : Nat) : Int) < 1)) _ (L_subwaylaw01_NumJoin_k42 g _ q _ _ _ (decide (((N.length : Nat) : Int) > (((N ++ (T ++ J)).length : Nat) : Int)))))) = _
      rw [hx1]
      simp only [cond_false, Option.bind_some]
      rw [hwn, c1, c2]
      simp only [cond_false]
      unfold L_subwaylaw01_NumJoin_k42
      show (sub (N ++ (T ++ J)) ((N.length : Nat) : Int) _).bind _ = _
      rw [s1]
      simp only [Option.bind_some]
      rw [a1]
      simp only [Option.bind_some]
      rw [G2]
      show ((idx q ((i : Nat) : Int)).bind fun x => cond (!(q[i] == x)) _ (cond (decide (((q[i].length + 1 : Nat) : Int) < 1)) _ (L_subwaylaw01_NumJoin_k43 g _ _ _ _ (decide (((q[i].length + 1 : Nat) : Int) > (((T ++ J).length : Nat) : Int)))))) = _
      rw [hx2]
      simp only [cond_false, Option.bind_some]
      rw [c3, c4, beq_self_eq_true]
      simp only [cond_false, Bool.not_true]
      unfold L_subwaylaw01_NumJoin_k43
      show (sub (T ++ J) ((q[i].length + 1 : Nat) : Int) _).bind _ = _
      rw [s2]
      simp only [Option.bind_some]
      rw [a2]
      simp only [Option.bind_some]
      rw [w4]
      exact ihh
    · rw [show decide (((i : Nat) : Int) < ((List.length q : Nat) : Int)) = false by simp; omega, joinN_end (.inr (by omega))]
      rfl
theorem join_first (p : List Int) (q : List (List UInt8)) (hp : Small p) (h1 : p.length ≤ 100) (h2 : q.length ≤ 100) (hq : ∀ s ∈ q, s.length ≤ maxLen) :
    ∀ (d i f : Nat) (b : List UInt8), d = p.length - i → i ≤ p.length → d < f → b ++ joinN (p.drop i) (q.drop i) = joinN p q → b.length ≤ 263 * i → (∀ j, j < i → ∀ s, q[j]? = some s → s.length ≤ 255) →
    L_subwaylaw01_NumJoin_l16 p q true f b ((i : Nat) : Int) = some true := by
  intro d
  induction d with
  | zero =>
    intro i f b hd hi hf hb hlen hsh
    obtain ⟨f, rfl⟩ : ∃ x, f = x + 1 := ⟨f - 1, by omega⟩
    show L_subwaylaw01_NumJoin_b16 (L_subwaylaw01_NumJoin_l16 p q true f) p q true _ _ = _
    unfold L_subwaylaw01_NumJoin_b16
    rw [show decide (((i : Nat) : Int) < ((List.length p : Nat) : Int)) = false by simp; omega]
    rw [joinN_end (.inl (by omega)), List.append_nil] at hb
    subst hb
    exact join_second _ p q hp (fun j hj s hs => hsh j (by omega) s hs) h1 h2 p.length 0 fuel (by omega) (by omega) (by rw [fuel_eq]; omega)
  | succ d ih =>
    intro i f b hd hi hf hb hlen hsh
    obtain ⟨f, rfl⟩ : ∃ x, f = x + 1 := ⟨f - 1, by omega⟩
    show L_subwaylaw01_NumJoin_b16 (L_subwaylaw01_NumJoin_l16 p q true f) p q true _ _ = _
    unfold L_subwaylaw01_NumJoin_b16
    have hip : i < p.length := by omega
    rw [show decide (((i : Nat) : Int) < ((List.length p : Nat) : Int)) = true by simp; omega]
    simp only [cond_true]
    unfold L_subwaylaw01_NumJoin_k31
    by_cases hiq : i < q.length
    · rw [show decide (((i : Nat) : Int) < ((List.length q : Nat) : Int)) = true by simp; omega, show idx q ((i : Nat) : Int) = some q[i] from idx_get hiq, show idx p ((i : Nat) : Int) = some p[i] from idx_get hip]
      simp only [cond_true, Option.bind_some]
      by_cases hs : 255 < q[i].length
      · rw [show decide (((List.length q[i] : Nat) : Int) > 255) = true by simp; omega]
        rfl
      · rw [show decide (((List.length q[i] : Nat) : Int) > 255) = false by simp; omega]
        have hn := hp p[i] (List.getElem_mem hip)
        have hput : putL (IntKind.wrap .i64 p[i]) = putN (p[i]).toNat := by rw [wrap64 (by omega)]; unfold putL; rw [if_pos (by omega)]
        have hpl := putN_length_le (p[i]).toNat
        have htl := textL_length (s := q[i]) (by omega)
        have w4 : IntKind.wrap .i64 ((i : Int) + 1) = ((i + 1 : Nat) : Int) := by rw [wrap64 (by omega)]; omega
        simp only [cond_false, L_num_Put, hput, Option.bind_some, tText (hq q[i] (List.getElem_mem hiq)), app_ok (show b.length + (putN (p[i]).toNat).length ≤ 2147483648 by omega),
          app_ok (show (b ++ putN (p[i]).toNat).length + (textL q[i]).length ≤ 2147483648 by rw [List.length_append]; omega), w4]
        refine ih (i + 1) f _ (by omega) (by omega) (by omega) ?_ ?_ ?_
        · rw [joinN_step hip hiq] at hb
          rw [← hb]
          simp
        · simp only [List.length_append]
          omega
        · intro j hj s hs'
          by_cases hji : j = i
          · subst hji
            rw [List.getElem?_eq_getElem hiq] at hs'
            injection hs' with hs'
            subst hs'
            omega
          · exact hsh j (by omega) s hs'
    · rw [show decide (((i : Nat) : Int) < ((List.length q : Nat) : Int)) = false by simp; omega]
      rw [joinN_end (.inr (by omega)), List.append_nil] at hb
      subst hb
      exact join_second _ p q hp (fun j hj s hs => hsh j (by have := (List.getElem?_eq_some_iff.1 hs).1; omega) s hs) h1 h2 p.length 0 fuel (by omega) (by omega) (by rw [fuel_eq]; omega)
theorem numJoin_true (p : List Int) (q : List (List UInt8)) (hp : Small p) (hq : ∀ s ∈ q, s.length ≤ maxLen) : L_subwaylaw01_NumJoin p q = some true := by
  unfold L_subwaylaw01_NumJoin
  rw [numHead_true]
  simp only [Option.bind_some]
  by_cases h1 : 100 < p.length
  · rw [show decide (((List.length p : Nat) : Int) > 100) = true by simp; omega]
    rfl
  · rw [show decide (((List.length p : Nat) : Int) > 100) = false by simp; omega]
    simp only [cond_false]
    by_cases h2 : 100 < q.length
    · rw [show decide (((List.length q : Nat) : Int) > 100) = true by simp; omega]
      rfl
    · rw [show decide (((List.length q : Nat) : Int) > 100) = false by simp; omega]
      exact join_first p q hp (by omega) (by omega) hq p.length 0 fuel [] (by omega) (by omega) (by rw [fuel_eq]; omega) rfl (by simp) (fun j hj => absurd hj (by omega))
end Go.Proofs.YtjpchjbbfbmjgaaDoor
