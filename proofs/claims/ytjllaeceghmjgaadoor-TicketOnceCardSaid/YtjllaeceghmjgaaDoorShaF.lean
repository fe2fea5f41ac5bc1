/- Sums under keys, proofs: of the document. -/
import Derived.Test.YtjllaeceghmjgaaDoorShaE
namespace Go.Proofs.YtjllaeceghmjgaaDoor
set_option linter.unusedSimpArgs false
set_option linter.unusedVariables false
theorem ref_pad2 (q : List UInt8) (hs : q.length = 32) (c : UInt8) : ((chk (Nat.beq (List.length q) 32)).bind fun _ => ((app ([] : List UInt8) q).bind fun l541 => (L_subwayref03_padded_k1 c l541))) = some (xorL (q ++ List.replicate (64 - q.length) 0) c) := by
  rw [show Nat.beq q.length 32 = true by rw [hs]; rfl]
  simp only [chk, Option.bind_some]
  rw [app_ok (by rw [List.length_nil, hs]; omega), Option.bind_some, List.nil_append]
  exact ref_pad1 c q (by omega)
theorem ref_padded (key : List UInt8) (hk : key.length ≤ 1073741824) (c : UInt8) : L_subwayref03_padded key c = some (xorL (keyL key) c) := by
  unfold L_subwayref03_padded keyL
  rw [app_ok (by rw [List.length_nil]; omega), Option.bind_some, List.nil_append]
  by_cases h : key.length > 64
  · rw [keyK_long h, show decide (((key.length : Nat) : Int) > 64) = true from decide_eq_true (by omega), cond_true, ref_sum key hk, Option.bind_some]
    exact ref_pad2 _ (sumL_length key) c
  · rw [keyK_short h, show decide (((key.length : Nat) : Int) > 64) = false from decide_eq_false (by omega), cond_false]
    exact ref_pad1 c key (by omega)
theorem ref_mac (key b : List UInt8) (hk : key.length ≤ 1073741824) (hb : b.length ≤ 1000000000) : L_subwayref03_Mac key b = some (macL key b) := by
  have hx : ∀ c, (xorL (keyL key) c).length = 64 := fun c => by rw [xorL_length, keyL_length]
  unfold L_subwayref03_Mac
  rw [ref_padded key hk 54, Option.bind_some, app_ok (by rw [hx]; omega), Option.bind_some, ref_sum _ (by rw [List.length_append, hx]; omega), Option.bind_some, sumL_length]
  simp only [Nat.beq_refl, chk, Option.bind_some]
  rw [ref_padded key hk 92, Option.bind_some, app_ok (by rw [hx, sumL_length]; omega), Option.bind_some, ref_sum _ (by rw [List.length_append, hx, sumL_length]; omega), Option.bind_some, sumL_length]
  rfl
/-! proofs -/
def txtL (s : List UInt8) : List UInt8 := UInt8.ofNat s.length :: s
def proofL (key : List UInt8) (ws : List (List UInt8)) : List UInt8 := if ws.all (fun w => decide (w.length ≤ 255)) then hexL (macL key (ws.flatMap txtL)) else []
theorem proofL_length {key : List UInt8} {ws : List (List UInt8)} (h : ∀ w ∈ ws, w.length ≤ 255) : (proofL key ws).length = 64 := by
  unfold proofL
  rw [if_pos (by simpa using h), hexL_length, macL_length]
theorem prog_text (s : List UInt8) (h : s.length ≤ 255) : L_num_Text s = some (txtL s) := by
  unfold L_num_Text
  rw [show decide (((s.length : Nat) : Int) > 255) = false from decide_eq_false (by omega), cond_false, app_ok (by simp; omega), toU8_wrap]
  rfl
theorem ref_text (s : List UInt8) (h : s.length ≤ 255) : L_subwayref01_Text s = some (txtL s) := by
  unfold L_subwayref01_Text
  rw [show decide (((s.length : Nat) : Int) > 255) = false from decide_eq_false (by omega), cond_false, app_ok (by simp; omega), toU8_wrap]
  rfl
theorem txtL_length (s : List UInt8) : (txtL s).length = s.length + 1 := by simp [txtL]
theorem all_take_false {ws : List (List UInt8)} {i : Nat} (hi : i < ws.length) (h : ¬ (ws.getD i []).length ≤ 255) : ws.all (fun w => decide (w.length ≤ 255)) = false := by
  rw [List.all_eq_false]
  refine ⟨ws.getD i [], ?_, by simpa using h⟩
  simp [List.getD, hi]
theorem prog_proof_loop (key : List UInt8) (hk : key.length ≤ 1073741824) (ws : List (List UInt8)) (hw : ws.length ≤ 1000) : ∀ (d i f : Nat), d = ws.length - i → i ≤ ws.length → d < f → (∀ w ∈ ws.take i, w.length ≤ 255) → ((ws.take i).flatMap txtL).length ≤ 256 * i →
    L_mac_Proof_l1 key ws f ((ws.take i).flatMap txtL) (i : Int) = some (proofL key ws) := by
  intro d
  induction d with
  | zero =>
    intro i f hd hi hf hall hlen
    obtain ⟨f, rfl⟩ : ∃ g, f = g + 1 := ⟨f - 1, by omega⟩
    have : i = ws.length := by omega
    subst this
    rw [List.take_length] at hall hlen ⊢
    show L_mac_Proof_b1 (L_mac_Proof_l1 key ws f) key ws (ws.flatMap txtL) ((ws.length : Nat) : Int) = _
    unfold L_mac_Proof_b1 proofL
    rw [show decide (((ws.length : Nat) : Int) < ((ws.length : Nat) : Int)) = false by simp, cond_false, prog_mac key _ hk (by omega), Option.bind_some, macL_length]
    simp only [Nat.beq_refl, chk, Option.bind_some]
    rw [prog_hex _ (by rw [macL_length]; omega), Option.bind_some, if_pos (by simpa using hall)]
  | succ d ih =>
    intro i f hd hi hf hall hlen
    obtain ⟨f, rfl⟩ : ∃ g, f = g + 1 := ⟨f - 1, by omega⟩
    show L_mac_Proof_b1 (L_mac_Proof_l1 key ws f) key ws ((ws.take i).flatMap txtL) (i : Int) = _
    unfold L_mac_Proof_b1
    rw [show decide ((i : Int) < ((ws.length : Nat) : Int)) = true from decide_eq_true (by omega), cond_true, idx_getD ws i [] (by omega), Option.bind_some]
    by_cases h : (ws.getD i []).length ≤ 255
    · rw [show decide ((((ws.getD i []).length : Nat) : Int) > 255) = false from decide_eq_false (by omega), cond_false, prog_text _ h, Option.bind_some, app_ok (by rw [txtL_length]; omega), Option.bind_some, show ((i : Int) + 1) = ((i + 1 : Nat) : Int) by omega, wrapn (by omega)]
      have ht := take_snoc ws i [] (by omega)
      have hf : (ws.take (i + 1)).flatMap txtL = (ws.take i).flatMap txtL ++ txtL (ws.getD i []) := by rw [ht]; simp
      have := ih (i + 1) f (by omega) (by omega) (by omega) (by
        intro w hw'
        rw [ht] at hw'
        rcases List.mem_append.1 hw' with h1 | h1
        · exact hall w h1
        · simp only [List.mem_singleton] at h1
          rw [h1]; exact h) (by rw [hf, List.length_append, txtL_length]; omega)
      rw [hf] at this
      exact this
    · rw [show decide ((((ws.getD i []).length : Nat) : Int) > 255) = true from decide_eq_true (by omega), cond_true]
      unfold proofL
      rw [all_take_false (by omega) h]
      rfl
theorem prog_proof (key : List UInt8) (hk : key.length ≤ 1073741824) (ws : List (List UInt8)) (hw : ws.length ≤ 1000) : L_mac_Proof key ws = some (proofL key ws) :=
  prog_proof_loop key hk ws hw ws.length 0 fuel (by omega) (by omega) (by unfold fuel; omega) (by simp) (by simp)
theorem ref_proof_loop (key : List UInt8) (hk : key.length ≤ 1073741824) (ws : List (List UInt8)) (hw : ws.length ≤ 1000) : ∀ (d i f : Nat), d = ws.length - i → i ≤ ws.length → d < f → (∀ w ∈ ws.take i, w.length ≤ 255) → ((ws.take i).flatMap txtL).length ≤ 256 * i →
    L_subwayref03_Proof_l1 key ws f ((ws.take i).flatMap txtL) (i : Int) = some (proofL key ws) := by
  intro d
  induction d with
  | zero =>
    intro i f hd hi hf hall hlen
    obtain ⟨f, rfl⟩ : ∃ g, f = g + 1 := ⟨f - 1, by omega⟩
    have : i = ws.length := by omega
    subst this
    rw [List.take_length] at hall hlen ⊢
    show L_subwayref03_Proof_b1 (L_subwayref03_Proof_l1 key ws f) key ws (ws.flatMap txtL) ((ws.length : Nat) : Int) = _
    unfold L_subwayref03_Proof_b1 proofL
    rw [show decide (((ws.length : Nat) : Int) < ((ws.length : Nat) : Int)) = false by simp, cond_false, ref_mac key _ hk (by omega), Option.bind_some, macL_length]
    simp only [Nat.beq_refl, chk, Option.bind_some]
    rw [ref_hex _ (by rw [macL_length]; omega), Option.bind_some, if_pos (by simpa using hall)]
  | succ d ih =>
    intro i f hd hi hf hall hlen
    obtain ⟨f, rfl⟩ : ∃ g, f = g + 1 := ⟨f - 1, by omega⟩
    show L_subwayref03_Proof_b1 (L_subwayref03_Proof_l1 key ws f) key ws ((ws.take i).flatMap txtL) (i : Int) = _
    unfold L_subwayref03_Proof_b1
    rw [show decide ((i : Int) < ((ws.length : Nat) : Int)) = true from decide_eq_true (by omega), cond_true, idx_getD ws i [] (by omega), Option.bind_some, Option.bind_some]
    by_cases h : (ws.getD i []).length ≤ 255
    · rw [show decide ((((ws.getD i []).length : Nat) : Int) > 255) = false from decide_eq_false (by omega), cond_false, ref_text _ h, Option.bind_some, app_ok (by rw [txtL_length]; omega), Option.bind_some, show ((i : Int) + 1) = ((i + 1 : Nat) : Int) by omega, wrapn (by omega)]
      have ht := take_snoc ws i [] (by omega)
      have hf : (ws.take (i + 1)).flatMap txtL = (ws.take i).flatMap txtL ++ txtL (ws.getD i []) := by rw [ht]; simp
      have := ih (i + 1) f (by omega) (by omega) (by omega) (by
        intro w hw'
        rw [ht] at hw'
        rcases List.mem_append.1 hw' with h1 | h1
        · exact hall w h1
        · simp only [List.mem_singleton] at h1
          rw [h1]; exact h) (by rw [hf, List.length_append, txtL_length]; omega)
      rw [hf] at this
      exact this
    · rw [show decide ((((ws.getD i []).length : Nat) : Int) > 255) = true from decide_eq_true (by omega), cond_true]
      unfold proofL
      rw [all_take_false (by omega) h]
      rfl
theorem ref_proof (key : List UInt8) (hk : key.length ≤ 1073741824) (ws : List (List UInt8)) (hw : ws.length ≤ 1000) : L_subwayref03_Proof key ws = some (proofL key ws) :=
  ref_proof_loop key hk ws hw ws.length 0 fuel (by omega) (by omega) (by unfold fuel; omega) (by simp) (by simp)
end Go.Proofs.YtjllaeceghmjgaaDoor
