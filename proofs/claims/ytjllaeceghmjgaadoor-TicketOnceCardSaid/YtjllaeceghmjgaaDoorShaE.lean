/- Digits, sums under keys, proofs: of the program and of the document, in plain lists. -/
import Derived.Test.YtjllaeceghmjgaaDoorShaD
import Derived.Test.YtjllaeceghmjgaaDoorLM
import Derived.Test.YtjllaeceghmjgaaDoorLR3
namespace Go.Proofs.YtjllaeceghmjgaaDoor
set_option linter.unusedSimpArgs false
set_option linter.unusedVariables false
def hexDs : List UInt8 := [48, 49, 50, 51, 52, 53, 54, 55, 56, 57, 97, 98, 99, 100, 101, 102]
def hexC (c : UInt8) : List UInt8 := [hexDs.getD (c.toNat / 16) 0, hexDs.getD (c.toNat % 16) 0]
def hexL (b : List UInt8) : List UInt8 := b.flatMap hexC
theorem hexL_length : ∀ b : List UInt8, (hexL b).length = 2 * b.length
  | [] => rfl
  | c :: b => by
    have := hexL_length b
    simp [hexL, hexC] at *
    omega
theorem hexL_snoc (b : List UInt8) (c : UInt8) : hexL (b ++ [c]) = hexL b ++ hexC c := by simp [hexL]
theorem take_snoc {α : Type} (l : List α) (i : Nat) (d : α) (h : i < l.length) : l.take (i + 1) = l.take i ++ [l.getD i d] := by
  rw [List.take_add_one, List.getElem?_eq_getElem h]
  simp [List.getD, h]
theorem hi_ref (c : UInt8) : IntKind.wrap .u8 (Int.tdiv ((c.toNat : Nat) : Int) 16) = ((c.toNat / 16 : Nat) : Int) := by
  have h := c.toNat_lt
  have := tdiv_nat c.toNat 16
  rw [show ((16 : Nat) : Int) = 16 from rfl] at this
  rw [this, wrap8]
  omega
theorem lo_ref (c : UInt8) : Int.tmod ((c.toNat : Nat) : Int) 16 = ((c.toNat % 16 : Nat) : Int) := by
  have := tmod_nat c.toNat 16
  rw [show ((16 : Nat) : Int) = 16 from rfl] at this
  exact this
theorem hi_prog (c : UInt8) : bShr .u8 ((c.toNat : Nat) : Int) 4 = ((c.toNat / 16 : Nat) : Int) := bShr_nat .u8 c.toNat 4 (by decide)
theorem lo_prog (c : UInt8) : bAnd .u8 ((c.toNat : Nat) : Int) 15 = ((c.toNat % 16 : Nat) : Int) := by
  have h := c.toNat_lt
  unfold bAnd
  have : (BitVec.ofInt 8 ((c.toNat : Nat) : Int) &&& BitVec.ofInt 8 15).toNat = c.toNat % 16 := by
    rw [BitVec.toNat_and, BitVec.ofInt_natCast, BitVec.toNat_ofNat, Nat.mod_eq_of_lt (by omega)]
    show c.toNat &&& 15 = _
    exact Nat.and_two_pow_sub_one_eq_mod c.toNat 4
  show IntKind.wrap .u8 ((BitVec.ofInt 8 ((c.toNat : Nat) : Int) &&& BitVec.ofInt 8 15).toNat : Int) = _
  rw [this, wrap8]
  omega
theorem hexDs_len : hexDs.length = 16 := rfl
theorem ref_hex_loop (b : List UInt8) (hb : b.length ≤ 1000000) : ∀ (d i f : Nat), d = b.length - i → i ≤ b.length → d < f → L_subwayref02_Hex_l1 b f (hexL (b.take i)) (i : Int) = some (hexL b) := by
  intro d
  induction d with
  | zero =>
    intro i f hd hi hf
    obtain ⟨f, rfl⟩ : ∃ g, f = g + 1 := ⟨f - 1, by omega⟩
    have : i = b.length := by omega
    subst this
    show L_subwayref02_Hex_b1 (L_subwayref02_Hex_l1 b f) b (hexL (b.take b.length)) ((b.length : Nat) : Int) = _
    unfold L_subwayref02_Hex_b1
    rw [show decide (((b.length : Nat) : Int) < ((b.length : Nat) : Int)) = false by simp, cond_false, List.take_length]
  | succ d ih =>
    intro i f hd hi hf
    obtain ⟨f, rfl⟩ : ∃ g, f = g + 1 := ⟨f - 1, by omega⟩
    show L_subwayref02_Hex_b1 (L_subwayref02_Hex_l1 b f) b (hexL (b.take i)) (i : Int) = _
    unfold L_subwayref02_Hex_b1
    have hl : (hexL (b.take i)).length ≤ 2000000 := by rw [hexL_length, List.length_take]; omega
    rw [show decide ((i : Int) < ((b.length : Nat) : Int)) = true by simp; omega, cond_true, idx_getD b i 0 (by omega)]
    have hlt := (b.getD i 0).toNat_lt
    have e1 : idx ([48, 49, 50, 51, 52, 53, 54, 55, 56, 57, 97, 98, 99, 100, 101, 102] : List UInt8) (((b.getD i 0).toNat / 16 : Nat) : Int) = some (hexDs.getD ((b.getD i 0).toNat / 16) 0) := idx_getD hexDs _ 0 (by rw [hexDs_len]; omega)
    have e2 : idx ([48, 49, 50, 51, 52, 53, 54, 55, 56, 57, 97, 98, 99, 100, 101, 102] : List UInt8) (((b.getD i 0).toNat % 16 : Nat) : Int) = some (hexDs.getD ((b.getD i 0).toNat % 16) 0) := idx_getD hexDs _ 0 (by rw [hexDs_len]; omega)
    simp only [Option.bind_some, hi_ref, lo_ref, e1, e2]
    rw [app_ok (by simp only [List.length_cons, List.length_nil]; omega), Option.bind_some, show ((i : Int) + 1) = ((i + 1 : Nat) : Int) by omega, wrapn (by omega)]
    have := ih (i + 1) f (by omega) (by omega) (by omega)
    rw [take_snoc b i 0 (by omega), hexL_snoc] at this
    exact this
theorem ref_hex (b : List UInt8) (hb : b.length ≤ 1000000) : L_subwayref02_Hex b = some (hexL b) := ref_hex_loop b hb b.length 0 fuel (by omega) (by omega) (by unfold fuel; omega)
/-- digits, of which the first 2 i are written -/
def hexS (b : List UInt8) (i : Nat) : List UInt8 := hexL (b.take i) ++ List.replicate (2 * b.length - 2 * i) 0
theorem hexS_length (b : List UInt8) (i : Nat) (h : i ≤ b.length) : (hexS b i).length = 2 * b.length := by
  simp [hexS, hexL_length]
  omega
theorem hexS_next (b : List UInt8) (i : Nat) (h : i < b.length) : ((hexS b i).set (2 * i) (hexDs.getD ((b.getD i 0).toNat / 16) 0)).set (2 * i + 1) (hexDs.getD ((b.getD i 0).toNat % 16) 0) = hexS b (i + 1) := by
  have hl : (hexL (b.take i)).length = 2 * i := by rw [hexL_length, List.length_take]; omega
  unfold hexS
  rw [show 2 * b.length - 2 * i = (2 * b.length - 2 * (i + 1)) + 1 + 1 by omega, List.replicate_succ, List.replicate_succ]
  rw [List.set_append_right _ _ (by omega), List.set_append_right _ _ (by omega), hl, Nat.sub_self, show 2 * i + 1 - 2 * i = 1 by omega]
  rw [take_snoc b i 0 h, hexL_snoc]
  simp [hexC]
theorem prog_hex_loop (b : List UInt8) (hb : b.length ≤ 1000000) : ∀ (d i f : Nat), d = b.length - i → i ≤ b.length → d < f → L_digest_Hex_l1 b f (hexS b i) (i : Int) = some (hexL b) := by
  intro d
  induction d with
  | zero =>
    intro i f hd hi hf
    obtain ⟨f, rfl⟩ : ∃ g, f = g + 1 := ⟨f - 1, by omega⟩
    have : i = b.length := by omega
    subst this
    show L_digest_Hex_b1 (L_digest_Hex_l1 b f) b (hexS b b.length) ((b.length : Nat) : Int) = _
    unfold L_digest_Hex_b1
    rw [show decide (((b.length : Nat) : Int) < ((b.length : Nat) : Int)) = false by simp, cond_false]
    unfold hexS
    rw [List.take_length, Nat.sub_self]
    simp
  | succ d ih =>
    intro i f hd hi hf
    obtain ⟨f, rfl⟩ : ∃ g, f = g + 1 := ⟨f - 1, by omega⟩
    show L_digest_Hex_b1 (L_digest_Hex_l1 b f) b (hexS b i) (i : Int) = _
    unfold L_digest_Hex_b1
    have hl := hexS_length b i (by omega)
    rw [show decide ((i : Int) < ((b.length : Nat) : Int)) = true by simp; omega, cond_true, idx_getD b i 0 (by omega)]
    have hlt := (b.getD i 0).toNat_lt
    have e1 : idx ([48, 49, 50, 51, 52, 53, 54, 55, 56, 57, 97, 98, 99, 100, 101, 102] : List UInt8) (((b.getD i 0).toNat / 16 : Nat) : Int) = some (hexDs.getD ((b.getD i 0).toNat / 16) 0) := idx_getD hexDs _ 0 (by rw [hexDs_len]; omega)
    have e2 : idx ([48, 49, 50, 51, 52, 53, 54, 55, 56, 57, 97, 98, 99, 100, 101, 102] : List UInt8) (((b.getD i 0).toNat % 16 : Nat) : Int) = some (hexDs.getD ((b.getD i 0).toNat % 16) 0) := idx_getD hexDs _ 0 (by rw [hexDs_len]; omega)
    have w2 : IntKind.wrap .i64 (2 * (i : Int)) = ((2 * i : Nat) : Int) := by rw [show (2 * (i : Int)) = ((2 * i : Nat) : Int) by omega, wrapn (by omega)]
    have w3 : IntKind.wrap .i64 (((2 * i : Nat) : Int) + 1) = ((2 * i + 1 : Nat) : Int) := by rw [show (((2 * i : Nat) : Int) + 1) = ((2 * i + 1 : Nat) : Int) by omega, wrapn (by omega)]
    have w4 : IntKind.wrap .i64 ((i : Int) + 1) = ((i + 1 : Nat) : Int) := by rw [show ((i : Int) + 1) = ((i + 1 : Nat) : Int) by omega, wrapn (by omega)]
    simp only [Option.bind_some, hi_prog, lo_prog, e1, e2, w2, w3, w4]
    rw [idx_getD _ (2 * i) 0 (by omega), Option.bind_some, idx_getD _ (2 * i + 1) 0 (by simp; omega), Option.bind_some, Int.toNat_natCast, Int.toNat_natCast, hexS_next b i (by omega)]
    exact ih (i + 1) f (by omega) (by omega) (by omega)
theorem prog_hex (b : List UInt8) (hb : b.length ≤ 1000000) : L_digest_Hex b = some (hexL b) := by
  unfold L_digest_Hex
  rw [show (2 * ((b.length : Nat) : Int)) = ((2 * b.length : Nat) : Int) by omega, wrapn (by omega), show decide (0 ≤ ((2 * b.length : Nat) : Int) ∧ ((2 * b.length : Nat) : Int) ≤ 2147483648) = true from decide_eq_true ⟨by omega, by omega⟩]
  simp only [chk, Option.bind_some, Int.toNat_natCast]
  have := prog_hex_loop b hb b.length 0 fuel (by omega) (by omega) (by unfold fuel; omega)
  have h0 : hexS b 0 = List.replicate (2 * b.length) 0 := by simp [hexS, hexL]
  rw [h0] at this
  exact this
/-! sums under keys -/
def keyK (key : List UInt8) : List UInt8 := if key.length > 64 then sumL key else key
def keyL (key : List UInt8) : List UInt8 := keyK key ++ List.replicate (64 - (keyK key).length) 0
theorem keyK_long {key : List UInt8} (h : key.length > 64) : keyK key = sumL key := if_pos h
theorem keyK_short {key : List UInt8} (h : ¬ key.length > 64) : keyK key = key := if_neg h
def xorC (x c : UInt8) : UInt8 := toU8 (bXor .u8 ((x.toNat : Nat) : Int) ((c.toNat : Nat) : Int))
def xorL (k : List UInt8) (c : UInt8) : List UInt8 := k.map fun x => xorC x c
def macL (key b : List UInt8) : List UInt8 := sumL (xorL (keyL key) 92 ++ sumL (xorL (keyL key) 54 ++ b))
theorem keyL_length (key : List UInt8) : (keyL key).length = 64 := by
  unfold keyL
  by_cases h : key.length > 64
  · rw [keyK_long h, List.length_append, List.length_replicate, sumL_length]
  · rw [keyK_short h, List.length_append, List.length_replicate]; omega
theorem macL_length (key b : List UInt8) : (macL key b).length = 32 := sumL_length _
theorem xorL_length (k : List UInt8) (c : UInt8) : (xorL k c).length = k.length := by simp [xorL]
def xorS (k : List UInt8) (c : UInt8) (i : Nat) : List UInt8 := (xorL k c).take i ++ k.drop i
theorem xorS_length (k : List UInt8) (c : UInt8) (i : Nat) : (xorS k c i).length = k.length := by
  simp [xorS, xorL_length]
  omega
theorem xorS_get (k : List UInt8) (c : UInt8) (i : Nat) (h : i < k.length) : (xorS k c i).getD i 0 = k.getD i 0 := by
  unfold xorS
  simp only [List.getD]
  rw [List.getElem?_append_right (by simp; omega), List.getElem?_drop]
  congr 2
  simp [xorL_length]
  omega
theorem xorS_next (k : List UInt8) (c : UInt8) (i : Nat) (h : i < k.length) : (xorS k c i).set i (xorC (k.getD i 0) c) = xorS k c (i + 1) := by
  unfold xorS
  have hl : ((xorL k c).take i).length = i := by simp [xorL_length]; omega
  rw [List.set_append_right _ _ (by omega), hl, Nat.sub_self, List.drop_eq_getElem_cons h, List.set_cons_zero, take_snoc (xorL k c) i 0 (by simp [xorL_length]; omega), List.append_assoc]
  congr 2
  simp [xorL, List.getD, h]
theorem prog_of (key : List UInt8) (hk : key.length ≤ 1073741824) : L_mac_of key = some (keyL key) := by
  have hc : ∀ v : List UInt8, v.length ≤ 64 → L_mac_of_k1 v = some (v ++ List.replicate (64 - v.length) 0) := by
    intro v hv
    unfold L_mac_of_k1
    rw [Option.bind_some]
    congr 1
    unfold cpy
    rw [List.take_zero, List.nil_append, List.length_replicate, List.take_of_length_le hv, List.drop_replicate, show 64 - (0 + min 64 v.length) = 64 - v.length by omega]
  unfold L_mac_of keyL
  by_cases h : key.length > 64
  · rw [show decide (((key.length : Nat) : Int) > 64) = true from decide_eq_true (by omega), cond_true, prog_sum key hk, Option.bind_some, sumL_length]
    simp only [Nat.beq_refl, chk, Option.bind_some]
    rw [hc _ (by rw [sumL_length]; omega), keyK_long h]
  · rw [show decide (((key.length : Nat) : Int) > 64) = false from decide_eq_false (by omega), cond_false, hc _ (by omega), keyK_short h]
theorem prog_xor (k : List UInt8) (hk : k.length = 64) (c : UInt8) (b : List UInt8) (hb : b.length ≤ 1000000000) : ∀ (d i f : Nat), d = 64 - i → i ≤ 64 → d < f → L_mac_pad_sum_l1 c b f (xorS k c i) (i : Int) = some (sumL (xorL k c ++ b)) := by
  intro d
  induction d with
  | zero =>
    intro i f hd hi hf
    obtain ⟨f, rfl⟩ : ∃ g, f = g + 1 := ⟨f - 1, by omega⟩
    have : i = 64 := by omega
    subst this
    show L_mac_pad_sum_b1 (L_mac_pad_sum_l1 c b f) c b (xorS k c 64) ((64 : Nat) : Int) = _
    unfold L_mac_pad_sum_b1
    have hx : xorS k c 64 = xorL k c := by
      unfold xorS
      rw [List.take_of_length_le (by rw [xorL_length]; omega), List.drop_of_length_le (by omega), List.append_nil]
    rw [show decide (((64 : Nat) : Int) < 64) = false by decide, cond_false, hx, app_ok (by rw [xorL_length]; omega), Option.bind_some, prog_sum _ (by rw [List.length_append, xorL_length]; omega), Option.bind_some, sumL_length]
    rfl
  | succ d ih =>
    intro i f hd hi hf
    obtain ⟨f, rfl⟩ : ∃ g, f = g + 1 := ⟨f - 1, by omega⟩
    show L_mac_pad_sum_b1 (L_mac_pad_sum_l1 c b f) c b (xorS k c i) (i : Int) = _
    unfold L_mac_pad_sum_b1
    have hl := xorS_length k c i
    rw [show decide ((i : Int) < 64) = true from decide_eq_true (by omega), cond_true, idx_getD _ i 0 (by omega), Option.bind_some, Option.bind_some, Option.bind_some, Int.toNat_natCast, xorS_get k c i (by omega)]
    rw [show ((i : Int) + 1) = ((i + 1 : Nat) : Int) by omega, wrapn (by omega)]
    have hn := xorS_next k c i (by omega)
    unfold xorC at hn
    rw [hn]
    exact ih (i + 1) f (by omega) (by omega) (by omega)
theorem prog_padsum (k : List UInt8) (hk : k.length = 64) (c : UInt8) (b : List UInt8) (hb : b.length ≤ 1000000000) : L_mac_pad_sum k c b = some (sumL (xorL k c ++ b)) := by
  have := prog_xor k hk c b hb 64 0 fuel (by omega) (by omega) (by unfold fuel; omega)
  rw [show xorS k c 0 = k by simp [xorS]] at this
  exact this
theorem prog_mac (key b : List UInt8) (hk : key.length ≤ 1073741824) (hb : b.length ≤ 1000000000) : L_mac_Mac key b = some (macL key b) := by
  unfold L_mac_Mac
  rw [prog_of key hk, Option.bind_some, keyL_length]
  simp only [Nat.beq_refl, chk, Option.bind_some]
  rw [prog_padsum _ (keyL_length key) 54 b hb, Option.bind_some, sumL_length]
  simp only [Nat.beq_refl, Option.bind_some]
  rw [prog_padsum _ (keyL_length key) 92 _ (by rw [sumL_length]; omega), Option.bind_some, sumL_length]
  rfl
theorem ref_xor (r5) (k : List UInt8) (hk : k.length = 64) (c : UInt8) : ∀ (d i f : Nat), d = 64 - i → i ≤ 64 → d < f → L_subwayref03_padded_l6 r5 c f (xorS k c i) (i : Int) = some (xorL k c) := by
  intro d
  induction d with
  | zero =>
    intro i f hd hi hf
    obtain ⟨f, rfl⟩ : ∃ g, f = g + 1 := ⟨f - 1, by omega⟩
    have : i = 64 := by omega
    subst this
    show L_subwayref03_padded_b6 r5 (L_subwayref03_padded_l6 r5 c f) c (xorS k c 64) ((64 : Nat) : Int) = _
    unfold L_subwayref03_padded_b6
    have hx : xorS k c 64 = xorL k c := by
      unfold xorS
      rw [List.take_of_length_le (by rw [xorL_length]; omega), List.drop_of_length_le (by omega), List.append_nil]
    rw [show decide (((64 : Nat) : Int) < 64) = false by decide, cond_false, hx]
  | succ d ih =>
    intro i f hd hi hf
    obtain ⟨f, rfl⟩ : ∃ g, f = g + 1 := ⟨f - 1, by omega⟩
    show L_subwayref03_padded_b6 r5 (L_subwayref03_padded_l6 r5 c f) c (xorS k c i) (i : Int) = _
    unfold L_subwayref03_padded_b6
    have hl := xorS_length k c i
    rw [show decide ((i : Int) < 64) = true from decide_eq_true (by omega), cond_true, idx_getD _ i 0 (by omega), Option.bind_some, Option.bind_some, Option.bind_some, Int.toNat_natCast, xorS_get k c i (by omega)]
    rw [show ((i : Int) + 1) = ((i + 1 : Nat) : Int) by omega, wrapn (by omega)]
    have hn := xorS_next k c i (by omega)
    unfold xorC at hn
    rw [hn]
    exact ih (i + 1) f (by omega) (by omega) (by omega)
theorem ref_fill (c : UInt8) {R : List UInt8} : ∀ (z : Nat) (v : List UInt8) (f : Nat), v.length + z = 64 → z < f → (∀ r5, L_subwayref03_padded_l6 r5 c fuel (v ++ List.replicate z 0) 0 = some R) → L_subwayref03_padded_l4 c f v = some R := by
  intro z
  induction z with
  | zero =>
    intro v f hv hf hR
    obtain ⟨f, rfl⟩ : ∃ g, f = g + 1 := ⟨f - 1, by omega⟩
    show L_subwayref03_padded_b4 (L_subwayref03_padded_l4 c f) c v = _
    unfold L_subwayref03_padded_b4
    rw [show decide (((v.length : Nat) : Int) < 64) = false from decide_eq_false (by omega), cond_false]
    have := hR (L_subwayref03_padded_l4 c f)
    rw [show List.replicate 0 (0 : UInt8) = [] from rfl, List.append_nil] at this
    exact this
  | succ z ih =>
    intro v f hv hf hR
    obtain ⟨f, rfl⟩ : ∃ g, f = g + 1 := ⟨f - 1, by omega⟩
    show L_subwayref03_padded_b4 (L_subwayref03_padded_l4 c f) c v = _
    unfold L_subwayref03_padded_b4
    rw [show decide (((v.length : Nat) : Int) < 64) = true from decide_eq_true (by omega), cond_true, app_ok (by simp; omega), Option.bind_some]
    refine ih (v ++ [0]) f (by simp; omega) (by omega) fun r5 => ?_
    have := hR r5
    rw [show List.replicate (z + 1) (0 : UInt8) = [0] ++ List.replicate z 0 from rfl, ← List.append_assoc] at this
    exact this
theorem ref_pad1 (c : UInt8) (v : List UInt8) (hv : v.length ≤ 64) : L_subwayref03_padded_k1 c v = some (xorL (v ++ List.replicate (64 - v.length) 0) c) := by
  unfold L_subwayref03_padded_k1
  refine ref_fill c (64 - v.length) v fuel (by omega) (by unfold fuel; omega) fun r5 => ?_
  have hl : (v ++ List.replicate (64 - v.length) (0 : UInt8)).length = 64 := by simp; omega
  generalize v ++ List.replicate (64 - v.length) (0 : UInt8) = k at hl ⊢
  have := ref_xor r5 k hl c 64 0 fuel (by omega) (by omega) (by unfold fuel; omega)
  rw [show xorS k c 0 = k by simp [xorS]] at this
  exact this
end Go.Proofs.YtjllaeceghmjgaaDoor
