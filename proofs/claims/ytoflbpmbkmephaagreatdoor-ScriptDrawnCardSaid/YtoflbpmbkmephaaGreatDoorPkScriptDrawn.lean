import Derived.Test.YtoflbpmbkmephaaGreatDoorPkScriptDrawn3
set_option linter.unusedSimpArgs false
set_option linter.unusedVariables false
set_option linter.unusedSectionVars false
set_option maxRecDepth 100000
set_option maxHeartbeats 4000000
namespace Go.Proofs.YtoflbpmbkmephaaGreatDoor
open Go.RowKit
theorem bShr_nat (k : IntKind) (a b : Nat) (hb : b ≤ k.bits) : C3 k (a : Int) (b : Int) = ((a / 2 ^ b : Nat) : Int) := by
  unfold C3
  rw [Int.toNat_natCast, Nat.min_eq_left hb, Int.fdiv_eq_ediv_of_nonneg _ (by exact Int.le_of_lt (Int.pow_pos (by omega)))]
  have : ((2 : Int) ^ b) = ((2 ^ b : Nat) : Int) := by push_cast; rfl
  rw [this]
  rfl
theorem Re {α : Type} (l : List α) (i : Nat) (d : α) (h : i < l.length) : idx l (i : Int) = some (l.getD i d) := by rw [Bw h]; simp [List.getD, h]
def J9 : List UInt8 := [48, 49, 50, 51, 52, 53, 54, 55, 56, 57, 97, 98, 99, 100, 101, 102]
def hexC (c : UInt8) : List UInt8 := [J9.getD (c.toNat / 16) 0, J9.getD (c.toNat % 16) 0]
def B1 (b : List UInt8) : List UInt8 := b.flatMap hexC
theorem Jl : ∀ b : List UInt8, (B1 b).length = 2 * b.length
  | [] => rfl
  | c :: b => by
    have := Jl b
    simp [B1, hexC] at *
    omega
theorem hexL_snoc (b : List UInt8) (c : UInt8) : B1 (b ++ [c]) = B1 b ++ hexC c := by simp [B1]
theorem take_snoc {α : Type} (l : List α) (i : Nat) (d : α) (h : i < l.length) : l.take (i + 1) = l.take i ++ [l.getD i d] := by
  rw [List.take_add_one, List.getElem?_eq_getElem h]
  simp [List.getD, h]
theorem hi_prog (c : UInt8) : C3 .u8 ((c.toNat : Nat) : Int) 4 = ((c.toNat / 16 : Nat) : Int) := bShr_nat .u8 c.toNat 4 (by decide)
theorem lo_prog (c : UInt8) : bAnd .u8 ((c.toNat : Nat) : Int) 15 = ((c.toNat % 16 : Nat) : Int) := by
  have h := c.toNat_lt
  unfold bAnd
  have : (BitVec.ofInt 8 ((c.toNat : Nat) : Int) &&& BitVec.ofInt 8 15).toNat = c.toNat % 16 := by
    rw [BitVec.toNat_and, BitVec.ofInt_natCast, BitVec.toNat_ofNat, Nat.mod_eq_of_lt (by omega)]
    show c.toNat &&& 15 = _
    exact Nat.and_two_pow_sub_one_eq_mod c.toNat 4
  show IntKind.wrap .u8 ((BitVec.ofInt 8 ((c.toNat : Nat) : Int) &&& BitVec.ofInt 8 15).toNat : Int) = _
  rw [this, wrap8]
  omega
theorem Cy : J9.length = 16 := rfl
def hexS (b : List UInt8) (i : Nat) : List UInt8 := B1 (b.take i) ++ List.replicate (2 * b.length - 2 * i) 0
theorem Es (b : List UInt8) (i : Nat) (h : i ≤ b.length) : (hexS b i).length = 2 * b.length := by
  simp [hexS, Jl]
  omega
theorem hexS_next (b : List UInt8) (i : Nat) (h : i < b.length) : ((hexS b i).set (2 * i) (J9.getD ((b.getD i 0).toNat / 16) 0)).set (2 * i + 1) (J9.getD ((b.getD i 0).toNat % 16) 0) = hexS b (i + 1) := by
  have hl : (B1 (b.take i)).length = 2 * i := by rw [Jl, List.length_take]; omega
  unfold hexS
  rw [show 2 * b.length - 2 * i = (2 * b.length - 2 * (i + 1)) + 1 + 1 by omega, List.replicate_succ, List.replicate_succ]
  rw [List.set_append_right _ _ (by omega), List.set_append_right _ _ (by omega), hl, Nat.sub_self, show 2 * i + 1 - 2 * i = 1 by omega]
  rw [take_snoc b i 0 h, hexL_snoc]
  simp [hexC]
theorem B2 (b : List UInt8) (hb : b.length ≤ 1000000) : ∀ (d i f : Nat), d = b.length - i → i ≤ b.length → d < f → Zl b f (hexS b i) (i : Int) = some (B1 b) := by
  intro d
  induction d with
  | zero =>
    intro i f hd hi hf
    obtain ⟨f, rfl⟩ : ∃ g, f = g + 1 := ⟨f - 1, by omega⟩
    have : i = b.length := by omega
    subst this
    show Zk (Zl b f) b (hexS b b.length) ((b.length : Nat) : Int) = _
    unfold Zk
    rw [show decide (((b.length : Nat) : Int) < ((b.length : Nat) : Int)) = false by simp, cond_false]
    unfold hexS
    rw [List.take_length, Nat.sub_self]
    simp
  | succ d ih =>
    intro i f hd hi hf
    obtain ⟨f, rfl⟩ : ∃ g, f = g + 1 := ⟨f - 1, by omega⟩
    show Zk (Zl b f) b (hexS b i) (i : Int) = _
    unfold Zk
    have hl := Es b i (by omega)
    rw [show decide ((i : Int) < ((b.length : Nat) : Int)) = true by simp; omega, cond_true, Re b i 0 (by omega)]
    have hlt := (b.getD i 0).toNat_lt
    have e1 : idx ([48, 49, 50, 51, 52, 53, 54, 55, 56, 57, 97, 98, 99, 100, 101, 102] : List UInt8) (((b.getD i 0).toNat / 16 : Nat) : Int) = some (J9.getD ((b.getD i 0).toNat / 16) 0) := Re J9 _ 0 (by rw [Cy]; omega)
    have e2 : idx ([48, 49, 50, 51, 52, 53, 54, 55, 56, 57, 97, 98, 99, 100, 101, 102] : List UInt8) (((b.getD i 0).toNat % 16 : Nat) : Int) = some (J9.getD ((b.getD i 0).toNat % 16) 0) := Re J9 _ 0 (by rw [Cy]; omega)
    have w2 : IntKind.wrap .i64 (2 * (i : Int)) = ((2 * i : Nat) : Int) := by rw [show (2 * (i : Int)) = ((2 * i : Nat) : Int) by omega, D3 (by omega)]
    have w3 : IntKind.wrap .i64 (((2 * i : Nat) : Int) + 1) = ((2 * i + 1 : Nat) : Int) := by rw [show (((2 * i : Nat) : Int) + 1) = ((2 * i + 1 : Nat) : Int) by omega, D3 (by omega)]
    have w4 : IntKind.wrap .i64 ((i : Int) + 1) = ((i + 1 : Nat) : Int) := by rw [show ((i : Int) + 1) = ((i + 1 : Nat) : Int) by omega, D3 (by omega)]
    simp only [Option.bind_some, hi_prog, lo_prog, e1, e2, w2, w3, w4]
    rw [Re _ (2 * i) 0 (by omega), Option.bind_some, Re _ (2 * i + 1) 0 (by simp; omega), Option.bind_some, Int.toNat_natCast, Int.toNat_natCast, hexS_next b i (by omega)]
    exact ih (i + 1) f (by omega) (by omega) (by omega)
theorem prog_hex (b : List UInt8) (hb : b.length ≤ 1000000) : Jq b = some (B1 b) := by
  unfold Jq
  rw [show (2 * ((b.length : Nat) : Int)) = ((2 * b.length : Nat) : Int) by omega, D3 (by omega), show decide (0 ≤ ((2 * b.length : Nat) : Int) ∧ ((2 * b.length : Nat) : Int) ≤ 2147483648) = true from decide_eq_true ⟨by omega, by omega⟩]
  simp only [chk, Option.bind_some, Int.toNat_natCast]
  have := B2 b hb b.length 0 J4 (by omega) (by omega) (by unfold J4; omega)
  have h0 : hexS b 0 = List.replicate (2 * b.length) 0 := by simp [hexS, B1]
  rw [h0] at this
  exact this
def Cz (c : UInt8) : Option Nat := if 48 ≤ c.toNat ∧ c.toNat ≤ 57 then some (c.toNat - 48) else if 97 ≤ c.toNat ∧ c.toNat ≤ 102 then some (c.toNat - 87) else none
def Ja : List UInt8 → Option (List UInt8)
  | [] => some []
  | [_] => none
  | a :: b :: r => match Cz a, Cz b with
    | some x, some y => (Ja r).map fun l => UInt8.ofNat (16 * x + y) :: l
    | _, _ => none
def unhexD (x : Option (List UInt8)) : List UInt8 × Bool := match x with | none => ([], false) | some l => (l, true)
theorem of_fin {p : UInt8 → Prop} (h : ∀ n : Fin 256, p (UInt8.ofNat n.val)) (c : UInt8) : p c := by
  have e := h ⟨c.toNat, c.toNat_lt⟩
  have : UInt8.ofNat c.toNat = c := by simp
  rwa [this] at e
theorem B3 {c : UInt8} {x : Nat} (h : Cz c = some x) : x < 16 := by
  unfold Cz at h
  split at h
  · injection h with h; omega
  · split at h
    · injection h with h; omega
    · cases h
theorem ix_dig (c : UInt8) : Lib.indexByte J9 c = match Cz c with | some x => (x : Int) | none => -1 :=
  of_fin (p := fun c => Lib.indexByte J9 c = match Cz c with | some x => (x : Int) | none => -1) (by decide +kernel) c
theorem B4 {x : Nat} (h : x < 16) : Cz (J9.getD x 0) = some x := (by decide +kernel : ∀ n : Fin 16, Cz (J9.getD n.val 0) = some n.val) ⟨x, h⟩
theorem hex_dig (c : UInt8) : ∀ x, Cz c = some x → J9.getD x 0 = c :=
  fun x h => by
    have := of_fin (p := fun c => ((Cz c).map fun x => J9.getD x 0) = (Cz c).map fun _ => c) (by decide +kernel) c
    rw [h] at this
    exact Option.some.inj this
theorem hex_pair {x y : Nat} (hx : x < 16) (hy : y < 16) : hexC (UInt8.ofNat (16 * x + y)) = [J9.getD x 0, J9.getD y 0] :=
  (by decide +kernel : ∀ n m : Fin 16, hexC (UInt8.ofNat (16 * n.val + m.val)) = [J9.getD n.val 0, J9.getD m.val 0]) ⟨x, hx⟩ ⟨y, hy⟩
theorem pair_hex (c : UInt8) : UInt8.ofNat (16 * (c.toNat / 16) + c.toNat % 16) = c := by
  rw [Nat.div_add_mod]
  simp
theorem C0 : ∀ b : List UInt8, Ja (B1 b) = some b
  | [] => rfl
  | c :: b => by
    have hl := c.toNat_lt
    show Ja (J9.getD (c.toNat / 16) 0 :: J9.getD (c.toNat % 16) 0 :: B1 b) = _
    simp only [Ja, B4 (show c.toNat / 16 < 16 by omega), B4 (show c.toNat % 16 < 16 by omega), C0 b, Option.map_some, pair_hex]
theorem Bh : ∀ {s b : List UInt8}, Ja s = some b → B1 b = s
  | [], b, h => by injection h with h; subst h; rfl
  | [_], b, h => by cases h
  | a :: c :: r, b, h => by
    simp only [Ja] at h
    cases hx : Cz a with
    | none => rw [hx] at h; cases h
    | some x =>
      cases hy : Cz c with
      | none => rw [hx, hy] at h; cases h
      | some y =>
        rw [hx, hy] at h
        simp only [Option.map_eq_some_iff] at h
        obtain ⟨l, hl, rfl⟩ := h
        show hexC _ ++ B1 l = _
        rw [hex_pair (B3 hx) (B3 hy), Bh hl, hex_dig a x hx, hex_dig c y hy]
        rfl
theorem Fp {s b : List UInt8} (h : Ja s = some b) : s.length = 2 * b.length := by rw [← Bh h, Jl]
theorem Fq {s : List UInt8} (h : s.length % 2 = 1) : Ja s = none := by
  cases hu : Ja s with
  | none => rfl
  | some b => have := Fp hu; omega
theorem set_mid {α : Type} (l r : List α) (x y : α) (k : Nat) (h : l.length = k) : (l ++ x :: r).set k y = l ++ y :: r := by
  subst h
  simp
theorem get_mid {α : Type} (l r : List α) (x : α) (k : Nat) (h : l.length = k) : (l ++ x :: r)[k]? = some x := by
  subst h
  simp
theorem drop_two {α : Type} {l : List α} {i : Nat} (h : i + 1 < l.length) : l.drop i = l[i] :: l[i + 1] :: l.drop (i + 2) := by
  rw [List.drop_eq_getElem_cons (by omega), List.drop_eq_getElem_cons h]
theorem or_hi {x : Nat} (hx : x < 16) : toU8 (bOr .u8 (Fu .u8 (((0 : UInt8).toNat : Nat) : Int) 4) (IntKind.wrap .u8 (x : Int))) = UInt8.ofNat x :=
  (by decide +kernel : ∀ n : Fin 16, toU8 (bOr .u8 (Fu .u8 (((0 : UInt8).toNat : Nat) : Int) 4) (IntKind.wrap .u8 ((n.val : Nat) : Int))) = UInt8.ofNat n.val) ⟨x, hx⟩
theorem or_lo {x y : Nat} (hx : x < 16) (hy : y < 16) : toU8 (bOr .u8 (Fu .u8 (((UInt8.ofNat x).toNat : Nat) : Int) 4) (IntKind.wrap .u8 (y : Int))) = UInt8.ofNat (16 * x + y) :=
  (by decide +kernel : ∀ n m : Fin 16, toU8 (bOr .u8 (Fu .u8 (((UInt8.ofNat n.val).toNat : Nat) : Int) 4) (IntKind.wrap .u8 ((m.val : Nat) : Int))) = UInt8.ofNat (16 * n.val + m.val)) ⟨x, hx⟩ ⟨y, hy⟩
theorem Dw (s : List UInt8) (hs : s.length ≤ 1000000) : ∀ (n k f : Nat) (dec : List UInt8), s.length = 2 * k + 2 * n → dec.length = k → 2 * n < f →
    Vm s f (dec ++ List.replicate n 0) ((2 * k : Nat) : Int) = some (match Ja (s.drop (2 * k)) with | some l => (dec ++ l, true) | none => ([], false)) := by
  intro n
  induction n with
  | zero =>
    intro k f dec h1 h2 h3
    obtain ⟨f, rfl⟩ : ∃ g, f = g + 1 := ⟨f - 1, by omega⟩
    show Vc (Vm s f) s _ _ = _
    unfold Vc
    rw [show decide (((2 * k : Nat) : Int) < ((s.length : Nat) : Int)) = false by rw [decide_eq_false_iff_not]; omega, List.drop_of_length_le (by omega)]
    simp [Ja]
  | succ n ih =>
    intro k f dec h1 h2 h3
    obtain ⟨f, rfl⟩ : ∃ g, f = g + 1 + 1 := ⟨f - 2, by omega⟩
    have t0 : IntKind.wrap .i64 (Int.tdiv ((2 * k : Nat) : Int) 2) = (k : Int) := by
      have := Bv (2 * k) 2
      rw [show ((2 : Nat) : Int) = 2 from rfl] at this
      rw [this, show 2 * k / 2 = k by omega]
      exact D3 (by omega)
    have t1 : IntKind.wrap .i64 (Int.tdiv ((2 * k + 1 : Nat) : Int) 2) = (k : Int) := by
      have := Bv (2 * k + 1) 2
      rw [show ((2 : Nat) : Int) = 2 from rfl] at this
      rw [this, show (2 * k + 1) / 2 = k by omega]
      exact D3 (by omega)
    have w0 : IntKind.wrap .i64 (((2 * k : Nat) : Int) + 1) = ((2 * k + 1 : Nat) : Int) := by rw [Yi (by omega)]; omega
    have w1 : IntKind.wrap .i64 (((2 * k + 1 : Nat) : Int) + 1) = ((2 * (k + 1) : Nat) : Int) := by rw [Yi (by omega)]; omega
    have i0 : idx s ((2 * k : Nat) : Int) = some (s[2 * k]'(by omega)) := Bw (by omega)
    have i1 : idx s ((2 * k + 1 : Nat) : Int) = some (s[2 * k + 1]'(by omega)) := Bw (by omega)
    have e0 : ∀ (x : UInt8) (r : List UInt8), idx (dec ++ x :: r) (k : Int) = some x := fun x r => by rw [G0]; exact get_mid dec r x k h2
    rw [drop_two (show 2 * k + 1 < s.length by omega)]
    show Vc (Vm s (f + 1)) s _ _ = _
    unfold Vc
    rw [show decide (((2 * k : Nat) : Int) < ((s.length : Nat) : Int)) = true by rw [decide_eq_true_eq]; omega, i0, t0, w0]
    simp only [cond_true, Option.bind_some, Zj]
    rw [show Lib.indexByte [48, 49, 50, 51, 52, 53, 54, 55, 56, 57, 97, 98, 99, 100, 101, 102] (s[2 * k]'(by omega)) = _ from ix_dig _]
    cases ha : Cz (s[2 * k]'(by omega)) with
    | none => simp [Ja, ha]
    | some x =>
      have hx := B3 ha
      rw [show decide ((x : Int) < 0) = false by rw [decide_eq_false_iff_not]; omega, show List.replicate (n + 1) (0 : UInt8) = 0 :: List.replicate n 0 from rfl]
      simp only [cond_false, e0, Option.bind_some, Int.toNat_natCast]
      rw [set_mid dec _ _ _ k h2, or_hi hx]
      show Vc (Vm s f) s _ _ = _
      unfold Vc
      rw [show decide (((2 * k + 1 : Nat) : Int) < ((s.length : Nat) : Int)) = true by rw [decide_eq_true_eq]; omega, i1, t1, w1]
      simp only [cond_true, Option.bind_some, Zj]
      rw [show Lib.indexByte [48, 49, 50, 51, 52, 53, 54, 55, 56, 57, 97, 98, 99, 100, 101, 102] (s[2 * k + 1]'(by omega)) = _ from ix_dig _]
      cases hb : Cz (s[2 * k + 1]'(by omega)) with
      | none => simp [Ja, ha, hb]
      | some y =>
        have hy := B3 hb
        rw [show decide ((y : Int) < 0) = false by rw [decide_eq_false_iff_not]; omega]
        simp only [cond_false, e0, Option.bind_some, Int.toNat_natCast]
        rw [set_mid dec _ _ _ k h2, or_lo hx hy]
        have := ih (k + 1) f (dec ++ [UInt8.ofNat (16 * x + y)]) (by omega) (by simp [h2]) (by omega)
        rw [List.append_assoc, List.singleton_append] at this
        rw [this, show 2 * (k + 1) = 2 * k + 2 by omega]
        simp only [Ja, ha, hb]
        cases Ja (s.drop (2 * k + 2)) <;> simp
theorem Fs (s : List UInt8) (hs : s.length ≤ 1000000) : Y0 s = some (unhexD (Ja s)) := by
  unfold Y0
  have tm := tmod_nat s.length 2
  rw [show ((2 : Nat) : Int) = 2 from rfl] at tm
  have td := Bv s.length 2
  rw [show ((2 : Nat) : Int) = 2 from rfl] at td
  rw [tm, td, D3 (show s.length / 2 < 4611686018427387904 by omega)]
  by_cases ho : s.length % 2 = 1
  · rw [show decide (((s.length % 2 : Nat) : Int) > 0) = true by rw [decide_eq_true_eq]; omega, Fq ho]
    rfl
  · rw [show decide (((s.length % 2 : Nat) : Int) > 0) = false by rw [decide_eq_false_iff_not]; omega, show decide (0 ≤ ((s.length / 2 : Nat) : Int) ∧ ((s.length / 2 : Nat) : Int) ≤ 2147483648) = true by rw [decide_eq_true_eq]; omega]
    simp only [cond_false, chk, if_true, Option.bind_some, Int.toNat_natCast]
    have := Dw s hs (s.length / 2) 0 J4 [] (by omega) rfl (by unfold J4; omega)
    rw [List.nil_append] at this
    refine this.trans ?_
    rw [List.drop_zero]
    cases Ja s <;> rfl
end Go.Proofs.YtoflbpmbkmephaaGreatDoor
namespace Go.Proofs.YtoflbpmbkmephaaGreatDoor
open Go.RowKit
open Go.Lib (decDigits)
def unb (w : Str) : Option Str := if w = [45] then some [] else match Ja w with | some b => if b = [] then none else some b | none => none
def unbD (x : Option Str) : Str × Bool := match x with | none => ([], false) | some b => (b, true)
def Nh (s : Str) : Str := if s = [] then [45] else B1 s
theorem lUnb (w : Str) (h : w.length ≤ 1000000) : Zv w = some (unbD (unb w)) := by
  unfold Zv unb
  by_cases hw : w = [45]
  · rw [if_pos hw, hw]; rfl
  · rw [if_neg hw, beq_eq_false_iff_ne.2 hw, Fs w h]
    simp only [cond_false, Option.bind_some]
    cases Ja w with
    | none => rfl
    | some b =>
      cases b with
      | nil => rfl
      | cons x r => simp [unhexD, Zn, unbD]
theorem lBytes (s : Str) (h : s.length ≤ 1000000) : V2 s = some (Nh s) := by
  unfold V2 Nh
  by_cases hs : s = []
  · rw [if_pos hs, hs]; rfl
  · rw [if_neg hs, beq_eq_false_iff_ne.2 hs, prog_hex s h, Nat.ble_eq_true_of_le (show s.length ≤ 281474976710656 by omega)]
    rfl
theorem lAddrW (s : Str) (h : s.length ≤ 1000000) : Y6 s = some (addrD (Gp s)) := by
  unfold Y6
  rw [Nat.ble_eq_true_of_le (show s.length ≤ 2147483648 by omega)]
  rfl
theorem lNameW (s : Str) (h : s.length ≤ 1000000) : Z0 s = some (Nu s) := by
  by_cases h9 : s.length ≤ 9000
  · exact lName s h9
  · unfold Z0 Vj Nu
    have hne : (s == ([] : List UInt8)) = false := by rw [beq_eq_false_iff_ne]; intro e; subst e; simp at h9
    rw [hne, show decide (((List.length s : Nat) : Int) ≤ 20) = false from decide_eq_false (by omega), show decide (s.length ≤ 20) = false from decide_eq_false (by omega)]
    simp
theorem Dx (q : List Str) (b : Bool) : Qu q b = some (q.headD [], q.tail, b || q.isEmpty) := by
  cases q with
  | nil => simp [Qu]
  | cons x r =>
    unfold Qu
    have s2 := Bx (x :: r) (i := 1) (j := (x :: r).length) (by simp) (by omega)
    rw [show ((((x :: r).length : Nat) : Int) == 0) = false by rw [beq_eq_false_iff_ne]; simp; omega]
    rw [show ((1 : Nat) : Int) = 1 from rfl] at s2
    rw [s2]
    simp [idx]
theorem Bi (q : List Str) (b : Bool) (h : ∀ w ∈ q, w.length ≤ 1000000) : Qt q b = some ((G6 (V9 (q.headD []))).1, q.tail, (b || q.isEmpty) || !(G6 (V9 (q.headD []))).2) := by
  have hl : (q.headD []).length ≤ 2147483648 := by
    cases q with
    | nil => simp
    | cons x r => have := h x (by simp); simp; omega
  unfold Qt
  rw [Dx]
  simp only [Option.bind_some, lParse _ hl, Xt, Vz]
  cases (b || q.isEmpty) <;> rfl
theorem sr_addr (q : List Str) (b : Bool) (h : ∀ w ∈ q, w.length ≤ 1000000) : Ze q b = some ((addrD (Gp (q.headD []))).1, q.tail, (b || q.isEmpty) || !(addrD (Gp (q.headD []))).2) := by
  have hl : (q.headD []).length ≤ 1000000 := by
    cases q with
    | nil => simp
    | cons x r => exact h x (by simp)
  unfold Ze
  rw [Dx]
  simp only [Option.bind_some, lAddrW _ hl, Z9, Vr]
  cases (b || q.isEmpty) <;> rfl
theorem Et (q : List Str) (b : Bool) (h : ∀ w ∈ q, w.length ≤ 1000000) : Vg q b = some (q.headD [], q.tail, (b || q.isEmpty) || !(Nu (q.headD []))) := by
  have hl : (q.headD []).length ≤ 1000000 := by
    cases q with
    | nil => simp
    | cons x r => exact h x (by simp)
  unfold Vg
  rw [Dx]
  simp only [Option.bind_some, lNameW _ hl, Vt, Vd]
  cases (b || q.isEmpty) <;> rfl
theorem R8 (q : List Str) (b : Bool) (h : ∀ w ∈ q, w.length ≤ 1000000) : Q4 q b = some ((unbD (unb (q.headD []))).1, q.tail, (b || q.isEmpty) || !(unbD (unb (q.headD []))).2) := by
  have hl : (q.headD []).length ≤ 1000000 := by
    cases q with
    | nil => simp
    | cons x r => exact h x (by simp)
  unfold Q4
  rw [Dx]
  simp only [Option.bind_some, lUnb _ hl, Vt, Vd]
  cases (b || q.isEmpty) <;> rfl
def gtL (n : Int) (q : List Str) : Option EvL :=
  if n = 1 then match q with | [a, d] => (Gp a).bind fun (x : Nat) => (unb d).map fun y => (1, 0, (x : Int), [], 0, [], [], y) | _ => none
  else if n = 2 then match q with | [a, c, d] => (V9 a).bind fun (x : Nat) => (unb c).bind fun z => (unb d).map fun y => (2, (x : Int), 0, z, 0, [], [], y) | _ => none
  else if n = 3 then match q with | [a, d] => (V9 a).bind fun (x : Nat) => (V9 d).map fun (y : Nat) => (3, (x : Int), 0, [], (y : Int), [], [], []) | _ => none
  else if n = 4 then match q with | [a, d] => (V9 a).bind fun (x : Nat) => (unb d).map fun y => (4, (x : Int), 0, [], 0, [], [], y) | _ => none
  else if n = 5 then match q with | [a] => (V9 a).map fun (x : Nat) => (5, (x : Int), 0, [], 0, [], [], []) | _ => none
  else if n = 6 then match q with | [a] => (V9 a).map fun (x : Nat) => (6, 0, 0, [], (x : Int), [], [], []) | _ => none
  else if n = 7 then match q with | [a, d] => if Nu a && Nu d then some (7, 0, 0, [], 0, a, d, []) else none | _ => none
  else if n = 8 then match q with | [a] => if Nu a then some (8, 0, 0, [], 0, a, [], []) else none | _ => none
  else match q with | [] => some (9, 0, 0, [], 0, [], [], []) | _ => none
def evL (ws : List Str) : Option EvL := match ws with | [] => none | w :: q => (B0 w).bind fun n => gtL n q
abbrev Ev9 := Int × Int × Int × Str × Int × Str × Str × Str × Bool
def evD (x : Option EvL) : Ev9 := match x with | none => (0, 0, 0, [], 0, [], [], [], false) | some e => (e.1, e.2.1, e.2.2.1, e.2.2.2.1, e.2.2.2.2.1, e.2.2.2.2.2.1, e.2.2.2.2.2.2.1, e.2.2.2.2.2.2.2, true)
def E8 (z : List Str × Bool × EvL) : Option Ev9 := cond z.2.1 (V1 z true) (V1 z (decide (((List.length z.1 : Nat) : Int) > 0)))
theorem Jb {q : List Str} {e : EvL} : E8 (q, true, e) = some (evD none) := rfl
theorem J0 {x : Str} {q : List Str} {e : EvL} {b : Bool} : E8 (x :: q, b, e) = some (evD none) := by
  cases b
  · show V1 _ (decide _) = _
    rw [show decide ((((x :: q).length : Nat) : Int) > 0) = true by rw [decide_eq_true_eq]; simp]
    rfl
  · rfl
theorem Ry {e : EvL} : E8 ([], false, e) = some (evD (some e)) := rfl
def kgetZ (n : Int) (q : List Str) := Cw n q false n 0 0 [] 0 [] [] []
theorem get_ev (n : Int) (hn : kin n = true) (q : List Str) (h : ∀ w ∈ q, w.length ≤ 1000000) : (kgetZ n q).bind E8 = some (evD (gtL n q)) := by
  have tl : ∀ {x : Str} {r : List Str}, q = x :: r → ∀ w ∈ r, w.length ≤ 1000000 := fun hq w hw => h w (by rw [hq]; simp [hw])
  rcases Gb hn with rfl | rfl | rfl | rfl | rfl | rfl | rfl | rfl | rfl
  · show ((Xx q false 1 0 0 [] 0 [] [] []).bind E8) = _
    unfold Xx
    rw [sr_addr q false h]
    simp only [Option.bind_some]
    rw [R8 q.tail _ (fun w hw => h w (List.mem_of_mem_tail hw))]
    simp only [Option.bind_some]
    rcases q with _ | ⟨a, _ | ⟨d, _ | ⟨c, r⟩⟩⟩
    · rfl
    · simp [Jb, gtL]
    · cases ha : Gp a <;> cases hd : unb d <;> simp [ha, hd, gtL, addrD, unbD, Jb, Ry]
    · simp [J0, gtL]
  · show ((Xz q false 2 0 0 [] 0 [] [] []).bind E8) = _
    unfold Xz
    rw [Bi q false h]
    simp only [Option.bind_some]
    rw [R8 q.tail _ (fun w hw => h w (List.mem_of_mem_tail hw))]
    simp only [Option.bind_some]
    rw [R8 q.tail.tail _ (fun w hw => h w (List.mem_of_mem_tail (List.mem_of_mem_tail hw)))]
    simp only [Option.bind_some]
    rcases q with _ | ⟨a, _ | ⟨d, _ | ⟨c, _ | ⟨x, r⟩⟩⟩⟩
    · rfl
    · simp [Jb, gtL]
    · simp [Jb, gtL]
    · cases ha : V9 a <;> cases hd : unb d <;> cases hc : unb c <;> simp [ha, hd, hc, gtL, G6, unbD, Jb, Ry]
    · simp [J0, gtL]
  · show ((X1 q false 3 0 0 [] 0 [] [] []).bind E8) = _
    unfold X1
    rw [Bi q false h]
    simp only [Option.bind_some]
    rw [Bi q.tail _ (fun w hw => h w (List.mem_of_mem_tail hw))]
    simp only [Option.bind_some]
    rcases q with _ | ⟨a, _ | ⟨d, _ | ⟨c, r⟩⟩⟩
    · rfl
    · simp [Jb, gtL]
    · cases ha : V9 a <;> cases hd : V9 d <;> simp [ha, hd, gtL, G6, Jb, Ry]
    · simp [J0, gtL]
  · show ((X3 q false 4 0 0 [] 0 [] [] []).bind E8) = _
    unfold X3
    rw [Bi q false h]
    simp only [Option.bind_some]
    rw [R8 q.tail _ (fun w hw => h w (List.mem_of_mem_tail hw))]
    simp only [Option.bind_some]
    rcases q with _ | ⟨a, _ | ⟨d, _ | ⟨c, r⟩⟩⟩
    · rfl
    · simp [Jb, gtL]
    · cases ha : V9 a <;> cases hd : unb d <;> simp [ha, hd, gtL, G6, unbD, Jb, Ry]
    · simp [J0, gtL]
  · show ((Xb q false 5 0 0 [] 0 [] [] []).bind E8) = _
    unfold Xb
    rw [Bi q false h]
    simp only [Option.bind_some]
    rcases q with _ | ⟨a, _ | ⟨d, r⟩⟩
    · rfl
    · cases ha : V9 a <;> simp [ha, gtL, G6, Jb, Ry]
    · simp [J0, gtL]
  · show ((Xd q false 6 0 0 [] 0 [] [] []).bind E8) = _
    unfold Xd
    rw [Bi q false h]
    simp only [Option.bind_some]
    rcases q with _ | ⟨a, _ | ⟨d, r⟩⟩
    · rfl
    · cases ha : V9 a <;> simp [ha, gtL, G6, Jb, Ry]
    · simp [J0, gtL]
  · show ((Xf q false 7 0 0 [] 0 [] [] []).bind E8) = _
    unfold Xf
    rw [Et q false h]
    simp only [Option.bind_some]
    rw [Et q.tail _ (fun w hw => h w (List.mem_of_mem_tail hw))]
    simp only [Option.bind_some]
    rcases q with _ | ⟨a, _ | ⟨d, _ | ⟨c, r⟩⟩⟩
    · rfl
    · simp [Jb, gtL]
    · cases ha : Nu a <;> cases hd : Nu d <;> simp [ha, hd, gtL, Jb, Ry]
    · simp [J0, gtL]
  · show ((Xh q false 8 0 0 [] 0 [] [] []).bind E8) = _
    unfold Xh
    rw [Et q false h]
    simp only [Option.bind_some]
    rcases q with _ | ⟨a, _ | ⟨d, r⟩⟩
    · rfl
    · cases ha : Nu a <;> simp [ha, gtL, Jb, Ry]
    · simp [J0, gtL]
  · show ((some (q, false, (9 : Int), (0 : Int), (0 : Int), ([] : Str), (0 : Int), ([] : Str), ([] : Str), ([] : Str))).bind E8) = _
    cases q with
    | nil => rfl
    | cons x r => simp only [Option.bind_some, J0]; rfl
theorem lEvent (s : Str) (h : s.length ≤ 1000000) : Zh s = some (evD (evL (Q3 32 s))) := by
  unfold Zh
  rw [lSplit s 32 h]
  simp only [Option.bind_some, Dx, Yb]
  have hl := Ut 32 s
  cases hw : Q3 32 s with
  | nil => exact absurd hw (Nz 32 s)
  | cons w q =>
    rw [hw] at hl
    simp only [List.headD_cons, List.tail_cons, List.isEmpty_cons, Bool.or_false]
    show _ = some (evD ((B0 w).bind fun n => gtL n q))
    cases hk : B0 w with
    | none => rfl
    | some n =>
      show ((Cw n q false n 0 0 [] 0 [] [] []).bind E8) = _
      have hin : kin n = true := (kin_mem (List.mem_of_find?_eq_some hk)).1
      have := get_ev n hin q fun x hx => by have := hl x (by simp [hx]); omega
      exact this
end Go.Proofs.YtoflbpmbkmephaaGreatDoor
namespace Go.Proofs.YtoflbpmbkmephaaGreatDoor
open Go.RowKit
open Go.Lib (decDigits)
theorem Bj (c : UInt8) : ∀ l : List (List UInt8), Lib.join l [c] = Nv c l
  | [] => rfl
  | [p] => Lib.join_one p [c]
  | p :: q :: ps => by
    have ih := Bj c (q :: ps)
    rw [Lib.join_cons] at ih ⊢
    show p ++ Lib.joinTail [c] (q :: ps) = p ++ c :: Nv c (q :: ps)
    rw [← ih]
    simp [Lib.joinTail]
theorem Rf (c : UInt8) : ∀ l : List (List UInt8), (Nv c l).length ≤ (l.map List.length).sum + l.length
  | [] => by simp [Nv]
  | [p] => by simp [Nv]
  | p :: q :: ps => by
    have ih := Rf c (q :: ps)
    simp only [Nv, List.length_append, List.length_cons, List.map_cons, List.sum_cons] at ih ⊢
    omega
theorem Bk (c : UInt8) : ∀ l : List (List UInt8), l ≠ [] → (∀ w ∈ l, c ∉ w) → Q3 c (Nv c l) = l
  | [], h, _ => absurd rfl h
  | [p], _, h => Rq c p (h p (by simp))
  | p :: q :: ps, _, h => by
    rw [Nv, Uy c p _ (h p (by simp)), Bk c (q :: ps) (by simp) fun w hw => h w (by simp [hw])]
def Eu (n : Int) : Bool := decide (0 ≤ n) && decide (n ≤ 1099511627776)
def Uk (e : EvL) : List Str × Bool :=
  if e.1 = 1 then ([Vo 1, Rp e.2.2.1.toNat, Nh e.2.2.2.2.2.2.2], true)
  else if e.1 = 2 then ([Vo 2, Be e.2.1, Nh e.2.2.2.1, Nh e.2.2.2.2.2.2.2], Eu e.2.1)
  else if e.1 = 3 then ([Vo 3, Be e.2.1, Be e.2.2.2.2.1], Eu e.2.1 && Eu e.2.2.2.2.1)
  else if e.1 = 4 then ([Vo 4, Be e.2.1, Nh e.2.2.2.2.2.2.2], Eu e.2.1)
  else if e.1 = 5 then ([Vo 5, Be e.2.1], Eu e.2.1)
  else if e.1 = 6 then ([Vo 6, Be e.2.2.2.2.1], Eu e.2.2.2.2.1)
  else if e.1 = 7 then ([Vo 7, e.2.2.2.2.2.1, e.2.2.2.2.2.2.1], Nu e.2.2.2.2.2.1 && Nu e.2.2.2.2.2.2.1)
  else if e.1 = 8 then ([Vo 8, e.2.2.2.2.2.1], Nu e.2.2.2.2.2.1)
  else ([Vo 9], true)
def Ev (e : EvL) : EvL :=
  if e.1 = 1 then (1, 0, e.2.2.1, [], 0, [], [], e.2.2.2.2.2.2.2)
  else if e.1 = 2 then (2, e.2.1, 0, e.2.2.2.1, 0, [], [], e.2.2.2.2.2.2.2)
  else if e.1 = 3 then (3, e.2.1, 0, [], e.2.2.2.2.1, [], [], [])
  else if e.1 = 4 then (4, e.2.1, 0, [], 0, [], [], e.2.2.2.2.2.2.2)
  else if e.1 = 5 then (5, e.2.1, 0, [], 0, [], [], [])
  else if e.1 = 6 then (6, 0, 0, [], e.2.2.2.2.1, [], [], [])
  else if e.1 = 7 then (7, 0, 0, [], 0, e.2.2.2.2.2.1, e.2.2.2.2.2.2.1, [])
  else if e.1 = 8 then (8, 0, 0, [], 0, e.2.2.2.2.2.1, [], [])
  else (9, 0, 0, [], 0, [], [], [])
structure EvOk (e : EvL) (N : Nat) : Prop where
  addr : 0 ≤ e.2.2.1 ∧ e.2.2.1 < 4294967296
  b : e.2.2.2.1.length ≤ N
  name : e.2.2.2.2.2.1.length ≤ N
  token : e.2.2.2.2.2.2.1.length ≤ N
  draw : e.2.2.2.2.2.2.2.length ≤ N
def Ew (x e : EvL) : Bool := (x.1 == e.1) && ((x.2.1 == e.2.1) && ((x.2.2.1 == e.2.2.1) && ((x.2.2.2.1 == e.2.2.2.1) && ((x.2.2.2.2.1 == e.2.2.2.2.1) && ((x.2.2.2.2.2.1 == e.2.2.2.2.2.1) && ((x.2.2.2.2.2.2.1 == e.2.2.2.2.2.2.1) && (x.2.2.2.2.2.2.2 == e.2.2.2.2.2.2.2)))))))
theorem C1 {x e : EvL} : Ew x e = true ↔ x = e := by
  obtain ⟨x1, x2, x3, x4, x5, x6, x7, x8⟩ := x
  obtain ⟨e1, e2, e3, e4, e5, e6, e7, e8⟩ := e
  simp [Ew]
theorem J1 (x : EvL) : Ew x x = true := C1.2 rfl
def Jm (e : EvL) : Str := if kin e.1 = true ∧ (Uk e).2 = true ∧ Ew (Ev e) e = true then Nv 32 (Uk e).1 else []
theorem Dy (s : Str) : unb (Nh s) = some s := by
  unfold Nh
  by_cases hs : s = []
  · rw [if_pos hs, hs]; rfl
  · rw [if_neg hs]
    unfold unb
    have hl := Jl s
    have hp : 0 < s.length := List.length_pos_iff.2 hs
    have hne : B1 s ≠ [45] := fun h => by rw [h] at hl; simp at hl; omega
    rw [if_neg hne, C0]
    simp only [if_neg hs]
theorem hex_no {c : UInt8} (h : Cz c = none) (s : Str) : c ∉ B1 s := by
  induction s with
  | nil => simp [B1]
  | cons x s ih =>
    have hx := x.toNat_lt
    have h1 := B4 (show x.toNat / 16 < 16 by omega)
    have h2 := B4 (show x.toNat % 16 < 16 by omega)
    show c ∉ J9.getD (x.toNat / 16) 0 :: J9.getD (x.toNat % 16) 0 :: B1 s
    rw [List.mem_cons, List.mem_cons]
    rintro (e | e | e)
    · rw [← e, h] at h1; cases h1
    · rw [← e, h] at h2; cases h2
    · exact ih e
theorem bytes_no {c : UInt8} (h : Cz c = none) (h2 : c ≠ 45) (s : Str) : c ∉ Nh s := by
  unfold Nh
  split
  · simpa using h2
  · exact hex_no h s
theorem dec_no' {c : UInt8} (hc : Gn c = false) (n : Int) : c ∉ Be n := by
  unfold Be
  split
  · exact Bg hc
  · simp
theorem dots_no {c : UInt8} (hc : Gn c = false) (h : c ≠ 46) (a : Nat) : c ∉ Rp a := by
  unfold Rp
  simp only [List.mem_append, List.mem_cons]
  have := fun n => Bg (n := n) hc
  rintro (e | e | e | e | e | e | e)
  all_goals first | exact this _ e | exact h e
theorem name_no {c : UInt8} (hc : isNm c = false) {s : Str} (h : Nu s = true) : c ∉ s := by
  unfold Nu at h
  simp only [Bool.and_eq_true] at h
  have := h.1.1.2
  rw [List.all_eq_true] at this
  intro hm
  rw [this c hm] at hc
  cases hc
theorem Gj {n : Int} (h : Eu n = true) : ∃ m : Nat, V9 (Be n) = some m ∧ (m : Int) = n := by
  unfold Eu at h
  rw [Bool.and_eq_true, decide_eq_true_eq, decide_eq_true_eq] at h
  refine ⟨n.toNat, ?_, by omega⟩
  unfold Be
  rw [if_pos h]
  exact Cs (by unfold J5; omega)
theorem ev_cases {e : EvL} (h : kin e.1 = true) : e.1 = 1 ∨ e.1 = 2 ∨ e.1 = 3 ∨ e.1 = 4 ∨ e.1 = 5 ∨ e.1 = 6 ∨ e.1 = 7 ∨ e.1 = 8 ∨ e.1 = 9 := Gb h
theorem raw_ne (e : EvL) : (Uk e).1 ≠ [] := by
  unfold Uk
  repeat' split
  all_goals simp
theorem kword_no (n : Int) : (32 : UInt8) ∉ Vo n := by
  unfold Vo
  cases (n == 1) <;> cases (n == 2) <;> cases (n == 3) <;> cases (n == 4) <;> cases (n == 5) <;> cases (n == 6) <;> cases (n == 7) <;> cases (n == 8) <;> decide
theorem raw_no {e : EvL} (h : (Uk e).2 = true) : ∀ w ∈ (Uk e).1, (32 : UInt8) ∉ w := by
  have k : ∀ n, (32 : UInt8) ∉ Vo n := kword_no
  have d := fun n => dec_no' (c := 32) (by decide) n
  have o := fun n => dots_no (c := 32) (by decide) (by decide) n
  have b := fun s => bytes_no (c := 32) (by decide) (by decide) s
  have nm : ∀ s, Nu s = true → (32 : UInt8) ∉ s := fun s hs => name_no (by decide) hs
  unfold Uk at h ⊢
  repeat' split at h
  all_goals rename_i hk
  · simp only [if_pos hk]
    intro w hw; simp only [List.mem_cons, List.not_mem_nil, or_false] at hw
    rcases hw with rfl | rfl | rfl <;> simp [k, o, b]
  · rename_i h1
    simp only [if_neg h1, if_pos hk]
    intro w hw; simp only [List.mem_cons, List.not_mem_nil, or_false] at hw
    rcases hw with rfl | rfl | rfl | rfl <;> simp [k, d, b]
  · rename_i h1 h2
    simp only [if_neg h1, if_neg h2, if_pos hk]
    intro w hw; simp only [List.mem_cons, List.not_mem_nil, or_false] at hw
    rcases hw with rfl | rfl | rfl <;> simp [k, d]
  · rename_i h1 h2 h3
    simp only [if_neg h1, if_neg h2, if_neg h3, if_pos hk]
    intro w hw; simp only [List.mem_cons, List.not_mem_nil, or_false] at hw
    rcases hw with rfl | rfl | rfl <;> simp [k, d, b]
  · rename_i h1 h2 h3 h4
    simp only [if_neg h1, if_neg h2, if_neg h3, if_neg h4, if_pos hk]
    intro w hw; simp only [List.mem_cons, List.not_mem_nil, or_false] at hw
    rcases hw with rfl | rfl <;> simp [k, d]
  · rename_i h1 h2 h3 h4 h5
    simp only [if_neg h1, if_neg h2, if_neg h3, if_neg h4, if_neg h5, if_pos hk]
    intro w hw; simp only [List.mem_cons, List.not_mem_nil, or_false] at hw
    rcases hw with rfl | rfl <;> simp [k, d]
  · rename_i h1 h2 h3 h4 h5 h6
    simp only [if_neg h1, if_neg h2, if_neg h3, if_neg h4, if_neg h5, if_neg h6, if_pos hk]
    rw [Bool.and_eq_true] at h
    intro w hw; simp only [List.mem_cons, List.not_mem_nil, or_false] at hw
    rcases hw with rfl | rfl | rfl
    · exact k 7
    · exact nm _ h.1
    · exact nm _ h.2
  · rename_i h1 h2 h3 h4 h5 h6 h7
    simp only [if_neg h1, if_neg h2, if_neg h3, if_neg h4, if_neg h5, if_neg h6, if_neg h7, if_pos hk]
    intro w hw; simp only [List.mem_cons, List.not_mem_nil, or_false] at hw
    rcases hw with rfl | rfl
    · exact k 8
    · exact nm _ h
  · rename_i h1 h2 h3 h4 h5 h6 h7
    simp only [if_neg h1, if_neg h2, if_neg h3, if_neg h4, if_neg h5, if_neg h6, if_neg h7, if_neg hk]
    intro w hw; simp only [List.mem_cons, List.not_mem_nil, or_false] at hw
    subst hw
    exact k 9
theorem Ul (w : Str) (q : List Str) : evL (w :: q) = (B0 w).bind fun n => gtL n q := rfl
theorem ev_raw {e : EvL} (hk : kin e.1 = true) (ha : 0 ≤ e.2.2.1 ∧ e.2.2.1 < 4294967296) (h : (Uk e).2 = true) : evL (Uk e).1 = some (Ev e) := by
  rcases ev_cases hk with k | k | k | k | k | k | k | k | k
  · simp only [Uk, Ev, k, if_pos]
    rw [Ul, Ym rfl]
    simp only [Option.bind_some, gtL, if_pos, addr_dots (show e.2.2.1.toNat < 4294967296 by omega), Dy, Option.map_some]
    rw [Int.toNat_of_nonneg ha.1]
  · simp only [Uk, k, show (2 : Int) ≠ 1 by decide, if_false, if_pos] at h
    obtain ⟨m, h1, h2⟩ := Gj h
    simp only [Uk, Ev, k, show (2 : Int) ≠ 1 by decide, if_false, if_pos]
    rw [Ul, Ym rfl]
    simp only [Option.bind_some, gtL, show (2 : Int) ≠ 1 by decide, if_false, if_pos, h1, Dy, Option.map_some, h2]
  · simp only [Uk, k, show (3 : Int) ≠ 1 by decide, show (3 : Int) ≠ 2 by decide, if_false, if_pos, Bool.and_eq_true] at h
    obtain ⟨m, h1, h2⟩ := Gj h.1
    obtain ⟨m', h3, h4⟩ := Gj h.2
    simp only [Uk, Ev, k, show (3 : Int) ≠ 1 by decide, show (3 : Int) ≠ 2 by decide, if_false, if_pos]
    rw [Ul, Ym rfl]
    simp only [Option.bind_some, gtL, show (3 : Int) ≠ 1 by decide, show (3 : Int) ≠ 2 by decide, if_false, if_pos, h1, h3, Option.map_some, h2, h4]
  · simp only [Uk, k, show (4 : Int) ≠ 1 by decide, show (4 : Int) ≠ 2 by decide, show (4 : Int) ≠ 3 by decide, if_false, if_pos] at h
    obtain ⟨m, h1, h2⟩ := Gj h
    simp only [Uk, Ev, k, show (4 : Int) ≠ 1 by decide, show (4 : Int) ≠ 2 by decide, show (4 : Int) ≠ 3 by decide, if_false, if_pos]
    rw [Ul, Ym rfl]
    simp only [Option.bind_some, gtL, show (4 : Int) ≠ 1 by decide, show (4 : Int) ≠ 2 by decide, show (4 : Int) ≠ 3 by decide, if_false, if_pos, h1, Dy, Option.map_some, h2]
  · simp only [Uk, k, show (5 : Int) ≠ 1 by decide, show (5 : Int) ≠ 2 by decide, show (5 : Int) ≠ 3 by decide, show (5 : Int) ≠ 4 by decide, if_false, if_pos] at h
    obtain ⟨m, h1, h2⟩ := Gj h
    simp only [Uk, Ev, k, show (5 : Int) ≠ 1 by decide, show (5 : Int) ≠ 2 by decide, show (5 : Int) ≠ 3 by decide, show (5 : Int) ≠ 4 by decide, if_false, if_pos]
    rw [Ul, Ym rfl]
    simp only [Option.bind_some, gtL, show (5 : Int) ≠ 1 by decide, show (5 : Int) ≠ 2 by decide, show (5 : Int) ≠ 3 by decide, show (5 : Int) ≠ 4 by decide, if_false, if_pos, h1, Option.map_some, h2]
  · simp only [Uk, k, show (6 : Int) ≠ 1 by decide, show (6 : Int) ≠ 2 by decide, show (6 : Int) ≠ 3 by decide, show (6 : Int) ≠ 4 by decide, show (6 : Int) ≠ 5 by decide, if_false, if_pos] at h
    obtain ⟨m, h1, h2⟩ := Gj h
    simp only [Uk, Ev, k, show (6 : Int) ≠ 1 by decide, show (6 : Int) ≠ 2 by decide, show (6 : Int) ≠ 3 by decide, show (6 : Int) ≠ 4 by decide, show (6 : Int) ≠ 5 by decide, if_false, if_pos]
    rw [Ul, Ym rfl]
    simp only [Option.bind_some, gtL, show (6 : Int) ≠ 1 by decide, show (6 : Int) ≠ 2 by decide, show (6 : Int) ≠ 3 by decide, show (6 : Int) ≠ 4 by decide, show (6 : Int) ≠ 5 by decide, if_false, if_pos, h1, Option.map_some, h2]
  · simp only [Uk, k, show (7 : Int) ≠ 1 by decide, show (7 : Int) ≠ 2 by decide, show (7 : Int) ≠ 3 by decide, show (7 : Int) ≠ 4 by decide, show (7 : Int) ≠ 5 by decide, show (7 : Int) ≠ 6 by decide, if_false, if_pos] at h
    simp only [Uk, Ev, k, show (7 : Int) ≠ 1 by decide, show (7 : Int) ≠ 2 by decide, show (7 : Int) ≠ 3 by decide, show (7 : Int) ≠ 4 by decide, show (7 : Int) ≠ 5 by decide, show (7 : Int) ≠ 6 by decide, if_false, if_pos]
    rw [Ul, Ym rfl]
    simp only [Option.bind_some, gtL, show (7 : Int) ≠ 1 by decide, show (7 : Int) ≠ 2 by decide, show (7 : Int) ≠ 3 by decide, show (7 : Int) ≠ 4 by decide, show (7 : Int) ≠ 5 by decide, show (7 : Int) ≠ 6 by decide, if_false, if_pos, h]
  · simp only [Uk, k, show (8 : Int) ≠ 1 by decide, show (8 : Int) ≠ 2 by decide, show (8 : Int) ≠ 3 by decide, show (8 : Int) ≠ 4 by decide, show (8 : Int) ≠ 5 by decide, show (8 : Int) ≠ 6 by decide, show (8 : Int) ≠ 7 by decide, if_false, if_pos] at h
    simp only [Uk, Ev, k, show (8 : Int) ≠ 1 by decide, show (8 : Int) ≠ 2 by decide, show (8 : Int) ≠ 3 by decide, show (8 : Int) ≠ 4 by decide, show (8 : Int) ≠ 5 by decide, show (8 : Int) ≠ 6 by decide, show (8 : Int) ≠ 7 by decide, if_false, if_pos]
    rw [Ul, Ym rfl]
    simp only [Option.bind_some, gtL, show (8 : Int) ≠ 1 by decide, show (8 : Int) ≠ 2 by decide, show (8 : Int) ≠ 3 by decide, show (8 : Int) ≠ 4 by decide, show (8 : Int) ≠ 5 by decide, show (8 : Int) ≠ 6 by decide, show (8 : Int) ≠ 7 by decide, if_false, if_pos, h]
  · simp only [Uk, Ev, k]
    rfl
theorem Ex {e : EvL} (hk : kin e.1 = true) (ha : 0 ≤ e.2.2.1 ∧ e.2.2.1 < 4294967296) (h : (Uk e).2 = true) : evL (Q3 32 (Nv 32 (Uk e).1)) = some (Ev e) := by
  rw [Bk 32 _ (raw_ne e) (raw_no h)]
  exact ev_raw hk ha h
theorem line_ev {e : EvL} (ha : 0 ≤ e.2.2.1 ∧ e.2.2.1 < 4294967296) (h : Jm e ≠ []) : evL (Q3 32 (Jm e)) = some e := by
  unfold Jm at h ⊢
  split
  · rename_i hc
    rw [Ex hc.1 ha hc.2.1, C1.1 hc.2.2]
  · rename_i hc
    rw [if_neg hc] at h
    exact absurd rfl h
end Go.Proofs.YtoflbpmbkmephaaGreatDoor
namespace Go.Proofs.YtoflbpmbkmephaaGreatDoor
open Go.RowKit
theorem C2 (q : List Str) (b : Bool) (p : List Str) (h : q.length + p.length ≤ 1000000) : Qn q b p = some (q ++ p, b) := by
  unfold Qn
  rw [app_ok (by omega)]
  rfl
theorem fin_gt (n : Int) : (if n < 0 then true else decide (n > 1099511627776)) = !(Eu n) := by
  unfold Eu
  by_cases h : n < 0
  · rw [if_pos h, show decide (0 ≤ n) = false by rw [decide_eq_false_iff_not]; omega]; rfl
  · rw [if_neg h, show decide (0 ≤ n) = true by rw [decide_eq_true_eq]; omega, Bool.true_and, ← decide_not]
    exact decide_eq_decide.2 (by omega)
theorem Bl (q : List Str) (b : Bool) (n : Int) (h : q.length ≤ 1000000 - 1) : Qs q b n = some (q ++ [Be n], b || !(Eu n)) := by
  unfold Qs Vh
  simp only [By, Option.bind_some]
  have hp : ∀ b, Qn q b [Be n] = some (q ++ [Be n], b) := fun b => C2 q b _ (by simp; omega)
  simp only [hp, Option.bind_some]
  rw [← fin_gt]
  cases b
  · by_cases h0 : n < 0
    · rw [if_pos h0, show decide (n < 0) = true by rw [decide_eq_true_eq]; exact h0]; rfl
    · rw [if_neg h0, show decide (n < 0) = false by rw [decide_eq_false_iff_not]; exact h0]; rfl
  · rfl
theorem Ey (q : List Str) (b : Bool) (p : Str) (h : q.length ≤ 1000000 - 1) (hp : p.length ≤ 1000000) : Ve q b p = some (q ++ [p], b || !(Nu p)) := by
  unfold Ve Vq
  have hq : ∀ b, Qn q b [p] = some (q ++ [p], b) := fun b => C2 q b _ (by simp; omega)
  simp only [lNameW p hp, hq, Option.bind_some]
  cases b <;> rfl
theorem sw_line (q : List Str) (b : Bool) (h : b = false → (q.map List.length).sum + q.length ≤ 1000000) (hq : q.length ≤ 1000000) : Vf q b = some (if b = true then [] else Nv 32 q) := by
  unfold Vf
  cases b
  · have hl := Rf 32 q
    have := h rfl
    unfold Ya
    rw [Bj, Nat.ble_eq_true_of_le (show q.length ≤ 140737488355328 by omega), Nat.ble_eq_true_of_le (show (Nv 32 q).length ≤ 140737488355328 by omega)]
    rfl
  · rfl
theorem kput_eq (e : EvL) (hk : kin e.1 = true) (hok : EvOk e 100000) : E5 e.1 [Vo e.1] false e.1 e.2.1 e.2.2.1 e.2.2.2.1 e.2.2.2.2.1 e.2.2.2.2.2.1 e.2.2.2.2.2.2.1 e.2.2.2.2.2.2.2 = some ((Uk e).1, !(Uk e).2) := by
  obtain ⟨e1, e2, e3, e4, e5, e6, e7, e8⟩ := e
  obtain ⟨ha, hB, hN, hT, hD⟩ := hok
  simp only at ha hB hN hT hD hk
  have a1 : Yl e3 = some (Rp e3.toNat) := by
    have := lDots e3.toNat (by omega)
    rwa [Int.toNat_of_nonneg ha.1] at this
  have b4 := lBytes e4 (by omega)
  have b8 := lBytes e8 (by omega)
  rcases Gb hk with rfl | rfl | rfl | rfl | rfl | rfl | rfl | rfl | rfl
  · show Xw [Vo 1] false 1 e2 e3 e4 e5 e6 e7 e8 = _
    unfold Xw
    rw [a1, b8]
    simp only [Option.bind_some]
    rw [C2 _ _ _ (by simp)]
    rfl
  · show Xy [Vo 2] false 2 e2 e3 e4 e5 e6 e7 e8 = _
    unfold Xy
    rw [Bl _ _ _ (by simp), b4, b8]
    simp only [Option.bind_some]
    rw [C2 _ _ _ (by simp)]
    rfl
  · show X0 [Vo 3] false 3 e2 e3 e4 e5 e6 e7 e8 = _
    unfold X0
    rw [Bl _ _ _ (by simp)]
    simp only [Option.bind_some]
    rw [Bl _ _ _ (by simp)]
    simp only [Option.bind_some, Uk]
    simp [Bool.not_and]
  · show X2 [Vo 4] false 4 e2 e3 e4 e5 e6 e7 e8 = _
    unfold X2
    rw [Bl _ _ _ (by simp), b8]
    simp only [Option.bind_some]
    rw [C2 _ _ _ (by simp)]
    rfl
  · show X4 [Vo 5] false 5 e2 e3 e4 e5 e6 e7 e8 = _
    unfold X4
    rw [Bl _ _ _ (by simp)]
    rfl
  · show Xc [Vo 6] false 6 e2 e3 e4 e5 e6 e7 e8 = _
    unfold Xc
    rw [Bl _ _ _ (by simp)]
    rfl
  · show Xe [Vo 7] false 7 e2 e3 e4 e5 e6 e7 e8 = _
    unfold Xe
    rw [Ey _ _ _ (by simp) (by omega)]
    simp only [Option.bind_some]
    rw [Ey _ _ _ (by simp) (by omega)]
    simp only [Option.bind_some, Uk]
    simp [Bool.not_and]
  · show Xg [Vo 8] false 8 e2 e3 e4 e5 e6 e7 e8 = _
    unfold Xg
    rw [Ey _ _ _ (by simp) (by omega)]
    rfl
  · rfl
theorem decL_len (n : Int) : (Be n).length ≤ 13 := by
  unfold Be
  split
  · exact dec_len13 (by unfold J5; omega)
  · simp
theorem Bm (s : Str) : (Nh s).length ≤ 2 * s.length + 1 := by
  unfold Nh
  split
  · simp
  · rw [Jl]; omega
theorem kword_len (n : Int) : (Vo n).length ≤ 10 := by
  unfold Vo
  cases (n == 1) <;> cases (n == 2) <;> cases (n == 3) <;> cases (n == 4) <;> cases (n == 5) <;> cases (n == 6) <;> cases (n == 7) <;> cases (n == 8) <;> decide
theorem Ez (e : EvL) (hok : EvOk e 100000) (h : (Uk e).2 = true) : ((Uk e).1.map List.length).sum + (Uk e).1.length ≤ 1000000 - 1000 := by
  obtain ⟨e1, e2, e3, e4, e5, e6, e7, e8⟩ := e
  obtain ⟨ha, hB, hN, hT, hD⟩ := hok
  simp only at ha hB hN hT hD
  have k := kword_len
  have d := decL_len
  have o := Cx
  have b4 := Bm e4
  have b8 := Bm e8
  have d2 := d e2
  have d5 := d e5
  have o3 := o e3.toNat
  unfold Uk at h ⊢
  simp only at h ⊢
  have k1 := k 1; have k2 := k 2; have k3 := k 3; have k4 := k 4; have k5 := k 5; have k6 := k 6; have k7 := k 7; have k8 := k 8; have k9 := k 9
  repeat' split
  all_goals simp only [List.map_cons, List.map_nil, List.sum_cons, List.sum_nil, List.length_cons, List.length_nil]
  all_goals omega
theorem raw_cnt (e : EvL) : (Uk e).1.length ≤ 4 := by
  unfold Uk
  repeat' split
  all_goals simp
theorem lineL_len (e : EvL) (hok : EvOk e 100000) : (Jm e).length ≤ 1000000 - 1000 := by
  unfold Jm
  split
  · rename_i h
    exact Nat.le_trans (Rf 32 _) (Ez e hok h.2.1)
  · simp
theorem lLine (e : EvL) (hok : EvOk e 100000) : Zf e.1 e.2.1 e.2.2.1 e.2.2.2.1 e.2.2.2.2.1 e.2.2.2.2.2.1 e.2.2.2.2.2.2.1 e.2.2.2.2.2.2.2 = some (Jm e) := by
  unfold Zf
  simp only [Yb, Option.bind_some]
  cases hk : kin e.1 with
  | false => unfold Jm; rw [if_neg (by rw [hk]; simp)]; rfl
  | true =>
    rw [kput_eq e hk hok]
    simp only [cond_true, Option.bind_some]
    rw [sw_line _ _ (fun h => Nat.le_trans (Ez e hok (by simpa using h)) (by omega)) (Nat.le_trans (raw_cnt e) (by omega))]
    simp only [Option.bind_some]
    cases hr : (Uk e).2 with
    | false =>
      have hl : Jm e = [] := by unfold Jm; exact if_neg (by rw [hr]; simp)
      rw [hl, show (if (!false) = true then ([] : Str) else Nv 32 (Uk e).1) = [] from rfl, lEvent [] (by simp)]
      rfl
    | true =>
      rw [show (if (!true) = true then ([] : Str) else Nv 32 (Uk e).1) = Nv 32 (Uk e).1 from rfl, lEvent _ (Nat.le_trans (Rf 32 _) (Nat.le_trans (Ez e hok hr) (by omega))), Ex hk hok.addr hr]
      unfold Jm
      show X5 (Nv 32 (Uk e).1) (!(Ew (Ev e) e)) = _
      cases hs : Ew (Ev e) e with
      | true => rw [if_pos ⟨hk, hr, rfl⟩]; rfl
      | false => rw [if_neg (by simp)]; rfl
end Go.Proofs.YtoflbpmbkmephaaGreatDoor
namespace Go.Proofs.YtoflbpmbkmephaaGreatDoor
open Go.RowKit
set_option maxRecDepth 1000000 in
theorem scrHead : Yg = some true := by decide +kernel
end Go.Proofs.YtoflbpmbkmephaaGreatDoor
namespace Go.Proofs.YtoflbpmbkmephaaGreatDoor
open Go.RowKit
theorem EvOk.mono {e : EvL} {n m : Nat} (h : EvOk e n) (hm : n ≤ m) : EvOk e m := ⟨h.addr, Nat.le_trans h.b hm, Nat.le_trans h.name hm, Nat.le_trans h.token hm, Nat.le_trans h.draw hm⟩
end Go.Proofs.YtoflbpmbkmephaaGreatDoor
namespace Go.Proofs.YtoflbpmbkmephaaGreatDoor
def Uz (a : Int) (b d : Str) (c n : Int) : List EvL := [(1, 0, a, ([] : List UInt8), 0, ([] : List UInt8), ([] : List UInt8), d), (2, c, 0, b, 0, ([] : List UInt8), ([] : List UInt8), d), (3, c, 0, ([] : List UInt8), n, ([] : List UInt8), ([] : List UInt8), ([] : List UInt8)), (4, c, 0, ([] : List UInt8), 0, ([] : List UInt8), ([] : List UInt8), d), (5, c, 0, ([] : List UInt8), 0, ([] : List UInt8), ([] : List UInt8), ([] : List UInt8)), (6, 0, 0, ([] : List UInt8), n, ([] : List UInt8), ([] : List UInt8), ([] : List UInt8))]
theorem Gk {c : Int} (h : 0 ≤ c ∧ c < 4294967296) : Eu c = true := by
  unfold Eu
  rw [decide_eq_true h.1, decide_eq_true (by omega)]
  rfl
theorem Bn {a : Int} {b d : Str} {c n : Int} : ∀ (i : Nat) (x : EvL), (Uz a b d c n)[i]? = some x → x.1 = (i : Int) + 1 := by
  intro i x h
  match i, h with
  | 0, h => injection h with h; subst h; rfl
  | 1, h => injection h with h; subst h; rfl
  | 2, h => injection h with h; subst h; rfl
  | 3, h => injection h with h; subst h; rfl
  | 4, h => injection h with h; subst h; rfl
  | 5, h => injection h with h; subst h; rfl
  | i + 6, h => simp [Uz] at h
theorem Ft {a : Int} {b d : Str} {c n : Int} (ha : 0 ≤ a ∧ a < 4294967296) (hc : 0 ≤ c ∧ c < 4294967296) (hn : 0 ≤ n ∧ n < 4294967296) (hb : b.length ≤ 100000) (hd : d.length ≤ 100000) :
    ∀ x ∈ Uz a b d c n, EvOk x 100000 ∧ Jm x ≠ [] ∧ evL (Q3 32 (Jm x)) = some x := by
  intro x hx
  have key : EvOk x 100000 ∧ kin x.1 = true ∧ (Uk x).2 = true ∧ Ew (Ev x) x = true := by
    have z : (0 : Int) ≤ 0 ∧ (0 : Int) < 4294967296 := by decide
    simp only [Uz, List.mem_cons, List.not_mem_nil, or_false] at hx
    rcases hx with rfl | rfl | rfl | rfl | rfl | rfl
    · exact ⟨⟨ha, by simp, by simp, by simp, hd⟩, rfl, rfl, J1 _⟩
    · exact ⟨⟨z, hb, by simp, by simp, hd⟩, rfl, Gk hc, J1 _⟩
    · exact ⟨⟨z, by simp, by simp, by simp, by simp⟩, rfl, by show (Eu c && Eu n) = true; rw [Gk hc, Gk hn]; rfl, J1 _⟩
    · exact ⟨⟨z, by simp, by simp, by simp, hd⟩, rfl, Gk hc, J1 _⟩
    · exact ⟨⟨z, by simp, by simp, by simp, by simp⟩, rfl, Gk hc, J1 _⟩
    · exact ⟨⟨z, by simp, by simp, by simp, by simp⟩, rfl, Gk hn, J1 _⟩
  obtain ⟨hok, h1, h2, h3⟩ := key
  have hne : Jm x ≠ [] := by
    intro h0
    have hl : Jm x = Nv 32 (Uk x).1 := by unfold Jm; exact if_pos ⟨h1, h2, h3⟩
    have hs := Ex h1 hok.addr h2
    rw [← hl, h0] at hs
    cases hs
  exact ⟨hok, hne, line_ev hok.addr hne⟩
theorem drawn_in (rec5 : Int → Option Bool) (a : Int) (b d : Str) (c n c' n' : Int) (ec : IntKind.wrap .i64 c' = c) (en : IntKind.wrap .i64 n' = n) (i : Nat) (hi : i < 6) (x : EvL) (hx : (Uz a b d c n)[i]? = some x)
    (good : ∀ x ∈ Uz a b d c n, EvOk x 100000 ∧ Jm x ≠ [] ∧ evL (Q3 32 (Jm x)) = some x) : ∀ (q k f : Nat), q = i - k → k ≤ i → q < f →
    Qp rec5 a b d c' n' (i : Int) (Jm x) f (k : Int) = rec5 ((i + 1 : Nat) : Int) := by
  intro q
  induction q with
  | zero =>
    intro k f h1 h2 h3
    obtain ⟨f, rfl⟩ : ∃ g, f = g + 1 := ⟨f - 1, by omega⟩
    show Qx rec5 (Qp rec5 a b d c' n' (i : Int) (Jm x) f) a b d c' n' (i : Int) (Jm x) (k : Int) = _
    unfold Qx
    rw [decide_eq_false (show ¬ ((k : Int) < (i : Int)) by omega), cond_false, show (i : Int) + 1 = ((i + 1 : Nat) : Int) by omega, D3 (by omega)]
  | succ q ih =>
    intro k f h1 h2 h3
    obtain ⟨f, rfl⟩ : ∃ g, f = g + 1 := ⟨f - 1, by omega⟩
    show Qx rec5 (Qp rec5 a b d c' n' (i : Int) (Jm x) f) a b d c' n' (i : Int) (Jm x) (k : Int) = _
    unfold Qx
    rw [ec, en]
    have hk : k < (Uz a b d c n).length := by show k < 6; omega
    obtain ⟨y, hy⟩ : ∃ y, (Uz a b d c n)[k]? = some y := ⟨_, List.getElem?_eq_getElem hk⟩
    have hidx : idx (Uz a b d c n) (k : Int) = some y := by rw [G0]; exact hy
    rw [decide_eq_true (show (k : Int) < (i : Int) by omega), cond_true]
    refine Eq.trans (congrArg (fun o : Option EvL => o.bind _) hidx) ?_
    obtain ⟨hok, hne, hev⟩ := good y (List.mem_of_getElem? hy)
    simp only [Option.bind_some]
    rw [lLine y hok]
    simp only [Option.bind_some]
    have hdiff : (Jm y == Jm x) = false := by
      rw [beq_eq_false_iff_ne]
      intro e
      rw [e, (good x (List.mem_of_getElem? hx)).2.2] at hev
      injection hev with hev
      have k1 := Bn k y hy
      have k2 := Bn i x hx
      rw [hev, k1] at k2
      omega
    rw [hdiff, cond_false, show (k : Int) + 1 = ((k + 1 : Nat) : Int) by omega, D3 (by omega)]
    exact ih (k + 1) f (by omega) (by omega) (by omega)
theorem drawn_out (a : Int) (b d : Str) (c n c' n' : Int) (ec : IntKind.wrap .i64 c' = c) (en : IntKind.wrap .i64 n' = n) (good : ∀ x ∈ Uz a b d c n, EvOk x 100000 ∧ Jm x ≠ [] ∧ evL (Q3 32 (Jm x)) = some x) : ∀ (q i f : Nat), q = 6 - i → i ≤ 6 → q < f →
    Qi a b d c' n' true f (i : Int) = some true := by
  intro q
  induction q with
  | zero =>
    intro i f h1 h2 h3
    obtain ⟨f, rfl⟩ : ∃ g, f = g + 1 := ⟨f - 1, by omega⟩
    show Qy (Qi a b d c' n' true f) a b d c' n' true (i : Int) = _
    unfold Qy
    simp only [List.length_cons, List.length_nil]
    rw [decide_eq_false (show ¬ ((i : Int) < ((0 + 1 + 1 + 1 + 1 + 1 + 1 : Nat) : Int)) by omega), cond_false]
  | succ q ih =>
    intro i f h1 h2 h3
    obtain ⟨f, rfl⟩ : ∃ g, f = g + 1 := ⟨f - 1, by omega⟩
    show Qy (Qi a b d c' n' true f) a b d c' n' true (i : Int) = _
    unfold Qy
    rw [ec, en]
    have hk : i < (Uz a b d c n).length := by show i < 6; omega
    obtain ⟨x, hx⟩ : ∃ x, (Uz a b d c n)[i]? = some x := ⟨_, List.getElem?_eq_getElem hk⟩
    have hidx : idx (Uz a b d c n) (i : Int) = some x := by rw [G0]; exact hx
    obtain ⟨hok, hne, hev⟩ := good x (List.mem_of_getElem? hx)
    have hlen := lineL_len x hok
    rw [decide_eq_true (show (i : Int) < _ by simp only [List.length_cons, List.length_nil]; omega), cond_true]
    refine Eq.trans (congrArg (fun o : Option EvL => o.bind _) hidx) ?_
    simp only [Option.bind_some]
    rw [lLine x hok]
    simp only [Option.bind_some]
    rw [lEvent _ (by omega), hev]
    simp only [Option.bind_some]
    rw [beq_eq_false_iff_ne.2 hne]
    simp only [cond_false, evD, Bool.not_true]
    refine Eq.trans (congrArg (fun o : Option EvL => o.bind _) hidx) ?_
    simp only [Option.bind_some]
    rw [show (!((x.1 == x.1) && ((x.2.1 == x.2.1) && ((x.2.2.1 == x.2.2.1) && ((x.2.2.2.1 == x.2.2.2.1) && ((x.2.2.2.2.1 == x.2.2.2.2.1) && ((x.2.2.2.2.2.1 == x.2.2.2.2.2.1) && ((x.2.2.2.2.2.2.1 == x.2.2.2.2.2.2.1) && (x.2.2.2.2.2.2.2 == x.2.2.2.2.2.2.2))))))))) = false by simp]
    show Qp _ a b d c' n' (i : Int) (Jm x) J4 ((0 : Nat) : Int) = _
    rw [drawn_in _ a b d c n c' n' ec en i (by omega) x hx good i 0 J4 (by omega) (by omega) (by unfold J4; omega)]
    exact ih (i + 1) f (by omega) (by omega) (by omega)
theorem Rr (a : Int) (b d : Str) (c n : Int) (ha : 0 ≤ a ∧ a < 4294967296) (hc : 0 ≤ c ∧ c < 4294967296) (hn : 0 ≤ n ∧ n < 4294967296) (hb : b.length ≤ 140737488355328) (hd : d.length ≤ 140737488355328) :
    V4 a b d c n = some true := by
  unfold V4
  rw [scrHead]
  simp only [Option.bind_some]
  rw [Yi (x := ((List.length b : Nat) : Int) + ((List.length d : Nat) : Int)) (by omega)]
  by_cases hs : ((List.length b : Nat) : Int) + ((List.length d : Nat) : Int) > 9000
  · rw [decide_eq_true hs]; rfl
  · rw [decide_eq_false hs, cond_false]
    exact drawn_out a b d c n c n (Yi (by omega)) (Yi (by omega)) (Ft ha hc hn (by omega) (by omega)) 6 0 J4 (by omega) (by omega) (by unfold J4; omega)
end Go.Proofs.YtoflbpmbkmephaaGreatDoor
namespace Go.Proofs.YtoflbpmbkmephaaGreatDoor
open Go.RowKit Go.ChangeShapes Go.WideShapes Go.Deep
theorem own : ownKnob Tryz.prog.godebug = none := by kernel_rfl
theorem Dz : laidOutB Tryz.prog = true := by kernel_rfl
section
variable {H : Type} {enc : TypeId × Value → H} {W : World} {spare : Nat → Bool} {held : Bool} {base b0 : Nat} {r : Reach}
end
end Go.Proofs.YtoflbpmbkmephaaGreatDoor
namespace Go.Proofs.YtoflbpmbkmephaaGreatDoor
theorem reachM : reachBytes ≤ 140737488355328 := by decide
section
variable {H : Type} {enc : TypeId × Value → H} {P : Program} {W : World}
end
end Go.Proofs.YtoflbpmbkmephaaGreatDoor
namespace Go.Proofs.YtoflbpmbkmephaaGreatDoor
open Go.RowKit
abbrev E9 : List (String × DataW Unit) := [("math/bits.deBruijn32tab", Rows.laid_math_bits_deBruijn32tab), ("math/bits.deBruijn64tab", Rows.laid_math_bits_deBruijn64tab), ("internal/strconv.uint64pow10", Rows.laid_internal_strconv_uint64pow10)
  , ("unicode/utf8.acceptRanges", Rows.laid_unicode_utf8_acceptRanges), ("unicode/utf8.first", Rows.laid_unicode_utf8_first)
  ]
theorem gTab : Tryz.prog.globalNamed N1 = some 1 := by kernel_rfl
theorem gTabType : (Tryz.prog.globals[1]?).map (·.type) = some 209 := by kernel_rfl
theorem cellsTab : Tryz.prog.cellsOf 209 = 20 := by kernel_rfl
theorem cellsU64 : Tryz.prog.cellsOf 196 = 1 := by kernel_rfl
theorem laid_of {W : World} (h : laidMetH Tryz.prog E9 W) : Yr W := by
  have h1 := h.filter (fun x => x.1 == N1)
  have e : E9.filter (fun x => x.1 == N1) = [(N1, Lib.tabData .u64 Lib.pow10Tab)] := by kernel_rfl
  rw [e] at h1
  have ht : Lib.TabIs Tryz.prog W N1 .u64 Lib.pow10Tab := Lib.tabIs_of_head (rest := []) gTab gTabType Tryz.underlying209 Tryz.underlying196 cellsU64 cellsTab h1
  refine ⟨ht, fun g hg => ?_⟩
  obtain rfl := Option.some.inj (gTab.symm.trans hg)
  have := ht.cell gTab 0 (by decide)
  exact block_lt_of_cell this
def cells1 : DataW Unit → List Value
  | .lit (.int k z) => [.int k z]
  | .lit (.bool b) => [.bool b]
  | _ => []
def cells2 : DataW Unit → List Value
  | .agg l => l.flatMap cells1
  | d => cells1 d
def cells3 : DataW Unit → List Value
  | .agg l => l.flatMap cells2
  | d => cells2 d
def Rg (d : DataW Unit) : Obj → Obj
  | .cells _ t frozen => .cells (cells3 d).toArray t frozen
  | o => o
noncomputable def D0 (os : Os) : World :=
  { World.holding Tryz.prog os ⟨#[], #[], []⟩ with heap := ((((World.holding Tryz.prog os ⟨#[], #[], []⟩).heap.modify 4 (Rg Rows.laid_math_bits_deBruijn32tab)).modify 5 (Rg Rows.laid_math_bits_deBruijn64tab)).modify 1 (Rg Rows.laid_internal_strconv_uint64pow10)
    |>.modify 3 (Rg Rows.laid_unicode_utf8_acceptRanges) |>.modify 2 (Rg Rows.laid_unicode_utf8_first)
    ) }
end Go.Proofs.YtoflbpmbkmephaaGreatDoor
namespace Go.Proofs.YtoflbpmbkmephaaGreatDoor
open Go.ChangeShapes Go.WideShapes Go.ChangeAt Go.RowKit
open Go.ChangeMaps (open_string shut_string)
theorem Gr (H : Type) (enc : TypeId × Value → H) (W : World) (base : Nat) (args : Array Value) (ds gs : List (DataW H)) (before : List MemPlace) (vt : List TypeId)
    (hval : ∀ (j : Nat) t v, Tryz.f13.params[j]? = some t → args[j]? = some v → Value.okWide Tryz.prog W .any base t v)
    (hW : DataW.Whole enc Tryz.prog Tryz.f13.params.toList Rows.scriptDrawnSpec.vars false W args.toList ds gs before) (hL : laidMetH Tryz.prog Rows.scriptDrawnRow.laid W)
    (hZ : (DataW.weightsEach Tryz.prog (Tryz.f13.params.toList ++ vt) (ds ++ gs)).all (· ≤ reachBytes) = true) :
    Calls Tryz.prog 13 args W fun e W' => ∃ v, e = .returned v ∧ Rows.scriptDrawnSpec.post enc Tryz.prog Tryz.f13 false true false false W args v W' := by
  have hW' := hW
  obtain ⟨p, q, hA0, hV, rfl, hfz, hnd⟩ := hW
  have hA : DataW.TrodAll enc Tryz.prog W 0 (fun _ => true) true Tryz.f13.params.toList args.toList ds p := hA0
  rw [Tryz.params13] at hA hval hZ
  obtain ⟨v0, vs0, d0, ds0, p0, q0, hargs, rfl, rfl, h0, r0⟩ := trodAll_cons hA
  obtain ⟨v1, vs1, d1, ds1, p1, q1, rfl, rfl, rfl, h1, r1⟩ := trodAll_cons r0
  obtain ⟨v2, vs2, d2, ds2, p2, q2, rfl, rfl, rfl, h2, r2⟩ := trodAll_cons r1
  obtain ⟨v3, vs3, d3, ds3, p3, q3, rfl, rfl, rfl, h3, r3⟩ := trodAll_cons r2
  obtain ⟨v4, vs4, d4, ds4, p4, q4, rfl, rfl, rfl, h4, r4⟩ := trodAll_cons r3
  obtain ⟨rfl, rfl, rfl⟩ := trodAll_nil r4
  obtain rfl : args = #[v0, v1, v2, v3, v4] := by cases args; simp_all
  obtain ⟨rfl, rfl⟩ := trodVars_none hV
  have wz : ∀ (j : Nat) t d, _ → _ → ∀ n ∈ DataW.weights Tryz.prog t d, n ≤ reachBytes := fun j t d ht hd n hn => of_decide_eq_true (List.all_eq_true.1 hZ n (DataW.weights_mem_each (j := j) ht hd n hn))
  have k0 := h0
  have lt0 : ∀ x ∈ p0, x.block < W.heap.size := by obtain ⟨m, hm⟩ := k0; exact DataW.trod_lt m _ _ _ hm
  have k1 := h1
  have lt1 : ∀ x ∈ p1, x.block < W.heap.size := by obtain ⟨m, hm⟩ := k1; exact DataW.trod_lt m _ _ _ hm
  have k2 := h2
  have lt2 : ∀ x ∈ p2, x.block < W.heap.size := by obtain ⟨m, hm⟩ := k2; exact DataW.trod_lt m _ _ _ hm
  have k3 := h3
  have lt3 : ∀ x ∈ p3, x.block < W.heap.size := by obtain ⟨m, hm⟩ := k3; exact DataW.trod_lt m _ _ _ hm
  have k4 := h4
  have lt4 : ∀ x ∈ p4, x.block < W.heap.size := by obtain ⟨m, hm⟩ := k4; exact DataW.trod_lt m _ _ _ hm
  obtain ⟨i0_, rfl, _, _, w0_⟩ := open_int Tryz.underlying50 (hval 0 50 v0 rfl rfl) h0
  have x0_ := w0_
  simp [Lit.wf, IntKind.min, IntKind.max, IntKind.signed, IntKind.bits] at x0_
  obtain ⟨s1_, rfl, ed1_, _, hs1_⟩ := open_string Tryz.underlying9 (hval 1 9 v1 rfl rfl) h1
  have hn1_ : s1_.data.toList.length ≤ reachBytes := (wz 1 9 d1 rfl rfl) _ (by rw [ed1_]; simp [DataW.weights])
  obtain ⟨s2_, rfl, ed2_, _, hs2_⟩ := open_string Tryz.underlying9 (hval 2 9 v2 rfl rfl) h2
  have hn2_ : s2_.data.toList.length ≤ reachBytes := (wz 2 9 d2 rfl rfl) _ (by rw [ed2_]; simp [DataW.weights])
  obtain ⟨i3_, rfl, _, _, w3_⟩ := open_int Tryz.underlying50 (hval 3 50 v3 rfl rfl) h3
  have x3_ := w3_
  simp [Lit.wf, IntKind.min, IntKind.max, IntKind.signed, IntKind.bits] at x3_
  obtain ⟨i4_, rfl, _, _, w4_⟩ := open_int Tryz.underlying50 (hval 4 50 v4 rfl rfl) h4
  have x4_ := w4_
  simp [Lit.wf, IntKind.min, IntKind.max, IntKind.signed, IntKind.bits] at x4_
  clear hA0
  refine (Js  i0_ s1_.data.toList s2_.data.toList i3_ i4_ W (laid_of hL)  true (Rr _ _ _ _ _ (by omega) (by omega) (by omega) (Nat.le_trans hn1_ reachM) (Nat.le_trans hn2_ reachM))).mono fun e W' ⟨he, bel0⟩ => ?_
  have bel := SP.keeps bel0
  subst he
  exact ⟨_, rfl, _, _, _, [], _, [], hW', trodAll_mk1 (shut_bool Tryz.underlying4 _), (trodAll_cons_mk (Below.trod Dz (by kernel_rfl) (of_decide_eq_true (by kernel_rfl)) k0 bel lt0) (trodAll_cons_mk (Below.trod Dz (by kernel_rfl) (of_decide_eq_true (by kernel_rfl)) k1 bel lt1) (trodAll_cons_mk (Below.trod Dz (by kernel_rfl) (of_decide_eq_true (by kernel_rfl)) k2 bel lt2) (trodAll_cons_mk (Below.trod Dz (by kernel_rfl) (of_decide_eq_true (by kernel_rfl)) k3 bel lt3) (trodAll_cons_mk (Below.trod Dz (by kernel_rfl) (of_decide_eq_true (by kernel_rfl)) k4 bel lt4) trodAll_mk0))))), rfl, bel.frame _, fun h => by cases h⟩
theorem Gs (os : Os) : laidMet Tryz.prog Rows.scriptDrawnRow.laid ((D0 os).forCall (fun _ _ => 0) ⟨#[], #[.int .u32 0, .string ⟨#[]⟩, .string ⟨#[]⟩, .int .u32 0, .int .u32 0], []⟩).memory :=
  laidMet_of_run' 8 (by kernel_rfl) (by kernel_rfl)
theorem Rs (os : Os) {H : Type} (enc : TypeId × Value → H) : ∃ places, DataW.whole enc Tryz.prog ((D0 os).forCall (fun _ _ => 0) ⟨#[], #[.int .u32 0, .string ⟨#[]⟩, .string ⟨#[]⟩, .int .u32 0, .int .u32 0], []⟩).memory Tryz.f13.params.toList Rows.scriptDrawnSpec.vars false [.int .u32 0, .string ⟨#[]⟩, .string ⟨#[]⟩, .int .u32 0, .int .u32 0] 8 = some ([.lit (.int .u32 0), .lit (.string []), .lit (.string []), .lit (.int .u32 0), .lit (.int .u32 0)], [], places) :=
  ⟨[], by kernel_rfl⟩
theorem Rh (os : Os) (started : os.Started) (H : Type) (enc : TypeId × Value → H) (F : Stop.Interp) :
    ReturnsInHanded {} Tryz.checked os 13 .any ((OpenSpec.ofChange Rows.scriptDrawnSpec).preRow enc Tryz.prog Tryz.f13 Rows.scriptDrawnRow.domain false Rows.scriptDrawnRow.laid) (((OpenSpec.ofChange Rows.scriptDrawnSpec).at F).post enc Tryz.prog Tryz.f13 false true false false) := by
  obtain ⟨places, hx⟩ := Rs os enc
  refine returnsInHanded_of_row (C := Tryz.checked) (s := OpenSpec.ofChange Rows.scriptDrawnSpec) own started (by kernel_rfl) Tryz.func13
    (witness_row_at (enc := enc) (C := Tryz.checked) false (D0 os) #[.int .u32 0, .string ⟨#[]⟩, .string ⟨#[]⟩, .int .u32 0, .int .u32 0] rfl (by kernel_rfl) (by kernel_rfl) (by kernel_rfl)
      (OpenSpec.preRow_of_cond 8 hx (by kernel_rfl) (fun k hk => by cases hk) (by kernel_rfl) (Gs os))) ?_
  intro W base args ds gs before hval hW _ _ hZ hL _ _
  exact Gr H enc W base args ds gs before _ hval hW hL hZ
theorem R5 : Rows.ScriptDrawnSaid :=
  OpenClaim.holds_of_cond 13 Tryz.f13 rfl rfl rfl rfl rfl rfl rfl ⟨rfl, rfl, rfl, rfl, rfl⟩ rfl rfl rfl rfl rfl (by kernel_rfl) Tryz.func13 (by kernel_rfl)
    (of_decide_eq_true (by kernel_rfl)) (by unfold Func.isWrapper; first | (rw [if_pos (by decide +kernel)]; kernel_rfl) | (rw [if_neg (by decide +kernel)]; exact ⟨rfl, rfl⟩))
    (fun os started H enc _ F => by rw [OpenClaim.pre_eq_preRow]; exact Rh os started H enc F)
theorem Gc (f : FuncId) (fn : Func) (hf : Tryz.pinned.checked.prog.funcNamed Rows.scriptDrawnRow.func = some f) (hfn : Tryz.pinned.checked.prog.funcs[f]? = some fn) :
    false = Tryz.pinned.checked.prog.looks [] ∧ ∀ (j : Nat) t, fn.params[j]? = some t → Tryz.pinned.checked.prog.wantsStandIn t = false := by
  obtain rfl : f = 13 := Option.some.inj ((show Tryz.prog.funcNamed Rows.scriptDrawnRow.func = some 13 by kernel_rfl).symm.trans hf) |>.symm
  obtain rfl : fn = Tryz.f13 := (Option.some.inj (Tryz.func13.symm.trans hfn)).symm
  refine ⟨by kernel_rfl, fun j t ht => ?_⟩
  have ha : (Tryz.f13.params.toList.all fun t => !Tryz.prog.wantsStandIn t) = true := by kernel_rfl
  rw [List.all_eq_true] at ha
  have := ha t (by rw [← Array.getElem?_toList] at ht; exact List.mem_of_getElem? ht)
  have h2 : Tryz.prog.wantsStandIn t = false := by simpa using this
  exact h2
theorem scriptDrawn_card : Rows.ScriptDrawnCardSaid :=
  Claim7.holds_tied_plain_at .later [] _ _ _ _ R5 (fun _ h => by cases h) (by kernel_rfl) (fun _ h => by cases h) scriptDrawn_row_tie rfl ⟨rfl, rfl⟩ (by kernel_rfl) rfl Gc (by kernel_rfl)
#print axioms scriptDrawn_card
end Go.Proofs.YtoflbpmbkmephaaGreatDoor
