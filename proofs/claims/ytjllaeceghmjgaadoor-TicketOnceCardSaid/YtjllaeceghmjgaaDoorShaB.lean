/- SHA-256, of the program and of the document: rounds, blocks. -/
import Derived.Test.YtjllaeceghmjgaaDoorShaA
namespace Go.Proofs.YtjllaeceghmjgaaDoor
set_option linter.unusedSimpArgs false
set_option linter.unusedVariables false
def rndX (e f g h k w : Int) : Int := IntKind.wrap .u32 (IntKind.wrap .u32 (IntKind.wrap .u32 (IntKind.wrap .u32 (h + grtI e 6 11 25) + bXor .u32 (bAnd .u32 e f) (bAnd .u32 (bXor .u32 (IntKind.max .u32) e) g)) + k) + w)
def rndY (a b c : Int) : Int := IntKind.wrap .u32 (grtI a 2 13 22 + bXor .u32 (bXor .u32 (bAnd .u32 a b) (bAnd .u32 a c)) (bAnd .u32 b c))
def rnd (s : List Int) (k w : Int) : List Int :=
  match s with
  | [a, b, c, d, e, f, g, h] => [IntKind.wrap .u32 (rndX e f g h k w + rndY a b c), a, b, c, IntKind.wrap .u32 (d + rndX e f g h k w), e, f, g]
  | _ => []
theorem eight {s : List Int} (h : s.length = 8) : ∃ a b c d e f g i, s = [a, b, c, d, e, f, g, i] := by
  match s, h with
  | [a, b, c, d, e, f, g, i], _ => exact ⟨a, b, c, d, e, f, g, i, rfl⟩
theorem rnd_length {s : List Int} (h : s.length = 8) (k w : Int) : (rnd s k w).length = 8 := by
  obtain ⟨a, b, c, d, e, f, g, i, rfl⟩ := eight h
  rfl
def rootsI : List Int := [1116352408, 1899447441, 3049323471, 3921009573, 961987163, 1508970993, 2453635748, 2870763221, 3624381080, 310598401, 607225278, 1426881987, 1925078388, 2162078206, 2614888103, 3248222580, 3835390401, 4022224774, 264347078, 604807628, 770255983, 1249150122, 1555081692, 1996064986, 2554220882, 2821834349, 2952996808, 3210313671, 3336571891, 3584528711, 113926993, 338241895, 666307205, 773529912, 1294757372, 1396182291, 1695183700, 1986661051, 2177026350, 2456956037, 2730485921, 2820302411, 3259730800, 3345764771, 3516065817, 3600352804, 4094571909, 275423344, 430227734, 506948616, 659060556, 883997877, 958139571, 1322822218, 1537002063, 1747873779, 1955562222, 2024104815, 2227730452, 2361852424, 2428436474, 2756734187, 3204031479, 3329325298]
theorem roots_ref : L_subwayref02_roots = some rootsI := rfl
theorem roots_prog : L_digest_roots = some rootsI := rfl
theorem roots_length : rootsI.length = 64 := rfl
theorem ref_round (rec4 : List Int → Int → Option (List Int)) (p1 z w : List Int) {s : List Int} (hs : s.length = 8) {t : Nat} (ht : t < 64) (hz : z.length = 64) (hw : w.length = 64) :
    L_subwayref02_block_b3 rec4 p1 z w s (t : Int) = rec4 (rnd s (z.getD t 0) (w.getD t 0)) ((t + 1 : Nat) : Int) := by
  obtain ⟨a, b, c, d, e, f, g, h, rfl⟩ := eight hs
  unfold L_subwayref02_block_b3
  have i0 : idx [a, b, c, d, e, f, g, h] 0 = some a := rfl
  have i1 : idx [a, b, c, d, e, f, g, h] 1 = some b := rfl
  have i2 : idx [a, b, c, d, e, f, g, h] 2 = some c := rfl
  have i3 : idx [a, b, c, d, e, f, g, h] 3 = some d := rfl
  have i4 : idx [a, b, c, d, e, f, g, h] 4 = some e := rfl
  have i5 : idx [a, b, c, d, e, f, g, h] 5 = some f := rfl
  have i6 : idx [a, b, c, d, e, f, g, h] 6 = some g := rfl
  have i7 : idx [a, b, c, d, e, f, g, h] 7 = some h := rfl
  have iz := idx_getD z t 0 (by omega)
  have iw := idx_getD w t 0 (by omega)
  have g6 := great_ok e 6 11 25 (by decide) (by decide) (by decide) (by decide)
  have g2 := great_ok a 2 13 22 (by decide) (by decide) (by decide) (by decide)
  rw [show decide ((t : Int) < 64) = true by simp; omega, cond_true, show ((t : Int) + 1) = ((t + 1 : Nat) : Int) by omega, wrapn (by omega)]
  simp only [i0, i1, i2, i3, i4, i5, i6, i7, iz, iw, g6, g2, Option.bind_some]
  rfl
theorem prog_round (rec4 : List Int → Int → Option (List Int)) (p1 w z : List Int) {s : List Int} (hs : s.length = 8) {t : Nat} (ht : t < 64) (hz : z.length = 64) (hw : w.length = 64) :
    L_digest_state_behind_b3 rec4 p1 w z s (t : Int) = rec4 (rnd s (z.getD t 0) (w.getD t 0)) ((t + 1 : Nat) : Int) := by
  obtain ⟨a, b, c, d, e, f, g, h, rfl⟩ := eight hs
  unfold L_digest_state_behind_b3
  have i0 : idx [a, b, c, d, e, f, g, h] 0 = some a := rfl
  have i1 : idx [a, b, c, d, e, f, g, h] 1 = some b := rfl
  have i2 : idx [a, b, c, d, e, f, g, h] 2 = some c := rfl
  have i4 : idx [a, b, c, d, e, f, g, h] 4 = some e := rfl
  have i5 : idx [a, b, c, d, e, f, g, h] 5 = some f := rfl
  have i6 : idx [a, b, c, d, e, f, g, h] 6 = some g := rfl
  have i7 : idx [a, b, c, d, e, f, g, h] 7 = some h := rfl
  have s1 : sub [a, b, c, d, e, f, g, h] 1 (([a, b, c, d, e, f, g, h].length : Nat) : Int) = some [b, c, d, e, f, g, h] := rfl
  have s0 : sub [a, b, c, d, e, f, g, h] 0 7 = some [a, b, c, d, e, f, g] := rfl
  have cp : cpy [a, b, c, d, e, f, g, h] (Int.toNat 1) [b, c, d, e, f, g, h].length [a, b, c, d, e, f, g] = [a, a, b, c, d, e, f, g] := rfl
  have j4 : idx [a, a, b, c, d, e, f, g] 4 = some d := rfl
  have j0 : idx [a, a, b, c, d, e, f, g] 0 = some a := rfl
  have st0 : ∀ x, List.set [a, a, b, c, d, e, f, g] (Int.toNat 0) x = [x, a, b, c, d, e, f, g] := fun _ => rfl
  have k4 : ∀ x, idx [x, a, b, c, d, e, f, g] 4 = some d := fun _ => rfl
  have st4 : ∀ x y, List.set [x, a, b, c, d, e, f, g] (Int.toNat 4) y = [x, a, b, c, y, e, f, g] := fun _ _ => rfl
  have iz := idx_getD z t 0 (by omega)
  have iw := idx_getD w t 0 (by omega)
  rw [show decide ((t : Int) < 64) = true by simp; omega, cond_true, show ((t : Int) + 1) = ((t + 1 : Nat) : Int) by omega, wrapn (by omega)]
  simp only [i0, i1, i2, i4, i5, i6, i7, iz, iw, mix_6, mix_2, s1, s0, Option.bind_some, cp, j4, j0, st0, k4, st4, ch_eq, maj_eq]
  rfl
def rndS (p w : List Int) : Nat → List Int
  | 0 => p
  | t + 1 => rnd (rndS p w t) (rootsI.getD t 0) (w.getD t 0)
theorem rndS_length {p : List Int} (h : p.length = 8) (w : List Int) : ∀ t, (rndS p w t).length = 8
  | 0 => h
  | t + 1 => rnd_length (rndS_length h w t) _ _
def addI (p s : List Int) : List Int := (s.zip p).map fun x => IntKind.wrap .u32 (x.1 + x.2)
theorem ref_add (rec4 : List Int → Int → Option (List Int)) {p s : List Int} (hp : p.length = 8) (hs : s.length = 8) (f : Nat) : L_subwayref02_block_l5 rec4 s (f + 9) p 0 = some (addI s p) := by
  obtain ⟨a, b, c, d, e, q, g, h, rfl⟩ := eight hs
  obtain ⟨a', b', c', d', e', q', g', h', rfl⟩ := eight hp
  rfl
theorem prog_add (rec4 : List Int → Int → Option (List Int)) {p s : List Int} (hp : p.length = 8) (hs : s.length = 8) (f : Nat) : L_digest_state_behind_l5 rec4 p (f + 9) s 0 = some (addI p s) := by
  obtain ⟨a, b, c, d, e, q, g, h, rfl⟩ := eight hs
  obtain ⟨a', b', c', d', e', q', g', h', rfl⟩ := eight hp
  rfl
theorem add_comm8 {p s : List Int} (hp : p.length = 8) (hs : s.length = 8) : addI s p = addI p s := by
  obtain ⟨a, b, c, d, e, q, g, h, rfl⟩ := eight hs
  obtain ⟨a', b', c', d', e', q', g', h', rfl⟩ := eight hp
  simp [addI, Int.add_comm]
theorem addI_length {p s : List Int} (hp : p.length = 8) (hs : s.length = 8) : (addI p s).length = 8 := by simp [addI, hp, hs]
theorem fuel9 : fuel = (fuel - 9) + 9 := by unfold fuel; omega
theorem ref_rounds (p w : List Int) (hp : p.length = 8) (hw : w.length = 64) : ∀ (d t f : Nat), d = 64 - t → t ≤ 64 → d < f → L_subwayref02_block_l3 p rootsI w f (rndS p w t) (t : Int) = some (addI p (rndS p w 64)) := by
  intro d
  induction d with
  | zero =>
    intro t f hd ht hf
    obtain ⟨f, rfl⟩ : ∃ g, f = g + 1 := ⟨f - 1, by omega⟩
    have : t = 64 := by omega
    subst this
    show L_subwayref02_block_b3 (L_subwayref02_block_l3 p rootsI w f) p rootsI w (rndS p w 64) ((64 : Nat) : Int) = _
    unfold L_subwayref02_block_b3
    rw [show decide (((64 : Nat) : Int) < 64) = false by decide, cond_false, fuel9, ref_add _ hp (rndS_length hp w 64)]
    rw [add_comm8 hp (rndS_length hp w 64)]
  | succ d ih =>
    intro t f hd ht hf
    obtain ⟨f, rfl⟩ : ∃ g, f = g + 1 := ⟨f - 1, by omega⟩
    show L_subwayref02_block_b3 (L_subwayref02_block_l3 p rootsI w f) p rootsI w (rndS p w t) (t : Int) = _
    rw [ref_round _ _ _ _ (rndS_length hp w t) (by omega) roots_length hw]
    exact ih (t + 1) f (by omega) (by omega) (by omega)
theorem prog_rounds (p w : List Int) (hp : p.length = 8) (hw : w.length = 64) : ∀ (d t f : Nat), d = 64 - t → t ≤ 64 → d < f → L_digest_state_behind_l3 p w rootsI f (rndS p w t) (t : Int) = some (addI p (rndS p w 64)) := by
  intro d
  induction d with
  | zero =>
    intro t f hd ht hf
    obtain ⟨f, rfl⟩ : ∃ g, f = g + 1 := ⟨f - 1, by omega⟩
    have : t = 64 := by omega
    subst this
    show L_digest_state_behind_b3 (L_digest_state_behind_l3 p w rootsI f) p w rootsI (rndS p w 64) ((64 : Nat) : Int) = _
    unfold L_digest_state_behind_b3
    rw [show decide (((64 : Nat) : Int) < 64) = false by decide, cond_false, fuel9, prog_add _ hp (rndS_length hp w 64)]
  | succ d ih =>
    intro t f hd ht hf
    obtain ⟨f, rfl⟩ : ∃ g, f = g + 1 := ⟨f - 1, by omega⟩
    show L_digest_state_behind_b3 (L_digest_state_behind_l3 p w rootsI f) p w rootsI (rndS p w t) (t : Int) = _
    rw [prog_round _ _ _ _ (rndS_length hp w t) (by omega) roots_length hw]
    exact ih (t + 1) f (by omega) (by omega) (by omega)
/-- a state behind a block -/
def blkL (h : List Int) (b : List UInt8) : List Int := addI h (rndS h (schS b 64) 64)
theorem blkL_length {h : List Int} (hh : h.length = 8) (b : List UInt8) : (blkL h b).length = 8 := addI_length hh (rndS_length hh _ 64)
theorem blkL_congr {b c : List UInt8} (hh : ∀ i, i < 64 → b.getD i 0 = c.getD i 0) (h : List Int) : blkL h b = blkL h c := by
  have := schS_congr hh 64
  unfold blkL
  rw [this]
theorem ref_block {h : List Int} (hh : h.length = 8) {b : List UInt8} (hb : 64 ≤ b.length) : L_subwayref02_block h b = some (blkL h b) := by
  have hsc := schS_length b 64
  unfold L_subwayref02_block blkL
  rw [roots_ref, sched_ok b hb]
  generalize schS b 64 = w at hsc ⊢
  have h1 := ref_rounds h w hh hsc 64 0 fuel (by omega) (by omega) (by unfold fuel; omega)
  simp only [Option.bind_some, roots_length, hsc, Nat.beq_refl, chk]
  exact h1
theorem prog_behind {h : List Int} (hh : h.length = 8) {b : List UInt8} (hb : 64 ≤ b.length) : L_digest_state_behind h (schS b 64) = some (blkL h b) := by
  have hsc := schS_length b 64
  unfold L_digest_state_behind blkL
  rw [roots_prog]
  generalize schS b 64 = w at hsc ⊢
  have h1 := prog_rounds h w hh hsc 64 0 fuel (by omega) (by omega) (by unfold fuel; omega)
  simp only [Option.bind_some, roots_length, hsc, Nat.beq_refl, chk]
  exact h1
end Go.Proofs.YtjllaeceghmjgaaDoor
