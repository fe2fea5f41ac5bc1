/- strings.SplitSeq: the pieces of a text at a byte, one by one, whatever the rounds do that leave the iterator's own cells as they are. -/
import Derived.RangeFuncNested
import Derived.RangeFuncBound
import Derived.RangeFuncCalls
import Derived.RangeFuncLeaves
import Derived.Shelf.Abstract
import Derived.Shelf.RegionOpen
import Derived.WalkKit
import Derived.OwnWalkIn
import Derived.TacticsInMore
import Derived.LoopNIn
import Derived.LoopIn
import Derived.Test.YthnakiihenbcjaaDoorSplitL
import Derived.Test.YthnakiihenbcjaaDoorShelf
import Derived.Test.YthnakiihenbcjaaDoorOps
namespace Go.Proofs.YthnakiihenbcjaaDoor
set_option linter.unusedSimpArgs false
set_option linter.unusedVariables false
open Go.RowKit Go.Shelf
attribute [local go_sem] Oper.semAt_some
/-- the iterator's own cells: the separator, what is left, 0 -/
structure IterBoxes (W : World) (bsep bs bv : Nat) (c : UInt8) (r : List UInt8) : Prop where
  sep : W.heap[bsep]? = some (.cells #[.string ⟨#[c]⟩] 9 (0, 0))
  left : W.heap[bs]? = some (.cells #[.string ⟨r.toArray⟩] 9 (0, 0))
  save : W.heap[bv]? = some (.cells #[.int .i64 0] 3 (0, 0))
theorem IterBoxes.same {W W' : World} {bsep bs bv : Nat} {c : UInt8} {r : List UInt8} (h : IterBoxes W bsep bs bv c r) (h1 : W'.heap[bsep]? = W.heap[bsep]?) (h2 : W'.heap[bs]? = W.heap[bs]?) (h3 : W'.heap[bv]? = W.heap[bv]?) : IterBoxes W' bsep bs bv c r :=
  ⟨h1.trans h.sep, h2.trans h.left, h3.trans h.save⟩
theorem cell0 {W : World} {b : Nat} {v : Value} {t : TypeId} (h : W.heap[b]? = some (.cells #[v] t (0, 0))) : W.cell? ⟨b, 0, none⟩ = some v := by
  rw [cell_of_row W b 0 _ t _ h]
  rfl
theorem frozen0 {W : World} {b : Nat} {v : Value} {t : TypeId} (h : W.heap[b]? = some (.cells #[v] t (0, 0))) : W.frozen? ⟨b, 0, none⟩ = false := by
  simp [World.frozen?, h]
def leftLen (W : World) (bs : Nat) : Nat := match W.cell? ⟨bs, 0, none⟩ with | some (.string b) => b.size | _ => 0
theorem leftLen_eq {W : World} {bsep bs bv : Nat} {c : UInt8} {r : List UInt8} (h : IterBoxes W bsep bs bv c r) : leftLen W bs = r.length := by
  unfold leftLen
  rw [cell0 h.left]
  exact str_size r
theorem setCell_same {W : World} {b : Nat} {u v : Value} {t : TypeId} (h : W.heap[b]? = some (.cells #[u] t (0, 0))) : (W.setCell ⟨b, 0, none⟩ v).heap[b]? = some (.cells #[v] t (0, 0)) := by
  simp [World.setCell, h, Array.getElem?_modify]
theorem setCell_other {W : World} {b k : Nat} {v : Value} (h : k ≠ b) : (W.setCell ⟨b, 0, none⟩ v).heap[k]? = W.heap[k]? := by
  simp [World.setCell, Array.getElem?_modify, Ne.symm h]
theorem IterBoxes.turn {W : World} {bsep bs bv : Nat} {c : UInt8} {r : List UInt8} (h : IterBoxes W bsep bs bv c r) (h1 : bs ≠ bsep) (h2 : bs ≠ bv) (q : List UInt8) : IterBoxes (W.setCell ⟨bs, 0, none⟩ (.string ⟨q.toArray⟩)) bsep bs bv c q :=
  ⟨(setCell_other h1.symm).trans h.sep, setCell_same h.left, (setCell_other h2.symm).trans h.save⟩
theorem split_iter (m : Nat) (l bsep bs bv : Nat) (c : UInt8) (hne1 : bs ≠ bsep) (hne2 : bs ≠ bv) (s : List UInt8) (hs : s.length ≤ maxLen) (J Jx : List (List UInt8) → World → Prop)
    (hJ : ∀ pre W1 (v : Value), J pre W1 → J pre (W1.setCell ⟨bs, 0, none⟩ v))
    (hY : ∀ pre x r W1, J pre W1 → IterBoxes W1 bsep bs bv c r → (∃ q, pre ++ x :: q = splitL c s) → YieldAt Fence.wide (m - 1) Tryd.prog l #[.string ⟨x.toArray⟩] W1 fun e W' =>
      (e = .returned (.bool true) ∧ J (pre ++ [x]) W' ∧ W'.heap[bsep]? = W1.heap[bsep]? ∧ W'.heap[bs]? = W1.heap[bs]? ∧ W'.heap[bv]? = W1.heap[bv]?) ∨ (e = .returned (.bool false) ∧ Jx (pre ++ [x]) W'))
    (W : World) (hB : IterBoxes W bsep bs bv c s) (h0 : J [] W) :
    CallsIn Fence.wide m Tryd.prog 50 #[.func (.yield l) #[] #[], .pointer (some ⟨bsep, 0, none⟩), .pointer (some ⟨bs, 0, none⟩), .pointer (some ⟨bv, 0, none⟩)] W fun e W' => (∃ v, e = .returned v) ∧
      (J (splitL c s) W' ∨ (∃ pre, pre <+: splitL c s ∧ Jx pre W')) := by
  have hsz1 : ((⟨#[c]⟩ : ByteArray).size == 0) = false := rfl
  have c1 := cell0 hB.sep
  refine callsIn_of_wp Tryd.func50 rfl trivial ?_ rfl
  simp only [Tryd.ntmps50, List.size_toArray, List.length_cons, List.length_nil, Nat.reduceAdd, Nat.reduceSub, Array.replicate_succ, Array.replicate_zero, List.push_toArray, List.append_toArray, List.nil_append, List.cons_append]
  gi_wp2
  gi_loopw [7] (fun p wr => ∃ (pre : List (List UInt8)) (r : List UInt8), IterBoxes wr bsep bs bv c r ∧ pre ++ splitL c r = splitL c s ∧ r.length ≤ maxLen ∧ J pre wr) (fun p wr => leftLen wr bs)
  case atStart => exact ⟨[], s, hB, rfl, hs, h0⟩
  case round =>
    obtain ⟨pre, r, hb, hp, hr, hj⟩ := hrel
    have c1 := cell0 hb.sep
    have c2 := cell0 hb.left
    have c3 := cell0 hb.save
    have hrs := str_size r
    have hsep1 : (⟨#[c]⟩ : ByteArray).size = 1 := rfl
    unfold maxLen at hr
    rcases indexByte_cases c r with ⟨h1, h2, h3⟩ | ⟨i, h1, h2, h3, h4, h5⟩
    · have h1' : Lib.indexByte (⟨r.toArray⟩ : ByteArray).data.toList c = -1 := h1
      obtain ⟨fn, tmps, assign, body, hy, hR⟩ := hY pre r r wr hj hb ⟨[], by rw [← hp, h2]⟩
      gi_wp2_with (refine ⟨trivial, fun hh => (by cases hh), ?_⟩; gi_at_call 52; refine (callsIn_wide.2 (Tryd.strings_Index_one (⟨r.toArray⟩ : ByteArray) c wr)).mono ?_; rintro e W3 ⟨rfl, rfl⟩; rw [h1'])
      refine ⟨fun hh => (by cases hh), ?_⟩
      refine hR.mono ?_
      rintro e W3 (⟨rfl, hJ3, hk⟩ | ⟨rfl, hJx3⟩)
      · gi_wp2
        go_end0
        exact ⟨⟨_, rfl⟩, .inl (by rw [← hp, h2]; exact hJ3)⟩
      · gi_wp2
        go_end0
        exact ⟨⟨_, rfl⟩, .inr ⟨pre ++ [r], by rw [← hp, h2]; exact List.prefix_refl _, hJx3⟩⟩
    · have h1' : Lib.indexByte (⟨r.toArray⟩ : ByteArray).data.toList c = (i : Int) := h1
      have hex := str_extract r 0 i (by omega)
      rw [List.drop_zero] at hex
      have hex2 := str_extract r (i + 1) r.length (Nat.le_refl _)
      rw [List.take_length] at hex2
      obtain ⟨fn, tmps, assign, body, hy, hR⟩ := hY pre (r.take i) r wr hj hb ⟨splitL c (r.drop (i + 1)), by rw [← hp, h5]⟩
      have hi0 : ¬ ((i : Int) < 0) := by omega
      gi_wp2_with (refine ⟨trivial, fun hh => (by cases hh), ?_⟩; gi_at_call 52; refine (callsIn_wide.2 (Tryd.strings_Index_one (⟨r.toArray⟩ : ByteArray) c wr)).mono ?_; rintro e W3 ⟨rfl, rfl⟩; rw [h1'])
      refine ⟨fun hh => (by cases hh), ?_⟩
      refine hR.mono ?_
      rintro e W3 (⟨rfl, hJ3, k1, k2, k3⟩ | ⟨rfl, hJx3⟩)
      · have hb3 := hb.same k1 k2 k3
        have d1 := cell0 hb3.sep
        have d2 := cell0 hb3.left
        have d3 := cell0 hb3.save
        have f2 := frozen0 hb3.left
        gi_wp2
        have hb4 := hb3.turn hne1 hne2 (r.drop (i + 1))
        refine ⟨⟨pre ++ [r.take i], r.drop (i + 1), hb4, by rw [← hp, h5]; simp, by unfold maxLen; rw [List.length_drop]; omega, hJ _ _ _ hJ3⟩, ?_⟩
        rw [leftLen_eq hb4, leftLen_eq hb, List.length_drop]
        omega
      · gi_wp2
        refine bodyPost_ret (results_none rfl _ _ _) rfl ?_
        exact ⟨⟨_, rfl⟩, .inr ⟨pre ++ [r.take i], ⟨splitL c (r.drop (i + 1)), by rw [← hp, h5]; simp⟩, hJx3⟩⟩
end Go.Proofs.YthnakiihenbcjaaDoor
