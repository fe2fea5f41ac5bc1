/- Rows of bytes that a call owns, and what is appended to them; bytes and strings. -/
import Derived.Test.YtjpchjbbfbmjgaaDoorRows2
namespace Go.Proofs.YtjpchjbbfbmjgaaDoor
set_option linter.unusedSimpArgs false
set_option linter.unusedVariables false
open Go.RowKit

theorem prog_u8 : Tryd.prog.underlying 5 = some (.int .u8) := Tryd.underlying5
theorem prog_bytes : Tryd.prog.underlying 22 = some (.slice 5) := Tryd.underlying22
theorem prog_string : Tryd.prog.underlying 9 = some .string := Tryd.underlying9
theorem prog_info8 : (Tryd.prog.info? 5).map (fun i => (i.zero, i.size, i.bytes)) = some (some (.int .u8 0), 1, 1) := by kernel_rfl

/-- bytes as cells -/
def bV (l : List UInt8) : List Value := l.map fun c => Value.int .u8 (c.toNat : Int)
theorem bV_length (l : List UInt8) : (bV l).length = l.length := by simp [bV]
theorem bV_append (l m : List UInt8) : bV (l ++ m) = bV l ++ bV m := by simp [bV]
theorem bV_one (l : List UInt8) : ∀ u ∈ bV l, u.oneCell' = true := by
  intro u hu
  obtain ⟨_, _, rfl⟩ := List.mem_map.1 hu
  rfl
theorem bV_get {l : List UInt8} {j : Nat} {u : Value} (h : (bV l)[j]? = some u) : j < l.length ∧ u = .int .u8 ((l.getD j 0).toNat : Int) := by
  unfold bV at h
  rw [List.getElem?_map] at h
  cases hl : l[j]? with
  | none => rw [hl] at h; cases h
  | some c =>
    rw [hl] at h
    injection h with h
    obtain ⟨hj, hc⟩ := List.getElem?_eq_some_iff.1 hl
    exact ⟨hj, by rw [← h]; simp [List.getD, hl]⟩
theorem bV_at {l : List UInt8} {j : Nat} (h : j < l.length) : (bV l)[j]? = some (.int .u8 ((l.getD j 0).toNat : Int)) := by
  simp [bV, List.getElem?_map, List.getD, List.getElem?_eq_getElem h]

/-- the value v is a slice of bytes that the call owns (its block from B on), and its bytes are l -/
def Ow (w : World) (B : Nat) (v : Value) (l : List UInt8) : Prop := w.ownsRow B 5 1 v l.length (bV l)
section
variable {w w' : World} {B B' : Nat} {v : Value} {l : List UInt8}
theorem Ow.nil (w : World) (B : Nat) : Ow w B (.slice none 0 0) [] := World.ownsRow_nil w B _ _
theorem Ow.shape (h : Ow w B v l) : ∃ A c, v = .slice A l.length c := by
  rcases h.2 with ⟨hv, hn⟩ | ⟨g, cap, cur, hv, _⟩
  · exact ⟨none, 0, by rw [hv, hn]⟩
  · exact ⟨_, _, hv⟩
theorem Ow.rd {A : Option Addr} {n c : Nat} (h : Ow w B (.slice A n c) l) : Rd w A n c l ∧ l.length = n := by
  have hl : n = l.length := by
    obtain ⟨_, _, hv⟩ := h.shape
    injection hv
  subst hl
  refine ⟨?_, rfl⟩
  rcases h.2 with ⟨hv, hn⟩ | ⟨g, cap, cur, hv, hb, hh, hnc, hcm, hcs, ht⟩
  · injection hv with hA _ hc
    subst hA; subst hc
    have : l = [] := List.eq_nil_of_length_eq_zero hn
    subst this
    exact Rd.nil w
  · injection hv with hA _ hc
    subst hA; subst hc
    refine ⟨rfl, hnc, hcm, fun _ => ⟨g, 0, rfl, (Array.getElem?_eq_some_iff.1 hh).1, fun i hi => ?_⟩⟩
    have := h.cellAt (g := g) (cap := c) i (by omega)
    rw [Nat.zero_add, this]
    exact bV_at hi
theorem Ow.grown (h : Ow w B v l) {row : Option Nat} (hg : w.grownBy w' row) (hne : v.ownBlock = none ∨ v.ownBlock ≠ row) : Ow w' B v l := World.ownsRow.kept h hg hne
theorem Ow.alloc (h : Ow w B v l) (o : Obj) : Ow (w.alloc o) B v l := World.ownsRow.alloc h o
theorem Ow.drew (h : Ow w B v l) : Ow w.drew B v l := h
theorem Ow.drewN (h : Ow w B v l) (k : Nat) : Ow (w.drewN k) B v l := h
theorem Ow.mono (h : Ow w B v l) (hB : B' ≤ B) : Ow w B' v l := by
  refine ⟨h.1, ?_⟩
  rcases h.2 with h2 | ⟨g, cap, cur, hv, hg, r⟩
  · exact .inl h2
  · exact .inr ⟨g, cap, cur, hv, Nat.le_trans hB hg, r⟩
theorem Ow.lt (h : Ow w B v l) : ∀ k, v.ownBlock = some k → B ≤ k ∧ k < w.heap.size := World.ownsRow.lt h
/-- nothing below a later world's size is touched: what is owned stays owned -/
theorem Ow.below (h : Ow w B v l) (hb : Below w.heap.size w w') : Ow w' B v l := by
  refine h.grown (row := none) ⟨hb.os, hb.tape, hb.output, hb.size, fun k hk _ => hb.block k hk⟩ ?_
  cases v.ownBlock <;> simp
theorem Ow.form (h : Ow w B v l) (hn : 0 < l.length) : ∃ g cap, v = .slice (some ⟨g, 0, none⟩) l.length cap ∧ B ≤ g ∧ g < w.heap.size := by
  rcases h.2 with ⟨_, h0⟩ | ⟨g, cap, cur, hv, hb, hg, _⟩
  · omega
  · exact ⟨g, cap, hv, hb, (Array.getElem?_eq_some_iff.1 hg).1⟩
theorem Ow.cell {g n cap j : Nat} (h : Ow w B (.slice (some ⟨g, 0, none⟩) n cap) l) (hj : j < l.length) : w.cell? ⟨g, j, none⟩ = some (.int .u8 ((l.getD j 0).toNat : Int)) := by
  obtain rfl := h.rd.2
  rw [World.ownsRow.cellAt (g := g) (cap := cap) h j (by omega)]
  exact bV_at hj
theorem Ow.frozen {g n cap : Nat} (h : Ow w B (.slice (some ⟨g, 0, none⟩) n cap) l) (j : Nat) : w.frozen? ⟨g, j, none⟩ = false := by
  obtain rfl := h.rd.2
  exact World.ownsRow.frozenAt (g := g) (cap := cap) h j
theorem bV_set (l : List UInt8) (j : Nat) (c : UInt8) : (bV l).set j (.int .u8 (c.toNat : Int)) = bV (l.set j c) := by
  simp [bV, List.map_set]
theorem Ow.stored {g n cap : Nat} (h : Ow w B (.slice (some ⟨g, 0, none⟩) n cap) l) (j : Nat) (c : UInt8) :
    Ow (w.setCell ⟨g, j, none⟩ (.int .u8 (c.toNat : Int))) B (.slice (some ⟨g, 0, none⟩) n cap) (l.set j c) ∧ w.grownBy (w.setCell ⟨g, j, none⟩ (.int .u8 (c.toNat : Int))) (some g) := by
  obtain rfl := h.rd.2
  obtain ⟨h1, h2⟩ := World.ownsRow.stored (g := g) (cap := cap) h j (.int .u8 (c.toNat : Int))
  refine ⟨?_, h2⟩
  rw [bV_set] at h1
  unfold Ow
  rw [List.length_set]
  exact h1
/-- a new row, written out -/
theorem Ow.lit (w : World) (cs : Array Value) (l : List UInt8) (hb : B ≤ w.heap.size) (hm : l.length ≤ maxLen) (hs : cs.toList = bV l) :
    Ow (w.alloc (.cells cs 5)) B (.slice (some ⟨w.heap.size, 0, none⟩) l.length l.length) l := by
  have := World.ownsRow_lit (base := B) (e := 5) (size := 1) w cs l.length hb hm (by rw [← Array.length_toList, hs, bV_length, Nat.mul_one])
  rw [hs] at this
  exact this
end

/-- the bytes that an append's second argument yields: a slice that reads as l -/
theorem src_rd {w : World} {A : Option Addr} {n c : Nat} {l : List UInt8} (h : Rd w A n c l) : Src Tryd.prog 1 22 (.slice A n c) l.length (bV l) w := by
  obtain ⟨h1, h2, h3, h4⟩ := h
  rcases Nat.eq_zero_or_pos n with h0 | h0
  · subst h0
    have : l = [] := List.eq_nil_of_length_eq_zero h1
    subst this
    refine ⟨.inl ⟨_, prog_bytes⟩, fun _ => rfl, ?_, ?_, by simp [bV], bV_one _⟩
    · cases A with
      | none => exact run_firstCells_none w 1 0 0 c
      | some a => exact run_firstCells_some w 1 0 a 0 c [] rfl (by simp)
    · cases A with
      | none => exact run_firstCells_none w.drew 1 0 0 c
      | some a => exact run_firstCells_some w.drew 1 0 a 0 c [] rfl (by simp)
  · obtain ⟨b, off, rfl, hb, hc⟩ := h4 h0
    rw [h1]
    refine Src.ofSlice w prog_bytes _ _ _ _ (by rw [bV_length, h1, Nat.mul_one]) (fun j u hu => ?_) (bV_one _)
    obtain ⟨hj, rfl⟩ := bV_get hu
    have hadd : (⟨b, off, none⟩ : Addr).add j = ⟨b, off + j, none⟩ := by unfold Addr.add; split <;> simp_all
    rw [hadd]
    exact hc j (by omega)
theorem src_string {w : World} (s : ByteArray) : Src Tryd.prog 1 9 (.string s) s.data.toList.length (bV s.data.toList) w := by
  have := Src.ofString (w := w) prog_string s
  rw [Array.length_toList]
  exact this

theorem run_append_ow {w : World} {B : Nat} {v x : Value} {tx ty : TypeId} {l m : List UInt8} (hown : Ow w B v l) (hs : Src Tryd.prog 1 tx x m.length (bV m) w)
    (hlen : l.length + m.length ≤ 140737488355328) (hB : B ≤ w.heap.size) :
    ∃ v' w', (Builtin.append_ #[22, tx] ty #[v, x]).run Tryd.prog w = .ok v' w' ∧ Ow w' B v' (l ++ m) ∧ w.grownBy w' v.ownBlock ∧
      (v'.ownBlock = v.ownBlock ∨ v'.ownBlock = some w.heap.size) := by
  obtain ⟨i0, hi, hz0, hz1, hz2⟩ := info_parts prog_info8
  have h63 : l.length + m.length ≤ maxLen := by unfold maxLen; omega
  have := run_append_src (P := Tryd.prog) w B 22 tx ty 5 i0 (.int .u8 0) 1 1 prog_bytes hi hz0 hz1 hz2 rfl (by omega) v l.length (bV l) hown x m.length (bV m) hs h63 (by omega) hB
  unfold Ow
  rw [List.length_append, bV_append]
  exact this

/-- the arm of a walk at an append onto a row of bytes of the call's own -/
theorem wpList_append_ow {w : World} {ops : Array Oper} {rest : List Oper} {o : Oper} {a : Act} {Q : Exit → Act → World → Prop} (hgd : o.guard = none) (s x : Operand) {tx : TypeId}
    (ho : o.op = .call { callee := .builtin .append, args := #[s, x], argTypes := #[22, tx] })
    {B : Nat} {l m : List UInt8} (hown : Ow w B (a.eval s) l) (hs : Src Tryd.prog 1 tx (a.eval x) m.length (bV m) w)
    (hlen : l.length + m.length ≤ 140737488355328) (hB : B ≤ w.heap.size)
    (h : ∀ v' w', Ow w' B v' (l ++ m) → w.grownBy w' (a.eval s).ownBlock → (v'.ownBlock = (a.eval s).ownBlock ∨ v'.ownBlock = some w.heap.size) → wpList Tryd.prog ops Q rest (a.put o.dst v') w') :
    wpList Tryd.prog ops Q (o :: rest) a w := by
  obtain ⟨v', w', hrun, h2, h3, h4⟩ := run_append_ow (ty := o.type) hown hs hlen hB
  exact wpList_value hgd (exec_append s x ho hrun) (h v' w' h2 h3 h4)

/-- a string of bytes -/
theorem run_convert_rd {w : World} {A : Option Addr} {n c : Nat} {l : List UInt8} (h : Rd w A n c l) :
    (convert 22 9 (.slice A n c)).run Tryd.prog w = .ok (.string ⟨l.toArray⟩) w := run_convert_rd' prog_bytes prog_u8 prog_string h
theorem elem_bytes : Tryd.prog.underlying 22 = some (.slice (Tryd.prog.elem 22)) := by kernel_rfl
theorem elem_bytes' : Tryd.prog.elem 22 = 5 := by kernel_rfl
theorem size_one {P : Program} {E : TypeId} {z : Value} {b : Nat} (h : (P.info? E).map (fun i => (i.zero, i.size, i.bytes)) = some (some z, 1, b)) (w : World) : (sizeOf E).run P w = .ok 1 w := by
  obtain ⟨i0, hi, hz0, hz1, hz2⟩ := info_parts h
  simp [sizeOf, typeInfo, hi, hz1]
theorem size_bytes (w : World) : (sizeOf (Tryd.prog.elem 22)).run Tryd.prog w = .ok 1 w := by rw [elem_bytes']; exact size_one prog_info8 w
theorem Rd.part {w : World} {A : Option Addr} {n c i j : Nat} {l : List UInt8} (h : Rd w A n c l) (hij : i ≤ j) (hjn : j ≤ n) :
    Rd w (if c = i then A else A.map (·.add (i * 1))) (j - i) (c - i) ((l.take j).drop i) := by
  rw [Nat.mul_one]
  exact (h.take hjn).cut hij
section arms
variable {w : World} {ops : Array Oper} {rest : List Oper} {o : Oper} {a : Act} {Q : Exit → Act → World → Prop}
theorem wpList_convert_rd (hgd : o.guard = none) (x : Operand) (ho : o.op = .convert 22 9 x) {A : Option Addr} {n c : Nat} {l : List UInt8} (hx : a.eval x = .slice A n c) (hr : Rd w A n c l)
    (h : wpList Tryd.prog ops Q rest (a.put o.dst (.string ⟨l.toArray⟩)) w) : wpList Tryd.prog ops Q (o :: rest) a w :=
  wpList_value hgd (exec_convert x ho (by rw [hx]; exact run_convert_rd hr)) h
theorem wpList_slice_lh (hgd : o.guard = none) (x lo hi : Operand) (ho : o.op = .slice 22 x (some lo) (some hi) none) {A : Option Addr} {n c i j : Nat} {l : List UInt8} {ki kj : IntKind} {iz jz : Int}
    (hx : a.eval x = .slice A n c) (hlo : a.eval lo = .int ki iz) (hhi : a.eval hi = .int kj jz) (hr : Rd w A n c l) (hi0 : iz = (i : Int)) (hj0 : jz = (j : Int)) (hij : i ≤ j) (hjn : j ≤ n)
    (h : ∀ A', Rd w A' (j - i) (c - i) ((l.take j).drop i) → wpList Tryd.prog ops Q rest (a.put o.dst (.slice A' (j - i) (c - i))) w) : wpList Tryd.prog ops Q (o :: rest) a w := by
  subst hi0 hj0
  have hl := hr.le
  exact wpList_value hgd (exec_slice x ho (by rw [hx, Option.map_some, Option.map_some, hlo, hhi]; exact run_sliceAt_lh' (E := 5) elem_bytes size_bytes ki kj hij (by omega))) (h _ (hr.part hij hjn))
theorem wpList_slice_l (hgd : o.guard = none) (x lo : Operand) (ho : o.op = .slice 22 x (some lo) none none) {A : Option Addr} {n c i : Nat} {l : List UInt8} {ki : IntKind} {iz : Int}
    (hx : a.eval x = .slice A n c) (hlo : a.eval lo = .int ki iz) (hr : Rd w A n c l) (hi0 : iz = (i : Int)) (hin : i ≤ n)
    (h : ∀ A', Rd w A' (n - i) (c - i) (l.drop i) → wpList Tryd.prog ops Q rest (a.put o.dst (.slice A' (n - i) (c - i))) w) : wpList Tryd.prog ops Q (o :: rest) a w := by
  subst hi0
  exact wpList_value hgd (exec_slice x ho (by rw [hx, Option.map_some, hlo]; exact run_sliceAt_l' (E := 5) elem_bytes size_bytes ki hin)) (h _ (by have := hr.cut hin; rwa [Nat.mul_one]))
theorem wpList_slice_h (hgd : o.guard = none) (x hi : Operand) (ho : o.op = .slice 22 x none (some hi) none) {A : Option Addr} {n c j : Nat} {l : List UInt8} {kj : IntKind} {jz : Int}
    (hx : a.eval x = .slice A n c) (hhi : a.eval hi = .int kj jz) (hr : Rd w A n c l) (hj0 : jz = (j : Int)) (hjn : j ≤ n)
    (h : ∀ A', Rd w A' j c (l.take j) → wpList Tryd.prog ops Q rest (a.put o.dst (.slice A' j c)) w) : wpList Tryd.prog ops Q (o :: rest) a w := by
  subst hj0
  have hl := hr.le
  exact wpList_value hgd (exec_slice x ho (by rw [hx, Option.map_some, hhi]; exact run_sliceAt_h' (E := 5) elem_bytes size_bytes kj (by omega))) (h _ (by simpa using hr.part (i := 0) (Nat.zero_le _) hjn))
end arms
end Go.Proofs.YtjpchjbbfbmjgaaDoor
