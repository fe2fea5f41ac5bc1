/- Walks of wire: the closures of Get. -/
import Derived.Test.YtjpchjbbfbmjgaaWireB
import Derived.RegionTactic
import Derived.BigRegion
namespace Go.Proofs.Ytjpchjbbfbmjgaa
set_option linter.unusedSimpArgs false
set_option linter.unusedVariables false
open Go.RowKit
/-- block g is just these cells -/
def Blk (w : World) (g : Nat) (t : TypeId) (cs : Array Value) : Prop := w.heap[g]? = some (.cells cs t (0, 0))
section
variable {w w' : World} {g : Nat} {t : TypeId} {cs : Array Value}
theorem Blk.lt (h : Blk w g t cs) : g < w.heap.size := lt_of_heap h
theorem Blk.cell (h : Blk w g t cs) (i : Nat) : w.cell? ⟨g, i, none⟩ = cs[i]? := cell_of_row w g i cs t (0, 0) h
theorem Blk.frozen (h : Blk w g t cs) (i : Nat) : w.frozen? ⟨g, i, none⟩ = false := by
  unfold Blk at h
  simp [World.frozen?, h]
theorem Blk.new (w : World) (t : TypeId) (cs : Array Value) : Blk (w.alloc (.cells cs t)) w.heap.size t cs := heap_alloc_new w _
theorem Blk.newAt {g : Nat} (h : g = w.heap.size) : Blk (w.alloc (.cells cs t)) g t cs := by subst h; exact Blk.new w t cs
theorem Blk.drew (h : Blk w g t cs) : Blk w.drew g t cs := h
theorem Blk.drewN (h : Blk w g t cs) (n : Nat) : Blk (w.drewN n) g t cs := h
theorem Blk.alloc (h : Blk w g t cs) (o : Obj) : Blk (w.alloc o) g t cs := (Below.heap_alloc w o g h.lt).trans h
theorem Blk.set_ (h : Blk w g t cs) (i : Nat) (u : Value) : Blk (w.setCell ⟨g, i, none⟩ u) g t (cs.setIfInBounds i u) := by
  unfold Blk at h ⊢
  simp [World.setCell, Array.getElem?_modify, h]
theorem Blk.far (h : Blk w g t cs) {p : Addr} (hp : g ≠ p.block) (u : Value) : Blk (w.setCell p u) g t cs := (Below.heap_setCell w p u g hp).trans h
theorem Blk.below {B : Nat} (h : Blk w g t cs) (hb : Below B w w') (hg : g < B) : Blk w' g t cs := (hb.block g hg).trans h
theorem Blk.keeps (h : Blk w g t cs) (hb : Below w.heap.size w w') : Blk w' g t cs := (hb.block g h.lt).trans h
theorem Blk.mod {S : List Nat} (h : Blk w g t cs) (hm : Mod S w w') (hS : g ∉ S) : Blk w' g t cs := (hm.block g h.lt hS).trans h
end
theorem cut_block {A : Option Addr} {c i B : Nat} (h : ∀ a, A = some a → a.block < B) : ∀ a, (if c = i then A else A.map (·.add (i * 1))) = some a → a.block < B := by
  intro a ha
  split at ha
  · exact h a ha
  · cases A with
    | none => cases ha
    | some a0 =>
      simp only [Option.map_some, Option.some.injEq] at ha
      rw [← ha, show (a0.add (i * 1)).block = a0.block by unfold Addr.add; split <;> rfl]
      exact h a0 rfl
theorem wpList_slice_lb {w : World} {ops : Array Oper} {rest : List Oper} {o : Oper} {a : Act} {Q : Exit → Act → World → Prop} (hgd : o.guard = none) (x lo : Operand) (ho : o.op = .slice 24 x (some lo) none none) {A : Option Addr} {n c i B : Nat} {l : List UInt8} {ki : IntKind} {iz : Int}
    (hx : a.eval x = .slice A n c) (hlo : a.eval lo = .int ki iz) (hr : Rd w A n c l) (hB : ∀ a, A = some a → a.block < B) (hi0 : iz = (i : Int)) (hin : i ≤ n)
    (h : ∀ A', Rd w A' (n - i) (c - i) (l.drop i) → (∀ a, A' = some a → a.block < B) → wpList Try.prog ops Q rest (a.put o.dst (.slice A' (n - i) (c - i))) w) : wpList Try.prog ops Q (o :: rest) a w := by
  subst hi0
  exact wpList_value hgd (exec_slice x ho (by rw [hx, Option.map_some, hlo]; exact run_sliceAt_l' (E := 5) elem_bytes size_bytes ki hin)) (h _ (by have := hr.cut hin; rwa [Nat.mul_one]) (cut_block hB))
/-- what a part's reading leaves: the part, the rest, whether all is fine -/
def Got (B : Nat) (w : World) (bi oi br bf : Nat) (cs : Array Value) (v : Value) (l : List UInt8) (fine : Bool) (e : Ending) (w' : World) : Prop :=
  e = .returned (.tuple #[]) ∧ Mod [bi, br, bf] w w' ∧ Blk w' bi 23 (cs.setIfInBounds oi v) ∧ Blk w' bf 4 #[.bool fine] ∧
    ∃ A n c, Blk w' br 24 #[.slice A n c] ∧ Rd w' A n c l ∧ ∀ a, A = some a → a.block < B
theorem got_mk {B bi oi br bf : Nat} {A : Option Addr} {n c k : Nat} {l : List UInt8} {cs : Array Value} {u v : Value} {fine fine' : Bool} {w : World}
    (hrest : Blk w br 24 #[.slice A n c]) (hfine : Blk w bf 4 #[.bool fine]) (hinto : Blk w bi 23 cs)
    (h1 : bi ≠ br) (h2 : bi ≠ bf) (h3 : br ≠ bf) (hr : Rd w A n c l) (hA : ∀ a, A = some a → a.block < B) (hB : B ≤ bi ∧ B ≤ br ∧ B ≤ bf) (hk : k ≤ n) :
    Got B w bi oi br bf cs v (l.drop k) fine' (.returned (.tuple #[]))
      ((((w.drew).setCell ⟨bi, oi, none⟩ v).setCell ⟨br, 0, none⟩ (.slice (if c = k then A else A.map (·.add k)) (n - k) (c - k))).setCell ⟨bf, 0, none⟩ (.bool fine')) := by
  have hmod : Mod [bi, br, bf] w ((((w.drew).setCell ⟨bi, oi, none⟩ v).setCell ⟨br, 0, none⟩ (.slice (if c = k then A else A.map (·.add k)) (n - k) (c - k))).setCell ⟨bf, 0, none⟩ (.bool fine')) :=
    (((((Mod.refl _ _).drew).setCell (.inl (by simp)) _).setCell (.inl (by simp)) _).setCell (.inl (by simp)) _)
  have hA' : ∀ a, (if c = k then A else A.map (·.add k)) = some a → a.block < B := by
    intro a h
    split at h
    · exact hA a h
    · cases A with
      | none => cases h
      | some a0 =>
        simp only [Option.map_some, Option.some.injEq] at h
        rw [← h, show (a0.add k).block = a0.block by unfold Addr.add; split <;> rfl]
        exact hA a0 rfl
  refine ⟨rfl, hmod, ?_, ?_, _, _, _, ?_, (hr.cut hk).mod hmod (fun b off h => ?_), hA'⟩
  · exact (((hinto.drew).set_ oi v).far h1 _).far h2 _
  · have := (((hfine.drew).far (p := ⟨bi, oi, none⟩) (Ne.symm h2) v).far (p := ⟨br, 0, none⟩) (Ne.symm h3) (.slice (if c = k then A else A.map (·.add k)) (n - k) (c - k))).set_ 0 (.bool fine')
    exact this
  · have := ((hrest.drew).far (p := ⟨bi, oi, none⟩) (Ne.symm h1) v).set_ 0 (.slice (if c = k then A else A.map (·.add k)) (n - k) (c - k))
    exact this.far h3 _
  · have : b < B := hA' _ h
    simp only [List.mem_cons, List.not_mem_nil, or_false, not_or]
    omega
set_option maxRecDepth 100000 in
set_option maxHeartbeats 1000000 in
theorem getText_any (B bi oi br bf : Nat) (A : Option Addr) (n c : Nat) (l : List UInt8) (cs : Array Value) (u : Value) (fine : Bool) (w : World)
    (hrest : Blk w br 24 #[.slice A n c]) (hfine : Blk w bf 4 #[.bool fine]) (hinto : Blk w bi 23 cs) (hu : cs[oi]? = some u)
    (h1 : bi ≠ br) (h2 : bi ≠ bf) (h3 : br ≠ bf) (hr : Rd w A n c l) (hA : ∀ a, A = some a → a.block < B) (hB : B ≤ bi ∧ B ≤ br ∧ B ≤ bf)
    (s : List UInt8) (k : Nat) (is : Bool) (hread : readR (readL l) = .tuple #[.string ⟨s.toArray⟩, .int .i64 (k : Int), .bool is]) (hk : k ≤ n) :
    Calls Try.prog 17 #[.pointer (some ⟨bi, oi, none⟩), .pointer (some ⟨br, 0, none⟩), .pointer (some ⟨bf, 0, none⟩)] w (Got B w bi oi br bf cs (.string ⟨s.toArray⟩) (l.drop k) (fine && is)) := by
  have hfin := fun fine' => got_mk (oi := oi) (u := u) (v := .string ⟨s.toArray⟩) (fine' := fine') hrest hfine hinto h1 h2 h3 hr hA hB hk
  have hc1 : w.cell? ⟨br, 0, none⟩ = some (.slice A n c) := hrest.cell 0
  have hc2 : w.cell? ⟨bf, 0, none⟩ = some (.bool fine) := hfine.cell 0
  have hc3 : w.cell? ⟨bi, oi, none⟩ = some u := (hinto.cell oi).trans hu
  have hf1 := hrest.frozen 0
  have hf2 := hfine.frozen 0
  have hf3 := hinto.frozen oi
  have hkn : (k : Int) ≤ (n : Int) := by omega
  have HR := Lib.hid hr
  have HRd := Lib.hid hread
  have HF := Lib.hid hfin
  clear hr hread hk hrest hfine hinto hu hfin hA hB
  cases fine
  · go_enter Try.func17, Try.ntmps17
    go_wp2_with (go_at_call 18; refine (read_any _ HR.out).mono ?_; rintro e w' ⟨rfl, rfl⟩; rw [HRd.out])
    go_region
    all_goals (go_end0; exact HF.out false)
  · go_enter Try.func17, Try.ntmps17
    go_wp2_with (go_at_call 18; refine (read_any _ HR.out).mono ?_; rintro e w' ⟨rfl, rfl⟩; rw [HRd.out])
    go_region
    all_goals (go_end0; exact HF.out is)
set_option maxRecDepth 100000 in
set_option maxHeartbeats 1000000 in
theorem getNum_any (B bi oi br bf : Nat) (A : Option Addr) (n c : Nat) (l : List UInt8) (cs : Array Value) (u : Value) (fine : Bool) (w : World)
    (hrest : Blk w br 24 #[.slice A n c]) (hfine : Blk w bf 4 #[.bool fine]) (hinto : Blk w bi 23 cs) (hu : cs[oi]? = some u)
    (h1 : bi ≠ br) (h2 : bi ≠ bf) (h3 : br ≠ bf) (hr : Rd w A n c l) (hA : ∀ a, A = some a → a.block < B) (hB : B ≤ bi ∧ B ≤ br ∧ B ≤ bf)
    (x : Int) (k : Nat) (is : Bool) (hread : getR (getL l) = .tuple #[.int .i64 x, .int .i64 (k : Int), .bool is]) (hk : k ≤ n) :
    Calls Try.prog 19 #[.pointer (some ⟨bi, oi, none⟩), .pointer (some ⟨br, 0, none⟩), .pointer (some ⟨bf, 0, none⟩)] w (Got B w bi oi br bf cs (.int .i64 x) (l.drop k) (fine && is)) := by
  have hfin := fun fine' => got_mk (oi := oi) (u := u) (v := .int .i64 x) (fine' := fine') hrest hfine hinto h1 h2 h3 hr hA hB hk
  have hc1 : w.cell? ⟨br, 0, none⟩ = some (.slice A n c) := hrest.cell 0
  have hc2 : w.cell? ⟨bf, 0, none⟩ = some (.bool fine) := hfine.cell 0
  have hc3 : w.cell? ⟨bi, oi, none⟩ = some u := (hinto.cell oi).trans hu
  have hf1 := hrest.frozen 0
  have hf2 := hfine.frozen 0
  have hf3 := hinto.frozen oi
  have hkn : (k : Int) ≤ (n : Int) := by omega
  have HR := Lib.hid hr
  have HRd := Lib.hid hread
  have HF := Lib.hid hfin
  clear hr hread hk hrest hfine hinto hu hfin hA hB
  cases fine
  · go_enter Try.func19, Try.ntmps19
    go_wp2_with (go_at_call 20; refine (get_any _ HR.out).mono ?_; rintro e w' ⟨rfl, rfl⟩; rw [HRd.out])
    go_region
    all_goals (go_end0; exact HF.out false)
  · go_enter Try.func19, Try.ntmps19
    go_wp2_with (go_at_call 20; refine (get_any _ HR.out).mono ?_; rintro e w' ⟨rfl, rfl⟩; rw [HRd.out])
    go_region
    all_goals (go_end0; exact HF.out is)
set_option maxHeartbeats 1000000 in
theorem part0_any (B bt bm br bf : Nat) (A : Option Addr) (n c : Nat) (l : List UInt8) (cs : Array Value) (u : Value) (fine : Bool) (w : World) (hfn : Blk w bt 40 #[.func (.func 17) #[] #[.pointer (some ⟨br, 0, none⟩), .pointer (some ⟨bf, 0, none⟩)]])
    (hrest : Blk w br 24 #[.slice A n c]) (hfine : Blk w bf 4 #[.bool fine]) (hinto : Blk w bm 23 cs) (hu : cs[1]? = some u)
    (h1 : bm ≠ br) (h2 : bm ≠ bf) (h3 : br ≠ bf) (hr : Rd w A n c l) (hA : ∀ a, A = some a → a.block < B) (hB : B ≤ bm ∧ B ≤ br ∧ B ≤ bf)
    (s : List UInt8) (k : Nat) (is : Bool) (hread : readR (readL l) = .tuple #[.string ⟨s.toArray⟩, .int .i64 (k : Int), .bool is]) (hk : k ≤ n) :
    Calls Try.prog 21 #[.pointer (some ⟨bt, 0, none⟩), .pointer (some ⟨bm, 0, none⟩)] w (Got B w bm 1 br bf cs (.string ⟨s.toArray⟩) (l.drop k) (fine && is)) := by
  have H := Lib.hid (getText_any B bm 1 br bf A n c l cs u fine w hrest hfine hinto hu h1 h2 h3 hr hA hB s k is hread hk)
  have hc := hfn.cell 0
  simp only [List.getElem?_toArray, List.getElem?_cons_zero] at hc
  clear hrest hfine hinto hu hr hA hB hread hk hfn
  go_enter Try.func21, Try.ntmps21
  go_wp2_with (go_at_call 17; refine H.out.mono ?_; intro e w' hg; obtain ⟨rfl, hg2⟩ := hg; have HG := Lib.hid hg2; clear hg2)
  go_end0
  exact ⟨rfl, HG.out⟩
set_option maxHeartbeats 1000000 in
theorem part1_any (B bt bm br bf : Nat) (A : Option Addr) (n c : Nat) (l : List UInt8) (cs : Array Value) (u : Value) (fine : Bool) (w : World) (hfn : Blk w bt 40 #[.func (.func 17) #[] #[.pointer (some ⟨br, 0, none⟩), .pointer (some ⟨bf, 0, none⟩)]])
    (hrest : Blk w br 24 #[.slice A n c]) (hfine : Blk w bf 4 #[.bool fine]) (hinto : Blk w bm 23 cs) (hu : cs[2]? = some u)
    (h1 : bm ≠ br) (h2 : bm ≠ bf) (h3 : br ≠ bf) (hr : Rd w A n c l) (hA : ∀ a, A = some a → a.block < B) (hB : B ≤ bm ∧ B ≤ br ∧ B ≤ bf)
    (s : List UInt8) (k : Nat) (is : Bool) (hread : readR (readL l) = .tuple #[.string ⟨s.toArray⟩, .int .i64 (k : Int), .bool is]) (hk : k ≤ n) :
    Calls Try.prog 22 #[.pointer (some ⟨bt, 0, none⟩), .pointer (some ⟨bm, 0, none⟩)] w (Got B w bm 2 br bf cs (.string ⟨s.toArray⟩) (l.drop k) (fine && is)) := by
  have H := Lib.hid (getText_any B bm 2 br bf A n c l cs u fine w hrest hfine hinto hu h1 h2 h3 hr hA hB s k is hread hk)
  have hc := hfn.cell 0
  simp only [List.getElem?_toArray, List.getElem?_cons_zero] at hc
  clear hrest hfine hinto hu hr hA hB hread hk hfn
  go_enter Try.func22, Try.ntmps22
  go_wp2_with (go_at_call 17; refine H.out.mono ?_; intro e w' hg; obtain ⟨rfl, hg2⟩ := hg; have HG := Lib.hid hg2; clear hg2)
  go_end0
  exact ⟨rfl, HG.out⟩
set_option maxHeartbeats 1000000 in
theorem part2_any (B bt bm br bf : Nat) (A : Option Addr) (n c : Nat) (l : List UInt8) (cs : Array Value) (u : Value) (fine : Bool) (w : World) (hfn : Blk w bt 44 #[.func (.func 19) #[] #[.pointer (some ⟨br, 0, none⟩), .pointer (some ⟨bf, 0, none⟩)]])
    (hrest : Blk w br 24 #[.slice A n c]) (hfine : Blk w bf 4 #[.bool fine]) (hinto : Blk w bm 23 cs) (hu : cs[3]? = some u)
    (h1 : bm ≠ br) (h2 : bm ≠ bf) (h3 : br ≠ bf) (hr : Rd w A n c l) (hA : ∀ a, A = some a → a.block < B) (hB : B ≤ bm ∧ B ≤ br ∧ B ≤ bf)
    (x : Int) (k : Nat) (is : Bool) (hread : getR (getL l) = .tuple #[.int .i64 x, .int .i64 (k : Int), .bool is]) (hk : k ≤ n) :
    Calls Try.prog 23 #[.pointer (some ⟨bt, 0, none⟩), .pointer (some ⟨bm, 0, none⟩)] w (Got B w bm 3 br bf cs (.int .i64 x) (l.drop k) (fine && is)) := by
  have H := Lib.hid (getNum_any B bm 3 br bf A n c l cs u fine w hrest hfine hinto hu h1 h2 h3 hr hA hB x k is hread hk)
  have hc := hfn.cell 0
  simp only [List.getElem?_toArray, List.getElem?_cons_zero] at hc
  clear hrest hfine hinto hu hr hA hB hread hk hfn
  go_enter Try.func23, Try.ntmps23
  go_wp2_with (go_at_call 19; refine H.out.mono ?_; intro e w' hg; obtain ⟨rfl, hg2⟩ := hg; have HG := Lib.hid hg2; clear hg2)
  go_end0
  exact ⟨rfl, HG.out⟩
set_option maxHeartbeats 1000000 in
theorem part3_any (B bt bm br bf : Nat) (A : Option Addr) (n c : Nat) (l : List UInt8) (cs : Array Value) (u : Value) (fine : Bool) (w : World) (hfn : Blk w bt 44 #[.func (.func 19) #[] #[.pointer (some ⟨br, 0, none⟩), .pointer (some ⟨bf, 0, none⟩)]])
    (hrest : Blk w br 24 #[.slice A n c]) (hfine : Blk w bf 4 #[.bool fine]) (hinto : Blk w bm 23 cs) (hu : cs[4]? = some u)
    (h1 : bm ≠ br) (h2 : bm ≠ bf) (h3 : br ≠ bf) (hr : Rd w A n c l) (hA : ∀ a, A = some a → a.block < B) (hB : B ≤ bm ∧ B ≤ br ∧ B ≤ bf)
    (x : Int) (k : Nat) (is : Bool) (hread : getR (getL l) = .tuple #[.int .i64 x, .int .i64 (k : Int), .bool is]) (hk : k ≤ n) :
    Calls Try.prog 24 #[.pointer (some ⟨bt, 0, none⟩), .pointer (some ⟨bm, 0, none⟩)] w (Got B w bm 4 br bf cs (.int .i64 x) (l.drop k) (fine && is)) := by
  have H := Lib.hid (getNum_any B bm 4 br bf A n c l cs u fine w hrest hfine hinto hu h1 h2 h3 hr hA hB x k is hread hk)
  have hc := hfn.cell 0
  simp only [List.getElem?_toArray, List.getElem?_cons_zero] at hc
  clear hrest hfine hinto hu hr hA hB hread hk hfn
  go_enter Try.func24, Try.ntmps24
  go_wp2_with (go_at_call 19; refine H.out.mono ?_; intro e w' hg; obtain ⟨rfl, hg2⟩ := hg; have HG := Lib.hid hg2; clear hg2)
  go_end0
  exact ⟨rfl, HG.out⟩
end Go.Proofs.Ytjpchjbbfbmjgaa
