/- Walks of wire: Get. (Printed by tools/gen_wireget.py.) -/
import Derived.Test.YtjpchjbbfbmjgaaWireC
namespace Go.Proofs.Ytjpchjbbfbmjgaa
set_option linter.unusedSimpArgs false
set_option linter.unusedVariables false
open Go.RowKit
/-- what reading parts has come to -/
structure GS where
  a : ByteArray
  b : ByteArray
  n : Int
  m : Int
  rest : List UInt8
  fine : Bool
def rT (l : List UInt8) : List UInt8 × Nat × Bool := match readL l with | none => ([], 0, false) | some (s, k) => (s, k, true)
def rN (l : List UInt8) : Int × Nat × Bool := match getL l with | none => (0, 0, false) | some (n, k) => ((n : Int), k, true)
theorem rT_read (l : List UInt8) : readR (readL l) = .tuple #[.string ⟨(rT l).1.toArray⟩, .int .i64 ((rT l).2.1 : Int), .bool (rT l).2.2] := by
  unfold rT readR
  cases readL l <;> rfl
theorem rN_read (l : List UInt8) : getR (getL l) = .tuple #[.int .i64 (rN l).1, .int .i64 ((rN l).2.1 : Int), .bool (rN l).2.2] := by
  unfold rN getR
  cases getL l <;> rfl
theorem rT_le (l : List UInt8) : (rT l).2.1 ≤ l.length ∧ (rT l).1.length ≤ 255 := by
  unfold rT
  cases h : readL l with
  | none => simp
  | some p => have := readL_le (s := p.1) (k := p.2) h; simp; omega
theorem rN_le (l : List UInt8) : (rN l).2.1 ≤ l.length := by
  unfold rN
  cases h : getL l with
  | none => simp
  | some p => have := getL_le (n := p.1) (k := p.2) h; simp; omega
def stA (s : GS) : GS := { s with a := ⟨(rT s.rest).1.toArray⟩, rest := s.rest.drop (rT s.rest).2.1, fine := s.fine && (rT s.rest).2.2 }
def stB (s : GS) : GS := { s with b := ⟨(rT s.rest).1.toArray⟩, rest := s.rest.drop (rT s.rest).2.1, fine := s.fine && (rT s.rest).2.2 }
def stN (s : GS) : GS := { s with n := (rN s.rest).1, rest := s.rest.drop (rN s.rest).2.1, fine := s.fine && (rN s.rest).2.2 }
def stM (s : GS) : GS := { s with m := (rN s.rest).1, rest := s.rest.drop (rN s.rest).2.1, fine := s.fine && (rN s.rest).2.2 }
def gs0 (l : List UInt8) : GS := ⟨⟨#[]⟩, ⟨#[]⟩, 0, 0, l, true⟩
def gs1 (k : Int) (l : List UInt8) : GS := if hasA k then stA (gs0 l) else gs0 l
def gs2 (k : Int) (l : List UInt8) : GS := if hasB k then stB (gs1 k l) else gs1 k l
def gs3 (k : Int) (l : List UInt8) : GS := if hasN k then stN (gs2 k l) else gs2 k l
def gs4 (k : Int) (l : List UInt8) : GS := if hasM k then stM (gs3 k l) else gs3 k l
def gsJ (k : Int) (l : List UInt8) : Nat → GS
  | 0 => gs0 l
  | 1 => gs1 k l
  | 2 => gs2 k l
  | 3 => gs3 k l
  | _ => gs4 k l
/-- the blocks of Get, under way: bm: the message; br: the rest; bf: whether all is fine; bt, bn: the two closures; bq: the row of closures -/
structure LoopSt (w wr : World) (bm br bf bt bn bq : Nat) (k : Int) (s : GS) : Prop where
  ord : w.heap.size < bm ∧ bm < br ∧ br < bf ∧ bf < bt ∧ bt < bn ∧ bn < bq
  below : Below w.heap.size w wr
  res : Blk wr w.heap.size 23 #[.int .i64 0, .string ⟨#[]⟩, .string ⟨#[]⟩, .int .i64 0, .int .i64 0]
  msg : Blk wr bm 23 #[.int .i64 k, .string s.a, .string s.b, .int .i64 s.n, .int .i64 s.m]
  rest : ∃ A n c, Blk wr br 24 #[.slice A n c] ∧ Rd wr A n c s.rest ∧ ∀ a, A = some a → a.block < w.heap.size
  fine : Blk wr bf 4 #[.bool s.fine]
  text : Blk wr bt 40 #[.func (.func 17) #[] #[.pointer (some ⟨br, 0, none⟩), .pointer (some ⟨bf, 0, none⟩)]]
  num : Blk wr bn 44 #[.func (.func 19) #[] #[.pointer (some ⟨br, 0, none⟩), .pointer (some ⟨bf, 0, none⟩)]]
  row : Blk wr bq 1 #[.func (.func 21) #[] #[.pointer (some ⟨bt, 0, none⟩), .pointer (some ⟨bm, 0, none⟩)],
    .func (.func 22) #[] #[.pointer (some ⟨bt, 0, none⟩), .pointer (some ⟨bm, 0, none⟩)],
    .func (.func 23) #[] #[.pointer (some ⟨bn, 0, none⟩), .pointer (some ⟨bm, 0, none⟩)],
    .func (.func 24) #[] #[.pointer (some ⟨bn, 0, none⟩), .pointer (some ⟨bm, 0, none⟩)]]
section
variable {w wr w' : World} {bm br bf bt bn bq : Nat} {k : Int} {s : GS}
theorem LoopSt.call (h : LoopSt w wr bm br bf bt bn bq k s) (hb : Below wr.heap.size wr w') : LoopSt w w' bm br bf bt bn bq k s := by
  obtain ⟨A, n, c, hr, hrd, hA⟩ := h.rest
  have hz := h.res.lt
  exact ⟨h.ord, h.below.trans (hb.mono (Nat.le_of_lt hz)), h.res.keeps hb, h.msg.keeps hb, ⟨A, n, c, hr.keeps hb, hrd.below hb, hA⟩, h.fine.keeps hb, h.text.keeps hb, h.num.keeps hb, h.row.keeps hb⟩
theorem LoopSt.got {oi : Nat} {v : Value} {l : List UInt8} {fine : Bool} {s' : GS} (h : LoopSt w wr bm br bf bt bn bq k s)
    (hg : Mod [bm, br, bf] wr w' ∧ Blk w' bm 23 ((#[.int .i64 k, .string s.a, .string s.b, .int .i64 s.n, .int .i64 s.m] : Array Value).setIfInBounds oi v) ∧ Blk w' bf 4 #[.bool fine] ∧
      ∃ A n c, Blk w' br 24 #[.slice A n c] ∧ Rd w' A n c l ∧ ∀ a, A = some a → a.block < w.heap.size)
    (h1 : (#[.int .i64 k, .string s.a, .string s.b, .int .i64 s.n, .int .i64 s.m] : Array Value).setIfInBounds oi v = #[.int .i64 k, .string s'.a, .string s'.b, .int .i64 s'.n, .int .i64 s'.m]) (h2 : l = s'.rest) (h3 : fine = s'.fine) : LoopSt w w' bm br bf bt bn bq k s' := by
  obtain ⟨hm, hmsg, hfine, A, n, c, hr, hrd, hA⟩ := hg
  subst h2 h3
  rw [h1] at hmsg
  have hz := h.res.lt
  obtain ⟨o1, o2, o3, o4, o5, o6⟩ := h.ord
  refine ⟨h.ord, h.below.trans (hm.below (Nat.le_of_lt hz) (by simp; omega)), h.res.mod hm (by simp; omega), hmsg, ⟨A, n, c, hr, hrd, hA⟩, hfine, h.text.mod hm (by simp; omega), h.num.mod hm (by simp; omega), h.row.mod hm (by simp; omega)⟩
end
theorem LoopSt.resCells {w wr : World} {bm br bf bt bn bq : Nat} {k : Int} {s : GS} (h : LoopSt w wr bm br bf bt bn bq k s) :
    wr.cell? ⟨w.heap.size, 0, none⟩ = some (.int .i64 0) ∧ wr.cell? ⟨w.heap.size, 1, none⟩ = some (.string ⟨#[]⟩) ∧ wr.cell? ⟨w.heap.size, 2, none⟩ = some (.string ⟨#[]⟩) ∧ wr.cell? ⟨w.heap.size, 3, none⟩ = some (.int .i64 0) ∧ wr.cell? ⟨w.heap.size, 4, none⟩ = some (.int .i64 0) ∧
    wr.frozen? ⟨w.heap.size, 0, none⟩ = false ∧ wr.frozen? ⟨w.heap.size, 1, none⟩ = false ∧ wr.frozen? ⟨w.heap.size, 2, none⟩ = false ∧ wr.frozen? ⟨w.heap.size, 3, none⟩ = false ∧ wr.frozen? ⟨w.heap.size, 4, none⟩ = false :=
  ⟨h.res.cell 0, h.res.cell 1, h.res.cell 2, h.res.cell 3, h.res.cell 4, h.res.frozen 0, h.res.frozen 1, h.res.frozen 2, h.res.frozen 3, h.res.frozen 4⟩
theorem LoopSt.msgCells {w wr : World} {bm br bf bt bn bq : Nat} {k : Int} {s : GS} (h : LoopSt w wr bm br bf bt bn bq k s) :
    wr.cell? ⟨bm, 0, none⟩ = some (.int .i64 k) ∧ wr.cell? ⟨bm, 1, none⟩ = some (.string s.a) ∧ wr.cell? ⟨bm, 2, none⟩ = some (.string s.b) ∧ wr.cell? ⟨bm, 3, none⟩ = some (.int .i64 s.n) ∧ wr.cell? ⟨bm, 4, none⟩ = some (.int .i64 s.m) :=
  ⟨h.msg.cell 0, h.msg.cell 1, h.msg.cell 2, h.msg.cell 3, h.msg.cell 4⟩
theorem below_five {z : Nat} {w wr : World} (h : Below z w wr) (v0 v1 v2 v3 v4 : Value) :
    Below z w (((((wr.setCell ⟨z, 0, none⟩ v0).setCell ⟨z, 1, none⟩ v1).setCell ⟨z, 2, none⟩ v2).setCell ⟨z, 3, none⟩ v3).setCell ⟨z, 4, none⟩ v4) :=
  ((((h.setCell (p := ⟨z, 0, none⟩) (Nat.le_refl _) v0).setCell (p := ⟨z, 1, none⟩) (Nat.le_refl _) v1).setCell (p := ⟨z, 2, none⟩) (Nat.le_refl _) v2).setCell (p := ⟨z, 3, none⟩) (Nat.le_refl _) v3).setCell (p := ⟨z, 4, none⟩) (Nat.le_refl _) v4
theorem bitA (k : Int) : (bits BinOp.and IntKind.i64 (kbits k) 1 == 1) = hasA k := by
  unfold hasA
  rcases kbits_cases k with ⟨h, e⟩ | ⟨h, e⟩
  · rw [e]; rfl
  · simp only [List.mem_cons, List.not_mem_nil, or_false] at e
    rcases e with e | e | e | e | e | e | e <;> rw [e] <;> rfl
theorem bitB (k : Int) : (bits BinOp.and IntKind.i64 (kbits k / 2) 1 == 1) = hasB k := by
  unfold hasB
  rcases kbits_cases k with ⟨h, e⟩ | ⟨h, e⟩
  · rw [e]; rfl
  · simp only [List.mem_cons, List.not_mem_nil, or_false] at e
    rcases e with e | e | e | e | e | e | e <;> rw [e] <;> rfl
theorem bitN (k : Int) : (bits BinOp.and IntKind.i64 (kbits k / 4) 1 == 1) = hasN k := by
  unfold hasN
  rcases kbits_cases k with ⟨h, e⟩ | ⟨h, e⟩
  · rw [e]; rfl
  · simp only [List.mem_cons, List.not_mem_nil, or_false] at e
    rcases e with e | e | e | e | e | e | e <;> rw [e] <;> rfl
theorem bitM (k : Int) : (bits BinOp.and IntKind.i64 (kbits k / 8) 1 == 1) = hasM k := by
  unfold hasM
  rcases kbits_cases k with ⟨h, e⟩ | ⟨h, e⟩
  · rw [e]; rfl
  · simp only [List.mem_cons, List.not_mem_nil, or_false] at e
    rcases e with e | e | e | e | e | e | e <;> rw [e] <;> rfl
def msgOf (M : WMsg) : Value := msgV M.k M.a M.b M.n M.m
/-- what a message's reading hands back -/
def wgetV (r : Option WMsg) : Value :=
  match r with
  | none => .tuple #[msgV 0 ⟨#[]⟩ ⟨#[]⟩ 0 0, .bool false]
  | some M => .tuple #[msgOf M, .bool true]
/-- the parts read are the message that is read -/
theorem wgetK_gs (k : Int) (l : List UInt8) : wgetK k l = if (gs4 k l).fine = true ∧ (gs4 k l).rest = [] ∧ rightB k (gs4 k l).a (gs4 k l).b (gs4 k l).n (gs4 k l).m = true then
    some ⟨k, (gs4 k l).a, (gs4 k l).b, (gs4 k l).n, (gs4 k l).m⟩ else none := by
  have hTn : ∀ l, readL l = none → (rT l).2.2 = false := fun l h => by simp [rT, h]
  have hTs : ∀ l s k, readL l = some (s, k) → rT l = (s, k, true) := fun l s k h => by simp [rT, h]
  have hNn : ∀ l, getL l = none → (rN l).2.2 = false := fun l h => by simp [rN, h]
  have hNs : ∀ l n k, getL l = some (n, k) → rN l = ((n : Int), k, true) := fun l n k h => by simp [rN, h]
  have dead : (gs3 k l).fine = false → (gs4 k l).fine = false := fun h => by unfold gs4; split <;> simp [stM, h]
  have dead2 : (gs2 k l).fine = false → (gs4 k l).fine = false := fun h => dead (by unfold gs3; split <;> simp [stN, h])
  have dead1 : (gs1 k l).fine = false → (gs4 k l).fine = false := fun h => dead2 (by unfold gs2; split <;> simp [stB, h])
  unfold wgetK
  -- A
  cases hA : rdT (hasA k) l with
  | none =>
    have h1 : (gs1 k l).fine = false := by
      unfold rdT at hA
      unfold gs1
      split at hA
      · rename_i hh
        rw [if_pos hh]
        cases hq : readL l with
        | none => simp [stA, gs0, hTn l hq]
        | some p => rw [hq] at hA; cases hA
      · cases hA
    have := dead1 h1
    simp [this]
  | some p =>
    obtain ⟨a, r1⟩ := p
    have h1 : gs1 k l = ⟨a, ⟨#[]⟩, 0, 0, r1, true⟩ := by
      unfold rdT at hA
      unfold gs1
      split at hA
      · rename_i hh
        rw [if_pos hh]
        cases hq : readL l with
        | none => rw [hq] at hA; cases hA
        | some p =>
          rw [hq] at hA
          simp only [Option.some.injEq, Prod.mk.injEq] at hA
          simp [stA, gs0, hTs l p.1 p.2 hq, hA.1, hA.2]
      · rename_i hh
        rw [if_neg hh]
        simp only [Option.some.injEq, Prod.mk.injEq] at hA
        simp [gs0, hA.1, hA.2]
    simp only []
    cases hB : rdT (hasB k) r1 with
    | none =>
      have h2 : (gs2 k l).fine = false := by
        unfold rdT at hB
        unfold gs2
        rw [h1]
        split at hB
        · rename_i hh
          rw [if_pos hh]
          cases hq : readL r1 with
          | none => simp [stB, hTn r1 hq]
          | some p => rw [hq] at hB; cases hB
        · cases hB
      have := dead2 h2
      simp [this]
    | some p =>
      obtain ⟨b, r2⟩ := p
      have h2 : gs2 k l = ⟨a, b, 0, 0, r2, true⟩ := by
        unfold rdT at hB
        unfold gs2
        rw [h1]
        split at hB
        · rename_i hh
          rw [if_pos hh]
          cases hq : readL r1 with
          | none => rw [hq] at hB; cases hB
          | some p =>
            rw [hq] at hB
            simp only [Option.some.injEq, Prod.mk.injEq] at hB
            simp [stB, hTs r1 p.1 p.2 hq, hB.1, hB.2]
        · rename_i hh
          rw [if_neg hh]
          simp only [Option.some.injEq, Prod.mk.injEq] at hB
          simp [hB.1, hB.2]
      simp only []
      cases hN : rdI (hasN k) r2 with
      | none =>
        have h3 : (gs3 k l).fine = false := by
          unfold rdI at hN
          unfold gs3
          rw [h2]
          split at hN
          · rename_i hh
            rw [if_pos hh]
            cases hq : getL r2 with
            | none => simp [stN, hNn r2 hq]
            | some p => rw [hq] at hN; cases hN
          · cases hN
        have := dead h3
        simp [this]
      | some p =>
        obtain ⟨n, r3⟩ := p
        have h3 : gs3 k l = ⟨a, b, n, 0, r3, true⟩ := by
          unfold rdI at hN
          unfold gs3
          rw [h2]
          split at hN
          · rename_i hh
            rw [if_pos hh]
            cases hq : getL r2 with
            | none => rw [hq] at hN; cases hN
            | some p =>
              rw [hq] at hN
              simp only [Option.some.injEq, Prod.mk.injEq] at hN
              simp [stN, hNs r2 p.1 p.2 hq, hN.1, hN.2]
          · rename_i hh
            rw [if_neg hh]
            simp only [Option.some.injEq, Prod.mk.injEq] at hN
            simp [hN.1, hN.2]
        simp only []
        cases hM : rdI (hasM k) r3 with
        | none =>
          have h4 : (gs4 k l).fine = false := by
            unfold rdI at hM
            unfold gs4
            rw [h3]
            split at hM
            · rename_i hh
              rw [if_pos hh]
              cases hq : getL r3 with
              | none => simp [stM, hNn r3 hq]
              | some p => rw [hq] at hM; cases hM
            · cases hM
          simp [h4]
        | some p =>
          obtain ⟨m, r4⟩ := p
          have h4 : gs4 k l = ⟨a, b, n, m, r4, true⟩ := by
            unfold rdI at hM
            unfold gs4
            rw [h3]
            split at hM
            · rename_i hh
              rw [if_pos hh]
              cases hq : getL r3 with
              | none => rw [hq] at hM; cases hM
              | some p =>
                rw [hq] at hM
                simp only [Option.some.injEq, Prod.mk.injEq] at hM
                simp [stM, hNs r3 p.1 p.2 hq, hM.1, hM.2]
            · rename_i hh
              rw [if_neg hh]
              simp only [Option.some.injEq, Prod.mk.injEq] at hM
              simp [hM.1, hM.2]
          simp only [h4, true_and]
theorem gs4_size (k : Int) (l : List UInt8) : (gs4 k l).a.size ≤ 255 ∧ (gs4 k l).b.size ≤ 255 := by
  have e : ∀ l : List UInt8, (ByteArray.mk (rT l).1.toArray).size ≤ 255 := fun l => by have := (rT_le l).2; simpa [ByteArray.size] using this
  have z : (ByteArray.mk #[]).size ≤ 255 := by simp [ByteArray.size]
  unfold gs4 gs3 gs2 gs1
  constructor
  · split <;> split <;> split <;> split <;> simp only [stA, stB, stN, stM, gs0] <;> first | exact e _ | exact z
  · split <;> split <;> split <;> split <;> simp only [stA, stB, stN, stM, gs0] <;> first | exact e _ | exact z
theorem partA_st {w wr : World} {bm br bf bt bn bq : Nat} {k : Int} {s : GS} (h : LoopSt w wr bm br bf bt bn bq k s) :
    Calls Try.prog 21 #[.pointer (some ⟨bt, 0, none⟩), .pointer (some ⟨bm, 0, none⟩)] wr fun e w' => e = .returned (.tuple #[]) ∧ LoopSt w w' bm br bf bt bn bq k (stA s) := by
  obtain ⟨A, n, c, hr, hrd, hA⟩ := h.rest
  obtain ⟨o1, o2, o3, o4, o5, o6⟩ := h.ord
  have hl := (rT_le s.rest).1
  have hn := hrd.len
  refine (part0_any w.heap.size bt bm br bf A n c s.rest _ _ s.fine wr h.text hr h.fine h.msg rfl (by omega) (by omega) (by omega) hrd hA (by omega) (rT s.rest).1 (rT s.rest).2.1 (rT s.rest).2.2 (rT_read s.rest) (by omega)).mono fun e w' hg => ?_
  exact ⟨hg.1, h.got hg.2 rfl rfl rfl⟩
theorem partB_st {w wr : World} {bm br bf bt bn bq : Nat} {k : Int} {s : GS} (h : LoopSt w wr bm br bf bt bn bq k s) :
    Calls Try.prog 22 #[.pointer (some ⟨bt, 0, none⟩), .pointer (some ⟨bm, 0, none⟩)] wr fun e w' => e = .returned (.tuple #[]) ∧ LoopSt w w' bm br bf bt bn bq k (stB s) := by
  obtain ⟨A, n, c, hr, hrd, hA⟩ := h.rest
  obtain ⟨o1, o2, o3, o4, o5, o6⟩ := h.ord
  have hl := (rT_le s.rest).1
  have hn := hrd.len
  refine (part1_any w.heap.size bt bm br bf A n c s.rest _ _ s.fine wr h.text hr h.fine h.msg rfl (by omega) (by omega) (by omega) hrd hA (by omega) (rT s.rest).1 (rT s.rest).2.1 (rT s.rest).2.2 (rT_read s.rest) (by omega)).mono fun e w' hg => ?_
  exact ⟨hg.1, h.got hg.2 rfl rfl rfl⟩
theorem partN_st {w wr : World} {bm br bf bt bn bq : Nat} {k : Int} {s : GS} (h : LoopSt w wr bm br bf bt bn bq k s) :
    Calls Try.prog 23 #[.pointer (some ⟨bn, 0, none⟩), .pointer (some ⟨bm, 0, none⟩)] wr fun e w' => e = .returned (.tuple #[]) ∧ LoopSt w w' bm br bf bt bn bq k (stN s) := by
  obtain ⟨A, n, c, hr, hrd, hA⟩ := h.rest
  obtain ⟨o1, o2, o3, o4, o5, o6⟩ := h.ord
  have hl := rN_le s.rest
  have hn := hrd.len
  refine (part2_any w.heap.size bn bm br bf A n c s.rest _ _ s.fine wr h.num hr h.fine h.msg rfl (by omega) (by omega) (by omega) hrd hA (by omega) (rN s.rest).1 (rN s.rest).2.1 (rN s.rest).2.2 (rN_read s.rest) (by omega)).mono fun e w' hg => ?_
  exact ⟨hg.1, h.got hg.2 rfl rfl rfl⟩
theorem partM_st {w wr : World} {bm br bf bt bn bq : Nat} {k : Int} {s : GS} (h : LoopSt w wr bm br bf bt bn bq k s) :
    Calls Try.prog 24 #[.pointer (some ⟨bn, 0, none⟩), .pointer (some ⟨bm, 0, none⟩)] wr fun e w' => e = .returned (.tuple #[]) ∧ LoopSt w w' bm br bf bt bn bq k (stM s) := by
  obtain ⟨A, n, c, hr, hrd, hA⟩ := h.rest
  obtain ⟨o1, o2, o3, o4, o5, o6⟩ := h.ord
  have hl := rN_le s.rest
  have hn := hrd.len
  refine (part3_any w.heap.size bn bm br bf A n c s.rest _ _ s.fine wr h.num hr h.fine h.msg rfl (by omega) (by omega) (by omega) hrd hA (by omega) (rN s.rest).1 (rN s.rest).2.1 (rN s.rest).2.2 (rN_read s.rest) (by omega)).mono fun e w' hg => ?_
  exact ⟨hg.1, h.got hg.2 rfl rfl rfl⟩
end Go.Proofs.Ytjpchjbbfbmjgaa
