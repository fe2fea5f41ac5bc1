/- append onto a row of the call's own, whatever is appended ('Src': a slice, nil, a string): over any program. -/
import Derived.Test.YtfffjaijflbeaaaDoorBase
import Derived.Deep.AppendSrc
import Derived.Laws.BytesArg
namespace Go.Proofs.YtfffjaijflbeaaaDoor
set_option linter.unusedSimpArgs false
set_option linter.unusedVariables false
open Go.RowKit
section
variable {P : Program} (w : World)
theorem run_append_src (base : Nat) (t tx ty e : TypeId) (i : TypeInfo) (z : Value) (size bytes : Nat) (ht : P.underlying t = some (.slice e)) (hi : P.info? e = some i) (hz : i.zero = some z)
    (hsize : i.size = size) (hby : i.bytes = bytes) (hzs : z.cells.size = size) (hsz : 0 < size)
    (v : Value) (n : Nat) (xs : List Value) (hown : w.ownsRow base e size v n xs) (x : Value) (m : Nat) (news : List Value) (hs : Src P size tx x m news w)
    (h63 : n + m ≤ maxLen) (hbytes : (n + m) * bytes ≤ 140737488355328) (hbase : base ≤ w.heap.size) :
    ∃ v' w', (Builtin.append_ #[t, tx] ty #[v, x]).run P w = .ok v' w' ∧ w'.ownsRow base e size v' (n + m) (xs ++ news) ∧ w.grownBy w' v.ownBlock ∧
      (v'.ownBlock = v.ownBlock ∨ v'.ownBlock = some w.heap.size) := by
  subst hsize
  subst hby
  have hl := hs.newsLen
  have hsmall : n + m ≤ 9223372036854775807 := by simp only [maxLen] at h63; omega
  have hlen : (xs ++ news).length = (n + m) * i.size := by rw [List.length_append, hown.1, hl, Nat.add_mul]
  have grown : ∀ (old : Nat), old < n + m → ∀ (row : Option Nat),
      (w.drew.alloc (.cells ((xs ++ news).toArray ++ Builtin.zeroCells z.cells (grownCap w (n + m) old e - (n + m))) e)).ownsRow base e i.size
        (.slice (some ⟨w.heap.size, 0, none⟩) (n + m) (grownCap w (n + m) old e)) (n + m) (xs ++ news) ∧
      w.grownBy (w.drew.alloc (.cells ((xs ++ news).toArray ++ Builtin.zeroCells z.cells (grownCap w (n + m) old e - (n + m))) e)) row := by
    intro old ho row
    have hge := grownCap_ge w (n + m) old e
    have hcm : grownCap w (n + m) old e ≤ maxLen := grownCap_le_maxLen w (n + m) old e h63
    refine ⟨⟨hlen, .inr ⟨w.heap.size, _, _, rfl, hbase, heap_alloc_new w.drew _, hge, hcm, ?_, ?_⟩⟩, ⟨rfl, rfl, rfl, by simp, fun k hk _ => Below.heap_alloc w.drew _ k hk⟩⟩
    · rw [Array.size_append, List.size_toArray, size_zeroCells, hzs, hlen, ← Nat.add_mul]
      congr 1
      omega
    · rw [Array.toList_append, ← hlen]
      exact List.take_left
  rcases hown.2 with ⟨rfl, rfl⟩ | ⟨g, cap, cur, rfl, hbg, hg, hnc, hcm, hcs, htake⟩
  · have hx : xs = [] := List.eq_nil_of_length_eq_zero (by simpa using hown.1)
    subst hx
    by_cases hm : m = 0
    · subst hm
      have hn : news = [] := List.eq_nil_of_length_eq_zero (by simpa using hl)
      subst hn
      refine ⟨.slice none 0 0, w, ?_, World.ownsRow_nil w base e i.size, World.grownBy.refl w _, .inl rfl⟩
      have h1 := hs.len w
      have h2 := hs.cells
      rcases hs.kind with ⟨e', hk⟩ | hk <;> simp [Builtin.append_, run_underlying ht, run_underlying hk, sizeOf, typeInfo, hi, h1, h2, storeCells]
    · have hr := run_append_grow_src (P := P) w t tx ty e i z ht hi hz none 0 0 [] (by simpa using run_firstCells_none w.drew i.size 0 0 0) x m news hs (by omega) (by omega)
        (growslice_fits (by omega) (by simpa using hbytes))
      have hgr := grown 0 (by omega) (Value.ownBlock (.slice none 0 0))
      simp only [Nat.zero_add, List.nil_append] at hgr hr ⊢
      exact ⟨_, _, hr, hgr.1, hgr.2, .inr rfl⟩
  · by_cases hroom : n + m ≤ cap
    · have hfit : n * i.size + news.length ≤ cur.size := by rw [hl, hcs, ← Nat.add_mul]; exact Nat.mul_le_mul_right _ hroom
      have hst := run_storeCells_at P g (n * i.size) e news 0 cur w hg (by simpa using hfit) hs.one
      simp only [Nat.add_zero] at hst
      have h2 := hs.len
      have h3 := hs.cells
      have hr : (Builtin.append_ #[t, tx] ty #[.slice (some ⟨g, 0, none⟩) n cap, x]).run P w =
          .ok (.slice (some ⟨g, 0, none⟩) (n + m) cap) (w.setRow g (cur.toList.take (n * i.size) ++ news ++ cur.toList.drop (n * i.size + news.length)).toArray) := by
        rcases hs.kind with ⟨e', hk⟩ | hk <;> simp [Builtin.append_, run_underlying ht, run_underlying hk, sizeOf, typeInfo, hi, h2, hroom, h3, Addr.add_lit, hst]
      refine ⟨_, _, hr, ⟨hlen, .inr ⟨g, cap, _, rfl, hbg, setRow_heap w g cur _ e _ hg, hroom, hcm, ?_, ?_⟩⟩, ⟨rfl, rfl, rfl, by simp, fun k _ hk => setRow_other w g k _ (fun e => hk (by simp [Value.ownBlock, e]))⟩, .inl rfl⟩
      · simp only [List.size_toArray, List.length_append, List.length_take, List.length_drop, Array.length_toList]
        omega
      · rw [htake, ← hlen]
        exact List.take_left
    · have holds : ∀ j u, xs[j]? = some u → w.drew.cell? ((⟨g, 0, none⟩ : Addr).add j) = some u := hown.drew.cells (g := g) rfl
      have hr := run_append_grow_src (P := P) w t tx ty e i z ht hi hz (some ⟨g, 0, none⟩) n cap xs (run_firstCells_some w.drew i.size n ⟨g, 0, none⟩ n cap xs hown.1 holds) x m news hs (by omega) (by omega)
        (growslice_fits (by omega) hbytes)
      have hgr := grown cap (by omega) (Value.ownBlock (.slice (some ⟨g, 0, none⟩) n cap))
      exact ⟨_, _, hr, hgr.1, hgr.2, .inr rfl⟩
theorem wpList_value {ops : Array Oper} {rest : List Oper} {o : Oper} {a : Act} {Q : Exit → Act → World → Prop} {w : World} {v : Value} {w' : World} (hgd : o.guard = none)
    (hrun : (execOp a.eval o).run P w = .ok (.value v) w') (h : wpList P ops Q rest (a.put o.dst v) w') : wpList P ops Q (o :: rest) a w := by
  refine wpList_plain hgd fun K hK => ?_
  unfold Oper.wp
  rw [hrun]
  exact hK _ _ h
theorem exec_append {o : Oper} {a : Act} {w w' : World} (s x : Operand) {t tx : TypeId} {v' : Value} (ho : o.op = .call { callee := .builtin .append, args := #[s, x], argTypes := #[t, tx] })
    (hrun : (Builtin.append_ #[t, tx] o.type #[a.eval s, a.eval x]).run P w = .ok v' w') : (execOp a.eval o).run P w = .ok (.value v') w' := by
  simp [execOp, ho, resolve, invoke, builtin, hrun, Result.andThen]
theorem exec_convert {o : Oper} {a : Act} {w w' : World} (x : Operand) {t t' : TypeId} {v' : Value} (ho : o.op = .convert t t' x)
    (hrun : (convert t t' (a.eval x)).run P w = .ok v' w') : (execOp a.eval o).run P w = .ok (.value v') w' := by
  simp [execOp, ho, Sem.run_bind, hrun, Result.andThen]
theorem exec_slice {o : Oper} {a : Act} {w w' : World} (x : Operand) {t : TypeId} {lo hi mx : Option Operand} {v' : Value} (ho : o.op = .slice t x lo hi mx)
    (hrun : (Instr.sliceAt t (a.eval x) (lo.map a.eval) (hi.map a.eval) (mx.map a.eval)).run P w = .ok v' w') : (execOp a.eval o).run P w = .ok (.value v') w' := by
  simp [execOp, ho, Sem.run_bind, hrun, Result.andThen]

/-- a string of bytes -/
theorem run_convert_rd' {T E S : TypeId} (hT : P.underlying T = some (.slice E)) (hE : P.underlying E = some (.int .u8)) (hS : P.underlying S = some .string) {w : World} {A : Option Addr} {n c : Nat} {l : List UInt8} (h : Rd w A n c l) :
    (convert T S (.slice A n c)).run P w = .ok (.string ⟨l.toArray⟩) w := by
  obtain ⟨h1, h2, h3, h4⟩ := h
  rcases Nat.eq_zero_or_pos n with h0 | h0
  · subst h0
    have : l = [] := List.eq_nil_of_length_eq_zero h1
    subst this
    cases A with
    | none => exact run_convert_bytes_nil w _ _ hT hE 0 c _ hS
    | some a =>
      rw [run_convert_bytes_string w _ _ _ _ _ _ hT hE hS, run_bytesToString w a 0 c [] (by simpa using run_loadCells_list (P := P) w a [] (by simp))]
      rfl
  · obtain ⟨b, off, rfl, hb, hc⟩ := h4 h0
    have := run_convert_bytes_arg (P := P) w T E hT hE b off n c (l.map fun c => (c.toNat : Int)) (by simpa using h1)
      (fun i hi => by
        rw [hc i hi]
        simp [List.getD, List.getElem?_map, List.getElem?_eq_getElem (show i < l.length by omega)]) S hS
    rw [this]
    simp [strOfNums, Function.comp_def]
theorem run_sliceAt_lh' {T E : TypeId} (hT : P.underlying T = some (.slice (P.elem T))) (hs : ∀ w : World, (sizeOf (P.elem T)).run P w = .ok 1 w) {w : World} {A : Option Addr} {n c i j : Nat} (ki kj : IntKind) (hij : i ≤ j) (hj : j ≤ c) :
    (Instr.sliceAt T (.slice A n c) (some (.int ki (i : Int))) (some (.int kj (j : Int))) none).run P w = .ok (.slice (if c = i then A else A.map (·.add (i * 1))) (j - i) (c - i)) w := by
  have h := run_slice_lh (P := P) (w := w) T A n c hT ki kj i j (by omega) (by omega) (by omega)
  simp only [Instr.sliceAt, Sem.run_bind, run_underlying hT, Result.andThen_ok]
  rw [h, hs]
  simp [Result.andThen, sliced]
theorem run_sliceAt_l' {T E : TypeId} (hT : P.underlying T = some (.slice (P.elem T))) (hs : ∀ w : World, (sizeOf (P.elem T)).run P w = .ok 1 w) {w : World} {A : Option Addr} {n c i : Nat} (ki : IntKind) (hi : i ≤ n) :
    (Instr.sliceAt T (.slice A n c) (some (.int ki (i : Int))) none none).run P w = .ok (.slice (if c = i then A else A.map (·.add (i * 1))) (n - i) (c - i)) w := by
  have h := run_slice_l (P := P) (w := w) T A n c hT ki i (by omega) (by omega)
  simp only [Instr.sliceAt, Sem.run_bind, run_underlying hT, Result.andThen_ok]
  rw [h, hs]
  simp [Result.andThen, sliced]
theorem run_sliceAt_h' {T E : TypeId} (hT : P.underlying T = some (.slice (P.elem T))) (hs : ∀ w : World, (sizeOf (P.elem T)).run P w = .ok 1 w) {w : World} {A : Option Addr} {n c j : Nat} (kj : IntKind) (hj : j ≤ c) :
    (Instr.sliceAt T (.slice A n c) none (some (.int kj (j : Int))) none).run P w = .ok (.slice (if c = 0 then A else A.map (·.add (0 * 1))) j c) w := by
  have h := run_slice_h (P := P) (w := w) T A n c hT kj j (by omega) (by omega)
  simp only [Instr.sliceAt, Sem.run_bind, run_underlying hT, Result.andThen_ok]
  rw [h, hs]
  simp [Result.andThen, sliced]
end
end Go.Proofs.YtfffjaijflbeaaaDoor
