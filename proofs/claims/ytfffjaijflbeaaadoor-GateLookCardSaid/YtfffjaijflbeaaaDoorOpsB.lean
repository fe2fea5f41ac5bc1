/- THE STEPS OF A LIFTED WALK AT APPENDS, NEW ROWS, CALLS; over any program. -/
import Derived.Test.YtfffjaijflbeaaaDoorOps
import Derived.Laws.BytesArg
namespace Go.Proofs.YtfffjaijflbeaaaDoor
set_option linter.unusedSimpArgs false
set_option linter.unusedVariables false
open Go.RowKit
section
variable {α : Type} {e : Enc α} {P : Program} {w w0 : World} {A : Option Addr} {c : Nat} {l m : List α}
/-- what an append's second operand yields -/
theorem src_rdt {TX E : TypeId} (hT : P.underlying TX = some (.slice E)) (h : RdT e w A c m) : Src P e.sz TX (.slice A m.length c) m.length (cellsOf e m) w := by
  obtain ⟨h1, h2, h3, h4⟩ := h
  rcases Nat.eq_zero_or_pos m.length with h0 | h0
  · have : m = [] := List.eq_nil_of_length_eq_zero h0
    subst this
    refine ⟨.inl ⟨_, hT⟩, fun _ => rfl, ?_, ?_, by simp [cellsOf], cellsOf_one e _⟩
    · cases A with
      | none => exact run_firstCells_none w e.sz 0 0 c
      | some a => exact run_firstCells_some w e.sz 0 a 0 c [] (by simp) (by simp)
    · cases A with
      | none => exact run_firstCells_none w.drew e.sz 0 0 c
      | some a => exact run_firstCells_some w.drew e.sz 0 a 0 c [] (by simp) (by simp)
  · obtain ⟨b, off, rfl, hb, hc⟩ := h4 h0
    refine Src.ofSlice w hT _ _ _ _ h1 (fun j u hu => ?_) (cellsOf_one e _)
    rw [add_lit]
    exact hc j u hu
theorem cells_u8 (m : List UInt8) : cellsOf eU8 m = m.map fun c => Value.int .u8 (c.toNat : Int) := by
  induction m with
  | nil => rfl
  | cons x r ih => rw [cellsOf_cons, ih]; rfl
theorem src_str {TX : TypeId} (hT : P.underlying TX = some .string) (m : List UInt8) : Src P eU8.sz TX (.string ⟨m.toArray⟩) m.length (cellsOf eU8 m) w := by
  have := Src.ofString (w := w) hT ⟨m.toArray⟩
  rw [cells_u8]
  have h2 : byteCells (⟨m.toArray⟩ : ByteArray) = m.map fun c => Value.int .u8 (c.toNat : Int) := rfl
  rw [str_size, h2] at this
  exact this
theorem owns_shape {w : World} {E : TypeId} {sz n : Nat} {v : Value} {xs : List Value} (h : w.ownsRow 0 E sz v n xs) : ∃ A c, v = .slice A n c := by
  rcases h.2 with ⟨hv, hn⟩ | ⟨g, cap, cur, hv, _⟩
  · exact ⟨none, 0, by rw [hv, hn]⟩
  · exact ⟨_, _, hv⟩
theorem info_split {E : TypeId} {sz b : Nat} (h : (P.info? E).map (fun i => (i.zero.map (·.cells.size), i.size, i.bytes)) = some (some sz, sz, b)) : ∃ i z, P.info? E = some i ∧ i.zero = some z ∧ i.size = sz ∧ i.bytes = b ∧ z.cells.size = sz := by
  cases hi : P.info? E with
  | none => rw [hi] at h; cases h
  | some i =>
    rw [hi] at h
    simp only [Option.map_some, Option.some.injEq, Prod.mk.injEq] at h
    obtain ⟨h1, h2, h3⟩ := h
    cases hz : i.zero with
    | none => rw [hz] at h1; cases h1
    | some z =>
      rw [hz] at h1
      exact ⟨i, z, rfl, hz, h2, h3, by simpa using h1⟩
end
section
variable {P : Program} {n : Nat} {Q : Post} {ρ : Fr} {w w0 : World} {B : Code} {p : List Bool} {k : Nat} {d : Option Nat} {S : List Nat} {es : List Ent} {K : Fr → World → Prop}
variable {α : Type} {e : Enc α} {A : Option Addr} {c : Nat} {l m : List α}
theorem Step.append {T TX E : TypeId} {s x : Operand} {b i : Nat} {vx : Value} (ho : opAt (codeAt B p) k ρ = some (.call { callee := .builtin .append, args := #[s, x], argTypes := #[T, TX] }, d)) (hd : dstOk n d = true)
    (hv : opv ρ s = .slice A l.length c) (hx : opv ρ x = vx) (hT : P.underlying T = some (.slice E)) (hE : (P.info? E).map (fun i => (i.zero.map (·.cells.size), i.size, i.bytes)) = some (some e.sz, e.sz, b)) (hb : (Nat.ble 1 e.sz && Nat.ble b 65536) = true)
    (hs : SP S w0 w es) (hi : es[i]? = some (rowT E e A c l)) (hsrc : Src P e.sz TX vx m.length (cellsOf e m) w) (hlen : l.length + m.length ≤ 2147483648)
    (next : ∀ (A' : Option Addr) (c' : Nat) (w' : World), SP S w0 w' (es.set i (rowT E e A' c' (l ++ m))) → K (updO ρ d (.slice A' (l ++ m).length c')) w') : Step P n B p k K ρ w := by
  subst hx
  obtain ⟨i0, z, hi0, hz0, hz1, hz2, hz3⟩ := info_split hE
  simp only [Bool.and_eq_true] at hb
  have hb1 := Nat.le_of_ble_eq_true hb.1
  have hb2 := Nat.le_of_ble_eq_true hb.2
  have hbytes : (l.length + m.length) * b ≤ 140737488355328 := Nat.le_trans (Nat.mul_le_mul hlen hb2) (by omega)
  have hown : w.ownsRow 0 E e.sz (.slice A l.length c) l.length (cellsOf e l) := hs.get hi
  obtain ⟨o0, ho0, _⟩ := opAt_spec ho
  obtain ⟨v', w', hrun, h2, h3, h4⟩ := run_append_src (P := P) w 0 T TX o0.type E i0 z e.sz b hT hi0 hz0 hz1 hz2 hz3 (by omega) _ l.length (cellsOf e l) hown (opv ρ x) m.length (cellsOf e m) hsrc (by unfold maxLen; omega) hbytes (Nat.zero_le _)
  obtain ⟨A', c', rfl⟩ := owns_shape h2
  have h2' : (rowT E e A' c' (l ++ m)).ok w' := by
    show w'.ownsRow 0 E e.sz (.slice A' (l ++ m).length c') (l ++ m).length (cellsOf e (l ++ m))
    rw [List.length_append, cellsOf_append]
    exact h2
  have hmod : Mod ((Value.slice A l.length c).ownBlock.toList) w w' := Mod.of_grown h3 (fun q hq => by rw [hq]; simp)
  refine Step.val ho hd (v := .slice A' (l ++ m).length c') (w' := w') (fun o hop => ?_) (next A' c' w' (hs.set hi hmod (fun q hq => hq) h2' fun q hq => ?_))
  · have hty : ∀ ty, (Builtin.append_ #[T, TX] ty #[.slice A l.length c, opv ρ x]).run P w = (Builtin.append_ #[T, TX] o0.type #[.slice A l.length c, opv ρ x]).run P w := fun _ => rfl
    have hrun' : (Builtin.append_ #[T, TX] o.type #[opv ρ s, opv ρ x]).run P w = .ok (.slice A' (l.length + m.length) c') w' := by rw [hv, hty]; exact hrun
    rw [List.length_append]
    unfold execOp
    rw [hop]
    simp [resolve, invoke, builtin, hrun', Result.andThen]
  · have hq' : (Value.slice A' (l.length + m.length) c').ownBlock = some q := by
      have : (Value.slice A' (l ++ m).length c').ownBlock = some q := by simpa [rowT, row] using hq
      rw [List.length_append] at this
      exact this
    refine ⟨?_, (World.ownsRow.lt h2 q hq').2⟩
    rcases h4 with h4 | h4
    · left
      rw [h4] at hq'
      show q ∈ (Value.slice A l.length c).ownBlock.toList
      rw [hq']
      simp
    · right
      rw [h4] at hq'
      injection hq' with hq'
      omega
/-- a new row, written out -/
theorem SP.newrow {E : TypeId} {cs : Array Value} {w : World} (h : SP S w0 w es) (e : Enc α) (l : List α) (hc : cs.toList = cellsOf e l) (hm : l.length ≤ maxLen) (hz : 0 < e.sz) :
    SP S w0 (w.alloc (.cells cs E)) (es ++ [rowT E e (some ⟨w.heap.size, 0, none⟩) l.length l]) := by
  refine h.push ((Below.refl _ _).alloc (Nat.le_refl _) _) ?_ fun k hk => ?_
  · have := World.ownsRow_lit (base := 0) (e := E) (size := e.sz) w cs l.length (Nat.zero_le _) hm (by rw [← Array.length_toList, hc, cellsOf_length])
    rw [hc] at this
    exact this
  · have : k = w.heap.size := by simpa [rowT, row, Value.ownBlock] using hk
    subst this
    simp
theorem Step.newSlice {T E : TypeId} {len : Nat} {parts : Array (Nat × Operand)} {cs : Array Value} (l : List α) (ho : opAt (codeAt B p) k ρ = some (.buildSlice T len parts, d)) (hd : dstOk n d = true)
    (hb : ∀ w : World, (Instr.buildSlice T len (parts.map fun (i, x) => (i, opv ρ x))).run P w = .ok (.slice (some ⟨w.heap.size, 0, none⟩) len len) (w.alloc (.cells cs E)))
    (hs : SP S w0 w es) (hc : cs.toList = cellsOf e l) (hl : l.length = len) (hm : Nat.ble l.length 2147483648 = true) (hz : Nat.ble 1 e.sz = true)
    (next : ∀ (g : Nat) (w' : World), SP S w0 w' (es ++ [rowT E e (some ⟨g, 0, none⟩) l.length l]) → K (updO ρ d (.slice (some ⟨g, 0, none⟩) l.length l.length)) w') : Step P n B p k K ρ w := by
  subst hl
  refine Step.val ho hd (v := .slice (some ⟨w.heap.size, 0, none⟩) l.length l.length) (w' := w.alloc (.cells cs E)) (fun o hop => ?_) (next _ _ (hs.newrow e l hc (by have := Nat.le_of_ble_eq_true hm; unfold maxLen; omega) (Nat.le_of_ble_eq_true hz)))
  unfold execOp; rw [hop]
  simp only [Sem.run_bind, hb, Result.andThen_ok]
  rfl
/-- the bytes of a string -/
theorem Step.toBytes {S' T E : TypeId} {x : Operand} {l : List UInt8} (ho : opAt (codeAt B p) k ρ = some (.convert S' T x, d)) (hd : dstOk n d = true)
    (hx : opv ρ x = .string ⟨l.toArray⟩) (hS : P.underlying S' = some .string) (hT : P.underlying T = some (.slice E)) (hE : P.underlying E = some (.int .u8)) (hl : l.length ≤ maxLen) (hs : SP S w0 w es)
    (next : ∀ (g c' : Nat) (w' : World), SP S w0 w' (es ++ [rdE eU8 (some ⟨g, 0, none⟩) c' l]) → l.length ≤ c' → K (updO ρ d (.slice (some ⟨g, 0, none⟩) l.length c')) w') : Step P n B p k K ρ w := by
  have hrun := run_bytes_of_string (P := P) w S' T E ⟨l.toArray⟩ hS hT hE
  have hge := grownCap_ge w (⟨l.toArray⟩ : ByteArray).size 0 E
  have hle := grownCap_le_maxLen w (⟨l.toArray⟩ : ByteArray).size 0 E (by rw [str_size]; exact hl)
  rw [str_size] at hge hle hrun
  generalize hcap : grownCap w l.length 0 E = cap at hrun hge hle
  refine Step.val ho hd (v := .slice (some ⟨w.heap.size, 0, none⟩) l.length cap) (fun o hop => ?_) (next w.heap.size cap (w.drew.alloc (.cells (bytesRow ⟨l.toArray⟩ cap) E ((bytesRow ⟨l.toArray⟩ cap).size, (bytesRow ⟨l.toArray⟩ cap).size + 1)))
    (hs.push (e := rdE eU8 (some ⟨w.heap.size, 0, none⟩) cap l) ?_ ?_ ?_) hge)
  · unfold execOp; rw [hop]
    simp only [hx, Sem.run_bind, hrun, Result.andThen_ok]
    rfl
  · exact (Below.refl _ _).drew.alloc (Nat.le_refl _) _
  · refine ⟨by rw [cellsOf_length], hge, hle, fun hn => ⟨w.heap.size, 0, rfl, by simp, fun j u hu => ?_⟩⟩
    have hj : j < l.length := by
      have := (List.getElem?_eq_some_iff.1 hu).1
      rw [cellsOf_length] at this
      simpa [eU8] using this
    rw [Nat.zero_add]
    refine (cell_of_row _ w.heap.size j _ E _ (heap_alloc_new w.drew _)).trans ?_
    rw [cells_u8] at hu
    rw [← hu]
    unfold bytesRow
    rw [Array.getElem?_append_left (by simpa using hj)]
    simp
  · intro q hq
    have : q = w.heap.size := by simpa [rdE] using hq
    subst this
    simp
/-- a call of a function -/
theorem Step.callF {f : FuncId} {fo : Operand} {xs : Array Operand} {tys : Array TypeId} {first captured : Array Value} {args : List Value} (ho : opAt (codeAt B p) k ρ = some (.call { callee := .value fo, args := xs, argTypes := tys }, d)) (hd : dstOk n d = true)
    (hf : opv ρ fo = .func (.func f) first captured) (hargs : first.toList ++ xs.toList.map (opv ρ) ++ captured.toList = args) (hcf : ∀ (args : Array Value) (w : World), (callFunc f args).run P w = .ok (.enter f args) w)
    {R : Ending → World → Prop} (hc : Calls P f args.toArray w R) (next : ∀ e w', R e w' → ∃ v, e = .returned v ∧ K (updO ρ d v) w') : Step P n B p k K ρ w := by
  refine Step.call ho hd (f := f) (args := args.toArray) (fun o hop => ?_) hc next
  unfold execOp; rw [hop]
  have : first ++ xs.map (opv ρ) ++ captured = args.toArray := by
    rw [← hargs]
    apply Array.ext'
    simp
  simp only [resolve, hf, Deferred.ofValue, Sem.run_bind, Sem.run_pure, Result.andThen_ok, invoke, this, hcf]
end
end Go.Proofs.YtfffjaijflbeaaaDoor
