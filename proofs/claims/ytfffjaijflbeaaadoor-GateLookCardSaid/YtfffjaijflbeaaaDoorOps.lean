/- THE STEPS OF A LIFTED WALK AT OPERATIONS ON MEMORY; over any program. -/
import Derived.Test.YtfffjaijflbeaaaDoorHeap
import Derived.Lib.SmallJoins
import Derived.Laws.IdiomStrings
namespace Go.Proofs.YtfffjaijflbeaaaDoor
set_option linter.unusedSimpArgs false
set_option linter.unusedVariables false
open Go.RowKit

/-! what elements of rows are -/
structure Enc (α : Type) where
  sz : Nat
  enc : α → List Value
  len : ∀ x, (enc x).length = sz
  one : ∀ x, ∀ v ∈ enc x, v.oneCell' = true
def eU8 : Enc UInt8 := ⟨1, fun c => [.int .u8 (c.toNat : Int)], fun _ => rfl, fun _ v hv => by simp at hv; subst hv; rfl⟩
def eInt (k : IntKind) : Enc Int := ⟨1, fun n => [.int k n], fun _ => rfl, fun _ v hv => by simp at hv; subst hv; rfl⟩
def eBool : Enc Bool := ⟨1, fun n => [.bool n], fun _ => rfl, fun _ v hv => by simp at hv; subst hv; rfl⟩
def eStr : Enc (List UInt8) := ⟨1, fun s => [.string ⟨s.toArray⟩], fun _ => rfl, fun _ v hv => by simp at hv; subst hv; rfl⟩
section
variable {α : Type}
def cellsOf (e : Enc α) (l : List α) : List Value := l.flatMap e.enc
theorem cellsOf_nil (e : Enc α) : cellsOf e [] = [] := rfl
theorem cellsOf_append (e : Enc α) (l m : List α) : cellsOf e (l ++ m) = cellsOf e l ++ cellsOf e m := by simp [cellsOf]
theorem cellsOf_cons (e : Enc α) (x : α) (l : List α) : cellsOf e (x :: l) = e.enc x ++ cellsOf e l := by simp [cellsOf]
theorem cellsOf_length (e : Enc α) : ∀ l : List α, (cellsOf e l).length = l.length * e.sz
  | [] => by simp [cellsOf]
  | x :: l => by rw [cellsOf_cons, List.length_append, e.len, cellsOf_length e l, List.length_cons, Nat.succ_mul]; omega
theorem cellsOf_one (e : Enc α) (l : List α) : ∀ v ∈ cellsOf e l, v.oneCell' = true := by
  intro v hv
  obtain ⟨x, _, hx⟩ := List.mem_flatMap.1 hv
  exact e.one x v hx
theorem cellsOf_drop (e : Enc α) : ∀ (l : List α) (i : Nat), (cellsOf e l).drop (i * e.sz) = cellsOf e (l.drop i)
  | l, 0 => by simp
  | [], i + 1 => by simp [cellsOf]
  | x :: l, i + 1 => by
    rw [cellsOf_cons, Nat.succ_mul, List.drop_succ_cons, ← cellsOf_drop e l i, List.drop_append, List.drop_of_length_le (by rw [e.len]; omega), List.nil_append, e.len]
    congr 1
    omega
theorem cellsOf_take (e : Enc α) : ∀ (l : List α) (i : Nat), (cellsOf e l).take (i * e.sz) = cellsOf e (l.take i)
  | l, 0 => by simp [cellsOf]
  | [], i + 1 => by simp [cellsOf]
  | x :: l, i + 1 => by
    rw [cellsOf_cons, Nat.succ_mul, List.take_succ_cons, cellsOf_cons, ← cellsOf_take e l i, List.take_append, List.take_of_length_le (by rw [e.len]; omega), e.len]
    congr 2
    omega
theorem cellsOf_get (e : Enc α) {l : List α} {i : Nat} {x : α} (h : l[i]? = some x) {j : Nat} {u : Value} (hu : (e.enc x)[j]? = some u) : (cellsOf e l)[i * e.sz + j]? = some u := by
  have hd : (cellsOf e l).drop (i * e.sz) = cellsOf e (l.drop i) := cellsOf_drop e l i
  rw [← List.getElem?_drop, hd]
  obtain ⟨hi, hx⟩ := List.getElem?_eq_some_iff.1 h
  rw [List.drop_eq_getElem_cons hi, hx, cellsOf_cons, List.getElem?_append_left (List.getElem?_eq_some_iff.1 hu).1]
  exact hu
theorem cellsOf_set (e : Enc α) : ∀ (l : List α) (i : Nat) (x : α), i < l.length → (cellsOf e l).take (i * e.sz) ++ e.enc x ++ (cellsOf e l).drop (i * e.sz + e.sz) = cellsOf e (l.set i x) := by
  intro l i x hi
  rw [cellsOf_take, show i * e.sz + e.sz = (i + 1) * e.sz by rw [Nat.succ_mul], cellsOf_drop, List.set_eq_take_append_cons_drop, if_pos hi, cellsOf_append, cellsOf_cons, List.append_assoc]

/-- a row of elements that is read -/
def RdT (e : Enc α) (w : World) (A : Option Addr) (c : Nat) (l : List α) : Prop := RdX w A l.length c e.sz (cellsOf e l)
/-- a row of elements that the call owns -/
def rowT (E : TypeId) (e : Enc α) (A : Option Addr) (c : Nat) (l : List α) : Ent := row E e.sz (.slice A l.length c) l.length (cellsOf e l)
/-- a block of its own that is only read -/
def rdE (e : Enc α) (A : Option Addr) (c : Nat) (l : List α) : Ent :=
  ⟨(match A with | some a => [a.block] | none => []), fun w => RdT e w A c l, fun w w' h hk => by
    obtain ⟨h1, h2, h3, h4⟩ := hk
    refine ⟨h1, h2, h3, fun hn => ?_⟩
    obtain ⟨b, off, hA, hb, hc⟩ := h4 hn
    subst hA
    have hb' := h b (by simp)
    refine ⟨b, off, rfl, ?_, fun j u hu => ?_⟩
    · have : w.heap[b]? = some w.heap[b] := Array.getElem?_eq_getElem hb
      rw [this] at hb'
      exact (Array.getElem?_eq_some_iff.1 hb').1
    · rw [← hc j u hu]; exact World.cell?_of_block hb'⟩
variable {e : Enc α} {w w' w0 : World} {A : Option Addr} {c : Nat} {l : List α} {E : TypeId} {es : List Ent} {S : List Nat}
theorem rowT_rd (h : (rowT E e A c l).ok w) : RdT e w A c l := row_rdx h
theorem rdE_rd (h : (rdE e A c l).ok w) : RdT e w A c l := h
theorem RdT.sp (h : RdT e w0 A c l) (hs : SP [] w0 w es) : RdT e w A c l := RdX.sp h hs
theorem RdT.mod (h : RdT e w A c l) (hm : Mod S w w') (hS : ∀ b o, A = some ⟨b, o, none⟩ → b ∉ S) : RdT e w' A c l := RdX.mod h hm hS
theorem RdT.below (h : RdT e w A c l) (hb : Below w.heap.size w w') : RdT e w' A c l := RdX.below h hb
theorem RdT.nil (e : Enc α) (w : World) : RdT e w none 0 [] := RdX.nil w e.sz
theorem RdT.max (h : RdT e w A c l) : l.length ≤ maxLen := RdX.max h
/-- what a cut of a row is -/
def cutA (sz c i : Nat) (A : Option Addr) : Option Addr := if c = i then A else A.map (·.add (i * sz))
theorem RdT.part (h : RdT e w A c l) {i j : Nat} (hij : i ≤ j) (hjn : j ≤ l.length) : RdT e w (cutA e.sz c i A) (c - i) ((l.take j).drop i) := by
  have := RdX.part h hij hjn
  rw [cellsOf_take, cellsOf_drop] at this
  have hl : ((l.take j).drop i).length = j - i := by simp; omega
  unfold RdT
  rw [hl]
  exact this
theorem SP.nilrow (h : SP S w0 w es) (E : TypeId) (e : Enc α) : SP S w0 w (es ++ [rowT E e none 0 []]) :=
  h.push (Below.refl _ _) (World.ownsRow_nil w 0 E e.sz) (by simp [rowT, row, Value.ownBlock])
end
theorem rd_bytes {w : World} {A : Option Addr} {c : Nat} {l : List UInt8} (h : RdT eU8 w A c l) : Rd w A l.length c l := by
  obtain ⟨h1, h2, h3, h4⟩ := h
  refine ⟨rfl, h2, h3, fun hn => ?_⟩
  obtain ⟨b, off, hA, hb, hc⟩ := h4 hn
  refine ⟨b, off, hA, hb, fun i hi => ?_⟩
  have := cellsOf_get eU8 (l := l) (i := i) (x := l[i]) (List.getElem?_eq_getElem hi) (j := 0) (u := .int .u8 (l[i].toNat : Int)) rfl
  have := hc _ _ this
  simp only [eU8, Nat.mul_one, Nat.add_zero] at this
  rw [this]
  simp [List.getD, List.getElem?_eq_getElem hi]
theorem rd_of_bytes {w : World} {A : Option Addr} {n c : Nat} {l : List UInt8} (h : Rd w A n c l) : n = l.length ∧ RdT eU8 w A c l := by
  obtain ⟨h1, h2, h3, h4⟩ := h
  subst h1
  refine ⟨rfl, by rw [cellsOf_length], h2, h3, fun hn => ?_⟩
  obtain ⟨b, off, hA, hb, hc⟩ := h4 hn
  refine ⟨b, off, hA, hb, fun j u hu => ?_⟩
  have hj : j < l.length := by
    have := (List.getElem?_eq_some_iff.1 hu).1
    rw [cellsOf_length] at this
    simpa [eU8] using this
  have := cellsOf_get eU8 (l := l) (i := j) (x := l[j]) (List.getElem?_eq_getElem hj) (j := 0) (u := .int .u8 (l[j].toNat : Int)) rfl
  simp only [eU8, Nat.mul_one, Nat.add_zero] at this
  have h9 : (cellsOf eU8 l)[j]? = some (.int .u8 (l[j].toNat : Int)) := this
  rw [h9] at hu
  injection hu with hu
  subst hu
  rw [hc j hj]
  simp [List.getD, List.getElem?_eq_getElem hj]

/-! what a lifted text says of indexes, parts, joints -/
def idx {α : Type} (l : List α) (i : Int) : Option α := if 0 ≤ i then l[i.toNat]? else none
def sub {α : Type} (l : List α) (i j : Int) : Option (List α) := if 0 ≤ i ∧ i ≤ j ∧ j ≤ (l.length : Int) then some ((l.take j.toNat).drop i.toNat) else none
def app {α : Type} (l m : List α) : Option (List α) := if l.length + m.length ≤ 2147483648 then some (l ++ m) else none
def chk (b : Bool) : Option Unit := match b with | true => some () | false => none
section
variable {α β : Type}
theorem bind_elim {o : Option α} {K : α → Option β} {r : β} (h : o.bind K = some r) : ∃ x, o = some x ∧ K x = some r := by
  cases o with
  | none => cases h
  | some x => exact ⟨x, rfl, h⟩
theorem idx_elim {l : List α} {i : Int} {K : α → Option β} {r : β} (h : (idx l i).bind K = some r) : ∃ x, 0 ≤ i ∧ i < (l.length : Int) ∧ l[i.toNat]? = some x ∧ K x = some r := by
  obtain ⟨x, h1, h2⟩ := bind_elim h
  unfold idx at h1
  split at h1
  · obtain ⟨h3, _⟩ := List.getElem?_eq_some_iff.1 h1
    exact ⟨x, ‹_›, by omega, h1, h2⟩
  · cases h1
theorem sub_elim {l : List α} {i j : Int} {K : List α → Option β} {r : β} (h : (sub l i j).bind K = some r) : 0 ≤ i ∧ i ≤ j ∧ j ≤ (l.length : Int) ∧ K ((l.take j.toNat).drop i.toNat) = some r := by
  obtain ⟨x, h1, h2⟩ := bind_elim h
  unfold sub at h1
  split at h1
  · rename_i hc
    injection h1 with h1
    subst h1
    exact ⟨hc.1, hc.2.1, hc.2.2, h2⟩
  · cases h1
theorem app_elim {l m : List α} {K : List α → Option β} {r : β} (h : (app l m).bind K = some r) : l.length + m.length ≤ 2147483648 ∧ K (l ++ m) = some r := by
  obtain ⟨x, h1, h2⟩ := bind_elim h
  unfold app at h1
  split at h1
  · injection h1 with h1; subst h1; exact ⟨‹_›, h2⟩
  · cases h1
theorem chk_elim {b : Bool} {K : Unit → Option β} {r : β} (h : (chk b).bind K = some r) : b = true ∧ K () = some r := by
  obtain ⟨x, h1, h2⟩ := bind_elim h
  unfold chk at h1
  cases b
  · cases h1
  · exact ⟨rfl, h2⟩
theorem if_true_elim {b : Bool} {x y : Option β} {r : β} (h : (match b with | true => x | false => y) = some r) (hb : b = true) : x = some r := by subst hb; exact h
theorem if_false_elim {b : Bool} {x y : Option β} {r : β} (h : (match b with | true => x | false => y) = some r) (hb : b = false) : y = some r := by subst hb; exact h
end

section
variable {P : Program} {n : Nat} {Q : Post} {ρ : Fr} {w w0 : World} {B : Code} {p : List Bool} {k : Nat} {d : Option Nat} {S : List Nat} {es : List Ent} {K : Fr → World → Prop}
theorem Step.box {t : TypeId} {x : Operand} {v : Value} (ho : opAt (codeAt B p) k ρ = some (.box t x, d)) (hd : dstOk n d = true) (hv : opv ρ x = v) (hs : SP S w0 w es)
    (next : ∀ (g : Nat) (w' : World), SP S w0 w' (es ++ [boxE g t v.cells]) → K (updO ρ d (.pointer (some ⟨g, 0, none⟩))) w') : Step P n B p k K ρ w := by
  subst hv
  refine Step.val ho hd (v := .pointer (some ⟨w.heap.size, 0, none⟩)) (w' := w.alloc (.cells (opv ρ x).cells t)) (fun o hop => ?_) (next _ _ hs.alloc)
  unfold execOp; rw [hop]; rfl
theorem Step.alloc {t : TypeId} {z : Value} (ho : opAt (codeAt B p) k ρ = some (.alloc t, d)) (hd : dstOk n d = true) (hz : (P.info? t).bind (·.zero) = some z) (hs : SP S w0 w es)
    (next : ∀ (g : Nat) (w' : World), SP S w0 w' (es ++ [boxE g t z.cells]) → K (updO ρ d (.pointer (some ⟨g, 0, none⟩))) w') : Step P n B p k K ρ w := by
  refine Step.val ho hd (v := .pointer (some ⟨w.heap.size, 0, none⟩)) (w' := w.alloc (.cells z.cells t)) (fun o hop => ?_) (next _ _ hs.alloc)
  unfold execOp; rw [hop]
  cases hi : P.info? t with
  | none => rw [hi] at hz; cases hz
  | some i =>
    rw [hi] at hz
    have hz : i.zero = some z := hz
    have hzv : (zeroValue t).run P w = .ok z w := by simp [zeroValue, typeInfo, hi, hz]
    simp only [Instr.alloc, Sem.run_bind, hzv, Result.andThen_ok]
    rfl
theorem Step.load {t t' : TypeId} {x : Operand} {g off i : Nat} {cs : Array Value} {v : Value} (ho : opAt (codeAt B p) k ρ = some (.load t x, d)) (hd : dstOk n d = true)
    (hv : opv ρ x = .pointer (some ⟨g, off, none⟩)) (hs : SP S w0 w es) (hi : es[i]? = some (boxE g t' cs)) (hl : loadF P t off cs = some v)
    (next : K (updO ρ d v) w) : Step P n B p k K ρ w := by
  refine Step.val ho hd (fun o hop => ?_) next
  have hg : w.heap[g]? = some (.cells cs t' (0, 0)) := hs.get hi
  have := loadVar_of (w := w) hl hg
  unfold execOp; rw [hop]
  simp only [hv, Instr.loadAt, Instr.sureAddr, Sem.run_bind, Sem.run_pure, Result.andThen_ok, this]
theorem Step.store {t t' : TypeId} {x y : Operand} {g off i : Nat} {cs cs' : Array Value} {v : Value} (ho : opAt (codeAt B p) k ρ = some (.store t x y, d)) (hd : dstOk n d = true)
    (hx : opv ρ x = .pointer (some ⟨g, off, none⟩)) (hy : opv ρ y = v) (hs : SP S w0 w es) (hi : es[i]? = some (boxE g t' cs)) (hl : storeF P t off cs v = some cs')
    (next : ∀ w' : World, SP S w0 w' (es.set i (boxE g t' cs')) → K (updO ρ d undef) w') : Step P n B p k K ρ w := by
  subst hy
  have hg : w.heap[g]? = some (.cells cs t' (0, 0)) := hs.get hi
  refine Step.nov ho hd (w' := w.setRow g cs') (fun o hop => ?_) (next _ (hs.store hi))
  have := storeVar_of (w := w) hl hg
  unfold execOp; rw [hop]
  simp only [hx, Instr.storeAt, Instr.sureAddr, Sem.run_bind, Sem.run_pure, Result.andThen_ok, this]
variable {α : Type} {e : Enc α} {A : Option Addr} {c : Nat} {l : List α}
theorem run_indexAt {T E : TypeId} {sz m c : Nat} {ki : IntKind} {iz : Int} {b off : Nat} (hT : P.underlying T = some (.slice E)) (hE : (P.info? E).map (·.size) = some sz) (h0 : 0 ≤ iz) (h1 : iz < (m : Int)) (w : World) :
    (Instr.indexAt T (.slice (some ⟨b, off, none⟩) m c) (.int ki iz)).run P w = .ok (.pointer (some ⟨b, off + iz.toNat * sz, none⟩)) w := by
  cases hi : P.info? E with
  | none => rw [hi] at hE; cases hE
  | some i =>
    rw [hi] at hE
    have hE : i.size = sz := by simpa using hE
    have hsz : (sizeOf E).run P w = .ok sz w := by simp [sizeOf, typeInfo, hi, hE]
    simp only [Instr.indexAt, asIntOf, Sem.run_bind, Sem.run_pure, Result.andThen_ok, run_underlying hT]
    simp [h0, h1, hsz, add_lit]
/-- the address of a row's element -/
theorem Step.elem {T E : TypeId} {x ix : Operand} {ki : IntKind} {iz : Int} (ho : opAt (codeAt B p) k ρ = some (.indexAddr T x ix, d)) (hd : dstOk n d = true)
    (hx : opv ρ x = .slice A l.length c) (hix : opv ρ ix = .int ki iz) (hT : P.underlying T = some (.slice E)) (hE : (P.info? E).map (·.size) = some e.sz) (hr : RdT e w A c l) (h0 : 0 ≤ iz) (h1 : iz < (l.length : Int))
    (next : ∀ b off : Nat, A = some ⟨b, off, none⟩ → b < w.heap.size → (∀ j u, (cellsOf e l)[j]? = some u → w.cell? ⟨b, off + j, none⟩ = some u) → K (updO ρ d (.pointer (some ⟨b, off + iz.toNat * e.sz, none⟩))) w) :
    Step P n B p k K ρ w := by
  obtain ⟨_, _, _, h4⟩ := hr
  obtain ⟨b, off, hA, hb, hc⟩ := h4 (by omega)
  refine Step.val ho hd (fun o hop => ?_) (next b off hA hb hc)
  subst hA
  unfold execOp; rw [hop]
  simp only [hx, hix, Sem.run_bind, run_indexAt hT hE h0 h1, Result.andThen_ok]
  rfl
/-- a load of one cell -/
theorem Step.cell {t : TypeId} {x : Operand} {b off : Nat} {v : Value} (ho : opAt (codeAt B p) k ρ = some (.load t x, d)) (hd : dstOk n d = true)
    (hx : opv ρ x = .pointer (some ⟨b, off, none⟩)) (ht : (P.underlying t).map aggD = some false) (hc : w.cell? ⟨b, off, none⟩ = some v)
    (next : K (updO ρ d v) w) : Step P n B p k K ρ w := by
  refine Step.val ho hd (fun o hop => ?_) next
  cases hu : P.underlying t with
  | none => rw [hu] at ht; cases ht
  | some dd =>
    rw [hu] at ht
    have ht : aggD dd = false := by simpa using ht
    have hagg : (isAgg t).run P w = .ok false w := by
      rw [← ht]
      simp only [isAgg, Sem.run_bind, run_underlying hu, Result.andThen_ok]
      cases dd <;> rfl
    unfold execOp; rw [hop]
    simp only [hx, Instr.loadAt, Instr.sureAddr, Sem.run_bind, Sem.run_pure, Result.andThen_ok, loadVar, hagg, Bool.false_eq_true, if_false]
    simp [Go.load, Sem.run, hc]
/-- a load of a struct out of a row -/
theorem Step.cells {t : TypeId} {x : Operand} {b off : Nat} {xs : List Value} (ho : opAt (codeAt B p) k ρ = some (.load t x, d)) (hd : dstOk n d = true)
    (hx : opv ρ x = .pointer (some ⟨b, off, none⟩)) (ht : (P.underlying t).map aggD = some true) (hz : (P.info? t).map (·.size) = some xs.length) (hc : ∀ j u, xs[j]? = some u → w.cell? ⟨b, off + j, none⟩ = some u)
    (next : K (updO ρ d (.agg xs.toArray)) w) : Step P n B p k K ρ w := by
  refine Step.val ho hd (fun o hop => ?_) next
  cases hu : P.underlying t with
  | none => rw [hu] at ht; cases ht
  | some dd =>
    rw [hu] at ht
    have ht : aggD dd = true := by simpa using ht
    have hagg : (isAgg t).run P w = .ok true w := by
      rw [← ht]
      simp only [isAgg, Sem.run_bind, run_underlying hu, Result.andThen_ok]
      cases dd <;> rfl
    cases hi : P.info? t with
    | none => rw [hi] at hz; cases hz
    | some i =>
      rw [hi] at hz
      have hz : i.size = xs.length := by simpa using hz
      have hsz : (sizeOf t).run P w = .ok xs.length w := by simp [sizeOf, typeInfo, hi, hz]
      have hload := run_loadCells_list (P := P) w ⟨b, off, none⟩ xs (fun j u hu => by rw [add_lit]; exact hc j u hu)
      unfold execOp; rw [hop]
      simp only [hx, Instr.loadAt, Instr.sureAddr, Sem.run_bind, Sem.run_pure, Result.andThen_ok, loadVar, hagg, if_true, hsz, hload]
theorem elem_cell {x : α} {b off j : Nat} {iz : Int} {u : Value} {w : World} (hc : ∀ j u, (cellsOf e l)[j]? = some u → w.cell? ⟨b, off + j, none⟩ = some u) (hx : l[iz.toNat]? = some x) (hu : (e.enc x)[j]? = some u) :
    w.cell? ⟨b, off + iz.toNat * e.sz + j, none⟩ = some u := by
  rw [Nat.add_assoc]
  exact hc _ _ (cellsOf_get e hx hu)

/-! strings -/
theorem str_toList (l : List UInt8) : (⟨l.toArray⟩ : ByteArray).toList = l := by rw [ByteArray.toList_eq]
theorem str_size (l : List UInt8) : (⟨l.toArray⟩ : ByteArray).size = l.length := by simp [ByteArray.size]
theorem str_append (l m : List UInt8) : (⟨l.toArray⟩ : ByteArray) ++ ⟨m.toArray⟩ = ⟨(l ++ m).toArray⟩ := by
  apply ByteArray.ext
  rw [ByteArray.data_append]
  simp
theorem str_extract (l : List UInt8) (i j : Nat) (h : j ≤ l.length) : (⟨l.toArray⟩ : ByteArray).extract i j = ⟨((l.take j).drop i).toArray⟩ := by
  apply ByteArray.ext
  rw [ByteArray.data_extract]
  apply Array.ext'
  simp [List.extract_eq_take_drop, List.drop_take]
theorem Step.strOp {op : BinOp} {T T' : TypeId} {x y : Operand} {a b : List UInt8} {r : Value} (ho : opAt (codeAt B p) k ρ = some (.binOp op T x y T', d)) (hd : dstOk n d = true)
    (hx : opv ρ x = .string ⟨a.toArray⟩) (hy : opv ρ y = .string ⟨b.toArray⟩) (hr : (match op with
      | .eql => some (Value.bool (a == b)) | .neq => some (.bool !(a == b)) | .lss => some (.bool (Op.bytesLess a b)) | .leq => some (.bool (Op.bytesLess a b || a == b))
      | .gtr => some (.bool !(Op.bytesLess a b || a == b)) | .geq => some (.bool !(Op.bytesLess a b)) | _ => none) = some r)
    (next : K (updO ρ d r) w) : Step P n B p k K ρ w := by
  refine Step.val ho hd (fun o hop => ?_) next
  unfold execOp; rw [hop]
  simp only [hx, hy]
  cases op <;> first | (cases hr; done) | skip
  all_goals
    injection hr with hr
    subst hr
    simp [eqGuard, Go.binOp, Op.stringOp, str_toList]
theorem Step.strCat {T T' : TypeId} {x y : Operand} {a b : List UInt8} (ho : opAt (codeAt B p) k ρ = some (.binOp .add T x y T', d)) (hd : dstOk n d = true)
    (hx : opv ρ x = .string ⟨a.toArray⟩) (hy : opv ρ y = .string ⟨b.toArray⟩) (hl : a.length + b.length ≤ 2147483648)
    (next : K (updO ρ d (.string ⟨(a ++ b).toArray⟩)) w) : Step P n B p k K ρ w := by
  refine Step.val ho hd (fun o hop => ?_) next
  have hmax : ¬ (((⟨a.toArray⟩ : ByteArray).size + (⟨b.toArray⟩ : ByteArray).size : Nat) : Int) > IntKind.i64.max := by
    rw [str_size, str_size]
    have : IntKind.i64.max = 9223372036854775807 := by decide
    rw [this]; omega
  unfold execOp; rw [hop]
  simp only [hx, hy]
  simp only [eqGuard, Go.binOp, Op.stringOp, hmax, if_false, str_append]
  rfl
theorem Step.strIdx {T : TypeId} {x ix : Operand} {ki : IntKind} {iz : Int} {a : List UInt8} {u : UInt8} (ho : opAt (codeAt B p) k ρ = some (.index T x ix, d)) (hd : dstOk n d = true)
    (hT : P.underlying T = some .string) (hx : opv ρ x = .string ⟨a.toArray⟩) (hix : opv ρ ix = .int ki iz) (h0 : 0 ≤ iz) (hu : a[iz.toNat]? = some u)
    (next : K (updO ρ d (.int .u8 (u.toNat : Int))) w) : Step P n B p k K ρ w := by
  refine Step.val ho hd (fun o hop => ?_) next
  unfold execOp; rw [hop]
  have hg : (⟨a.toArray⟩ : ByteArray)[iz.toNat]? = some u := by
    obtain ⟨h1, h2⟩ := List.getElem?_eq_some_iff.1 hu
    have h1' : iz.toNat < (⟨a.toArray⟩ : ByteArray).size := by rw [str_size]; exact h1
    rw [getElem?_pos (⟨a.toArray⟩ : ByteArray) iz.toNat h1', ← h2]
    rfl
  simp only [hx, hix, Instr.index, asIntOf, Sem.run_bind, Sem.run_pure, Result.andThen_ok, run_underlying hT]
  simp [h0, hg]
theorem run_bounds {isS : Bool} {m cap : Nat} {lo hi : Option Value} {i j : Nat} (hlo : lo = none ∧ i = 0 ∨ ∃ kk, lo = some (.int kk (i : Int))) (hhi : hi = none ∧ j = m ∨ ∃ kk, hi = some (.int kk (j : Int))) (hij : i ≤ j) (hj : j ≤ m) (hm : m ≤ cap) (w : World) :
    (Instr.sliceBounds isS m cap lo hi none).run P w = .ok (i, j, cap) w := by
  have hj' : j ≤ cap := Nat.le_trans hj hm
  rcases hlo with ⟨rfl, rfl⟩ | ⟨kl, rfl⟩ <;> rcases hhi with ⟨rfl, rfl⟩ | ⟨kh, rfl⟩
  all_goals simp [Instr.sliceBounds, Instr.sliceBound, asIntOf, hij, hj']
/-- the bounds of a part, as operands -/
def BoundI (ρ : Fr) (o : Option Operand) (z : Int) (dflt : Nat) : Prop := match o with | none => z = (dflt : Int) | some x => ∃ kk, opv ρ x = .int kk z
theorem Step.slice {T E : TypeId} {x : Operand} {lo hi : Option Operand} {i j : Int} (ho : opAt (codeAt B p) k ρ = some (.slice T x lo hi none, d)) (hd : dstOk n d = true)
    (hx : opv ρ x = .slice A l.length c) (hT : P.underlying T = some (.slice E)) (hE : (P.info? E).map (·.size) = some e.sz) (hlo : BoundI ρ lo i 0) (hhi : BoundI ρ hi j l.length) (hc : l.length ≤ c)
    (h0 : 0 ≤ i) (h1 : i ≤ j) (h2 : j ≤ (l.length : Int))
    (next : ∀ (A' : Option Addr) (c' : Nat), A' = cutA e.sz c i.toNat A → c' = c - i.toNat → (∀ w1 : World, RdT e w1 A c l → RdT e w1 A' c' ((l.take j.toNat).drop i.toNat)) →
      K (updO ρ d (.slice A' ((l.take j.toNat).drop i.toNat).length c')) w) : Step P n B p k K ρ w := by
  have hl : ((l.take j.toNat).drop i.toNat).length = j.toNat - i.toNat := by simp; omega
  refine Step.val ho hd (v := .slice (cutA e.sz c i.toNat A) ((l.take j.toNat).drop i.toNat).length (c - i.toNat)) (fun o hop => ?_)
    (next _ _ rfl rfl fun w1 hr => RdT.part hr (by omega) (by omega))
  rw [hl]
  unfold execOp; rw [hop]
  cases hi' : P.info? E with
  | none => rw [hi'] at hE; cases hE
  | some ii =>
    rw [hi'] at hE
    have hE : ii.size = e.sz := by simpa using hE
    have hsz : ∀ w, (sizeOf E).run P w = .ok e.sz w := fun w => by simp [sizeOf, typeInfo, hi', hE]
    have hb := run_bounds (P := P) (isS := true) (m := l.length) (cap := c) (lo := lo.map (opv ρ)) (hi := hi.map (opv ρ)) (i := i.toNat) (j := j.toNat)
      (by
        cases lo with
        | none => exact .inl ⟨rfl, by have : i = 0 := hlo; omega⟩
        | some y => obtain ⟨kk, hh⟩ := hlo; exact .inr ⟨kk, by rw [Option.map_some, hh, Int.toNat_of_nonneg h0]⟩)
      (by
        cases hi with
        | none => exact .inl ⟨rfl, by have : j = (l.length : Int) := hhi; omega⟩
        | some y => obtain ⟨kk, hh⟩ := hhi; exact .inr ⟨kk, by rw [Option.map_some, hh, Int.toNat_of_nonneg (by omega)]⟩)
      (by omega) (by omega) hc w
    simp only [hx, Instr.sliceAt, Sem.run_bind, run_underlying hT, Result.andThen_ok, Instr.slice, Option.map_none, hb, hsz]
    rfl
theorem Step.strSlice {T : TypeId} {x : Operand} {lo hi : Option Operand} {i j : Int} {a : List UInt8} (ho : opAt (codeAt B p) k ρ = some (.slice T x lo hi none, d)) (hd : dstOk n d = true)
    (hx : opv ρ x = .string ⟨a.toArray⟩) (hT : P.underlying T = some .string) (hlo : BoundI ρ lo i 0) (hhi : BoundI ρ hi j a.length)
    (h0 : 0 ≤ i) (h1 : i ≤ j) (h2 : j ≤ (a.length : Int))
    (next : K (updO ρ d (.string ⟨((a.take j.toNat).drop i.toNat).toArray⟩)) w) : Step P n B p k K ρ w := by
  refine Step.val ho hd (fun o hop => ?_) next
  unfold execOp; rw [hop]
  have hb := run_bounds (P := P) (isS := false) (m := (⟨a.toArray⟩ : ByteArray).size) (cap := (⟨a.toArray⟩ : ByteArray).size) (lo := lo.map (opv ρ)) (hi := hi.map (opv ρ)) (i := i.toNat) (j := j.toNat)
    (by
      cases lo with
      | none => exact .inl ⟨rfl, by have : i = 0 := hlo; omega⟩
      | some y => obtain ⟨kk, hh⟩ := hlo; exact .inr ⟨kk, by rw [Option.map_some, hh, Int.toNat_of_nonneg h0]⟩)
    (by
      cases hi with
      | none => exact .inl ⟨rfl, by have : j = (a.length : Int) := hhi; rw [str_size]; omega⟩
      | some y => obtain ⟨kk, hh⟩ := hhi; exact .inr ⟨kk, by rw [Option.map_some, hh, Int.toNat_of_nonneg (by omega)]⟩)
    (by omega) (by rw [str_size]; omega) (Nat.le_refl _) w
  simp only [hx, Instr.sliceAt, Sem.run_bind, run_underlying hT, Result.andThen_ok, Instr.slice, Option.map_none, Option.isSome_none, Bool.false_eq_true, if_false, Sem.run_bind, hb, Result.andThen_ok, Sem.run_pure]
  rw [str_extract _ _ _ (by omega)]
/-- a string of bytes -/
theorem Step.toStr {T S' E : TypeId} {x : Operand} {l : List UInt8} (ho : opAt (codeAt B p) k ρ = some (.convert T S' x, d)) (hd : dstOk n d = true)
    (hx : opv ρ x = .slice A l.length c) (hT : P.underlying T = some (.slice E)) (hE : P.underlying E = some (.int .u8)) (hS : P.underlying S' = some .string) (hr : RdT eU8 w A c l)
    (next : K (updO ρ d (.string ⟨l.toArray⟩)) w) : Step P n B p k K ρ w := by
  refine Step.val ho hd (fun o hop => ?_) next
  unfold execOp; rw [hop]
  have := run_convert_rd' (P := P) hT hE hS (rd_bytes hr)
  simp only [hx, Sem.run_bind, this, Result.andThen_ok]
  rfl
end
end Go.Proofs.YtfffjaijflbeaaaDoor
