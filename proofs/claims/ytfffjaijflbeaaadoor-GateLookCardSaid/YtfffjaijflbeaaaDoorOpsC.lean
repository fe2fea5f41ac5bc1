/- WORDS OF THE LIFTED WALKS: known slots, chains, selections of things, bits; over any program. -/
import Derived.Test.YtfffjaijflbeaaaDoorOpsB
namespace Go.Proofs.YtfffjaijflbeaaaDoor
set_option linter.unusedSimpArgs false
set_option linter.unusedVariables false
open Go.RowKit
def updL (ρ : Fr) : List (Nat × Value) → Fr
  | [] => ρ
  | (d, v) :: l => updL (upd ρ d v) l
def Known (ρ : Fr) : List (Nat × Value) → Prop
  | [] => True
  | (d, v) :: l => ρ d = v ∧ Known ρ l
theorem known_updL {ρ : Fr} : ∀ {l : List (Nat × Value)}, Known ρ l → updL ρ l = ρ
  | [], _ => rfl
  | (d, v) :: l, h => by
    show updL (upd ρ d v) l = ρ
    rw [upd_self h.1]
    exact known_updL h.2
def bAnd (k : IntKind) (a b : Int) : Int := k.wrap (BitVec.ofInt k.bits a &&& BitVec.ofInt k.bits b).toNat
def bOr (k : IntKind) (a b : Int) : Int := k.wrap (BitVec.ofInt k.bits a ||| BitVec.ofInt k.bits b).toNat
def bXor (k : IntKind) (a b : Int) : Int := k.wrap (BitVec.ofInt k.bits a ^^^ BitVec.ofInt k.bits b).toNat
def bAndNot (k : IntKind) (a b : Int) : Int := k.wrap (BitVec.ofInt k.bits a &&& ~~~BitVec.ofInt k.bits b).toNat
def bShl (k : IntKind) (a b : Int) : Int := k.wrap (a * 2 ^ (min b.toNat k.bits))
def bShr (k : IntKind) (a b : Int) : Int := a.fdiv (2 ^ (min b.toNat k.bits))
/-! bytes as numbers -/
def toU8 (e : Int) : UInt8 := UInt8.ofNat e.toNat
theorem u8_back {e : Int} (h : 0 ≤ e ∧ e < 256) : ((toU8 e).toNat : Int) = e := by
  unfold toU8
  have : e.toNat < 256 := by omega
  rw [UInt8.toNat_ofNat_of_lt' this]
  omega
theorem u8_cast (c : UInt8) : 0 ≤ (c.toNat : Int) ∧ (c.toNat : Int) < 256 := by have := c.toNat_lt; omega
theorem u8_wrap (x : Int) : 0 ≤ IntKind.wrap .u8 x ∧ IntKind.wrap .u8 x < 256 := by
  unfold IntKind.wrap
  simp only [IntKind.bits, IntKind.signed]
  have h1 := Int.emod_nonneg x (b := 256) (by omega)
  have h2 := Int.emod_lt_of_pos x (b := 256) (by omega)
  simp
  omega
theorem u8_and (a b : Int) : 0 ≤ bAnd .u8 a b ∧ bAnd .u8 a b < 256 := u8_wrap _
theorem u8_or (a b : Int) : 0 ≤ bOr .u8 a b ∧ bOr .u8 a b < 256 := u8_wrap _
theorem u8_xor (a b : Int) : 0 ≤ bXor .u8 a b ∧ bXor .u8 a b < 256 := u8_wrap _
theorem u8_andNot (a b : Int) : 0 ≤ bAndNot .u8 a b ∧ bAndNot .u8 a b < 256 := u8_wrap _
theorem u8_shl (a b : Int) : 0 ≤ bShl .u8 a b ∧ bShl .u8 a b < 256 := u8_wrap _
theorem u8_shr {a : Int} (h : 0 ≤ a ∧ a < 256) (b : Int) : 0 ≤ bShr .u8 a b ∧ bShr .u8 a b < 256 := by
  unfold bShr
  have hp : (0 : Int) < 2 ^ (min b.toNat (IntKind.bits .u8)) := Int.pow_pos (by omega)
  rw [Int.fdiv_eq_ediv_of_nonneg _ (by omega)]
  refine ⟨Int.ediv_nonneg h.1 (by omega), ?_⟩
  exact Int.lt_of_le_of_lt (Int.ediv_le_self _ h.1) h.2
theorem emod_le_self {a b : Int} (h : 0 ≤ a) : a % b ≤ a := by
  have := Int.mul_ediv_add_emod a b
  by_cases hb : 0 ≤ b
  · have := Int.mul_nonneg hb (Int.ediv_nonneg h hb)
    omega
  · have h1 : b * (a / b) = (-b) * (a / (-b)) := by rw [Int.ediv_neg, Int.neg_mul_neg]
    have := Int.mul_nonneg (show 0 ≤ -b by omega) (Int.ediv_nonneg h (show 0 ≤ -b by omega))
    omega
theorem u8_tmod {a b : Int} (h : 0 ≤ a ∧ a < 256) (hb : 0 < b) : 0 ≤ Int.tmod a b ∧ Int.tmod a b < 256 := by
  rw [Int.tmod_eq_emod_of_nonneg h.1]
  refine ⟨Int.emod_nonneg _ (by omega), ?_⟩
  have := Int.emod_lt_of_pos a hb
  have h3 := emod_le_self (b := b) h.1
  omega
theorem cells_cons8 {e : Int} {c : UInt8} {t : List Value} {l : List UInt8} (h : (c.toNat : Int) = e ∨ (c = toU8 e ∧ (0 ≤ e ∧ e < 256))) (ht : t = cellsOf eU8 l) : (Value.int .u8 e) :: t = cellsOf eU8 (c :: l) := by
  rw [cellsOf_cons, ← ht]
  rcases h with h | ⟨rfl, h⟩
  · subst h; rfl
  · show _ = [Value.int .u8 ((toU8 e).toNat : Int)] ++ t
    rw [u8_back h]
    rfl
theorem max_of_chk48 {n : Nat} (h : Nat.ble n 281474976710656 = true) : n ≤ maxLen := by
  have := Nat.le_of_ble_eq_true h
  unfold maxLen
  omega
theorem max_of_chk {n : Nat} (h : Nat.ble n 2147483648 = true) : n ≤ maxLen := by
  have := Nat.le_of_ble_eq_true h
  unfold maxLen
  omega

def selE (es : List Ent) : List Nat → List Ent
  | [] => []
  | i :: l => match es[i]? with | some e => e :: selE es l | none => selE es l
def nodupN : List Nat → Bool
  | [] => true
  | i :: l => l.all (fun j => !Nat.beq i j) && nodupN l
def fuel : Nat := 18446744073709551616
section
variable {S : List Nat} {B : Nat} {w w0 : World} {es es' : List Ent}
theorem HL.apart {i j : Nat} {e f : Ent} (h : HL S B w es) (hi : es[i]? = some e) (hj : es[j]? = some f) (hij : i ≠ j) : ∀ k ∈ e.fp, k ∉ f.fp := by
  intro k hk
  refine h.other hi f ?_ k hk
  rw [List.mem_eraseIdx_iff_getElem?]
  exact ⟨j, fun h => hij h.symm, hj⟩
theorem selE_mem {es : List Ent} : ∀ {l : List Nat} {f : Ent}, f ∈ selE es l → ∃ j ∈ l, es[j]? = some f
  | [], f, h => by simp [selE] at h
  | i :: l, f, h => by
    unfold selE at h
    split at h
    · rename_i e he
      rcases List.mem_cons.1 h with rfl | h
      · exact ⟨i, by simp, he⟩
      · obtain ⟨j, hj, hf⟩ := selE_mem h
        exact ⟨j, List.mem_cons_of_mem _ hj, hf⟩
    · obtain ⟨j, hj, hf⟩ := selE_mem h
      exact ⟨j, List.mem_cons_of_mem _ hj, hf⟩
theorem HL.sel (h : HL S B w es) : ∀ {l : List Nat}, nodupN l = true → HL S B w (selE es l)
  | [], _ => trivial
  | i :: l, hn => by
    simp only [nodupN, Bool.and_eq_true, List.all_eq_true, Bool.not_eq_true'] at hn
    unfold selE
    cases hi : es[i]? with
    | none => exact h.sel hn.2
    | some e =>
      have he := h.get hi
      refine ⟨he.1, fun k hk => ⟨(he.2 k hk).1, (he.2 k hk).2, fun f hf => ?_⟩, h.sel hn.2⟩
      obtain ⟨j, hj, hfj⟩ := selE_mem hf
      refine h.apart hi hfj (fun hij => ?_) k hk
      have := hn.1 j hj
      subst hij
      rw [Nat.beq_refl] at this
      cases this
theorem SP.sel (h : SP S w0 w es) (l : List Nat) (hn : nodupN l = true) (he : es' = selE es l) : SP S w0 w es' := by
  subst he
  exact ⟨h.mod, h.own.sel hn⟩
end
section
variable {β : Type}
theorem ct {b : Bool} {x y : Option β} {r : β} (h : cond b x y = some r) (hb : b = true) : x = some r := by subst hb; exact h
theorem cf {b : Bool} {x y : Option β} {r : β} (h : cond b x y = some r) (hb : b = false) : y = some r := by subst hb; exact h
theorem some_bind_elim {α : Type} {x : α} {K : α → Option β} {r : β} (h : (some x).bind K = some r) : K x = some r := h
theorem some_bind_ex {α : Type} {x : α} {K : α → Option β} {r : β} (h : (some x).bind K = some r) : ∃ z, x = z ∧ K z = some r := ⟨x, rfl, h⟩
theorem blk_below {w w' : World} {g : Nat} {o : Obj} (h : w.heap[g]? = some o) (hb : Below w.heap.size w w') : w'.heap[g]? = some o := (hb.block g (Array.getElem?_eq_some_iff.1 h).1).trans h
theorem some_elim {x r : β} (h : some x = some r) : r = x := (Option.some.inj h).symm
end
section
variable {P : Program} {n : Nat} {Q : Post} {ρ : Fr} {w : World} {B : Code} {p : List Bool} {k : Nat} {K : Fr → World → Prop}
theorem At.known (l : List (Nat × Value)) (h : Known ρ l) (next : At P n B p Q (updL ρ l) w) : At P n B p Q ρ w := by
  rw [known_updL h] at next
  exact next
theorem In.run' {k' : Nat} (m : Nat) (hk : k' = k + m) (l : List (Nat × Value)) (h : execSeq P n (regOps (codeAt B p)) (((regOps (codeAt B p)).toList.drop k).take m) ρ w = some (updL ρ l, w))
    (next : In P n B p k' Q (updL ρ l) w) : In P n B p k Q ρ w := In.run m hk (updL ρ l) h next
theorem Step.shift {d : Option Nat} {op : BinOp} {T T' : TypeId} {x y : Operand} {kx ky : IntKind} {a b : Int} {v : Value} (ho : opAt (codeAt B p) k ρ = some (.binOp op T x y T', d)) (hd : dstOk n d = true)
    (hx : opv ρ x = .int kx a) (hy : opv ρ y = .int ky b) (h0 : 0 ≤ b) (hv : (match op with | .shl => some (Value.int kx (bShl kx a b)) | .shr => some (.int kx (bShr kx a b)) | _ => none) = some v)
    (next : K (updO ρ d v) w) : Step P n B p k K ρ w := by
  refine Step.val ho hd (fun o hop => ?_) next
  unfold execOp; rw [hop]
  simp only [hx, hy]
  cases op <;> first | (cases hv; done) | skip
  all_goals
    injection hv with hv
    subst hv
    simp [eqGuard, Go.binOp, Op.shift, show ¬ b < 0 by omega, bShl, bShr]
theorem In.known (l : List (Nat × Value)) (h : Known ρ l) (next : In P n B p k Q (updL ρ l) w) : In P n B p k Q ρ w := by
  rw [known_updL h] at next
  exact next
/-- a store into an own row's element, of one cell -/
theorem Step.storeElem {α : Type} {e : Enc α} {S : List Nat} {w0 : World} {es : List Ent} {i b off c : Nat} {d : Option Nat} {t E : TypeId} {x y : Operand} {A : Option Addr} {l : List α} {iz : Int} {v : Value} {x' : α}
    (ho : opAt (codeAt B p) k ρ = some (.store t x y, d)) (hd : dstOk n d = true) (hx : opv ρ x = .pointer (some ⟨b, off + iz.toNat * e.sz, none⟩)) (hy : opv ρ y = v)
    (hs : SP S w0 w es) (hi : es[i]? = some (rowT E e A c l)) (hA : A = some ⟨b, off, none⟩) (hz : e.sz = 1) (h1 : iz < (l.length : Int)) (h0 : 0 ≤ iz) (hv : e.enc x' = [v]) (ht : (P.info? t).map (·.size) = some 1)
    (next : ∀ w' : World, SP S w0 w' (es.set i (rowT E e A c (l.set iz.toNat x'))) → K (updO ρ d undef) w') : Step P n B p k K ρ w := by
  subst hy hA
  have hown : w.ownsRow 0 E e.sz (.slice (some ⟨b, off, none⟩) l.length c) l.length (cellsOf e l) := hs.get hi
  have hoff : off = 0 := by
    rcases hown.2 with ⟨hn, _⟩ | ⟨g, cap, cur, hn, _⟩
    · cases hn
    · injection hn with h1 _ _
      injection h1 with h1
      injection h1
  subst hoff
  have hlt : iz.toNat < l.length := by omega
  have hcellx : ∃ u, w.cell? ⟨b, iz.toNat, none⟩ = some u := by
    have := World.ownsRow.cellAt (g := b) (cap := c) hown iz.toNat (by rw [hz]; omega)
    rw [this]
    have hlen := cellsOf_length e l
    exact ⟨_, List.getElem?_eq_getElem (by rw [hlen, hz]; omega)⟩
  obtain ⟨u0, hu0⟩ := hcellx
  have hfr := World.ownsRow.frozenAt (g := b) (cap := c) hown iz.toNat
  obtain ⟨h2, h3⟩ := World.ownsRow.stored (g := b) (cap := c) hown iz.toNat (opv ρ y)
  have hone := e.one x' (opv ρ y) (by rw [hv]; simp)
  have hset : (cellsOf e l).set iz.toNat (opv ρ y) = cellsOf e (l.set iz.toNat x') := by
    have := cellsOf_set e l iz.toNat x' hlt
    rw [hz, Nat.mul_one, hv] at this
    rw [← this, List.set_eq_take_append_cons_drop, if_pos (by rw [cellsOf_length, hz]; omega)]
    simp
  have h2' : (rowT E e (some ⟨b, 0, none⟩) c (l.set iz.toNat x')).ok (w.setCell ⟨b, iz.toNat, none⟩ (opv ρ y)) := by
    show World.ownsRow _ 0 E e.sz (.slice (some ⟨b, 0, none⟩) (l.set iz.toNat x').length c) (l.set iz.toNat x').length (cellsOf e (l.set iz.toNat x'))
    rw [List.length_set, ← hset]
    exact h2
  refine Step.nov ho hd (w' := w.setCell ⟨b, iz.toNat, none⟩ (opv ρ y)) (fun o hop => ?_) (next _ (hs.set hi (T := [b]) (Mod.of_grown h3 (fun q hq => by injection hq with hq; simp [hq])) (fun q hq => ?_) h2' fun q hq => ?_))
  · have hcs : (opv ρ y).cells = #[opv ρ y] := by
      cases hvv : opv ρ y <;> first | rfl | (rw [hvv] at hone; cases hone)
    cases hi' : P.info? t with
    | none => rw [hi'] at ht; cases ht
    | some ii =>
      rw [hi'] at ht
      have ht : ii.size = 1 := by simpa using ht
      have hsz : (sizeOf t).run P w = .ok 1 w := by simp [sizeOf, typeInfo, hi', ht]
      have hst : (Go.store ⟨b, iz.toNat, none⟩ (opv ρ y)).run P w = .ok () (w.setCell ⟨b, iz.toNat, none⟩ (opv ρ y)) := by
        cases hvv : opv ρ y <;> first | (rw [hvv] at hone; cases hone; done) | (simp [Go.store, Sem.run, hu0, hfr])
      unfold execOp; rw [hop]
      rw [hz, Nat.zero_add, Nat.mul_one] at hx
      have hadd : (⟨b, iz.toNat, none⟩ : Addr).add 0 = ⟨b, iz.toNat, none⟩ := by simp [Addr.add]
      simp only [hx, Instr.storeAt, Instr.sureAddr, Sem.run_bind, Sem.run_pure, Result.andThen_ok, storeVar, hsz, hcs]
      simp [storeCells, hadd, hst, Sem.run_bind]
  · simpa [rowT, row, Value.ownBlock] using hq
  · have hq' : q = b := by simpa [rowT, row, Value.ownBlock] using hq
    subst hq'
    refine ⟨.inl (by simp [rowT, row, Value.ownBlock]), ?_⟩
    have := (World.ownsRow.lt hown q (by simp [Value.ownBlock])).2
    simpa [World.setCell] using this
/-- a load out of a block that was there -/
theorem Step.loadB {t t' : TypeId} {x : Operand} {g off : Nat} {d : Option Nat} {cs : Array Value} {v : Value} (ho : opAt (codeAt B p) k ρ = some (.load t x, d)) (hd : dstOk n d = true)
    (hv : opv ρ x = .pointer (some ⟨g, off, none⟩)) {fr : Nat × Nat} (hg : w.heap[g]? = some (.cells cs t' fr)) (hl : loadF P t off cs = some v)
    (next : K (updO ρ d v) w) : Step P n B p k K ρ w := by
  refine Step.val ho hd (fun o hop => ?_) next
  have := loadVar_of (w := w) hl hg
  unfold execOp; rw [hop]
  simp only [hv, Instr.loadAt, Instr.sureAddr, Sem.run_bind, Sem.run_pure, Result.andThen_ok, this]
/-- a guard that is not decided -/
theorem In.guard {t : Nat} {b : Bool} (h : ρ t = .bool b) (h1 : b = true → In P n B p k Q (upd ρ t (.bool true)) w) (h2 : b = false → In P n B p k Q (upd ρ t (.bool false)) w) : In P n B p k Q ρ w := by
  cases b
  · have := h2 rfl
    rw [upd_self h] at this
    exact this
  · have := h1 rfl
    rw [upd_self h] at this
    exact this
end
end Go.Proofs.YtfffjaijflbeaaaDoor
