/- OPENING WHAT A LAW IS HANDED: numbers, texts, structs, rows of these; with what is known of their sizes. -/
import Derived.Test.YtfffjaijflbeaaaDoorFrameN
import Derived.Test.YtfffjaijflbeaaaDoorObj
import Derived.DataReads
import Derived.SizedLaws
namespace Go.Proofs.YtfffjaijflbeaaaDoor
set_option linter.unusedSimpArgs false
set_option linter.unusedVariables false
open Go.RowKit Go.ChangeShapes Go.WideShapes Go.Deep
section
variable {H : Type} {enc : TypeId × Value → H} {P : Program} {W : World}
/-- what lies as one of type t is one of α, with these facts -/
def Rds (enc : TypeId × Value → H) (P : Program) (W : World) (t : TypeId) {α : Type} (e : Enc α) (Q : Nat → α → Prop) : Prop :=
  ∀ (fuel : Nat) (cs : List Value) (x : DataW H × List MemPlace), DataW.trod enc P W 0 (fun _ => true) true fuel t cs = some x → ∃ a, cs = e.enc a ∧ ∀ r, (x.1.weights P t).all (· ≤ r) = true → Q r a
def RdsFs (enc : TypeId × Value → H) (P : Program) (W : World) (o : Nat) (fs : List (TypeId × Nat)) {α : Type} (e : Enc α) (Q : Nat → α → Prop) : Prop :=
  ∀ (fuel : Nat) (cs : List Value) (xs : List (DataW H × List MemPlace)), xs.length = fs.length → (∀ (i : Nat) f, fs[i]? = some f → DataW.trod enc P W 0 (fun _ => true) true fuel f.1 ((cs.drop f.2).take (P.cellsOf f.1)) = xs[i]?) →
    ∃ a, (cs.drop o).take e.sz = e.enc a ∧ ∀ r, (DataW.weightsEach P (fs.map (·.1)) (xs.map (·.1))).all (· ≤ r) = true → Q r a
theorem rds_int {t : TypeId} {k : IntKind} (ht : P.underlying t = some (.int k)) : Rds enc P W t (eInt k) (fun _ n => (Lit.int k n).wf = true) := by
  intro fuel cs x h
  obtain ⟨n, rfl, rfl, hw⟩ := DataW.trod_int ht h
  exact ⟨n, rfl, fun _ _ => hw⟩
theorem rds_str {t : TypeId} (ht : P.underlying t = some .string) : Rds enc P W t eStr (fun r s => s.length ≤ r) := by
  intro fuel cs x h
  obtain ⟨s, rfl, rfl, hs⟩ := DataW.trod_string ht h
  refine ⟨s.data.toList, rfl, fun r hr => ?_⟩
  simpa [DataW.weights] using hr
theorem rds_bool {t : TypeId} (ht : P.underlying t = some .bool) : Rds enc P W t eBool (fun _ _ => True) := by
  intro fuel cs x h
  cases fuel with
  | zero => simp [DataW.trod] at h
  | succ n =>
    unfold DataW.trod at h
    rw [ht] at h
    split at h
    · exact ⟨_, rfl, fun _ _ => trivial⟩
    all_goals simp_all
theorem rds_u8 {t : TypeId} (ht : P.underlying t = some (.int .u8)) : Rds enc P W t eU8 (fun _ _ => True) := by
  intro fuel cs x h
  obtain ⟨n, rfl, rfl, hw⟩ := DataW.trod_int ht h
  simp [Lit.wf, IntKind.min, IntKind.max, IntKind.signed, IntKind.bits] at hw
  refine ⟨toU8 n, ?_, fun _ _ => trivial⟩
  show [Value.int .u8 n] = [Value.int .u8 ((toU8 n).toNat : Int)]
  rw [u8_back (by omega)]
theorem Rds.conv {t : TypeId} {α β : Type} {e : Enc α} {e' : Enc β} {Q : Nat → α → Prop} {Q' : Nat → β → Prop} (h : Rds enc P W t e Q) (f : α → β) (he : ∀ a, e.enc a = e'.enc (f a)) (hQ : ∀ r a, Q r a → Q' r (f a)) : Rds enc P W t e' Q' := by
  intro fuel cs x hx
  obtain ⟨a, rfl, hq⟩ := h fuel cs x hx
  exact ⟨f a, he a, fun r hr => hQ r a (hq r hr)⟩
theorem fs_one {t : TypeId} {o : Nat} {α : Type} {e : Enc α} {Q : Nat → α → Prop} (h : Rds enc P W t e Q) (hc : P.cellsOf t = e.sz) : RdsFs enc P W o [(t, o)] e Q := by
  intro fuel cs xs hl hf
  match xs, hl with
  | [x], _ =>
    have := hf 0 (t, o) rfl
    obtain ⟨a, ha, hq⟩ := h fuel _ _ this
    rw [hc] at ha
    refine ⟨a, ha, fun r hr => hq r ?_⟩
    simpa [DataW.weightsEach] using hr
theorem fs_cons {t : TypeId} {o : Nat} {fs : List (TypeId × Nat)} {α β : Type} {e : Enc α} {e' : Enc β} {Q : Nat → α → Prop} {Q' : Nat → β → Prop} (h : Rds enc P W t e Q) (hc : P.cellsOf t = e.sz) (hr : RdsFs enc P W (o + e.sz) fs e' Q') :
    RdsFs enc P W o ((t, o) :: fs) (ePair e e') (fun r a => Q r a.1 ∧ Q' r a.2) := by
  intro fuel cs xs hl hf
  match xs, hl with
  | x :: xs, hl =>
    have := hf 0 (t, o) rfl
    obtain ⟨a, ha, hq⟩ := h fuel _ _ this
    obtain ⟨b, hb, hq'⟩ := hr fuel cs xs (by simpa using hl) (fun i f hi => by have := hf (i + 1) f (by simpa using hi); simpa using this)
    refine ⟨(a, b), ?_, fun r hw => ?_⟩
    · show (cs.drop o).take (e.sz + e'.sz) = e.enc a ++ e'.enc b
      rw [hc] at ha
      rw [← ha, ← hb, List.take_add, List.drop_drop]
    · simp only [List.map_cons, DataW.weightsEach, List.all_append, Bool.and_eq_true] at hw
      exact ⟨hq r hw.1, hq' r hw.2⟩
theorem rds_struct {t : TypeId} {l : List (TypeId × Nat)} {α : Type} {e : Enc α} {Q : Nat → α → Prop} (hl : (match P.underlying t with | some (.struct fs) => some (fs.toList.map (fun f => (f.type, f.offset))) | _ => none) = some l) (hc : P.cellsOf t = e.sz)
    (hr : RdsFs enc P W 0 l e Q) : Rds enc P W t e Q := by
  intro fuel cs x hx
  split at hl
  · rename_i fs hs
    simp only [Option.some.injEq] at hl
    subst hl
    obtain ⟨xs, n, _, rfl, hlen, hxs, hg⟩ := DataW.trod_struct hs hx
    obtain ⟨a, ha, hq⟩ := hr n cs xs (by simpa using hxs) (fun i f hi => by
      rw [List.getElem?_map, Option.map_eq_some_iff] at hi
      obtain ⟨f', hf', rfl⟩ := hi
      exact hg i f' (by simpa using hf'))
    rw [List.drop_zero, List.take_of_length_le (by omega)] at ha
    refine ⟨a, ha, fun r hw => hq r ?_⟩
    simp only [DataW.weights, hs] at hw
    simpa [List.map_map, Function.comp_def] using hw
  · cases hl
theorem weightsAll_mem {t : TypeId} {n : Nat} : ∀ {ds : List (DataW H)} {d : DataW H}, d ∈ ds → n ∈ d.weights P t → n ∈ DataW.weightsAll P t ds
  | d0 :: ds, d, hd, hn => by
    simp only [DataW.weightsAll, List.mem_append]
    rcases List.mem_cons.1 hd with rfl | h
    · exact .inl hn
    · exact .inr (weightsAll_mem h hn)
/-- a row that was handed in -/
theorem rds_row {t te : TypeId} {α : Type} {e : Enc α} {Q : Nat → α → Prop} (ht : P.underlying t = some (.slice te)) (h : Rds enc P W te e Q) (hc : P.cellsOf te = e.sz) (h0 : 0 < e.sz) {fuel : Nat} {cs : List Value} {x : DataW H × List MemPlace}
    (hx : DataW.trod enc P W 0 (fun _ => true) true fuel t cs = some x) :
    ∃ (A : Option Addr) (c : Nat) (l : List α), cs = [.slice A l.length c] ∧ RdT e W A c l ∧ ∀ r, (x.1.weights P t).all (· ≤ r) = true → l.length * P.bytesOf te ≤ r ∧ ∀ a ∈ l, Q r a := by
  rcases DataW.trod_slice ht hx with ⟨rfl, rfl⟩ | ⟨a, len, cap, elems, rest, n, _, rfl, rfl, _, hl, hm, hlen, hel, _, _⟩
  · exact ⟨none, 0, [], rfl, RdT.nil _ W, fun r _ => ⟨by simp, fun a ha => by cases ha⟩⟩
  · have each : ∀ i, i ≤ len → ∃ l : List α, l.length = i ∧ ∀ j (hj : j < l.length), W.cells? 0 (a.add (j * P.cellsOf te)) (P.cellsOf te) = some (e.enc l[j]) ∧ ∀ y, elems[j]? = some y → ∀ r, (y.1.weights P te).all (· ≤ r) = true → Q r l[j] := by
      intro i
      induction i with
      | zero => exact fun _ => ⟨[], rfl, fun j hj => by simp at hj⟩
      | succ i ih =>
        intro hi
        obtain ⟨l, hll, hlg⟩ := ih (by omega)
        have := hel i (by omega)
        rw [List.getElem?_eq_getElem (by omega), Option.bind_eq_some_iff] at this
        obtain ⟨cs', h1, h2⟩ := this
        obtain ⟨b, rfl, hb⟩ := h n cs' _ h2
        refine ⟨l ++ [b], by simp [hll], fun j hj => ?_⟩
        by_cases hji : j < l.length
        · rw [List.getElem_append_left hji]
          exact hlg j hji
        · obtain rfl : j = i := by simp at hj; omega
          subst hll
          rw [List.getElem_concat_length rfl]
          refine ⟨h1, fun y hy => ?_⟩
          rw [List.getElem?_eq_getElem (by omega), Option.some.injEq] at hy
          subst hy
          exact hb
    obtain ⟨l, hll, hlg⟩ := each len (Nat.le_refl _)
    subst hll
    refine ⟨some a, cap, l, rfl, ⟨by rw [cellsOf_length], hl, hm, fun hn => ?_⟩, fun r hw => ?_⟩
    · have cell : ∀ j (hj : j < l.length) k, k < e.sz → W.cell? ((a.add (j * e.sz)).add k) = (e.enc l[j])[k]? := by
        intro j hj k hk
        have := (hlg j hj).1
        rw [hc] at this
        exact (World.cells?_some this).2.2 k hk
      have c0 := cell 0 hn 0 h0
      rw [Nat.zero_mul, List.getElem?_eq_getElem (by rw [e.len]; exact h0)] at c0
      obtain ⟨b, off, spot⟩ := a
      obtain rfl : spot = none := by simpa [Addr.add] using World.cell?_spot c0
      have hadd : ∀ i j : Nat, ((⟨b, off, none⟩ : Addr).add i).add j = ⟨b, off + (i + j), none⟩ := by
        intro i j
        unfold Addr.add
        by_cases hi : i = 0 <;> by_cases hj : j = 0 <;> simp [hi, hj, Nat.add_assoc]
      rw [hadd] at c0
      refine ⟨b, off, rfl, block_lt_of_cell c0, fun j u hu => ?_⟩
      have hlen2 := (List.getElem?_eq_some_iff.1 hu).1
      rw [cellsOf_length] at hlen2
      have hq : j / e.sz < l.length := Nat.div_lt_of_lt_mul (by rw [Nat.mul_comm]; exact hlen2)
      have hk : j % e.sz < e.sz := Nat.mod_lt _ h0
      have hj : j = j / e.sz * e.sz + j % e.sz := by rw [Nat.mul_comm]; exact (Nat.div_add_mod j e.sz).symm
      have hce := cell (j / e.sz) hq (j % e.sz) hk
      rw [hadd, ← hj] at hce
      rw [hce]
      have hgt := cellsOf_get e (l := l) (i := j / e.sz) (x := l[j / e.sz]) (List.getElem?_eq_getElem hq) (j := j % e.sz) (u := (e.enc l[j / e.sz])[j % e.sz]'(by rw [e.len]; exact hk)) (List.getElem?_eq_getElem _)
      rw [← hj, hu] at hgt
      rw [List.getElem?_eq_getElem (by rw [e.len]; exact hk), ← hgt]
    · simp only [DataW.weights, ht, List.all_cons, Bool.and_eq_true, decide_eq_true_eq, List.all_append] at hw
      refine ⟨Nat.le_trans (Nat.mul_le_mul_right _ (by simp; omega)) hw.1, fun b hb => ?_⟩
      obtain ⟨j, hj, rfl⟩ := List.mem_iff_getElem.1 hb
      refine (hlg j hj).2 _ (List.getElem?_eq_getElem (by omega)) r ?_
      rw [List.all_eq_true] at hw ⊢
      intro m hm'
      exact hw.2.1 m (weightsAll_mem (List.mem_map.2 ⟨_, List.getElem_mem (by omega), rfl⟩) hm')
variable {r0 : Reach} {b0 : Nat}
/-- a struct that was handed in -/
theorem open_agg {t : TypeId} {fs : Array Field} {α : Type} {e : Enc α} {Q : Nat → α → Prop} (hs : P.underlying t = some (.struct fs)) (h : Rds enc P W t e Q) {v : Value} {d : DataW H} {p : List MemPlace} (hv : Value.okWide P W r0 b0 t v)
    (hd : DataW.Trod enc P W 0 (fun _ => true) true t v d p) (hr : ∀ n ∈ d.weights P t, n ≤ reachBytes) : ∃ a, v = .agg ⟨e.enc a⟩ ∧ Q reachBytes a := by
  obtain ⟨cs, rfl, hsz⟩ := okWide_struct hs hv
  obtain ⟨fuel, hf⟩ := hd
  obtain ⟨a, ha, hq⟩ := h fuel _ _ hf
  refine ⟨a, ?_, hq _ (by rw [List.all_eq_true]; intro n hn; exact decide_eq_true (hr n hn))⟩
  simp only [Value.cells] at ha
  rw [← ha]
/-- a row that was handed in -/
theorem open_row {t te : TypeId} {α : Type} {e : Enc α} {Q : Nat → α → Prop} (ht : P.underlying t = some (.slice te)) (h : Rds enc P W te e Q) (hc : P.cellsOf te = e.sz) (h0 : 0 < e.sz) {v : Value} {d : DataW H} {p : List MemPlace} (hv : Value.okWide P W r0 b0 t v)
    (hd : DataW.Trod enc P W 0 (fun _ => true) true t v d p) (hr : ∀ n ∈ d.weights P t, n ≤ reachBytes) : ∃ (A : Option Addr) (c : Nat) (l : List α), v = .slice A l.length c ∧ RdT e W A c l ∧ l.length * P.bytesOf te ≤ reachBytes ∧ ∀ a ∈ l, Q reachBytes a := by
  obtain ⟨A, n, c, rfl⟩ := okWide_slice ht hv
  obtain ⟨fuel, hf⟩ := hd
  obtain ⟨A', c', l, hl, hrd, hq⟩ := rds_row ht h hc h0 hf
  simp [Value.cells] at hl
  obtain ⟨rfl, rfl, rfl⟩ := hl
  have := hq reachBytes (by rw [List.all_eq_true]; intro n hn; exact decide_eq_true (hr n hn))
  exact ⟨A, c, l, rfl, hrd, this.1, this.2⟩
end
end Go.Proofs.YtfffjaijflbeaaaDoor
