import Derived.Test.YtoflbpmbkmephaaGreatDoorPkConfigFinds2
set_option linter.unusedSimpArgs false
set_option linter.unusedVariables false
set_option linter.unusedSectionVars false
set_option maxRecDepth 100000
set_option maxHeartbeats 40000000
namespace Go.Proofs.YtoflbpmbkmephaaGreatDoor
open Go.RowKit
section
variable {S : List Nat} {B : Nat} {w w' w0 : World} {es es' : List Ent}
theorem HL.mk : ∀ {es : List Ent}, (∀ (i : Nat) (e : Ent), es[i]? = some e → e.ok w ∧ ∀ k ∈ e.fp, (B ≤ k ∨ k ∈ S) ∧ k < w.heap.size) → (∀ (i j : Nat) (e e' : Ent), i < j → es[i]? = some e → es[j]? = some e' → ∀ k ∈ e.fp, k ∉ e'.fp) → HL S B w es
  | [], _, _ => trivial
  | e :: es, h1, h2 => ⟨(h1 0 e rfl).1, fun k hk => ⟨((h1 0 e rfl).2 k hk).1, ((h1 0 e rfl).2 k hk).2, fun e' he' => by
      obtain ⟨j, hj⟩ := List.mem_iff_getElem?.1 he'
      exact h2 0 (j + 1) e e' (by omega) rfl (by simpa using hj) k hk⟩, HL.mk (fun i e' hi => h1 (i + 1) e' (by simpa using hi)) fun i j e1 e2 hij h3 h4 => h2 (i + 1) (j + 1) e1 e2 (by omega) (by simpa using h3) (by simpa using h4)⟩
theorem SP.turn2 (h : SP S w0 w es) {i : Nat} {e e1 e2 : Ent} (hi : es[i]? = some e) (h1 : e1.ok w) (h2 : e2.ok w) (hf1 : ∀ k ∈ e1.fp, k ∈ e.fp ∧ k ∉ e2.fp) (hf2 : ∀ k ∈ e2.fp, k ∈ e.fp) (he : es' = es.set i e1 ++ [e2]) : SP S w0 w es' := by
  subst he
  have hg := h.own.get hi
  have ht := h.turnE hi h1 fun k hk => (hf1 k hk).1
  refine ⟨ht.mod, ht.own.append ⟨h2, fun k hk => ⟨(hg.2 k (hf2 k hk)).1, (hg.2 k (hf2 k hk)).2, by simp⟩, trivial⟩ ?_⟩
  intro f hf k hk f' hf' hk'
  simp only [List.mem_singleton] at hf'
  subst hf'
  obtain ⟨j, hj⟩ := List.mem_iff_getElem?.1 hf
  rw [List.getElem?_set] at hj
  split at hj
  · split at hj
    · injection hj with hj
      subst hj
      exact (hf1 k hk).2 hk'
    · cases hj
  · exact h.own.apart hj hi (by omega) k hk (hf2 k hk')
theorem SP.join2 (h : SP S w0 w es) {i j : Nat} {e e1 e2 : Ent} (hi : es[i]? = some e1) (hj : es[j]? = some e2) (hij : i ≠ j) (hok : e.ok w) (hfp : ∀ k ∈ e.fp, k ∈ e1.fp ∨ k ∈ e2.fp) (he : es' = (es.set i e).eraseIdx j) : SP S w0 w es' := by
  subst he
  have g1 := h.own.get hi
  have g2 := h.own.get hj
  have hset : ∀ n x, (es.set i e)[n]? = some x → (n = i ∧ x = e) ∨ (n ≠ i ∧ es[n]? = some x) := by
    intro n x hx
    rw [List.getElem?_set] at hx
    split at hx
    · split at hx
      · injection hx with hx
        exact .inl ⟨by omega, hx.symm⟩
      · cases hx
    · exact .inr ⟨by omega, hx⟩
  have hget : ∀ n x, ((es.set i e).eraseIdx j)[n]? = some x → ∃ m, m ≠ j ∧ m = (if n < j then n else n + 1) ∧ ((m = i ∧ x = e) ∨ (m ≠ i ∧ es[m]? = some x)) := by
    intro n x hx
    rw [List.getElem?_eraseIdx] at hx
    split at hx
    · rename_i hlt
      exact ⟨n, by omega, by rw [if_pos hlt], hset n x hx⟩
    · rename_i hlt
      exact ⟨n + 1, by omega, by rw [if_neg hlt], hset (n + 1) x hx⟩
  refine ⟨h.mod, HL.mk ?_ ?_⟩
  · intro n x hx
    obtain ⟨m, hm, _, hc⟩ := hget n x hx
    rcases hc with ⟨_, rfl⟩ | ⟨_, hc⟩
    · refine ⟨hok, fun k hk => ?_⟩
      rcases hfp k hk with h1 | h1
      · exact g1.2 k h1
      · exact g2.2 k h1
    · exact h.own.get hc
  · intro n1 n2 x1 x2 hlt hx1 hx2 k hk1 hk2
    obtain ⟨m1, hm1, hq1, hc1⟩ := hget n1 x1 hx1
    obtain ⟨m2, hm2, hq2, hc2⟩ := hget n2 x2 hx2
    have hne : m1 ≠ m2 := by
      rw [hq1, hq2]
      split <;> split <;> omega
    rcases hc1 with ⟨e1', rfl⟩ | ⟨e1', hc1⟩
    · rcases hc2 with ⟨e2', rfl⟩ | ⟨e2', hc2⟩
      · omega
      · rcases hfp k hk1 with h1 | h1
        · exact h.own.apart hi hc2 (by omega) k h1 hk2
        · exact h.own.apart hj hc2 (by omega) k h1 hk2
    · rcases hc2 with ⟨e2', rfl⟩ | ⟨e2', hc2⟩
      · rcases hfp k hk2 with h1 | h1
        · exact h.own.apart hc1 hi (by omega) k hk1 h1
        · exact h.own.apart hc1 hj (by omega) k hk1 h1
      · exact h.own.apart hc1 hc2 hne k hk1 hk2
end
def blkA (A : Option Addr) : List Nat := match A with | some a => [a.block] | none => []
def B3 (y : Qw) : List Nat := blkA y.2.2.2.1.1 ++ blkA y.2.2.2.2.1
theorem X7 {α : Type} {E : TypeId} {e : Enc α} {A : Option Addr} {c : Nat} {l : List α} : (Ve E e A c l).fp = blkA A := by cases A <;> rfl
abbrev B4 (y : Qw) : Ent := Ve 102 eNet y.2.2.2.1.1 y.2.2.2.1.2.1 y.2.2.2.1.2.2
abbrev B5 (y : Qw) : Ent := Ve 37 eTok y.2.2.2.2.1 y.2.2.2.2.2.1 y.2.2.2.2.2.2
def Fk (d : List Qw) (w : World) : Prop := (∀ y ∈ d, (B4 y).ok w ∧ (B5 y).ok w) ∧ (d.flatMap B3).Nodup
def Rj (d : List Qw) : Ent := ⟨d.flatMap B3, Fk d, fun w w' hk h => ⟨fun y hy => by
    have hs : ∀ k ∈ B3 y, w'.heap[k]? = w.heap[k]? := fun k hm => hk k (List.mem_flatMap.2 ⟨y, hy, hm⟩)
    refine ⟨(B4 y).loc w w' (fun k hm => hs k ?_) (h.1 y hy).1, (B5 y).loc w w' (fun k hm => hs k ?_) (h.1 y hy).2⟩
    · rw [X7] at hm; exact List.mem_append_left _ hm
    · rw [X7] at hm; exact List.mem_append_right _ hm, h.2⟩⟩
def TenOk (A : Option Addr) (c : Nat) (d : List Qw) (w : World) : Prop := (Ve 33 V9 A c d).ok w ∧ Fk d w ∧ (blkA A ++ d.flatMap B3).Nodup
def Yv (A : Option Addr) (c : Nat) (d : List Qw) : Ent := ⟨blkA A ++ d.flatMap B3, TenOk A c d, fun w w' hk h => ⟨(Ve 33 V9 A c d).loc w w' (fun k hm => hk k (List.mem_append_left _ (by rw [X7] at hm; exact hm))) h.1, (Rj d).loc w w' (fun k hm => hk k (List.mem_append_right _ hm)) h.2.1, h.2.2⟩⟩
section
variable {S : List Nat} {w w' w0 : World} {es es' : List Ent} {A : Option Addr} {c : Nat} {d d0 : List Qw} {y : Qw} {F : List Nat} {l : List Qf} {i j k : Nat}
theorem TenOk.rd (h : TenOk A c d w) : (dDS V9 Eu).ok w (A, c, d) := ⟨Vr h.1, fun y hy => ⟨trivial, trivial, trivial, ⟨Vr (h.2.1.1 y hy).1, fun _ _ => trivial⟩, ⟨Vr (h.2.1.1 y hy).2, fun _ _ => trivial⟩⟩⟩
theorem G4 (h : (Yv A c d).ok w) : (dDS V9 Eu).ok w (A, c, d) := TenOk.rd h
theorem SP.openT (h : SP S w0 w es) (hi : es[i]? = some (Yv A c d)) (he : es' = es.set i (Ve 33 V9 A c d) ++ [Rj d]) : SP S w0 w es' := by
  obtain ⟨h1, h2, h3⟩ := h.get hi
  refine h.turn2 hi h1 h2 (fun k hk => ?_) (fun k hk => List.mem_append_right _ hk) he
  rw [X7] at hk
  refine ⟨List.mem_append_left _ hk, fun hk' => ?_⟩
  exact (List.nodup_append.1 h3).2.2 k hk k hk' rfl
theorem SP.closeT (h : SP S w0 w es) (hi : es[i]? = some (Ve 33 V9 A c d)) (hj : es[j]? = some (Rj d)) (hij : i ≠ j) (he : es' = (es.set i (Yv A c d)).eraseIdx j) : SP S w0 w es' := by
  have h1 := h.get hi
  have h2 : Fk d w := h.get hj
  have h3 := h.own.apart hi hj hij
  rw [X7] at h3
  refine h.join2 (e := Yv A c d) hi hj hij ⟨h1, h2, ?_⟩ (fun k hk => ?_) he
  · refine List.nodup_append.2 ⟨?_, h2.2, fun a ha b hb hab => h3 a ha (hab ▸ hb)⟩
    cases A <;> simp [blkA]
  · rw [X7]
    exact List.mem_append.1 hk
theorem SP.innMore (h : SP S w0 w es) (hj : es[j]? = some (Rj d)) (hy : y.2.2.2 = ((none, 0, []), (none, 0, []))) : SP S w0 w (es.set j (Rj (d ++ [y]))) := by
  obtain ⟨nm, a, b, x⟩ := y
  have hy : x = ((none, 0, []), (none, 0, [])) := hy
  subst hy
  have hok : Fk d w := h.get hj
  have hfm : (d ++ [(nm, a, b, (none, 0, []), (none, 0, []))]).flatMap B3 = d.flatMap B3 := by simp [List.flatMap_append, B3, blkA]
  refine h.turnE hj ⟨fun z hz => ?_, by rw [hfm]; exact hok.2⟩ fun k hk => ?_
  · rcases List.mem_append.1 hz with hz | hz
    · exact hok.1 z hz
    · rw [List.mem_singleton] at hz
      subst hz
      exact ⟨World.ownsRow_nil w 0 _ _, World.ownsRow_nil w 0 _ _⟩
  · have hk : k ∈ (d ++ [(nm, a, b, (none, 0, []), (none, 0, []))]).flatMap B3 := hk
    rw [hfm] at hk
    exact hk
theorem SP.splitI (h : SP S w0 w es) (hj : es[j]? = some (Rj (d0 ++ [y]))) (he : es' = es.set j (Rj d0) ++ [B4 y] ++ [B5 y]) : SP S w0 w es' := by
  have hok : Fk (d0 ++ [y]) w := h.get hj
  obtain ⟨h1, h2⟩ := hok
  have hfm : (d0 ++ [y]).flatMap B3 = d0.flatMap B3 ++ B3 y := by simp [List.flatMap_append]
  rw [hfm] at h2
  obtain ⟨n1, n2, n3⟩ := List.nodup_append.1 h2
  obtain ⟨m1, m2, m3⟩ := List.nodup_append.1 n2
  have hlt : j < es.length := (List.getElem?_eq_some_iff.1 hj).1
  have hy := h1 y (by simp)
  have hfp : (Rj (d0 ++ [y])).fp = d0.flatMap B3 ++ B3 y := hfm
  let eL : Ent := ⟨d0.flatMap B3 ++ blkA y.2.2.2.1.1, fun w => (Rj d0).ok w ∧ (B4 y).ok w, fun w w' hk hh => ⟨(Rj d0).loc w w' (fun k hm => hk k (List.mem_append_left _ hm)) hh.1, (B4 y).loc w w' (fun k hm => hk k (List.mem_append_right _ (by rw [X7] at hm; exact hm))) hh.2⟩⟩
  have hI : Fk d0 w := ⟨fun z hz => h1 z (List.mem_append_left _ hz), n1⟩
  have s1 : SP S w0 w (es.set j eL ++ [B5 y]) := h.turn2 hj (e1 := eL) ⟨hI, hy.1⟩ hy.2
    (fun k hk => by
      rw [X7, hfp]
      rcases List.mem_append.1 hk with hk | hk
      · exact ⟨List.mem_append_left _ hk, fun hk' => n3 k hk k (List.mem_append_right _ hk') rfl⟩
      · exact ⟨List.mem_append_right _ (List.mem_append_left _ hk), fun hk' => m3 k hk k hk' rfl⟩)
    (fun k hk => by rw [X7] at hk; rw [hfp]; exact List.mem_append_right _ (List.mem_append_right _ hk)) rfl
  have s2 : SP S w0 w (es.set j eL ++ [B5 y]).dropLast := s1.erase (es.length) (by simp [List.eraseIdx_append_of_length_le])
  rw [List.dropLast_concat] at s2
  have hjL : (es.set j eL)[j]? = some eL := by simp [hlt]
  have s3 : SP S w0 w (es.set j (Rj d0) ++ [B4 y]) := by
    refine s2.turn2 hjL hI hy.1 (fun k hk => ⟨List.mem_append_left _ hk, fun hk' => ?_⟩) (fun k hk => ?_) (by rw [List.set_set])
    · rw [X7] at hk'
      exact n3 k hk k (List.mem_append_left _ hk') rfl
    · rw [X7] at hk
      exact List.mem_append_right _ hk
  subst he
  refine ⟨s3.mod, s3.own.append ⟨hy.2, fun k hk => ?_, trivial⟩ ?_⟩
  · have := (h.own.get hj).2 k (by rw [X7] at hk; rw [hfp]; exact List.mem_append_right _ (List.mem_append_right _ hk))
    exact ⟨this.1, this.2, by simp⟩
  · intro f hf k hk f' hf' hk'
    simp only [List.mem_singleton] at hf'
    subst hf'
    have hk2 := hk'
    rw [X7] at hk'
    have hmem : k ∈ (Rj (d0 ++ [y])).fp := by rw [hfp]; exact List.mem_append_right _ (List.mem_append_right _ hk')
    rcases List.mem_append.1 hf with hf | hf
    · obtain ⟨n, hn⟩ := List.mem_iff_getElem?.1 hf
      rw [List.getElem?_set] at hn
      split at hn
      · rename_i hjn
        subst hjn
        injection hn with hn
        subst hn
        exact n3 k hk k (List.mem_append_right _ hk') rfl
      · exact h.own.apart hn hj (by omega) k hk hmem
    · simp only [List.mem_singleton] at hf
      subst hf
      rw [X7] at hk
      exact m3 k hk k hk' rfl
theorem SP.joinI (h : SP S w0 w es) (hi : es[i]? = some (Rj d0)) (hj : es[j]? = some (B4 y)) (hk : es[k]? = some (B5 y)) (hij : i < j) (hjk : j < k) (he : es' = ((es.set i (Rj (d0 ++ [y]))).eraseIdx k).eraseIdx j) : SP S w0 w es' := by
  have hik : i < k := by omega
  have h1 : Fk d0 w := h.get hi
  have h2 := h.get hj
  have h3 := h.get hk
  have a1 := h.own.apart hi hj (by omega)
  have a2 := h.own.apart hi hk (by omega)
  have a3 := h.own.apart hj hk (by omega)
  rw [X7] at a3
  let eL : Ent := ⟨d0.flatMap B3 ++ blkA y.2.2.2.2.1, fun w => (Rj d0).ok w ∧ (B5 y).ok w, fun w w' hk hh => ⟨(Rj d0).loc w w' (fun k hm => hk k (List.mem_append_left _ hm)) hh.1, (B5 y).loc w w' (fun k hm => hk k (List.mem_append_right _ (by rw [X7] at hm; exact hm))) hh.2⟩⟩
  have s1 : SP S w0 w ((es.set i eL).eraseIdx k) := h.join2 hi hk (by omega) (e := eL) ⟨h1, h3⟩ (fun q hq => by
    rw [X7]
    exact List.mem_append.1 hq) rfl
  have hlt : i < es.length := (List.getElem?_eq_some_iff.1 hi).1
  have hj' : ((es.set i eL).eraseIdx k)[j]? = some (B4 y) := by
    rw [List.getElem?_eraseIdx, if_pos hjk, List.getElem?_set, if_neg (by omega)]
    exact hj
  have hi' : ((es.set i eL).eraseIdx k)[i]? = some eL := by
    rw [List.getElem?_eraseIdx, if_pos hik, List.getElem?_set, if_pos rfl, if_pos hlt]
  refine s1.join2 hi' hj' (by omega) (e := Rj (d0 ++ [y])) ⟨fun z hz => ?_, ?_⟩ (fun q hq => ?_) ?_
  · rcases List.mem_append.1 hz with hz | hz
    · exact h1.1 z hz
    · rw [List.mem_singleton] at hz
      subst hz
      exact ⟨h2, h3⟩
  · have hfm : (d0 ++ [y]).flatMap B3 = d0.flatMap B3 ++ B3 y := by simp [List.flatMap_append]
    rw [hfm]
    refine List.nodup_append.2 ⟨h1.2, List.nodup_append.2 ⟨?_, ?_, fun a ha b hb hab => a3 a ha (by rw [X7]; exact hab ▸ hb)⟩, fun a ha b hb hab => ?_⟩
    · cases y.2.2.2.1.1 <;> simp [blkA]
    · cases y.2.2.2.2.1 <;> simp [blkA]
    · subst hab
      rcases List.mem_append.1 hb with hb | hb
      · exact a1 a ha (by rw [X7]; exact hb)
      · exact a2 a ha (by rw [X7]; exact hb)
  · have hq : q ∈ (d0 ++ [y]).flatMap B3 := hq
    rw [X7]
    simp only [List.flatMap_append, List.mem_append, List.flatMap_cons, List.flatMap_nil, B3, List.append_nil] at hq
    rcases hq with hq | hq | hq
    · exact .inl (List.mem_append_left _ hq)
    · exact .inr hq
    · exact .inl (List.mem_append_right _ hq)
  · rw [he, List.eraseIdx_set_gt hik, List.eraseIdx_set_gt hik, List.set_set]
end
section
variable {P : Program} {n : Nat} {ρ : Fr} {w w0 : World} {B : Code} {p : List Bool} {k : Nat} {K : Fr → World → Prop}
theorem B6 {α : Type} {e : Enc α} {S : List Nat} {w0 : World} {es : List Ent} {i b off c f q : Nat} {d : Option Nat} {t E : TypeId} {x y : Operand} {A : Option Addr} {l : List α} {v : Value} {x0 x' : α}
    (ho : N3 (Qe B p) k ρ = some (.store t x y, d)) (hd : Xk n d = true) (hA : A = some ⟨b, off, none⟩) (hx : opv ρ x = .pointer (some ⟨b, off + q * e.sz + f, none⟩)) (hy : opv ρ y = v)
    (hs : SP S w0 w es) (hi : es[i]? = some (Ve E e A c l)) (hl : l[q]? = some x0) (hf : f < e.sz) (hv : e.enc x' = (e.enc x0).set f v) (ht : (P.info? t).map (·.size) = some 1)
    (next : ∀ w' : World, SP S w0 w' (es.set i (Ve E e A c (l.set q x'))) → K (J1 ρ d undef) w') : Qm P n B p k K ρ w := by
  subst hy hA
  have hown : w.ownsRow 0 E e.sz (.slice (some ⟨b, off, none⟩) l.length c) l.length (Vd e l) := hs.get hi
  have hoff : off = 0 := by
    rcases hown.2 with ⟨hn, _⟩ | ⟨g, cap, cur, hn, _⟩
    · cases hn
    · injection hn with h1 _ _
      injection h1 with h1
      injection h1
  subst hoff
  have hlt : q < l.length := (List.getElem?_eq_some_iff.1 hl).1
  have hqf : q * e.sz + f < l.length * e.sz := by
    have : (q + 1) * e.sz ≤ l.length * e.sz := Nat.mul_le_mul_right _ hlt
    rw [Nat.succ_mul] at this
    omega
  have hcellx : ∃ u, w.cell? ⟨b, q * e.sz + f, none⟩ = some u := by
    have := World.ownsRow.cellAt (g := b) (cap := c) hown (q * e.sz + f) hqf
    rw [this]
    have hlen := Za e l
    exact ⟨_, List.getElem?_eq_getElem (by rw [hlen]; exact hqf)⟩
  obtain ⟨u0, hu0⟩ := hcellx
  have hfr := World.ownsRow.frozenAt (g := b) (cap := c) hown (q * e.sz + f)
  obtain ⟨h2, h3⟩ := World.ownsRow.stored (g := b) (cap := c) hown (q * e.sz + f) (opv ρ y)
  have hlen0 := e.len x0
  have hone := e.one x' (opv ρ y) (by rw [hv]; exact List.mem_iff_getElem.2 ⟨f, by rw [List.length_set]; omega, by simp⟩)
  have hset : (Vd e l).set (q * e.sz + f) (opv ρ y) = Vd e (l.set q x') := by
    have hs1 := Rt e l q x' hlt
    have hs0 := Rt e l q x0 hlt
    have hl0 : l.set q x0 = l := by
      obtain ⟨hq1, hq2⟩ := List.getElem?_eq_some_iff.1 hl
      rw [← hq2, List.set_getElem_self]
    rw [hl0] at hs0
    have htl : ((Vd e l).take (q * e.sz)).length = q * e.sz := by rw [List.length_take, Za]; omega
    rw [← hs1, hv]
    conv => lhs; rw [← hs0]
    rw [List.append_assoc, List.set_append_right _ _ (by rw [htl]; omega), htl, List.set_append_left _ _ (by rw [hlen0]; omega), List.append_assoc]
    rw [show q * e.sz + f - q * e.sz = f by omega]
  have h2' : (Ve E e (some ⟨b, 0, none⟩) c (l.set q x')).ok (w.setCell ⟨b, q * e.sz + f, none⟩ (opv ρ y)) := by
    show World.ownsRow _ 0 E e.sz (.slice (some ⟨b, 0, none⟩) (l.set q x').length c) (l.set q x').length (Vd e (l.set q x'))
    rw [List.length_set, ← hset]
    exact h2
  refine Bb ho hd (w' := w.setCell ⟨b, q * e.sz + f, none⟩ (opv ρ y)) (fun o hop => ?_) (next _ (hs.set hi (T := [b]) (Gw h3 (fun q hq => by injection hq with hq; simp [hq])) (fun q hq => ?_) h2' fun q hq => ?_))
  · have hcs : (opv ρ y).cells = #[opv ρ y] := by
      cases hvv : opv ρ y <;> first | rfl | (rw [hvv] at hone; cases hone)
    cases hi' : P.info? t with
    | none => rw [hi'] at ht; cases ht
    | some ii =>
      rw [hi'] at ht
      have ht : ii.size = 1 := by simpa using ht
      have hsz : (sizeOf t).run P w = .ok 1 w := by simp [sizeOf, typeInfo, hi', ht]
      have hst : (Go.store ⟨b, q * e.sz + f, none⟩ (opv ρ y)).run P w = .ok () (w.setCell ⟨b, q * e.sz + f, none⟩ (opv ρ y)) := by
        cases hvv : opv ρ y <;> first | (rw [hvv] at hone; cases hone; done) | (simp [Go.store, Sem.run, hu0, hfr])
      unfold execOp; rw [hop]
      rw [Nat.zero_add] at hx
      have hadd : (⟨b, q * e.sz + f, none⟩ : Addr).add 0 = ⟨b, q * e.sz + f, none⟩ := by simp [Addr.add]
      simp only [hx, Instr.storeAt, Instr.sureAddr, Sem.run_bind, Sem.run_pure, Result.andThen_ok, storeVar, hsz, hcs]
      simp [storeCells, hadd, hst, Sem.run_bind]
  · simpa [Ve, row, Value.ownBlock] using hq
  · have hq' : q = b := by simpa [Ve, row, Value.ownBlock] using hq
    subst hq'
    refine ⟨.inl (by simp [Ve, row, Value.ownBlock]), ?_⟩
    have := (World.ownsRow.lt hown q (by simp [Value.ownBlock])).2
    simpa [World.setCell] using this
theorem B7 {S : List Nat} {w0 : World} {es : List Ent} {dst : Option Nat} {A : Option Addr} {c : Nat} {d m : List Qw} {y : Qw} {T TX : TypeId} {s x : Operand} {b i : Nat} {vx : Value} (ho : N3 (Qe B p) k ρ = some (.call { callee := .builtin .append, args := #[s, x], argTypes := #[T, TX] }, dst)) (hd : Xk n dst = true)
    (hv : opv ρ s = .slice A (List.length (List.map stT d)) c) (hx : opv ρ x = vx) (hT : P.underlying T = some (.slice 33)) (hE : (P.info? 33).map (fun i => (i.zero.map (·.cells.size), i.size, i.bytes)) = some (some V9.sz, V9.sz, b)) (hb : (Nat.ble 1 V9.sz && Nat.ble b 65536) = true)
    (hs : SP S w0 w es) (hi : es[i]? = some (Yv A c d)) (hsrc : Src P V9.sz TX vx m.length (Vd V9 m) w) (hm : m = [y]) (hy : y.2.2.2 = ((none, 0, []), (none, 0, []))) {lm : List Qf} (hlen : (List.map stT d).length + lm.length ≤ 2147483648) (hlm : lm = [stT y])
    (next : ∀ (A' : Option Addr) (c' : Nat) (w' : World), SP S w0 w' (es.set i (Yv A' c' (d ++ [y]))) → K (J1 ρ dst (.slice A' (List.length (List.map stT (d ++ [y]))) c')) w') : Qm P n B p k K ρ w := by
  subst hm hlm
  rw [List.length_map] at hv hlen
  have hlt : i < es.length := (List.getElem?_eq_some_iff.1 hi).1
  refine Qm.append (m := [y]) ho hd hv hx hT hE hb (hs.openT hi rfl) (i := i) (by rw [List.getElem?_append_left (by simpa using hlt), List.getElem?_set, if_pos rfl, if_pos hlt]) hsrc (by simpa using hlen) fun A' c' w' hs' => ?_
  have := next A' c' w' ?_
  · rw [List.length_map] at this; exact this
  rw [List.set_append_left _ _ (by simpa using hlt), List.set_set] at hs'
  have h2 := hs'.innMore (j := es.length) (d := d) (y := y) (by rw [List.getElem?_append_right (by simp)]; simp) hy
  refine h2.closeT (i := i) (j := es.length) (A := A') (c := c') (d := d ++ [y]) ?_ ?_ (by omega) ?_
  · rw [List.getElem?_set, if_neg (by omega), List.getElem?_append_left (by simpa using hlt), List.getElem?_set, if_pos rfl, if_pos hlt]
  · rw [List.getElem?_set, if_pos rfl, if_pos (by simp)]
  · rw [List.set_append_right _ _ (by simp), List.set_append_left _ _ (by simpa using hlt), List.set_set, List.eraseIdx_append_of_length_le (by simp)]
    simp
end
theorem last_idx {α β : Type} {f : α → β} {d : List α} (hm : d.length ≤ maxLen) (h0 : 0 ≤ IntKind.wrap .i64 (((List.length (List.map f d) : Nat) : Int) - 1)) (h1 : IntKind.wrap .i64 (((List.length (List.map f d) : Nat) : Int) - 1) < (d.length : Int)) : Int.toNat (IntKind.wrap .i64 (((List.length (List.map f d) : Nat) : Int) - 1)) = List.length (List.map f d) - 1 := by
  rw [List.length_map] at *
  have hm' : d.length ≤ 9223372036854775807 := hm
  have hw : IntKind.wrap .i64 ((d.length : Int) - 1) = (d.length : Int) - 1 := IntWalk.i64_in _ (by omega)
  rw [hw] at h0 ⊢
  omega
def lastT (l : List Qf) : Qf := l.getLast?.getD ([], 0, 0, [], [])
def lastB {β : Type} (l : List Qf) (f : List Qf → Qf → List Qf → Option β) : Option β := f l.dropLast (lastT l) l
section
variable {β : Type} {d d0 : List Qw} {y : Qw} {f : List Qf → Qf → List Qf → Option β} {r : β}
theorem Ck (h : List.isEmpty (List.map stT d) = false) : ∃ d0 y, d = d0 ++ [y] := by
  rcases List.eq_nil_or_concat d with rfl | ⟨d0, y, rfl⟩
  · cases h
  · exact ⟨d0, y, by simp⟩
theorem Cl (hd : d = d0 ++ [y]) (h : lastB (List.map stT d) f = some r) : f (List.map stT d0) (stT y) (List.map stT (d0 ++ [y])) = some r := by
  subst hd
  unfold lastB lastT at h
  simpa using h
theorem Fv (y' : Qw) : List.length (List.map stT (d0 ++ [y])) = List.length (List.map stT (d0 ++ [y'])) := by simp
theorem C1 : List.map stT d0 ++ [stT y] = List.map stT (d0 ++ [y]) := by simp
end
section
variable {P : Program} {n : Nat} {ρ : Fr} {w w0 : World} {B : Code} {p : List Bool} {k : Nat} {K : Fr → World → Prop} {S : List Nat} {es es' : List Ent} {dst : Option Nat} {A : Option Addr} {c i : Nat} {d0 : List Qw} {y y' : Qw} {b off : Nat}
theorem Bw (h : SP S w0 w es) (hi : es[i]? = some (Yv A c (d0 ++ [y]))) (he : es' = es.set i (Ve 33 V9 A c (d0 ++ [y])) ++ [Rj d0] ++ [B4 y] ++ [B5 y]) : SP S w0 w es' := by
  have h1 := h.openT hi rfl
  refine h1.splitI (j := es.length) (d0 := d0) (y := y) (by rw [List.getElem?_append_right (by simp)]; simp) ?_
  rw [he, List.set_append_right _ _ (by simp)]
  simp
theorem D2 (h : SP S w0 w es) {q j m : Nat} (hi : es[i]? = some (Ve 33 V9 A c (d0 ++ [y]))) (hq : es[q]? = some (Rj d0)) (hj : es[j]? = some (B4 y)) (hm : es[m]? = some (B5 y)) (h1 : i < q) (h2 : q < j) (h3 : j < m) (he : es' = ((((es.set q (Rj (d0 ++ [y]))).eraseIdx m).eraseIdx j).set i (Yv A c (d0 ++ [y]))).eraseIdx q) : SP S w0 w es' := by
  have s1 := h.joinI hq hj hm h2 h3 rfl
  have hlt : i < es.length := (List.getElem?_eq_some_iff.1 hi).1
  have hlq : q < es.length := (List.getElem?_eq_some_iff.1 hq).1
  refine s1.closeT (i := i) (j := q) (A := A) (c := c) (d := d0 ++ [y]) ?_ ?_ (by omega) he
  · rw [List.getElem?_eraseIdx, if_pos (by omega), List.getElem?_eraseIdx, if_pos (by omega), List.getElem?_set, if_neg (by omega)]
    exact hi
  · rw [List.getElem?_eraseIdx, if_pos (by omega), List.getElem?_eraseIdx, if_pos (by omega), List.getElem?_set, if_pos rfl, if_pos hlq]
theorem N0 (h : (Ve 33 V9 A c (d0 ++ [y])).ok w) (hA : A = some ⟨b, off, none⟩) {f : Nat} {v : Value} (hv : (V9.enc y)[f]? = some v) : w.cell? ⟨b, off + List.length d0 * V9.sz + f, none⟩ = some v := by
  obtain ⟨_, _, _, h4⟩ := Vr h
  obtain ⟨b', off', hA', _, hc⟩ := h4 (by simp)
  rw [hA] at hA'
  injection hA' with hA'
  injection hA' with h5 h6
  subst h5 h6
  have := Uy V9 (l := d0 ++ [y]) (i := d0.length) (x := y) (by simp) hv
  rw [Nat.add_assoc]
  exact hc _ _ this
theorem set_last : (d0 ++ [y]).set d0.length y' = d0 ++ [y'] := by simp
theorem Rr {f : Nat} {t : TypeId} {x z : Operand} {v : Value} (ho : N3 (Qe B p) k ρ = some (.store t x z, dst)) (hd : Xk n dst = true) (hA : A = some ⟨b, off, none⟩) (hx : opv ρ x = .pointer (some ⟨b, off + List.length d0 * V9.sz + f, none⟩)) (hz : opv ρ z = v)
    (hs : SP S w0 w es) (hi : es[i]? = some (Ve 33 V9 A c (d0 ++ [y]))) (hf : Nat.ble (f + 1) V9.sz = true) (hv : V9.enc y' = (V9.enc y).set f v) (ht : (P.info? t).map (·.size) = some 1)
    (next : ∀ w' : World, SP S w0 w' (es.set i (Ve 33 V9 A c (d0 ++ [y']))) → K (J1 ρ dst undef) w') : Qm P n B p k K ρ w := by
  refine B6 (x0 := y) (x' := y') (q := d0.length) ho hd hA hx hz hs hi (by simp) (Nat.le_of_ble_eq_true hf) hv ht fun w' hs' => ?_
  rw [set_last] at hs'
  exact next w' hs'
end
end Go.Proofs.YtoflbpmbkmephaaGreatDoor
namespace Go.Proofs.YtoflbpmbkmephaaGreatDoor
open Go.RowKit
def Xo (q2 : Int) (q3 : Int) (q4 : Int) (q5 : Int) (q7 : Int) (a : (Int × Bool)) (b : Bool) : Option (Int × Int × Int × Int × Int × Int × Bool) :=
  (some (a.1, q2, q3, q4, q5, q7, b))
def Vz (q2 : Int) (q3 : Int) (q4 : Int) (q5 : Int) (q7 : Int) (q8 : Bool) (p9 : (List UInt8)) : Option (Int × Int × Int × Int × Int × Int × Bool) :=
  ((Uh p9).bind fun a => (cond q8 (Xo q2 q3 q4 q5 q7 a true) (Xo q2 q3 q4 q5 q7 a (!a.2))))
set_option maxHeartbeats 40000000 in
theorem Va {S : List Nat} (g1 : Nat) (v6 : Value) (q2 : Int) (q3 : Int) (q4 : Int) (q5 : Int) (q7 : Int) (q8 : Bool) (p9 : (List UInt8)) (w0 : World) (hL : ∀ w, Mod S w0 w → Ur w) (hO : SP S w0 w0 [Qr g1 72 #[(.int .i64 q2), (.int .i64 q3), (.int .i64 q4), (.int .i64 q5), v6, (.int .i64 q7), (.bool q8)]])  (r : (Int × Int × Int × Int × Int × Int × Bool)) (H : Vz q2 q3 q4 q5 q7 q8 p9 = some r) :
  Calls Tryz.prog 164 #[(pt g1 0), (.string ⟨List.toArray p9⟩)] w0 (fun e w' => e = .returned (.int .i64 r.1) ∧ SP S w0 w' [Qr g1 72 #[(.int .i64 r.2.1), (.int .i64 r.2.2.1), (.int .i64 r.2.2.2.1), (.int .i64 r.2.2.2.2.1), v6, (.int .i64 r.2.2.2.2.2.1), (.bool r.2.2.2.2.2.2)]]) := by
 unfold Vz at H
 refine Qz (n := 24) Tryz.func164 K K K ?_
 have j := hO
 refine aQ ?_
 refine aR ?_
 refine iR 1 1 [(4, (.int .i64 0))] ?_
 refine iF ?_
 refine aQ ?_
 refine aR ?_
 refine iR 1 1 [(8, (.string ⟨List.toArray p9⟩))] ?_
 obtain ⟨a, o, H⟩ := Qc H
 refine iS 2 ?_
 refine cF 135 #[(.tmp 8)] #[9] 9 Tryz.call135 (Xr  p9 w0 (hL w0 (SP.mod j)) a o) ?_
 rintro e u ⟨rfl, m⟩
 refine ⟨_, rfl, ?_⟩
 have c := SP.call j m
 clear m
 refine iR 5 7 [(7, (.tuple #[(.int .i64 a.1), (.bool a.2)])), (10, (.int .i64 a.1)), (11, (.bool a.2)), (5, (.int .i64 a.1)), (6, (.bool a.2))] ?_
 refine iF ?_
 refine aQ ?_
 refine At.join (fun ρ w => ∃ (f : Bool), Zd ρ [(5, (.int .i64 a.1))] ∧ SP S w0 w [Qr g1 72 #[(.int .i64 q2), (.int .i64 q3), (.int .i64 q4), (.int .i64 q5), v6, (.int .i64 q7), (.bool f)]] ∧ Xo q2 q3 q4 q5 q7 a f = some r) ?_ ?_
 ·refine aR ?_
  refine iR 4 4 [(12, (pt g1 0)), (13, (pt g1 0)), (14, (pt g1 0)), (15, (pt g1 6))] ?_
  refine iS 5 ?_
  refine sL 4 15 g1 6 0 (.bool q8) 16 c rfl ?_
  refine iR 1 6 [(17, (.bool q8))] ?_
  refine In.guard (t := 17) (b := q8) K (fun h => ?_) (fun h => ?_)
  ·have H := ct H h
   refine iR 5 11 [(18, undef), (19, undef), (20, (.bool true)), (21, (pt g1 0)), (22, (pt g1 6))] ?_
   refine iS 12 ?_
   refine Qm.store (t := 4) (x := (.tmp 22)) (y := (.tmp 20)) (g := g1) (off := 6) (i := 0) (v := (.bool true)) (cs' := #[(.int .i64 q2), (.int .i64 q3), (.int .i64 q4), (.int .i64 q5), v6, (.int .i64 q7), (.bool true)]) (d := none) (k := 11) K rfl K K c rfl K ?_
   intro z p
   refine iF ?_
   exact ⟨true, ⟨K, trivial⟩, SP.sel p [0] rfl rfl, H⟩
  ·have H := cf H h
   refine iR 5 11 [(18, (.bool a.2)), (19, (.bool (!a.2))), (20, (.bool (!a.2))), (21, (pt g1 0)), (22, (pt g1 6))] ?_
   refine iS 12 ?_
   refine Qm.store (t := 4) (x := (.tmp 22)) (y := (.tmp 20)) (g := g1) (off := 6) (i := 0) (v := (.bool (!a.2))) (cs' := #[(.int .i64 q2), (.int .i64 q3), (.int .i64 q4), (.int .i64 q5), v6, (.int .i64 q7), (.bool (!a.2))]) (d := none) (k := 11) K rfl K K c rfl K ?_
   intro a0 q
   refine iF ?_
   exact ⟨(!a.2), ⟨K, trivial⟩, SP.sel q [0] rfl rfl, H⟩
 ·rintro ρ a1 ⟨f, hk, s, H⟩
  unfold Xo at H
  first | refine At.known [(5, (.int .i64 a.1))] hk ?_ | rw [← Q1 (l := [(5, (.int .i64 a.1))]) hk]
  refine aQ ?_
  refine aR ?_
  refine iR 2 2 [(23, (.int .i64 a.1)), (4, (.int .i64 a.1))] ?_
  refine iF ?_
  refine At.ret K ?_
  refine ⟨(.int .i64 a.1), K, ?_⟩
  obtain rfl := Qg H
  exact ⟨rfl, SP.sel s [0] rfl rfl⟩
def Y8 (q2 : Int) (q3 : Int) (q4 : Int) (q5 : Int) (q7 : Int) (q8 : Bool) (p9 : (List (List UInt8))) : Option (Int × Int × Int × Int × Int × Bool) :=
  ((idx p9 1).bind fun e => ((Vz q2 q3 q4 q5 q7 (decide (q7 > 0)) e).bind fun a => ((idx p9 2).bind fun f => ((Vz a.2.1 a.2.2.1 a.2.2.2.1 a.2.2.2.2.1 a.2.2.2.2.2.1 a.2.2.2.2.2.2 f).bind fun b => ((idx p9 3).bind fun g => ((Vz b.2.1 b.2.2.1 b.2.2.2.1 b.2.2.2.2.1 b.2.2.2.2.2.1 b.2.2.2.2.2.2 g).bind fun c => ((idx p9 4).bind fun h => ((Vz c.2.1 c.2.2.1 c.2.2.2.1 c.2.2.2.2.1 c.2.2.2.2.2.1 c.2.2.2.2.2.2 h).bind fun d => (some (a.1, b.1, c.1, d.1, d.2.2.2.2.2.1, d.2.2.2.2.2.2))))))))))
set_option maxHeartbeats 40000000 in
theorem Nc {S : List Nat} (g1 : Nat) (v6 : Value) (q : Option Addr) (s : Nat) (q2 : Int) (q3 : Int) (q4 : Int) (q5 : Int) (q7 : Int) (q8 : Bool) (p9 : (List (List UInt8))) (w0 : World) (hL : ∀ w, Mod S w0 w → Ur w) (hO : SP S w0 w0 [Qr g1 72 #[(.int .i64 q2), (.int .i64 q3), (.int .i64 q4), (.int .i64 q5), v6, (.int .i64 q7), (.bool q8)]]) (u : ∀ w, Mod S w0 w → RdT Qn w q s p9) (r : (Int × Int × Int × Int × Int × Bool)) (H : Y8 q2 q3 q4 q5 q7 q8 p9 = some r) :
  Calls Tryz.prog 142 #[(pt g1 0), (.slice q (List.length p9) s)] w0 (fun e w' => e = .returned (.tuple #[]) ∧ SP S w0 w' [Qr g1 72 #[(.int .i64 r.1), (.int .i64 r.2.1), (.int .i64 r.2.2.1), (.int .i64 r.2.2.2.1), v6, (.int .i64 r.2.2.2.2.1), (.bool r.2.2.2.2.2)]]) := by
 unfold Y8 at H
 refine Qz (n := 48) Tryz.func142 K K K ?_
 have b8 := hO
 refine aQ ?_
 refine aR ?_
 refine iR 4 4 [(4, (pt g1 0)), (5, (pt g1 0)), (6, (pt g1 0)), (7, (pt g1 5))] ?_
 refine iS 5 ?_
 refine sL 3 7 g1 5 0 (.int .i64 q7) 8 b8 rfl ?_
 refine iR 3 8 [(9, (.bool (decide (q7 > 0)))), (10, (pt g1 0)), (11, (pt g1 6))] ?_
 refine iS 9 ?_
 refine Qm.store (t := 4) (x := (.tmp 11)) (y := (.tmp 9)) (g := g1) (off := 6) (i := 0) (v := (.bool (decide (q7 > 0)))) (cs' := #[(.int .i64 q2), (.int .i64 q3), (.int .i64 q4), (.int .i64 q5), v6, (.int .i64 q7), (.bool (decide (q7 > 0)))]) (d := none) (k := 8) K rfl K K b8 rfl K ?_
 intro q9 d1
 refine iF ?_
 obtain ⟨b1, b9, c0, d2, H⟩ := Vc H
 obtain ⟨m, d3, H⟩ := Qc H
 obtain ⟨a7, a8, a9, c1, H⟩ := Vc H
 obtain ⟨o, d4, H⟩ := Qc H
 obtain ⟨a5, a2, a3, b2, H⟩ := Vc H
 obtain ⟨p, d5, H⟩ := Qc H
 obtain ⟨a4, z, a0, b0, H⟩ := Vc H
 obtain ⟨f, d6, H⟩ := Qc H
 refine aG [GEq (pt g1 0), GEq (pt g1 0), GEq (pt g1 0), GEq (pt g1 0), GEq (pt g1 0), GEq (.slice q (List.length p9) s), Z2 q Qn.sz 1, GEq (.string ⟨List.toArray b1⟩), GEq (.int .i64 m.1), GEq (pt g1 0), GEq (.slice q (List.length p9) s), Z2 q Qn.sz 2, GEq (.string ⟨List.toArray a7⟩), GEq (.int .i64 o.1), GEq (pt g1 0), GEq (.slice q (List.length p9) s), Z2 q Qn.sz 3, GEq (.string ⟨List.toArray a5⟩), GEq (.int .i64 p.1), GEq (pt g1 0), GEq (.slice q (List.length p9) s), Z2 q Qn.sz 4, GEq (.string ⟨List.toArray a4⟩), GEq (.int .i64 f.1), GEq (pt g1 0), GEq (pt g1 0), GEq (pt g1 0), N2, GEq (pt g1 0), GEq (pt g1 0), GEq (pt g1 1), N2, GEq (pt g1 0), GEq (pt g1 0), GEq (pt g1 2), N2, GEq (pt g1 0), GEq (pt g1 0), GEq (pt g1 3), N2] [8, 13, 18, 23, 27, 31, 35, 39] [sG [] [] S w0 [Qr g1 72 #[(.int .i64 q2), (.int .i64 q3), (.int .i64 q4), (.int .i64 q5), v6, (.int .i64 q7), (.bool (decide (q7 > 0)))]], sG [8] [(.int .i64 m.1)] S w0 [Qr g1 72 #[(.int .i64 m.2.1), (.int .i64 m.2.2.1), (.int .i64 m.2.2.2.1), (.int .i64 m.2.2.2.2.1), v6, (.int .i64 m.2.2.2.2.2.1), (.bool m.2.2.2.2.2.2)]], sG [8, 13] [(.int .i64 m.1), (.int .i64 o.1)] S w0 [Qr g1 72 #[(.int .i64 o.2.1), (.int .i64 o.2.2.1), (.int .i64 o.2.2.2.1), (.int .i64 o.2.2.2.2.1), v6, (.int .i64 o.2.2.2.2.2.1), (.bool o.2.2.2.2.2.2)]], sG [8, 13, 18] [(.int .i64 m.1), (.int .i64 o.1), (.int .i64 p.1)] S w0 [Qr g1 72 #[(.int .i64 p.2.1), (.int .i64 p.2.2.1), (.int .i64 p.2.2.2.1), (.int .i64 p.2.2.2.2.1), v6, (.int .i64 p.2.2.2.2.2.1), (.bool p.2.2.2.2.2.2)]], sG [8, 13, 18, 23] [(.int .i64 m.1), (.int .i64 o.1), (.int .i64 p.1), (.int .i64 f.1)] S w0 [Qr g1 72 #[(.int .i64 f.2.1), (.int .i64 f.2.2.1), (.int .i64 f.2.2.2.1), (.int .i64 f.2.2.2.2.1), v6, (.int .i64 f.2.2.2.2.2.1), (.bool f.2.2.2.2.2.2)]], sG [8, 13, 18, 23, 27] [(.int .i64 m.1), (.int .i64 o.1), (.int .i64 p.1), (.int .i64 f.1), undef] S w0 [Qr g1 72 #[(.int .i64 m.1), (.int .i64 f.2.2.1), (.int .i64 f.2.2.2.1), (.int .i64 f.2.2.2.2.1), v6, (.int .i64 f.2.2.2.2.2.1), (.bool f.2.2.2.2.2.2)]], sG [8, 13, 18, 23, 27, 31] [(.int .i64 m.1), (.int .i64 o.1), (.int .i64 p.1), (.int .i64 f.1), undef, undef] S w0 [Qr g1 72 #[(.int .i64 m.1), (.int .i64 o.1), (.int .i64 f.2.2.2.1), (.int .i64 f.2.2.2.2.1), v6, (.int .i64 f.2.2.2.2.2.1), (.bool f.2.2.2.2.2.2)]], sG [8, 13, 18, 23, 27, 31, 35] [(.int .i64 m.1), (.int .i64 o.1), (.int .i64 p.1), (.int .i64 f.1), undef, undef, undef] S w0 [Qr g1 72 #[(.int .i64 m.1), (.int .i64 o.1), (.int .i64 p.1), (.int .i64 f.2.2.2.2.1), v6, (.int .i64 f.2.2.2.2.2.1), (.bool f.2.2.2.2.2.2)]], sG [8, 13, 18, 23, 27, 31, 35, 39] [(.int .i64 m.1), (.int .i64 o.1), (.int .i64 p.1), (.int .i64 f.1), undef, undef, undef, undef] S w0 [Qr g1 72 #[(.int .i64 m.1), (.int .i64 o.1), (.int .i64 p.1), (.int .i64 f.1), v6, (.int .i64 f.2.2.2.2.2.1), (.bool f.2.2.2.2.2.2)]]] 40 8 ⟨trivial, SP.drew d1⟩ ?_ ?_
 iterate 40 refine And.intro ?_ ?_
 exact trivial
 ·exact oV (hC (hS 0 (pt g1 0)) (h0)) (pt g1 0)
 ·exact oV (hC (hS 0 (pt g1 0)) (h0)) (pt g1 0)
 ·exact oV (hC (hS 0 (pt g1 0)) (h0)) (pt g1 0)
 ·exact oV (hC (hS 0 (pt g1 0)) (h0)) (pt g1 0)
 ·exact oV (hC (hS 0 (pt g1 0)) (h0)) (pt g1 0)
 ·exact oV (hC (hS 1 (.slice q (List.length p9) s)) (h0)) (.slice q (List.length p9) s)
 ·refine oL 0 ?_
  ·rintro ρ' w' hs a ⟨r0, d7⟩
   refine kM (kc (kA a 5 17) k0) fun b => ?_
   refine Qp (e := Qn) (l := p9) (A := q) (c := s) (T := 79) (E := 9) (x := (.tmp 17)) (ix := (.const (.int .i64 (1)))) (ki := .i64) (iz := 1) (d := (some 18)) (k := 6) K rfl K K K K (u w' (SP.mod d7)) b9 c0 ?_
   intro d8 d9 e0 r1 hc658
   exact ⟨rfl, _, Qa b, ⟨d8, d9, e0, rfl⟩⟩
 ·refine oL 0 ?_
  ·rintro ρ' w' hs a ⟨r2, e1⟩
   obtain ⟨e2, e3, e4, e5⟩ := a 6 18 K
   refine kM (kc e5 k0) fun b => ?_
   refine sC 9 18 e2 (e3 + Int.toNat 1 * Qn.sz) (.string ⟨List.toArray b1⟩) 19 (Qt (e := Qn) (Qo (u w' (SP.mod e1)) e4 b9 c0) d2 (j := 0) rfl) ?_
   exact eK b
 ·refine oH 0 1 ?_
  ·rintro ρ' w' hs a ⟨r3, b3⟩
   refine kM (kc (kA a 4 16) (kc (kA a 7 19) k0)) fun b => ?_
   refine cF 164 #[(.tmp 16), (.tmp 19)] #[70, 9] 20 Tryz.call164 (Va g1 v6 q2 q3 q4 q5 q7 (decide (q7 > 0)) b1 w' (fun w hm => hL w (SP.through b3 (l := [0]) rfl hm)) (Je b3 [0] rfl rfl) m d3) ?_
   rintro e e6 ⟨rfl, c2⟩
   refine ⟨_, rfl, ?_⟩
   have e7 : SP S w0 e6 [Qr g1 72 #[(.int .i64 m.2.1), (.int .i64 m.2.2.1), (.int .i64 m.2.2.2.1), (.int .i64 m.2.2.2.2.1), v6, (.int .i64 m.2.2.2.2.2.1), (.bool m.2.2.2.2.2.2)]] := Zl b3 [0] [] rfl rfl c2 rfl
   clear c2
   refine ⟨_, Qa b, rfl, ?_⟩
   exact (And.intro (And.intro rfl (trivial)) e7)
 ·exact oV (hC (hS 0 (pt g1 0)) (h0)) (pt g1 0)
 ·exact oV (hC (hS 1 (.slice q (List.length p9) s)) (h0)) (.slice q (List.length p9) s)
 ·refine Owe.light K [0, 1] K (Qb ?_ (Qb ?_ Qy))
  ·rintro ρ' w' hs a ⟨r4, e8⟩
   refine kM (kc (kA a 10 22) k0) fun b => ?_
   refine Qp (e := Qn) (l := p9) (A := q) (c := s) (T := 79) (E := 9) (x := (.tmp 22)) (ix := (.const (.int .i64 (2)))) (ki := .i64) (iz := 2) (d := (some 23)) (k := 11) K rfl K K K K (u w' (SP.mod e8)) a8 a9 ?_
   intro e9 f0 f1 r5 hc676
   exact ⟨rfl, _, Qa b, ⟨e9, f0, f1, rfl⟩⟩
  ·rintro ρ' w' hs a ⟨⟨r6, -⟩, f2⟩
   refine kM (kc (kA a 10 22) k0) fun b => ?_
   refine Qp (e := Qn) (l := p9) (A := q) (c := s) (T := 79) (E := 9) (x := (.tmp 22)) (ix := (.const (.int .i64 (2)))) (ki := .i64) (iz := 2) (d := (some 23)) (k := 11) K rfl K K K K (u w' (SP.mod f2)) a8 a9 ?_
   intro f3 f4 f5 r7 hc684
   exact ⟨rfl, _, Qa b, ⟨f3, f4, f5, rfl⟩⟩
 ·refine Owe.light K [0, 1] K (Qb ?_ (Qb ?_ Qy))
  ·rintro ρ' w' hs a ⟨r8, f6⟩
   obtain ⟨f7, f8, f9, b4⟩ := a 11 23 K
   refine kM (kc b4 k0) fun b => ?_
   refine sC 9 23 f7 (f8 + Int.toNat 2 * Qn.sz) (.string ⟨List.toArray a7⟩) 24 (Qt (e := Qn) (Qo (u w' (SP.mod f6)) f9 a8 a9) c1 (j := 0) rfl) ?_
   exact eK b
  ·rintro ρ' w' hs a ⟨⟨r9, -⟩, g0⟩
   obtain ⟨g2, g3, g4, b4⟩ := a 11 23 K
   refine kM (kc b4 k0) fun b => ?_
   refine sC 9 23 g2 (g3 + Int.toNat 2 * Qn.sz) (.string ⟨List.toArray a7⟩) 24 (Qt (e := Qn) (Qo (u w' (SP.mod g0)) g4 a8 a9) c1 (j := 0) rfl) ?_
   exact eK b
 ·refine oH 1 2 ?_
  ·rintro ρ' w' hs a ⟨⟨g5, -⟩, b5⟩
   refine kM (kc (kA a 9 21) (kc (kA a 12 24) k0)) fun b => ?_
   refine cF 164 #[(.tmp 21), (.tmp 24)] #[70, 9] 25 Tryz.call164 (Va g1 v6 m.2.1 m.2.2.1 m.2.2.2.1 m.2.2.2.2.1 m.2.2.2.2.2.1 m.2.2.2.2.2.2 a7 w' (fun w hm => hL w (SP.through b5 (l := [0]) rfl hm)) (Je b5 [0] rfl rfl) o d4) ?_
   rintro e g6 ⟨rfl, c3⟩
   refine ⟨_, rfl, ?_⟩
   have g7 : SP S w0 g6 [Qr g1 72 #[(.int .i64 o.2.1), (.int .i64 o.2.2.1), (.int .i64 o.2.2.2.1), (.int .i64 o.2.2.2.2.1), v6, (.int .i64 o.2.2.2.2.2.1), (.bool o.2.2.2.2.2.2)]] := Zl b5 [0] [] rfl rfl c3 rfl
   clear c3
   refine ⟨_, Qa b, rfl, ?_⟩
   exact (And.intro (And.intro g5 (And.intro rfl (trivial))) g7)
 ·exact oV (hC (hS 0 (pt g1 0)) (h0)) (pt g1 0)
 ·exact oV (hC (hS 1 (.slice q (List.length p9) s)) (h0)) (.slice q (List.length p9) s)
 ·refine Owe.light K [0, 1, 2] K (Qb ?_ (Qb ?_ (Qb ?_ Qy)))
  ·rintro ρ' w' hs a ⟨s0, g8⟩
   refine kM (kc (kA a 15 27) k0) fun b => ?_
   refine Qp (e := Qn) (l := p9) (A := q) (c := s) (T := 79) (E := 9) (x := (.tmp 27)) (ix := (.const (.int .i64 (3)))) (ki := .i64) (iz := 3) (d := (some 28)) (k := 16) K rfl K K K K (u w' (SP.mod g8)) a2 a3 ?_
   intro g9 h1 h2 s1 hc709
   exact ⟨rfl, _, Qa b, ⟨g9, h1, h2, rfl⟩⟩
  ·rintro ρ' w' hs a ⟨⟨s2, -⟩, h3⟩
   refine kM (kc (kA a 15 27) k0) fun b => ?_
   refine Qp (e := Qn) (l := p9) (A := q) (c := s) (T := 79) (E := 9) (x := (.tmp 27)) (ix := (.const (.int .i64 (3)))) (ki := .i64) (iz := 3) (d := (some 28)) (k := 16) K rfl K K K K (u w' (SP.mod h3)) a2 a3 ?_
   intro h4 h5 h6 s3 hc717
   exact ⟨rfl, _, Qa b, ⟨h4, h5, h6, rfl⟩⟩
  ·rintro ρ' w' hs a ⟨⟨s4, s5, -⟩, h7⟩
   refine kM (kc (kA a 15 27) k0) fun b => ?_
   refine Qp (e := Qn) (l := p9) (A := q) (c := s) (T := 79) (E := 9) (x := (.tmp 27)) (ix := (.const (.int .i64 (3)))) (ki := .i64) (iz := 3) (d := (some 28)) (k := 16) K rfl K K K K (u w' (SP.mod h7)) a2 a3 ?_
   intro h8 h9 i0 s6 hc726
   exact ⟨rfl, _, Qa b, ⟨h8, h9, i0, rfl⟩⟩
 ·refine Owe.light K [0, 1, 2] K (Qb ?_ (Qb ?_ (Qb ?_ Qy)))
  ·rintro ρ' w' hs a ⟨s7, i1⟩
   obtain ⟨i2, i3, i4, a6⟩ := a 16 28 K
   refine kM (kc a6 k0) fun b => ?_
   refine sC 9 28 i2 (i3 + Int.toNat 3 * Qn.sz) (.string ⟨List.toArray a5⟩) 29 (Qt (e := Qn) (Qo (u w' (SP.mod i1)) i4 a2 a3) b2 (j := 0) rfl) ?_
   exact eK b
  ·rintro ρ' w' hs a ⟨⟨s8, -⟩, i5⟩
   obtain ⟨i6, i7, i8, a6⟩ := a 16 28 K
   refine kM (kc a6 k0) fun b => ?_
   refine sC 9 28 i6 (i7 + Int.toNat 3 * Qn.sz) (.string ⟨List.toArray a5⟩) 29 (Qt (e := Qn) (Qo (u w' (SP.mod i5)) i8 a2 a3) b2 (j := 0) rfl) ?_
   exact eK b
  ·rintro ρ' w' hs a ⟨⟨s9, t0, -⟩, i9⟩
   obtain ⟨j0, j1, j2, a6⟩ := a 16 28 K
   refine kM (kc a6 k0) fun b => ?_
   refine sC 9 28 j0 (j1 + Int.toNat 3 * Qn.sz) (.string ⟨List.toArray a5⟩) 29 (Qt (e := Qn) (Qo (u w' (SP.mod i9)) j2 a2 a3) b2 (j := 0) rfl) ?_
   exact eK b
 ·refine oH 2 3 ?_
  ·rintro ρ' w' hs a ⟨⟨j3, j4, -⟩, b6⟩
   refine kM (kc (kA a 14 26) (kc (kA a 17 29) k0)) fun b => ?_
   refine cF 164 #[(.tmp 26), (.tmp 29)] #[70, 9] 30 Tryz.call164 (Va g1 v6 o.2.1 o.2.2.1 o.2.2.2.1 o.2.2.2.2.1 o.2.2.2.2.2.1 o.2.2.2.2.2.2 a5 w' (fun w hm => hL w (SP.through b6 (l := [0]) rfl hm)) (Je b6 [0] rfl rfl) p d5) ?_
   rintro e j5 ⟨rfl, c4⟩
   refine ⟨_, rfl, ?_⟩
   have j6 : SP S w0 j5 [Qr g1 72 #[(.int .i64 p.2.1), (.int .i64 p.2.2.1), (.int .i64 p.2.2.2.1), (.int .i64 p.2.2.2.2.1), v6, (.int .i64 p.2.2.2.2.2.1), (.bool p.2.2.2.2.2.2)]] := Zl b6 [0] [] rfl rfl c4 rfl
   clear c4
   refine ⟨_, Qa b, rfl, ?_⟩
   exact (And.intro (And.intro j3 (And.intro j4 (And.intro rfl (trivial)))) j6)
 ·exact oV (hC (hS 0 (pt g1 0)) (h0)) (pt g1 0)
 ·exact oV (hC (hS 1 (.slice q (List.length p9) s)) (h0)) (.slice q (List.length p9) s)
 ·refine Owe.light K [0, 1, 2, 3] K (Qb ?_ (Qb ?_ (Qb ?_ (Qb ?_ Qy))))
  ·rintro ρ' w' hs a ⟨t1, j7⟩
   refine kM (kc (kA a 20 32) k0) fun b => ?_
   refine Qp (e := Qn) (l := p9) (A := q) (c := s) (T := 79) (E := 9) (x := (.tmp 32)) (ix := (.const (.int .i64 (4)))) (ki := .i64) (iz := 4) (d := (some 33)) (k := 21) K rfl K K K K (u w' (SP.mod j7)) z a0 ?_
   intro j8 j9 k1 t2 hc759
   exact ⟨rfl, _, Qa b, ⟨j8, j9, k1, rfl⟩⟩
  ·rintro ρ' w' hs a ⟨⟨t3, -⟩, k2⟩
   refine kM (kc (kA a 20 32) k0) fun b => ?_
   refine Qp (e := Qn) (l := p9) (A := q) (c := s) (T := 79) (E := 9) (x := (.tmp 32)) (ix := (.const (.int .i64 (4)))) (ki := .i64) (iz := 4) (d := (some 33)) (k := 21) K rfl K K K K (u w' (SP.mod k2)) z a0 ?_
   intro k3 k4 k5 t4 hc767
   exact ⟨rfl, _, Qa b, ⟨k3, k4, k5, rfl⟩⟩
  ·rintro ρ' w' hs a ⟨⟨t5, t6, -⟩, k6⟩
   refine kM (kc (kA a 20 32) k0) fun b => ?_
   refine Qp (e := Qn) (l := p9) (A := q) (c := s) (T := 79) (E := 9) (x := (.tmp 32)) (ix := (.const (.int .i64 (4)))) (ki := .i64) (iz := 4) (d := (some 33)) (k := 21) K rfl K K K K (u w' (SP.mod k6)) z a0 ?_
   intro k7 k8 k9 t7 hc776
   exact ⟨rfl, _, Qa b, ⟨k7, k8, k9, rfl⟩⟩
  ·rintro ρ' w' hs a ⟨⟨t8, t9, u0, -⟩, l0⟩
   refine kM (kc (kA a 20 32) k0) fun b => ?_
   refine Qp (e := Qn) (l := p9) (A := q) (c := s) (T := 79) (E := 9) (x := (.tmp 32)) (ix := (.const (.int .i64 (4)))) (ki := .i64) (iz := 4) (d := (some 33)) (k := 21) K rfl K K K K (u w' (SP.mod l0)) z a0 ?_
   intro l1 l2 l3 u1 hc786
   exact ⟨rfl, _, Qa b, ⟨l1, l2, l3, rfl⟩⟩
 ·refine Owe.light K [0, 1, 2, 3] K (Qb ?_ (Qb ?_ (Qb ?_ (Qb ?_ Qy))))
  ·rintro ρ' w' hs a ⟨u2, l4⟩
   obtain ⟨l5, l6, l7, a1⟩ := a 21 33 K
   refine kM (kc a1 k0) fun b => ?_
   refine sC 9 33 l5 (l6 + Int.toNat 4 * Qn.sz) (.string ⟨List.toArray a4⟩) 34 (Qt (e := Qn) (Qo (u w' (SP.mod l4)) l7 z a0) b0 (j := 0) rfl) ?_
   exact eK b
  ·rintro ρ' w' hs a ⟨⟨u3, -⟩, l8⟩
   obtain ⟨l9, m0, m1, a1⟩ := a 21 33 K
   refine kM (kc a1 k0) fun b => ?_
   refine sC 9 33 l9 (m0 + Int.toNat 4 * Qn.sz) (.string ⟨List.toArray a4⟩) 34 (Qt (e := Qn) (Qo (u w' (SP.mod l8)) m1 z a0) b0 (j := 0) rfl) ?_
   exact eK b
  ·rintro ρ' w' hs a ⟨⟨u4, u5, -⟩, m2⟩
   obtain ⟨m3, m4, m5, a1⟩ := a 21 33 K
   refine kM (kc a1 k0) fun b => ?_
   refine sC 9 33 m3 (m4 + Int.toNat 4 * Qn.sz) (.string ⟨List.toArray a4⟩) 34 (Qt (e := Qn) (Qo (u w' (SP.mod m2)) m5 z a0) b0 (j := 0) rfl) ?_
   exact eK b
  ·rintro ρ' w' hs a ⟨⟨u6, u7, u8, -⟩, m6⟩
   obtain ⟨m7, m8, m9, a1⟩ := a 21 33 K
   refine kM (kc a1 k0) fun b => ?_
   refine sC 9 33 m7 (m8 + Int.toNat 4 * Qn.sz) (.string ⟨List.toArray a4⟩) 34 (Qt (e := Qn) (Qo (u w' (SP.mod m6)) m9 z a0) b0 (j := 0) rfl) ?_
   exact eK b
 ·refine oH 3 4 ?_
  ·rintro ρ' w' hs a ⟨⟨n0, n1, n2, -⟩, b7⟩
   refine kM (kc (kA a 19 31) (kc (kA a 22 34) k0)) fun b => ?_
   refine cF 164 #[(.tmp 31), (.tmp 34)] #[70, 9] 35 Tryz.call164 (Va g1 v6 p.2.1 p.2.2.1 p.2.2.2.1 p.2.2.2.2.1 p.2.2.2.2.2.1 p.2.2.2.2.2.2 a4 w' (fun w hm => hL w (SP.through b7 (l := [0]) rfl hm)) (Je b7 [0] rfl rfl) f d6) ?_
   rintro e n3 ⟨rfl, c5⟩
   refine ⟨_, rfl, ?_⟩
   have n4 : SP S w0 n3 [Qr g1 72 #[(.int .i64 f.2.1), (.int .i64 f.2.2.1), (.int .i64 f.2.2.2.1), (.int .i64 f.2.2.2.2.1), v6, (.int .i64 f.2.2.2.2.2.1), (.bool f.2.2.2.2.2.2)]] := Zl b7 [0] [] rfl rfl c5 rfl
   clear c5
   refine ⟨_, Qa b, rfl, ?_⟩
   exact (And.intro (And.intro n0 (And.intro n1 (And.intro n2 (And.intro rfl (trivial))))) n4)
 ·exact oV (hC (hA 0 12) (h0)) (pt g1 0)
 ·exact oV (hC (hA 24 36) (h0)) (pt g1 0)
 ·exact oV (hC (hA 25 37) (h0)) (pt g1 0)
 ·refine oH 4 5 ?_
  ·rintro ρ' w' hs a ⟨⟨c6, n5, n6, n7, -⟩, n8⟩
   refine kN [(38, (pt g1 0)), (20, (.int .i64 m.1))] ⟨a 26 38 K, (Q9 (h := 8) K).symm.trans c6, trivial⟩ fun b => ?_
   refine Qm.store (t := 2) (x := (.tmp 38)) (y := (.tmp 20)) (g := g1) (off := 0) (i := 0) (v := (.int .i64 m.1)) (cs' := #[(.int .i64 m.1), (.int .i64 f.2.2.1), (.int .i64 f.2.2.2.1), (.int .i64 f.2.2.2.2.1), v6, (.int .i64 f.2.2.2.2.2.1), (.bool f.2.2.2.2.2.2)]) (d := none) (k := 27) K rfl K K n8 rfl K ?_
   intro u9 n9
   refine ⟨_, Qa b, trivial, ?_⟩
   exact (And.intro (And.intro c6 (And.intro n5 (And.intro n6 (And.intro n7 (And.intro rfl (trivial)))))) n9)
 ·exact oV (hC (hA 1 13) (h0)) (pt g1 0)
 ·exact oV (hC (hA 28 39) (h0)) (pt g1 0)
 ·exact oV (hC (hA 29 40) (h0)) (pt g1 1)
 ·refine oH 5 6 ?_
  ·rintro ρ' w' hs a ⟨⟨o0, c7, o1, o2, o3, -⟩, o4⟩
   refine kN [(41, (pt g1 1)), (25, (.int .i64 o.1))] ⟨a 30 41 K, (Q9 (h := 13) K).symm.trans c7, trivial⟩ fun b => ?_
   refine Qm.store (t := 2) (x := (.tmp 41)) (y := (.tmp 25)) (g := g1) (off := 1) (i := 0) (v := (.int .i64 o.1)) (cs' := #[(.int .i64 m.1), (.int .i64 o.1), (.int .i64 f.2.2.2.1), (.int .i64 f.2.2.2.2.1), v6, (.int .i64 f.2.2.2.2.2.1), (.bool f.2.2.2.2.2.2)]) (d := none) (k := 31) K rfl K K o4 rfl K ?_
   intro v0 o5
   refine ⟨_, Qa b, trivial, ?_⟩
   exact (And.intro (And.intro o0 (And.intro c7 (And.intro o1 (And.intro o2 (And.intro o3 (And.intro rfl (trivial))))))) o5)
 ·exact oV (hC (hA 2 14) (h0)) (pt g1 0)
 ·exact oV (hC (hA 32 42) (h0)) (pt g1 0)
 ·exact oV (hC (hA 33 43) (h0)) (pt g1 2)
 ·refine oH 6 7 ?_
  ·rintro ρ' w' hs a ⟨⟨o6, o7, c8, o8, o9, p0, -⟩, p1⟩
   refine kN [(44, (pt g1 2)), (30, (.int .i64 p.1))] ⟨a 34 44 K, (Q9 (h := 18) K).symm.trans c8, trivial⟩ fun b => ?_
   refine Qm.store (t := 2) (x := (.tmp 44)) (y := (.tmp 30)) (g := g1) (off := 2) (i := 0) (v := (.int .i64 p.1)) (cs' := #[(.int .i64 m.1), (.int .i64 o.1), (.int .i64 p.1), (.int .i64 f.2.2.2.2.1), v6, (.int .i64 f.2.2.2.2.2.1), (.bool f.2.2.2.2.2.2)]) (d := none) (k := 35) K rfl K K p1 rfl K ?_
   intro v1 p2
   refine ⟨_, Qa b, trivial, ?_⟩
   exact (And.intro (And.intro o6 (And.intro o7 (And.intro c8 (And.intro o8 (And.intro o9 (And.intro p0 (And.intro rfl (trivial)))))))) p2)
 ·exact oV (hC (hA 3 15) (h0)) (pt g1 0)
 ·exact oV (hC (hA 36 45) (h0)) (pt g1 0)
 ·exact oV (hC (hA 37 46) (h0)) (pt g1 3)
 ·refine oH 7 8 ?_
  ·rintro ρ' w' hs a ⟨⟨p3, p4, p5, c9, p6, p7, p8, -⟩, q0⟩
   refine kN [(47, (pt g1 3)), (35, (.int .i64 f.1))] ⟨a 38 47 K, (Q9 (h := 23) K).symm.trans c9, trivial⟩ fun b => ?_
   refine Qm.store (t := 2) (x := (.tmp 47)) (y := (.tmp 35)) (g := g1) (off := 3) (i := 0) (v := (.int .i64 f.1)) (cs' := #[(.int .i64 m.1), (.int .i64 o.1), (.int .i64 p.1), (.int .i64 f.1), v6, (.int .i64 f.2.2.2.2.2.1), (.bool f.2.2.2.2.2.2)]) (d := none) (k := 39) K rfl K K q0 rfl K ?_
   intro v2 q1
   refine ⟨_, Qa b, trivial, ?_⟩
   exact (And.intro (And.intro p3 (And.intro p4 (And.intro p5 (And.intro c9 (And.intro p6 (And.intro p7 (And.intro p8 (And.intro rfl (trivial))))))))) q1)
 ·rintro ρ' w' hs hf ⟨⟨v3, v4, v5, v7, v8, v9, w1, w2, -⟩, d0⟩
  refine Vv [] trivial ?_
  obtain ⟨w3, q6⟩ : ∃ x, w' = x := ⟨_, rfl⟩
  rw [q6] at d0 ⊢
  refine ⟨(.tuple #[]), K, ?_⟩
  obtain rfl := Qg H
  exact ⟨rfl, SP.sel d0 [0] rfl rfl⟩
def Yw (q2 : Int) (q3 : Int) (q4 : Int) (q5 : Int) (q6 : (List Qf)) (d : Int) (e : Bool) (c : (List (List UInt8))) : Option (Int × Int × Int × Int × (List Qf) × Int × Bool) :=
  ((idx c 1).bind fun f => ((idx c 2).bind fun g => ((Vz q2 q3 q4 q5 d e g).bind fun a => ((idx c 3).bind fun h => ((Vz a.2.1 a.2.2.1 a.2.2.2.1 a.2.2.2.2.1 a.2.2.2.2.2.1 a.2.2.2.2.2.2 h).bind fun b => ((app q6 ([(f, a.1, b.1, ([] : List (Int × Int)), ([] : List ((List UInt8) × (List UInt8) × Int)))] : List Qf)).bind fun i => (some (b.2.1, b.2.2.1, b.2.2.2.1, b.2.2.2.2.1, i, b.2.2.2.2.2.1, b.2.2.2.2.2.2))))))))
set_option maxHeartbeats 40000000 in
theorem Na {S : List Nat} (g1 : Nat) (A7 : Option Addr) (c8 : Nat) (u : Option Addr) (a2 : Nat) (q2 : Int) (q3 : Int) (q4 : Int) (q5 : Int) (d9 : (List Qw)) (b6 : Int) (b7 : Bool) (a0 : (List (List UInt8))) (w0 : World) (hL : ∀ w, Mod S w0 w → Ur w) (hO : SP S w0 w0 [Qr g1 72 #[(.int .i64 q2), (.int .i64 q3), (.int .i64 q4), (.int .i64 q5), (.slice A7 (List.length (List.map stT d9)) c8), (.int .i64 b6), (.bool b7)], Yv A7 c8 d9]) (a1 : ∀ w, Mod S w0 w → RdT Qn w u a2 a0) (r : (Int × Int × Int × Int × (List Qf) × Int × Bool)) (H : Yw q2 q3 q4 q5 (List.map stT d9) b6 b7 a0 = some r) :
  Calls Tryz.prog 143 #[(pt g1 0), (.slice u (List.length a0) a2)] w0 (fun e w' => ∃ (d5 : Option Addr) (d6 : Nat) (c6 : List Qw), e = .returned (.tuple #[]) ∧ r.2.2.2.2.1 = List.map stT c6 ∧ SP S w0 w' [Qr g1 72 #[(.int .i64 r.1), (.int .i64 r.2.1), (.int .i64 r.2.2.1), (.int .i64 r.2.2.2.1), (.slice d5 (List.length (List.map stT c6)) d6), (.int .i64 r.2.2.2.2.2.1), (.bool r.2.2.2.2.2.2)], Yv d5 d6 c6]) := by
 unfold Yw at H
 refine Qz (n := 31) Tryz.func143 K K K ?_
 have f2 := hO
 refine aQ ?_
 obtain ⟨q, a3, a4, b8, H⟩ := Vc H
 obtain ⟨b9, c2, c3, d7, H⟩ := Vc H
 obtain ⟨f, d8, H⟩ := Qc H
 obtain ⟨b1, a8, a9, c4, H⟩ := Vc H
 obtain ⟨a, e0, H⟩ := Qc H
 refine aG [GEq (.slice u (List.length a0) a2), Z2 u Qn.sz 1, GEq (.string ⟨List.toArray q⟩), GEq (pt g1 0), GEq (.slice u (List.length a0) a2), Z2 u Qn.sz 2, GEq (.string ⟨List.toArray b9⟩), GEq (.int .i64 f.1), GEq (pt g1 0), GEq (.slice u (List.length a0) a2), Z2 u Qn.sz 3, GEq (.string ⟨List.toArray b1⟩), GEq (.int .i64 a.1), GEq (.agg #[(.string ⟨List.toArray q⟩), (.int .i64 f.1), (.int .i64 a.1), (.slice none (List.length ([] : List (Int × Int))) 0), (.slice none (List.length ([] : List ((List UInt8) × (List UInt8) × Int))) 0)]), N2, N2] [7, 12, 14, 15] [([], fun vs w => VL vs [] ∧ SP S w0 w [Qr g1 72 #[(.int .i64 q2), (.int .i64 q3), (.int .i64 q4), (.int .i64 q5), (.slice A7 (List.length (List.map stT d9)) c8), (.int .i64 b6), (.bool b7)], Yv A7 c8 d9]), ([7], fun vs w => VL vs [(.int .i64 f.1)] ∧ SP S w0 w [Yv A7 c8 d9, Qr g1 72 #[(.int .i64 f.2.1), (.int .i64 f.2.2.1), (.int .i64 f.2.2.2.1), (.int .i64 f.2.2.2.2.1), (.slice A7 (List.length (List.map stT d9)) c8), (.int .i64 f.2.2.2.2.2.1), (.bool f.2.2.2.2.2.2)]]), ([14], fun vs w => ∃ (a5 : Nat), VL vs [(pt a5 0)] ∧ SP S w0 w [Qr g1 72 #[(.int .i64 q2), (.int .i64 q3), (.int .i64 q4), (.int .i64 q5), (.slice A7 (List.length (List.map stT d9)) c8), (.int .i64 b6), (.bool b7)], Yv A7 c8 d9, Qr a5 33 #[(.string ⟨List.toArray ([] : List UInt8)⟩), (.int .i64 0), (.int .i64 0), (.slice none (List.length ([] : List (Int × Int))) 0), (.slice none (List.length ([] : List ((List UInt8) × (List UInt8) × Int))) 0)]]), ([7, 12], fun vs w => VL vs [(.int .i64 f.1), (.int .i64 a.1)] ∧ SP S w0 w [Yv A7 c8 d9, Qr g1 72 #[(.int .i64 a.2.1), (.int .i64 a.2.2.1), (.int .i64 a.2.2.2.1), (.int .i64 a.2.2.2.2.1), (.slice A7 (List.length (List.map stT d9)) c8), (.int .i64 a.2.2.2.2.2.1), (.bool a.2.2.2.2.2.2)]]), ([7, 14], fun vs w => ∃ (a7 : Nat), VL vs [(.int .i64 f.1), (pt a7 0)] ∧ SP S w0 w [Yv A7 c8 d9, Qr g1 72 #[(.int .i64 f.2.1), (.int .i64 f.2.2.1), (.int .i64 f.2.2.2.1), (.int .i64 f.2.2.2.2.1), (.slice A7 (List.length (List.map stT d9)) c8), (.int .i64 f.2.2.2.2.2.1), (.bool f.2.2.2.2.2.2)], Qr a7 33 #[(.string ⟨List.toArray ([] : List UInt8)⟩), (.int .i64 0), (.int .i64 0), (.slice none (List.length ([] : List (Int × Int))) 0), (.slice none (List.length ([] : List ((List UInt8) × (List UInt8) × Int))) 0)]]), ([7, 12, 14], fun vs w => ∃ (b0 : Nat), VL vs [(.int .i64 f.1), (.int .i64 a.1), (pt b0 0)] ∧ SP S w0 w [Yv A7 c8 d9, Qr g1 72 #[(.int .i64 a.2.1), (.int .i64 a.2.2.1), (.int .i64 a.2.2.2.1), (.int .i64 a.2.2.2.2.1), (.slice A7 (List.length (List.map stT d9)) c8), (.int .i64 a.2.2.2.2.2.1), (.bool a.2.2.2.2.2.2)], Qr b0 33 #[(.string ⟨List.toArray ([] : List UInt8)⟩), (.int .i64 0), (.int .i64 0), (.slice none (List.length ([] : List (Int × Int))) 0), (.slice none (List.length ([] : List ((List UInt8) × (List UInt8) × Int))) 0)]]), ([7, 12, 14, 15], fun vs w => ∃ (a6 : Nat), VL vs [(.int .i64 f.1), (.int .i64 a.1), (pt a6 0), undef] ∧ SP S w0 w [Yv A7 c8 d9, Qr g1 72 #[(.int .i64 a.2.1), (.int .i64 a.2.2.1), (.int .i64 a.2.2.2.1), (.int .i64 a.2.2.2.2.1), (.slice A7 (List.length (List.map stT d9)) c8), (.int .i64 a.2.2.2.2.2.1), (.bool a.2.2.2.2.2.2)], Qr a6 33 #[(.string ⟨List.toArray q⟩), (.int .i64 f.1), (.int .i64 a.1), (.slice none (List.length ([] : List (Int × Int))) 0), (.slice none (List.length ([] : List ((List UInt8) × (List UInt8) × Int))) 0)]])] 16 6 ⟨trivial, SP.drew f2⟩ ?_ ?_
 iterate 16 refine And.intro ?_ ?_
 exact trivial
 ·exact oV (hC (hS 1 (.slice u (List.length a0) a2)) (h0)) (.slice u (List.length a0) a2)
 ·refine Owe.light K [0, 1, 2, 3, 4, 5] K (Qb ?_ (Qb ?_ (Qb ?_ (Qb ?_ (Qb ?_ (Qb ?_ Qy))))))
  ·rintro ρ' w' hs o ⟨t9, f3⟩
   refine kM (kc (kA o 0 5) k0) fun p => ?_
   refine Qp (e := Qn) (l := a0) (A := u) (c := a2) (T := 79) (E := 9) (x := (.tmp 5)) (ix := (.const (.int .i64 (1)))) (ki := .i64) (iz := 1) (d := (some 6)) (k := 1) K rfl K K K K (a1 w' (SP.mod f3)) a3 a4 ?_
   intro f4 f5 f6 u0 hc526
   exact ⟨rfl, _, Qa p, ⟨f4, f5, f6, rfl⟩⟩
  ·rintro ρ' w' hs o ⟨⟨u1, -⟩, f7⟩
   refine kM (kc (kA o 0 5) k0) fun p => ?_
   refine Qp (e := Qn) (l := a0) (A := u) (c := a2) (T := 79) (E := 9) (x := (.tmp 5)) (ix := (.const (.int .i64 (1)))) (ki := .i64) (iz := 1) (d := (some 6)) (k := 1) K rfl K K K K (a1 w' (SP.mod f7)) a3 a4 ?_
   intro f8 f9 g0 u2 hc534
   exact ⟨rfl, _, Qa p, ⟨f8, f9, g0, rfl⟩⟩
  ·rintro ρ' w' hs o ⟨a5, ⟨u3, -⟩, g2⟩
   refine kM (kc (kA o 0 5) k0) fun p => ?_
   refine Qp (e := Qn) (l := a0) (A := u) (c := a2) (T := 79) (E := 9) (x := (.tmp 5)) (ix := (.const (.int .i64 (1)))) (ki := .i64) (iz := 1) (d := (some 6)) (k := 1) K rfl K K K K (a1 w' (SP.mod g2)) a3 a4 ?_
   intro g3 g4 g5 u4 hc542
   exact ⟨rfl, _, Qa p, ⟨g3, g4, g5, rfl⟩⟩
  ·rintro ρ' w' hs o ⟨⟨u5, u6, -⟩, g6⟩
   refine kM (kc (kA o 0 5) k0) fun p => ?_
   refine Qp (e := Qn) (l := a0) (A := u) (c := a2) (T := 79) (E := 9) (x := (.tmp 5)) (ix := (.const (.int .i64 (1)))) (ki := .i64) (iz := 1) (d := (some 6)) (k := 1) K rfl K K K K (a1 w' (SP.mod g6)) a3 a4 ?_
   intro g7 g8 g9 u7 hc551
   exact ⟨rfl, _, Qa p, ⟨g7, g8, g9, rfl⟩⟩
  ·rintro ρ' w' hs o ⟨a7, ⟨u8, u9, -⟩, h1⟩
   refine kM (kc (kA o 0 5) k0) fun p => ?_
   refine Qp (e := Qn) (l := a0) (A := u) (c := a2) (T := 79) (E := 9) (x := (.tmp 5)) (ix := (.const (.int .i64 (1)))) (ki := .i64) (iz := 1) (d := (some 6)) (k := 1) K rfl K K K K (a1 w' (SP.mod h1)) a3 a4 ?_
   intro h2 h3 h4 v0 hc560
   exact ⟨rfl, _, Qa p, ⟨h2, h3, h4, rfl⟩⟩
  ·rintro ρ' w' hs o ⟨b0, ⟨v1, v2, v3, -⟩, h5⟩
   refine kM (kc (kA o 0 5) k0) fun p => ?_
   refine Qp (e := Qn) (l := a0) (A := u) (c := a2) (T := 79) (E := 9) (x := (.tmp 5)) (ix := (.const (.int .i64 (1)))) (ki := .i64) (iz := 1) (d := (some 6)) (k := 1) K rfl K K K K (a1 w' (SP.mod h5)) a3 a4 ?_
   intro h6 h7 h8 v4 hc570
   exact ⟨rfl, _, Qa p, ⟨h6, h7, h8, rfl⟩⟩
 ·refine Owe.light K [0, 1, 2, 3, 4, 5] K (Qb ?_ (Qb ?_ (Qb ?_ (Qb ?_ (Qb ?_ (Qb ?_ Qy))))))
  ·rintro ρ' w' hs o ⟨v5, h9⟩
   obtain ⟨i0, i1, i2, e6⟩ := o 1 6 K
   refine kM (kc e6 k0) fun p => ?_
   refine sC 9 6 i0 (i1 + Int.toNat 1 * Qn.sz) (.string ⟨List.toArray q⟩) 7 (Qt (e := Qn) (Qo (a1 w' (SP.mod h9)) i2 a3 a4) b8 (j := 0) rfl) ?_
   exact eK p
  ·rintro ρ' w' hs o ⟨⟨v6, -⟩, i3⟩
   obtain ⟨i4, i5, i6, e6⟩ := o 1 6 K
   refine kM (kc e6 k0) fun p => ?_
   refine sC 9 6 i4 (i5 + Int.toNat 1 * Qn.sz) (.string ⟨List.toArray q⟩) 7 (Qt (e := Qn) (Qo (a1 w' (SP.mod i3)) i6 a3 a4) b8 (j := 0) rfl) ?_
   exact eK p
  ·rintro ρ' w' hs o ⟨a5, ⟨v7, -⟩, i7⟩
   obtain ⟨i8, i9, j0, e6⟩ := o 1 6 K
   refine kM (kc e6 k0) fun p => ?_
   refine sC 9 6 i8 (i9 + Int.toNat 1 * Qn.sz) (.string ⟨List.toArray q⟩) 7 (Qt (e := Qn) (Qo (a1 w' (SP.mod i7)) j0 a3 a4) b8 (j := 0) rfl) ?_
   exact eK p
  ·rintro ρ' w' hs o ⟨⟨v8, v9, -⟩, j1⟩
   obtain ⟨j2, j3, j4, e6⟩ := o 1 6 K
   refine kM (kc e6 k0) fun p => ?_
   refine sC 9 6 j2 (j3 + Int.toNat 1 * Qn.sz) (.string ⟨List.toArray q⟩) 7 (Qt (e := Qn) (Qo (a1 w' (SP.mod j1)) j4 a3 a4) b8 (j := 0) rfl) ?_
   exact eK p
  ·rintro ρ' w' hs o ⟨a7, ⟨w1, w2, -⟩, j5⟩
   obtain ⟨j6, j7, j8, e6⟩ := o 1 6 K
   refine kM (kc e6 k0) fun p => ?_
   refine sC 9 6 j6 (j7 + Int.toNat 1 * Qn.sz) (.string ⟨List.toArray q⟩) 7 (Qt (e := Qn) (Qo (a1 w' (SP.mod j5)) j8 a3 a4) b8 (j := 0) rfl) ?_
   exact eK p
  ·rintro ρ' w' hs o ⟨b0, ⟨w3, w4, w5, -⟩, j9⟩
   obtain ⟨k1, k2, k3, e6⟩ := o 1 6 K
   refine kM (kc e6 k0) fun p => ?_
   refine sC 9 6 k1 (k2 + Int.toNat 1 * Qn.sz) (.string ⟨List.toArray q⟩) 7 (Qt (e := Qn) (Qo (a1 w' (SP.mod j9)) k3 a3 a4) b8 (j := 0) rfl) ?_
   exact eK p
 ·exact oV (hC (hS 0 (pt g1 0)) (h0)) (pt g1 0)
 ·exact oV (hC (hS 1 (.slice u (List.length a0) a2)) (h0)) (.slice u (List.length a0) a2)
 ·refine Owe.light K [0, 2] K (Qb ?_ (Qb ?_ Qy))
  ·rintro ρ' w' hs o ⟨w6, k4⟩
   refine kM (kc (kA o 4 9) k0) fun p => ?_
   refine Qp (e := Qn) (l := a0) (A := u) (c := a2) (T := 79) (E := 9) (x := (.tmp 9)) (ix := (.const (.int .i64 (2)))) (ki := .i64) (iz := 2) (d := (some 10)) (k := 5) K rfl K K K K (a1 w' (SP.mod k4)) c2 c3 ?_
   intro k5 k6 k7 w7 hc616
   exact ⟨rfl, _, Qa p, ⟨k5, k6, k7, rfl⟩⟩
  ·rintro ρ' w' hs o ⟨a5, ⟨w8, -⟩, k8⟩
   refine kM (kc (kA o 4 9) k0) fun p => ?_
   refine Qp (e := Qn) (l := a0) (A := u) (c := a2) (T := 79) (E := 9) (x := (.tmp 9)) (ix := (.const (.int .i64 (2)))) (ki := .i64) (iz := 2) (d := (some 10)) (k := 5) K rfl K K K K (a1 w' (SP.mod k8)) c2 c3 ?_
   intro k9 l0 l1 w9 hc624
   exact ⟨rfl, _, Qa p, ⟨k9, l0, l1, rfl⟩⟩
 ·refine Owe.light K [0, 2] K (Qb ?_ (Qb ?_ Qy))
  ·rintro ρ' w' hs o ⟨x0, l2⟩
   obtain ⟨l3, l4, l5, c7⟩ := o 5 10 K
   refine kM (kc c7 k0) fun p => ?_
   refine sC 9 10 l3 (l4 + Int.toNat 2 * Qn.sz) (.string ⟨List.toArray b9⟩) 11 (Qt (e := Qn) (Qo (a1 w' (SP.mod l2)) l5 c2 c3) d7 (j := 0) rfl) ?_
   exact eK p
  ·rintro ρ' w' hs o ⟨a5, ⟨x1, -⟩, l6⟩
   obtain ⟨l7, l8, l9, c7⟩ := o 5 10 K
   refine kM (kc c7 k0) fun p => ?_
   refine sC 9 10 l7 (l8 + Int.toNat 2 * Qn.sz) (.string ⟨List.toArray b9⟩) 11 (Qt (e := Qn) (Qo (a1 w' (SP.mod l6)) l9 c2 c3) d7 (j := 0) rfl) ?_
   exact eK p
 ·refine Owe.heavy K [(0, 1), (2, 4)] K (Qb ⟨K, K, ?_⟩ (Qb ⟨K, K, ?_⟩ Qy))
  ·rintro ρ' w' hs o ⟨x2, c9⟩
   refine kM (kc (kA o 3 8) (kc (kA o 6 11) k0)) fun p => ?_
   refine cF 164 #[(.tmp 8), (.tmp 11)] #[70, 9] 12 Tryz.call164 (Va g1 (.slice A7 (List.length (List.map stT d9)) c8) q2 q3 q4 q5 b6 b7 b9 w' (fun w hm => hL w (SP.through c9 (l := [0]) rfl hm)) (Je c9 [0] rfl rfl) f d8) ?_
   rintro e m0 ⟨rfl, e1⟩
   refine ⟨_, rfl, ?_⟩
   have m1 : SP S w0 m0 [Yv A7 c8 d9, Qr g1 72 #[(.int .i64 f.2.1), (.int .i64 f.2.2.1), (.int .i64 f.2.2.2.1), (.int .i64 f.2.2.2.2.1), (.slice A7 (List.length (List.map stT d9)) c8), (.int .i64 f.2.2.2.2.2.1), (.bool f.2.2.2.2.2.2)]] := Zl c9 [0] [1] rfl rfl e1 rfl
   clear e1
   refine ⟨_, Qa p, rfl, ?_⟩
   exact (And.intro (And.intro rfl (trivial)) m1)
  ·rintro ρ' w' hs o ⟨a5, ⟨m2, -⟩, d1⟩
   refine kM (kc (kA o 3 8) (kc (kA o 6 11) k0)) fun p => ?_
   refine cF 164 #[(.tmp 8), (.tmp 11)] #[70, 9] 12 Tryz.call164 (Va g1 (.slice A7 (List.length (List.map stT d9)) c8) q2 q3 q4 q5 b6 b7 b9 w' (fun w hm => hL w (SP.through d1 (l := [0]) rfl hm)) (Je d1 [0] rfl rfl) f d8) ?_
   rintro e m3 ⟨rfl, e2⟩
   refine ⟨_, rfl, ?_⟩
   have m4 : SP S w0 m3 [Yv A7 c8 d9, Qr a5 33 #[(.string ⟨List.toArray ([] : List UInt8)⟩), (.int .i64 0), (.int .i64 0), (.slice none (List.length ([] : List (Int × Int))) 0), (.slice none (List.length ([] : List ((List UInt8) × (List UInt8) × Int))) 0)], Qr g1 72 #[(.int .i64 f.2.1), (.int .i64 f.2.2.1), (.int .i64 f.2.2.2.1), (.int .i64 f.2.2.2.2.1), (.slice A7 (List.length (List.map stT d9)) c8), (.int .i64 f.2.2.2.2.2.1), (.bool f.2.2.2.2.2.2)]] := Zl d1 [0] [1, 2] rfl rfl e2 rfl
   clear e2
   refine ⟨_, Qa p, rfl, ?_⟩
   exact (Exists.intro a5 (And.intro (And.intro rfl (And.intro m2 (trivial))) (SP.sel m4 [0, 2, 1] rfl rfl)))
 ·exact oV (hC (hS 0 (pt g1 0)) (h0)) (pt g1 0)
 ·exact oV (hC (hS 1 (.slice u (List.length a0) a2)) (h0)) (.slice u (List.length a0) a2)
 ·refine Owe.light K [0, 1, 2, 4] K (Qb ?_ (Qb ?_ (Qb ?_ (Qb ?_ Qy))))
  ·rintro ρ' w' hs o ⟨x3, m5⟩
   refine kM (kc (kA o 9 14) k0) fun p => ?_
   refine Qp (e := Qn) (l := a0) (A := u) (c := a2) (T := 79) (E := 9) (x := (.tmp 14)) (ix := (.const (.int .i64 (3)))) (ki := .i64) (iz := 3) (d := (some 15)) (k := 10) K rfl K K K K (a1 w' (SP.mod m5)) a8 a9 ?_
   intro m6 m7 m8 x4 hc655
   exact ⟨rfl, _, Qa p, ⟨m6, m7, m8, rfl⟩⟩
  ·rintro ρ' w' hs o ⟨⟨x5, -⟩, m9⟩
   refine kM (kc (kA o 9 14) k0) fun p => ?_
   refine Qp (e := Qn) (l := a0) (A := u) (c := a2) (T := 79) (E := 9) (x := (.tmp 14)) (ix := (.const (.int .i64 (3)))) (ki := .i64) (iz := 3) (d := (some 15)) (k := 10) K rfl K K K K (a1 w' (SP.mod m9)) a8 a9 ?_
   intro n0 n1 n2 x6 hc663
   exact ⟨rfl, _, Qa p, ⟨n0, n1, n2, rfl⟩⟩
  ·rintro ρ' w' hs o ⟨a5, ⟨x7, -⟩, n3⟩
   refine kM (kc (kA o 9 14) k0) fun p => ?_
   refine Qp (e := Qn) (l := a0) (A := u) (c := a2) (T := 79) (E := 9) (x := (.tmp 14)) (ix := (.const (.int .i64 (3)))) (ki := .i64) (iz := 3) (d := (some 15)) (k := 10) K rfl K K K K (a1 w' (SP.mod n3)) a8 a9 ?_
   intro n4 n5 n6 x8 hc671
   exact ⟨rfl, _, Qa p, ⟨n4, n5, n6, rfl⟩⟩
  ·rintro ρ' w' hs o ⟨a7, ⟨x9, y0, -⟩, n7⟩
   refine kM (kc (kA o 9 14) k0) fun p => ?_
   refine Qp (e := Qn) (l := a0) (A := u) (c := a2) (T := 79) (E := 9) (x := (.tmp 14)) (ix := (.const (.int .i64 (3)))) (ki := .i64) (iz := 3) (d := (some 15)) (k := 10) K rfl K K K K (a1 w' (SP.mod n7)) a8 a9 ?_
   intro n8 n9 o0 y1 hc680
   exact ⟨rfl, _, Qa p, ⟨n8, n9, o0, rfl⟩⟩
 ·refine Owe.light K [0, 1, 2, 4] K (Qb ?_ (Qb ?_ (Qb ?_ (Qb ?_ Qy))))
  ·rintro ρ' w' hs o ⟨y2, o1⟩
   obtain ⟨o2, o3, o4, b2⟩ := o 10 15 K
   refine kM (kc b2 k0) fun p => ?_
   refine sC 9 15 o2 (o3 + Int.toNat 3 * Qn.sz) (.string ⟨List.toArray b1⟩) 16 (Qt (e := Qn) (Qo (a1 w' (SP.mod o1)) o4 a8 a9) c4 (j := 0) rfl) ?_
   exact eK p
  ·rintro ρ' w' hs o ⟨⟨y3, -⟩, o5⟩
   obtain ⟨o6, o7, o8, b2⟩ := o 10 15 K
   refine kM (kc b2 k0) fun p => ?_
   refine sC 9 15 o6 (o7 + Int.toNat 3 * Qn.sz) (.string ⟨List.toArray b1⟩) 16 (Qt (e := Qn) (Qo (a1 w' (SP.mod o5)) o8 a8 a9) c4 (j := 0) rfl) ?_
   exact eK p
  ·rintro ρ' w' hs o ⟨a5, ⟨y4, -⟩, o9⟩
   obtain ⟨p0, p1, p2, b2⟩ := o 10 15 K
   refine kM (kc b2 k0) fun p => ?_
   refine sC 9 15 p0 (p1 + Int.toNat 3 * Qn.sz) (.string ⟨List.toArray b1⟩) 16 (Qt (e := Qn) (Qo (a1 w' (SP.mod o9)) p2 a8 a9) c4 (j := 0) rfl) ?_
   exact eK p
  ·rintro ρ' w' hs o ⟨a7, ⟨y5, y6, -⟩, p3⟩
   obtain ⟨p4, p5, p6, b2⟩ := o 10 15 K
   refine kM (kc b2 k0) fun p => ?_
   refine sC 9 15 p4 (p5 + Int.toNat 3 * Qn.sz) (.string ⟨List.toArray b1⟩) 16 (Qt (e := Qn) (Qo (a1 w' (SP.mod p3)) p6 a8 a9) c4 (j := 0) rfl) ?_
   exact eK p
 ·refine Owe.heavy K [(1, 3), (4, 5)] K (Qb ⟨K, K, ?_⟩ (Qb ⟨K, K, ?_⟩ Qy))
  ·rintro ρ' w' hs o ⟨⟨p7, -⟩, d2⟩
   refine kM (kc (kA o 8 13) (kc (kA o 11 16) k0)) fun p => ?_
   refine cF 164 #[(.tmp 13), (.tmp 16)] #[70, 9] 17 Tryz.call164 (Va g1 (.slice A7 (List.length (List.map stT d9)) c8) f.2.1 f.2.2.1 f.2.2.2.1 f.2.2.2.2.1 f.2.2.2.2.2.1 f.2.2.2.2.2.2 b1 w' (fun w hm => hL w (SP.through d2 (l := [1]) rfl hm)) (Je d2 [1] rfl rfl) a e0) ?_
   rintro e p8 ⟨rfl, e3⟩
   refine ⟨_, rfl, ?_⟩
   have p9 : SP S w0 p8 [Yv A7 c8 d9, Qr g1 72 #[(.int .i64 a.2.1), (.int .i64 a.2.2.1), (.int .i64 a.2.2.2.1), (.int .i64 a.2.2.2.2.1), (.slice A7 (List.length (List.map stT d9)) c8), (.int .i64 a.2.2.2.2.2.1), (.bool a.2.2.2.2.2.2)]] := Zl d2 [1] [0] rfl rfl e3 rfl
   clear e3
   refine ⟨_, Qa p, rfl, ?_⟩
   exact (And.intro (And.intro p7 (And.intro rfl (trivial))) p9)
  ·rintro ρ' w' hs o ⟨a7, ⟨q0, q1, -⟩, d3⟩
   refine kM (kc (kA o 8 13) (kc (kA o 11 16) k0)) fun p => ?_
   refine cF 164 #[(.tmp 13), (.tmp 16)] #[70, 9] 17 Tryz.call164 (Va g1 (.slice A7 (List.length (List.map stT d9)) c8) f.2.1 f.2.2.1 f.2.2.2.1 f.2.2.2.2.1 f.2.2.2.2.2.1 f.2.2.2.2.2.2 b1 w' (fun w hm => hL w (SP.through d3 (l := [1]) rfl hm)) (Je d3 [1] rfl rfl) a e0) ?_
   rintro e q6 ⟨rfl, e4⟩
   refine ⟨_, rfl, ?_⟩
   have q7 : SP S w0 q6 [Yv A7 c8 d9, Qr a7 33 #[(.string ⟨List.toArray ([] : List UInt8)⟩), (.int .i64 0), (.int .i64 0), (.slice none (List.length ([] : List (Int × Int))) 0), (.slice none (List.length ([] : List ((List UInt8) × (List UInt8) × Int))) 0)], Qr g1 72 #[(.int .i64 a.2.1), (.int .i64 a.2.2.1), (.int .i64 a.2.2.2.1), (.int .i64 a.2.2.2.2.1), (.slice A7 (List.length (List.map stT d9)) c8), (.int .i64 a.2.2.2.2.2.1), (.bool a.2.2.2.2.2.2)]] := Zl d3 [1] [0, 2] rfl rfl e4 rfl
   clear e4
   refine ⟨_, Qa p, rfl, ?_⟩
   exact (Exists.intro a7 (And.intro (And.intro q0 (And.intro rfl (And.intro q1 (trivial)))) (SP.sel q7 [0, 2, 1] rfl rfl)))
 ·exact oV (hC (hA 2 7) (hC (hA 7 12) (hC (hA 12 17) (h0)))) (.agg #[(.string ⟨List.toArray q⟩), (.int .i64 f.1), (.int .i64 a.1), (.slice none (List.length ([] : List (Int × Int))) 0), (.slice none (List.length ([] : List ((List UInt8) × (List UInt8) × Int))) 0)])
 ·refine Owe.heavy K [(0, 2), (1, 4), (3, 5)] K (Qb ⟨K, K, ?_⟩ (Qb ⟨K, K, ?_⟩ (Qb ⟨K, K, ?_⟩ Qy)))
  ·rintro ρ' w' hs o ⟨y7, q8⟩
   refine kN [] trivial fun p => ?_
   refine Qm.alloc (t := 33) (z := (.agg #[(.string ⟨List.toArray ([] : List UInt8)⟩), (.int .i64 0), (.int .i64 0), (.slice none (List.length ([] : List (Int × Int))) 0), (.slice none (List.length ([] : List ((List UInt8) × (List UInt8) × Int))) 0)])) (d := (some 4)) (k := 14) K rfl K q8 ?_
   intro q9 y8 r0
   refine ⟨_, Qa p, trivial, ?_⟩
   exact (Exists.intro q9 (And.intro (And.intro rfl (trivial)) r0))
  ·rintro ρ' w' hs o ⟨⟨r1, -⟩, r2⟩
   refine kN [] trivial fun p => ?_
   refine Qm.alloc (t := 33) (z := (.agg #[(.string ⟨List.toArray ([] : List UInt8)⟩), (.int .i64 0), (.int .i64 0), (.slice none (List.length ([] : List (Int × Int))) 0), (.slice none (List.length ([] : List ((List UInt8) × (List UInt8) × Int))) 0)])) (d := (some 4)) (k := 14) K rfl K r2 ?_
   intro r3 y9 r4
   refine ⟨_, Qa p, trivial, ?_⟩
   exact (Exists.intro r3 (And.intro (And.intro r1 (And.intro rfl (trivial))) r4))
  ·rintro ρ' w' hs o ⟨⟨r5, r6, -⟩, r7⟩
   refine kN [] trivial fun p => ?_
   refine Qm.alloc (t := 33) (z := (.agg #[(.string ⟨List.toArray ([] : List UInt8)⟩), (.int .i64 0), (.int .i64 0), (.slice none (List.length ([] : List (Int × Int))) 0), (.slice none (List.length ([] : List ((List UInt8) × (List UInt8) × Int))) 0)])) (d := (some 4)) (k := 14) K rfl K r7 ?_
   intro r8 z0 r9
   refine ⟨_, Qa p, trivial, ?_⟩
   exact (Exists.intro r8 (And.intro (And.intro r5 (And.intro r6 (And.intro rfl (trivial)))) r9))
 ·refine oH 5 6 ?_
  ·rintro ρ' w' hs o ⟨b0, ⟨s0, s1, e5, -⟩, s2⟩
   refine kN [(4, (pt b0 0)), (18, (.agg #[(.string ⟨List.toArray q⟩), (.int .i64 f.1), (.int .i64 a.1), (.slice none (List.length ([] : List (Int × Int))) 0), (.slice none (List.length ([] : List ((List UInt8) × (List UInt8) × Int))) 0)]))] ⟨(Q9 (h := 14) K).symm.trans e5, o 13 18 K, trivial⟩ fun p => ?_
   refine Qm.store (t := 33) (x := (.tmp 4)) (y := (.tmp 18)) (g := b0) (off := 0) (i := 2) (v := (.agg #[(.string ⟨List.toArray q⟩), (.int .i64 f.1), (.int .i64 a.1), (.slice none (List.length ([] : List (Int × Int))) 0), (.slice none (List.length ([] : List ((List UInt8) × (List UInt8) × Int))) 0)])) (cs' := #[(.string ⟨List.toArray q⟩), (.int .i64 f.1), (.int .i64 a.1), (.slice none (List.length ([] : List (Int × Int))) 0), (.slice none (List.length ([] : List ((List UInt8) × (List UInt8) × Int))) 0)]) (d := none) (k := 15) K rfl K K s2 rfl K ?_
   intro z1 s3
   refine ⟨_, Qa p, trivial, ?_⟩
   exact (Exists.intro b0 (And.intro (And.intro s0 (And.intro s1 (And.intro e5 (And.intro rfl (trivial))))) s3))
 ·rintro ρ' w' hs hf ⟨a6, ⟨z2, z3, s4, z4, -⟩, e7⟩
  refine Vv [(0, (pt g1 0)), (4, (pt a6 0))] ⟨(hs 0 K).trans K, (Q9 (h := 14) K).symm.trans s4, trivial⟩ ?_
  obtain ⟨z5, s5⟩ : ∃ x, w' = x := ⟨_, rfl⟩
  rw [s5] at e7 ⊢
  obtain ⟨hl762, H⟩ := Un H
  rw [show (List.map stT d9) ++ ([(q, f.1, a.1, ([] : List (Int × Int)), ([] : List ((List UInt8) × (List UInt8) × Int)))] : List Qf) = (List.map stT (d9 ++ [(q, f.1, a.1, (none, 0, ([] : List (Int × Int))), (none, 0, ([] : List ((List UInt8) × (List UInt8) × Int))))])) from C1 (d0 := d9) (y := (q, f.1, a.1, (none, 0, ([] : List (Int × Int))), (none, 0, ([] : List ((List UInt8) × (List UInt8) × Int)))))] at H
  refine aG [GEq (pt g1 0), GEq (pt g1 0), GEq (pt g1 0), GEq (pt g1 0), GEq (pt g1 4), GEq (.slice A7 (List.length (List.map stT d9)) c8), GEq (.agg #[(.string ⟨List.toArray q⟩), (.int .i64 f.1), (.int .i64 a.1), (.slice none (List.length ([] : List (Int × Int))) 0), (.slice none (List.length ([] : List ((List UInt8) × (List UInt8) × Int))) 0)]), N2, N2, GEq (pt g1 0), GEq (pt g1 0), GEq (pt g1 4), N2] [7, 8, 12] [([], fun vs w => VL vs [] ∧ SP S w0 w [Yv A7 c8 d9, Qr g1 72 #[(.int .i64 a.2.1), (.int .i64 a.2.2.1), (.int .i64 a.2.2.2.1), (.int .i64 a.2.2.2.2.1), (.slice A7 (List.length (List.map stT d9)) c8), (.int .i64 a.2.2.2.2.2.1), (.bool a.2.2.2.2.2.2)], Qr a6 33 #[(.string ⟨List.toArray q⟩), (.int .i64 f.1), (.int .i64 a.1), (.slice none (List.length ([] : List (Int × Int))) 0), (.slice none (List.length ([] : List ((List UInt8) × (List UInt8) × Int))) 0)]]), ([7], fun vs w => ∃ (b3 : Nat), VL vs [(.slice (some ⟨b3, 0, none⟩) (List.length ([(q, f.1, a.1, ([] : List (Int × Int)), ([] : List ((List UInt8) × (List UInt8) × Int)))] : List Qf)) (List.length ([(q, f.1, a.1, ([] : List (Int × Int)), ([] : List ((List UInt8) × (List UInt8) × Int)))] : List Qf)))] ∧ SP S w0 w [Yv A7 c8 d9, Qr g1 72 #[(.int .i64 a.2.1), (.int .i64 a.2.2.1), (.int .i64 a.2.2.2.1), (.int .i64 a.2.2.2.2.1), (.slice A7 (List.length (List.map stT d9)) c8), (.int .i64 a.2.2.2.2.2.1), (.bool a.2.2.2.2.2.2)], Qr a6 33 #[(.string ⟨List.toArray q⟩), (.int .i64 f.1), (.int .i64 a.1), (.slice none (List.length ([] : List (Int × Int))) 0), (.slice none (List.length ([] : List ((List UInt8) × (List UInt8) × Int))) 0)], Ve 33 V9 (some ⟨b3, 0, none⟩) (List.length ([(q, f.1, a.1, ([] : List (Int × Int)), ([] : List ((List UInt8) × (List UInt8) × Int)))] : List Qf)) ([(q, f.1, a.1, (none, 0, ([] : List (Int × Int))), (none, 0, ([] : List ((List UInt8) × (List UInt8) × Int))))] : List Qw)]), ([7, 8], fun vs w => ∃ (c5 : Nat), ∃ (b4 : Option Addr), ∃ (b5 : Nat), VL vs [(.slice (some ⟨c5, 0, none⟩) (List.length ([(q, f.1, a.1, ([] : List (Int × Int)), ([] : List ((List UInt8) × (List UInt8) × Int)))] : List Qf)) (List.length ([(q, f.1, a.1, ([] : List (Int × Int)), ([] : List ((List UInt8) × (List UInt8) × Int)))] : List Qf))), (.slice b4 (List.length (List.map stT (d9 ++ [(q, f.1, a.1, (none, 0, ([] : List (Int × Int))), (none, 0, ([] : List ((List UInt8) × (List UInt8) × Int))))]))) b5)] ∧ SP S w0 w [Yv b4 b5 (d9 ++ [(q, f.1, a.1, (none, 0, ([] : List (Int × Int))), (none, 0, ([] : List ((List UInt8) × (List UInt8) × Int))))]), Qr g1 72 #[(.int .i64 a.2.1), (.int .i64 a.2.2.1), (.int .i64 a.2.2.2.1), (.int .i64 a.2.2.2.2.1), (.slice A7 (List.length (List.map stT d9)) c8), (.int .i64 a.2.2.2.2.2.1), (.bool a.2.2.2.2.2.2)], Qr a6 33 #[(.string ⟨List.toArray q⟩), (.int .i64 f.1), (.int .i64 a.1), (.slice none (List.length ([] : List (Int × Int))) 0), (.slice none (List.length ([] : List ((List UInt8) × (List UInt8) × Int))) 0)], Ve 33 V9 (some ⟨c5, 0, none⟩) (List.length ([(q, f.1, a.1, ([] : List (Int × Int)), ([] : List ((List UInt8) × (List UInt8) × Int)))] : List Qf)) ([(q, f.1, a.1, (none, 0, ([] : List (Int × Int))), (none, 0, ([] : List ((List UInt8) × (List UInt8) × Int))))] : List Qw)]), ([7, 8, 12], fun vs w => ∃ (d4 : Nat), ∃ (c0 : Option Addr), ∃ (c1 : Nat), VL vs [(.slice (some ⟨d4, 0, none⟩) (List.length ([(q, f.1, a.1, ([] : List (Int × Int)), ([] : List ((List UInt8) × (List UInt8) × Int)))] : List Qf)) (List.length ([(q, f.1, a.1, ([] : List (Int × Int)), ([] : List ((List UInt8) × (List UInt8) × Int)))] : List Qf))), (.slice c0 (List.length (List.map stT (d9 ++ [(q, f.1, a.1, (none, 0, ([] : List (Int × Int))), (none, 0, ([] : List ((List UInt8) × (List UInt8) × Int))))]))) c1), undef] ∧ SP S w0 w [Yv c0 c1 (d9 ++ [(q, f.1, a.1, (none, 0, ([] : List (Int × Int))), (none, 0, ([] : List ((List UInt8) × (List UInt8) × Int))))]), Qr g1 72 #[(.int .i64 a.2.1), (.int .i64 a.2.2.1), (.int .i64 a.2.2.2.1), (.int .i64 a.2.2.2.2.1), (.slice c0 (List.length (List.map stT (d9 ++ [(q, f.1, a.1, (none, 0, ([] : List (Int × Int))), (none, 0, ([] : List ((List UInt8) × (List UInt8) × Int))))]))) c1), (.int .i64 a.2.2.2.2.2.1), (.bool a.2.2.2.2.2.2)], Qr a6 33 #[(.string ⟨List.toArray q⟩), (.int .i64 f.1), (.int .i64 a.1), (.slice none (List.length ([] : List (Int × Int))) 0), (.slice none (List.length ([] : List ((List UInt8) × (List UInt8) × Int))) 0)], Ve 33 V9 (some ⟨d4, 0, none⟩) (List.length ([(q, f.1, a.1, ([] : List (Int × Int)), ([] : List ((List UInt8) × (List UInt8) × Int)))] : List Qf)) ([(q, f.1, a.1, (none, 0, ([] : List (Int × Int))), (none, 0, ([] : List ((List UInt8) × (List UInt8) × Int))))] : List Qw)])] 13 3 ⟨trivial, SP.drew e7⟩ ?_ ?_
  iterate 13 refine And.intro ?_ ?_
  exact trivial
  ·exact oV (hC (hS 0 (pt g1 0)) (h0)) (pt g1 0)
  ·exact oV (hC (hS 0 (pt g1 0)) (h0)) (pt g1 0)
  ·exact oV (hC (hA 1 20) (h0)) (pt g1 0)
  ·exact oV (hC (hA 2 21) (h0)) (pt g1 0)
  ·exact oV (hC (hA 3 22) (h0)) (pt g1 4)
  ·refine Owe.light K [0, 1] K (Qb ?_ (Qb ?_ Qy))
   ·rintro ρ' w' hs o ⟨z6, s6⟩
    refine kM (kc (kA o 4 23) k0) fun p => ?_
    refine sL 22 23 g1 4 1 (.slice A7 (List.length (List.map stT d9)) c8) 24 s6 rfl ?_
    exact eK p
   ·rintro ρ' w' hs o ⟨b3, ⟨z7, -⟩, s7⟩
    refine kM (kc (kA o 4 23) k0) fun p => ?_
    refine sL 22 23 g1 4 1 (.slice A7 (List.length (List.map stT d9)) c8) 24 s7 rfl ?_
    exact eK p
  ·refine oL 0 ?_
   ·rintro ρ' w' hs o ⟨z8, s8⟩
    refine kM (kc (kS hs 4 (pt a6 0)) k0) fun p => ?_
    refine sL 33 4 a6 0 2 (.agg #[(.string ⟨List.toArray q⟩), (.int .i64 f.1), (.int .i64 a.1), (.slice none (List.length ([] : List (Int × Int))) 0), (.slice none (List.length ([] : List ((List UInt8) × (List UInt8) × Int))) 0)]) 25 s8 rfl ?_
    exact eK p
  ·refine oH 0 1 ?_
   ·rintro ρ' w' hs o ⟨z9, s9⟩
    refine kM (kc (kA o 6 25) k0) fun p => ?_
    refine Zk (e := V9) (T := 22) (E := 33) (len := 1) (parts := #[(0, (.tmp 25))]) (cs := #[(.string ⟨List.toArray q⟩), (.int .i64 f.1), (.int .i64 a.1), (.slice none (List.length ([] : List (Int × Int))) 0), (.slice none (List.length ([] : List ((List UInt8) × (List UInt8) × Int))) 0)]) ([(q, f.1, a.1, (none, 0, ([] : List (Int × Int))), (none, 0, ([] : List ((List UInt8) × (List UInt8) × Int))))] : List Qw) (d := (some 26)) (k := 7) K rfl (fun _ => K) s9 rfl rfl rfl rfl ?_
    intro t0 aa0 t1
    refine ⟨_, Qa p, trivial, ?_⟩
    exact (Exists.intro t0 (And.intro (And.intro rfl (trivial)) t1))
  ·refine oH 1 2 ?_
   ·rintro ρ' w' hs o ⟨b3, ⟨e8, -⟩, e9⟩
    refine kN [(24, (.slice A7 (List.length (List.map stT d9)) c8)), (26, (.slice (some ⟨b3, 0, none⟩) (List.length ([(q, f.1, a.1, ([] : List (Int × Int)), ([] : List ((List UInt8) × (List UInt8) × Int)))] : List Qf)) (List.length ([(q, f.1, a.1, ([] : List (Int × Int)), ([] : List ((List UInt8) × (List UInt8) × Int)))] : List Qf))))] ⟨o 5 24 K, (Q9 (h := 7) K).symm.trans e8, trivial⟩ fun p => ?_
    refine B7 (d := d9) (m := ([(q, f.1, a.1, (none, 0, ([] : List (Int × Int))), (none, 0, ([] : List ((List UInt8) × (List UInt8) × Int))))] : List Qw)) (y := (q, f.1, a.1, (none, 0, ([] : List (Int × Int))), (none, 0, ([] : List ((List UInt8) × (List UInt8) × Int))))) (A := A7) (c := c8) (T := 22) (TX := 22) (b := 80) (s := (.tmp 24)) (x := (.tmp 26)) (i := 0) (vx := (.slice (some ⟨b3, 0, none⟩) (List.length ([(q, f.1, a.1, ([] : List (Int × Int)), ([] : List ((List UInt8) × (List UInt8) × Int)))] : List Qf)) (List.length ([(q, f.1, a.1, ([] : List (Int × Int)), ([] : List ((List UInt8) × (List UInt8) × Int)))] : List Qf)))) (dst := (some 27)) (k := 8) K rfl K K K K K e9 rfl (Dj (E := 33) K (Vr (SP.get e9 (i := 3) rfl))) rfl rfl (lm := ([(q, f.1, a.1, ([] : List (Int × Int)), ([] : List ((List UInt8) × (List UInt8) × Int)))] : List Qf)) hl762 rfl ?_
    intro t2 t3 aa1 t4
    refine ⟨_, Qa p, trivial, ?_⟩
    exact (Exists.intro b3 (Exists.intro t2 (Exists.intro t3 (And.intro (And.intro e8 (And.intro rfl (trivial))) t4))))
  ·exact oV (hC (hA 0 19) (h0)) (pt g1 0)
  ·exact oV (hC (hA 9 28) (h0)) (pt g1 0)
  ·exact oV (hC (hA 10 29) (h0)) (pt g1 4)
  ·refine oH 2 3 ?_
   ·rintro ρ' w' hs o ⟨c5, b4, b5, ⟨t5, f0, -⟩, t6⟩
    refine kN [(30, (pt g1 4)), (27, (.slice b4 (List.length (List.map stT (d9 ++ [(q, f.1, a.1, (none, 0, ([] : List (Int × Int))), (none, 0, ([] : List ((List UInt8) × (List UInt8) × Int))))]))) b5))] ⟨o 11 30 K, (Q9 (h := 8) K).symm.trans f0, trivial⟩ fun p => ?_
    refine Qm.store (t := 22) (x := (.tmp 30)) (y := (.tmp 27)) (g := g1) (off := 4) (i := 1) (v := (.slice b4 (List.length (List.map stT (d9 ++ [(q, f.1, a.1, (none, 0, ([] : List (Int × Int))), (none, 0, ([] : List ((List UInt8) × (List UInt8) × Int))))]))) b5)) (cs' := #[(.int .i64 a.2.1), (.int .i64 a.2.2.1), (.int .i64 a.2.2.2.1), (.int .i64 a.2.2.2.2.1), (.slice b4 (List.length (List.map stT (d9 ++ [(q, f.1, a.1, (none, 0, ([] : List (Int × Int))), (none, 0, ([] : List ((List UInt8) × (List UInt8) × Int))))]))) b5), (.int .i64 a.2.2.2.2.2.1), (.bool a.2.2.2.2.2.2)]) (d := none) (k := 12) K rfl K K t6 rfl K ?_
    intro aa2 t7
    refine ⟨_, Qa p, trivial, ?_⟩
    exact (Exists.intro c5 (Exists.intro b4 (Exists.intro b5 (And.intro (And.intro t5 (And.intro f0 (And.intro rfl (trivial)))) t7))))
  ·rintro ρ' w' hs hf ⟨d4, c0, c1, ⟨aa3, aa4, aa5, -⟩, f1⟩
   refine Vv [] trivial ?_
   obtain ⟨aa6, t8⟩ : ∃ x, w' = x := ⟨_, rfl⟩
   rw [t8] at f1 ⊢
   refine ⟨(.tuple #[]), K, ?_⟩
   obtain rfl := Qg H
   exact ⟨c0, c1, (d9 ++ [(q, f.1, a.1, (none, 0, ([] : List (Int × Int))), (none, 0, ([] : List ((List UInt8) × (List UInt8) × Int))))]), rfl, rfl, SP.sel f1 [1,0] rfl rfl⟩
def X3 (q2 : Int) (q3 : Int) (q4 : Int) (q5 : Int) (q6 : (List Qf)) (a : Int) (b : Bool) : Option ((List UInt8) × Int × Int × (List (Int × Int)) × (List ((List UInt8) × (List UInt8) × Int)) × Int × Int × Int × Int × Int × Bool) :=
  (cond (((List.length q6 : Nat) : Int) == 0) (some (([] : List UInt8), 0, 0, ([] : List (Int × Int)), ([] : List ((List UInt8) × (List UInt8) × Int)), q2, q3, q4, q5, a, true)) none)
set_option maxHeartbeats 40000000 in
theorem Jf {S : List Nat} (g1 : Nat) (A7 : Option Addr) (c8 : Nat) (q2 : Int) (q3 : Int) (q4 : Int) (q5 : Int) (a : (List Qw)) (c : Int) (j : Bool) (w0 : World) (hO : SP S w0 w0 [Qr g1 72 #[(.int .i64 q2), (.int .i64 q3), (.int .i64 q4), (.int .i64 q5), (.slice A7 (List.length (List.map stT a)) c8), (.int .i64 c), (.bool j)]]) (a4 : ∀ w, Mod S w0 w → (dDS V9 Eu).ok w (A7, c8, a)) (r : ((List UInt8) × Int × Int × (List (Int × Int)) × (List ((List UInt8) × (List UInt8) × Int)) × Int × Int × Int × Int × Int × Bool)) (H : X3 q2 q3 q4 q5 (List.map stT a) c j = some r) :
  Calls Tryz.prog 166 #[(pt g1 0)] w0 (fun e w' => ∃ (l : Nat) (m : Option Addr) (p : Nat) (q : Option Addr) (s : Nat), e = .returned (pt l 0) ∧ SP S w0 w' [Qr l 33 #[(.string ⟨List.toArray r.1⟩), (.int .i64 r.2.1), (.int .i64 r.2.2.1), (.slice m (List.length r.2.2.2.1) p), (.slice q (List.length r.2.2.2.2.1) s)], Ve 102 (Qd (Qx .u32) (Qx .i64)) m p r.2.2.2.1, Ve 37 (Qd Qn (Qd Qn (Qx .i64))) q s r.2.2.2.2.1, Qr g1 72 #[(.int .i64 r.2.2.2.2.2.1), (.int .i64 r.2.2.2.2.2.2.1), (.int .i64 r.2.2.2.2.2.2.2.1), (.int .i64 r.2.2.2.2.2.2.2.2.1), (.slice A7 (List.length (List.map stT a)) c8), (.int .i64 r.2.2.2.2.2.2.2.2.2.1), (.bool r.2.2.2.2.2.2.2.2.2.2)]]) := by
 unfold X3 at H
 refine Qz (n := 28) Tryz.func166 K K K ?_
 have u := hO
 refine aQ ?_
 refine aR ?_
 refine iR 1 1 [(2, (.pointer none))] ?_
 refine iF ?_
 refine aQ ?_
 refine aQ ?_
 refine aR ?_
 refine iR 4 4 [(3, (pt g1 0)), (4, (pt g1 0)), (5, (pt g1 0)), (6, (pt g1 4))] ?_
 refine iS 5 ?_
 refine sL 22 6 g1 4 0 (.slice A7 (List.length (List.map stT a)) c8) 7 u rfl ?_
 refine iR 2 7 [(8, (.int .i64 ((List.length (List.map stT a) : Nat) : Int))), (9, (.bool (((List.length (List.map stT a) : Nat) : Int) == 0)))] ?_
 refine iF ?_
 refine Zv K (o := (.tmp 9)) K (b := (((List.length (List.map stT a) : Nat) : Int) == 0)) K (fun h => ?_) (fun h => ?_)
 ·have H := ct H h
  refine aQ ?_
  refine aR ?_
  refine iR 3 3 [(10, (pt g1 0)), (11, (pt g1 0)), (12, (pt g1 6))] ?_
  refine iS 4 ?_
  refine Qm.store (t := 4) (x := (.tmp 12)) (y := (.const (.bool true))) (g := g1) (off := 6) (i := 0) (v := (.bool true)) (cs' := #[(.int .i64 q2), (.int .i64 q3), (.int .i64 q4), (.int .i64 q5), (.slice A7 (List.length (List.map stT a)) c8), (.int .i64 c), (.bool true)]) (d := none) (k := 3) K rfl K K u rfl K ?_
  intro a5 a0
  refine iF ?_
  refine aQ ?_
  refine aR ?_
  refine iR 1 1 [(13, (.agg #[(.string ⟨List.toArray ([] : List UInt8)⟩), (.int .i64 0), (.int .i64 0), (.slice none (List.length ([] : List (Int × Int))) 0), (.slice none (List.length ([] : List ((List UInt8) × (List UInt8) × Int))) 0)]))] ?_
  refine iS 2 ?_
  refine Zu (t := 33) (x := (.tmp 13)) (v := (.agg #[(.string ⟨List.toArray ([] : List UInt8)⟩), (.int .i64 0), (.int .i64 0), (.slice none (List.length ([] : List (Int × Int))) 0), (.slice none (List.length ([] : List ((List UInt8) × (List UInt8) × Int))) 0)])) (d := (some 14)) (k := 1) K rfl K a0 ?_
  intro f z a1
  refine iR 1 3 [(2, (pt f 0))] ?_
  refine iF ?_
  refine At.ret K ?_
  have a2 : SP S w0 z [Qr g1 72 #[(.int .i64 q2), (.int .i64 q3), (.int .i64 q4), (.int .i64 q5), (.slice A7 (List.length (List.map stT a)) c8), (.int .i64 c), (.bool true)], Qr f 33 #[(.string ⟨List.toArray ([] : List UInt8)⟩), (.int .i64 0), (.int .i64 0), (.slice none (List.length ([] : List (Int × Int))) 0), (.slice none (List.length ([] : List ((List UInt8) × (List UInt8) × Int))) 0)], Ve 102 (Qd (Qx .u32) (Qx .i64)) none 0 ([] : List (Int × Int))] := Uz a1 102 (Qd (Qx .u32) (Qx .i64))
  have a3 : SP S w0 z [Qr g1 72 #[(.int .i64 q2), (.int .i64 q3), (.int .i64 q4), (.int .i64 q5), (.slice A7 (List.length (List.map stT a)) c8), (.int .i64 c), (.bool true)], Qr f 33 #[(.string ⟨List.toArray ([] : List UInt8)⟩), (.int .i64 0), (.int .i64 0), (.slice none (List.length ([] : List (Int × Int))) 0), (.slice none (List.length ([] : List ((List UInt8) × (List UInt8) × Int))) 0)], Ve 102 (Qd (Qx .u32) (Qx .i64)) none 0 ([] : List (Int × Int)), Ve 37 (Qd Qn (Qd Qn (Qx .i64))) none 0 ([] : List ((List UInt8) × (List UInt8) × Int))] := Uz a2 37 (Qd Qn (Qd Qn (Qx .i64)))
  refine ⟨(pt f 0), K, ?_⟩
  obtain rfl := Qg H
  exact ⟨f, none, 0, none, 0, rfl, SP.sel a3 [1,2,3,0] rfl rfl⟩
 ·have H := cf H h
  cases H
def X4 (q2 : Int) (q3 : Int) (q4 : Int) (q5 : Int) (q6 : (List Qf)) (a : Int) (b : Bool) : Option Unit :=
  (cond (((List.length q6 : Nat) : Int) == 0) none ((idx q6 (IntKind.wrap .i64 (((List.length q6 : Nat) : Int) - 1))).bind fun c => (some ())))
set_option maxHeartbeats 40000000 in
theorem Jg {S : List Nat} (g1 : Nat) (A7 : Option Addr) (c8 : Nat) (q2 : Int) (q3 : Int) (q4 : Int) (q5 : Int) (a : (List Qw)) (h : Int) (i : Bool) (w0 : World) (hO : SP S w0 w0 [Qr g1 72 #[(.int .i64 q2), (.int .i64 q3), (.int .i64 q4), (.int .i64 q5), (.slice A7 (List.length (List.map stT a)) c8), (.int .i64 h), (.bool i)]]) (s : ∀ w, Mod S w0 w → (dDS V9 Eu).ok w (A7, c8, a)) (r : Unit) (H : X4 q2 q3 q4 q5 (List.map stT a) h i = some r) :
  Calls Tryz.prog 166 #[(pt g1 0)] w0 (fun e w' => ∃ (t : Nat) (u : Nat), e = .returned (.pointer (some ⟨t, (u + (List.length (List.map stT a) - 1) * V9.sz), none⟩)) ∧ A7 = some ⟨t, u, none⟩ ∧ SP S w0 w' [Qr g1 72 #[(.int .i64 q2), (.int .i64 q3), (.int .i64 q4), (.int .i64 q5), (.slice A7 (List.length (List.map stT a)) c8), (.int .i64 h), (.bool i)]]) := by
 unfold X4 at H
 refine Qz (n := 28) Tryz.func166 K K K ?_
 have y := hO
 refine aQ ?_
 refine aR ?_
 refine iR 1 1 [(2, (.pointer none))] ?_
 refine iF ?_
 refine aQ ?_
 refine aQ ?_
 refine aR ?_
 refine iR 4 4 [(3, (pt g1 0)), (4, (pt g1 0)), (5, (pt g1 0)), (6, (pt g1 4))] ?_
 refine iS 5 ?_
 refine sL 22 6 g1 4 0 (.slice A7 (List.length (List.map stT a)) c8) 7 y rfl ?_
 refine iR 2 7 [(8, (.int .i64 ((List.length (List.map stT a) : Nat) : Int))), (9, (.bool (((List.length (List.map stT a) : Nat) : Int) == 0)))] ?_
 refine iF ?_
 refine Zv K (o := (.tmp 9)) K (b := (((List.length (List.map stT a) : Nat) : Int) == 0)) K (fun j => ?_) (fun j => ?_)
 ·have H := ct H j
  cases H
 ·have H := cf H j
  refine At.skip K ?_
  refine aQ ?_
  obtain ⟨b4, z, a0, b5, H⟩ := Jo H
  refine aG [GEq (pt g1 0), GEq (pt g1 0), GEq (pt g1 0), GEq (pt g1 4), GEq (.slice A7 (List.length (List.map stT a)) c8), GEq (pt g1 0), GEq (pt g1 0), GEq (pt g1 0), GEq (pt g1 4), GEq (.slice A7 (List.length (List.map stT a)) c8), GEq (.int .i64 ((List.length (List.map stT a) : Nat) : Int)), GEq (.int .i64 (IntKind.wrap .i64 (((List.length (List.map stT a) : Nat) : Int) - 1))), Z2 A7 V9.sz (IntKind.wrap .i64 (((List.length (List.map stT a) : Nat) : Int) - 1)), Z2 A7 V9.sz (IntKind.wrap .i64 (((List.length (List.map stT a) : Nat) : Int) - 1))] [] (tG S w0 [Qr g1 72 #[(.int .i64 q2), (.int .i64 q3), (.int .i64 q4), (.int .i64 q5), (.slice A7 (List.length (List.map stT a)) c8), (.int .i64 h), (.bool i)]] [([], [])]) 14 0 ⟨trivial, SP.drew y⟩ ?_ ?_
  iterate 14 refine And.intro ?_ ?_
  exact trivial
  ·exact oV (hC (hS 0 (pt g1 0)) (h0)) (pt g1 0)
  ·exact oV (hC (hA 0 15) (h0)) (pt g1 0)
  ·exact oV (hC (hA 1 16) (h0)) (pt g1 0)
  ·exact oV (hC (hA 2 17) (h0)) (pt g1 4)
  ·refine oL 0 ?_
   ·rintro ρ' w' hs f ⟨b6, a3⟩
    refine kM (kc (kA f 3 18) k0) fun g => ?_
    refine sL 22 18 g1 4 0 (.slice A7 (List.length (List.map stT a)) c8) 19 a3 rfl ?_
    exact eK g
  ·exact oV (hC (hS 0 (pt g1 0)) (h0)) (pt g1 0)
  ·exact oV (hC (hA 5 20) (h0)) (pt g1 0)
  ·exact oV (hC (hA 6 21) (h0)) (pt g1 0)
  ·exact oV (hC (hA 7 22) (h0)) (pt g1 4)
  ·refine oL 0 ?_
   ·rintro ρ' w' hs f ⟨b7, a4⟩
    refine kM (kc (kA f 8 23) k0) fun g => ?_
    refine sL 22 23 g1 4 0 (.slice A7 (List.length (List.map stT a)) c8) 24 a4 rfl ?_
    exact eK g
  ·exact oV (hC (hA 9 24) (h0)) (.int .i64 ((List.length (List.map stT a) : Nat) : Int))
  ·exact oV (hC (hA 10 25) (h0)) (.int .i64 (IntKind.wrap .i64 (((List.length (List.map stT a) : Nat) : Int) - 1)))
  ·refine oL 0 ?_
   ·rintro ρ' w' hs f ⟨b8, a5⟩
    refine kM (kc (kA f 4 19) (kc (kA f 11 26) k0)) fun g => ?_
    refine Xs stT (e := V9) (l := a) (A := A7) (c := c8) (T := 22) (E := 33) (x := (.tmp 19)) (ix := (.tmp 26)) (ki := .i64) (iz := (IntKind.wrap .i64 (((List.length (List.map stT a) : Nat) : Int) - 1))) (d := (some 27)) (k := 12) K rfl K K K K ((fun w hm => (X8 (s w hm))) w' (SP.mod a5)) z a0 ?_
    intro a6 a7 a8 b9 hc68
    exact ⟨rfl, _, Qa g, ⟨a6, a7, a8, rfl⟩⟩
  ·refine oL 0 ?_
   ·rintro ρ' w' hs f ⟨c0, c1⟩
    obtain ⟨a1, a2, a9, b0⟩ := f 12 27 K
    refine kM (kc b0 k0) fun g => ?_
    refine Qm.run (k := 13) (v := (.pointer (some ⟨a1, (a2 + Int.toNat (IntKind.wrap .i64 (((List.length (List.map stT a) : Nat) : Int) - 1)) * V9.sz), none⟩))) K ?_
    exact ⟨rfl, _, Qa g, ⟨a1, a2, a9, rfl⟩⟩
  ·rintro ρ' w' hs hf ⟨c2, m⟩
   obtain ⟨p, q, b1, e2⟩ := hf 13 2 K
   refine Vv [(2, (.pointer (some ⟨p, (q + Int.toNat (IntKind.wrap .i64 (((List.length (List.map stT a) : Nat) : Int) - 1)) * V9.sz), none⟩)))] ⟨e2, trivial⟩ ?_
   obtain ⟨b2, b3⟩ : ∃ x, w' = x := ⟨_, rfl⟩
   rw [b3] at m ⊢
   refine At.ret K ?_
   refine ⟨(.pointer (some ⟨p, (q + Int.toNat (IntKind.wrap .i64 (((List.length (List.map stT a) : Nat) : Int) - 1)) * V9.sz), none⟩)), K, ?_⟩
   obtain rfl := Qg H
   exact ⟨p, q, (by rw [last_idx (RdT.max ((fun w hm => (X8 (s w hm))) b2 (SP.mod m))) z a0]), b1, SP.sel m [0] rfl rfl⟩
def Zw (q6 : (List Qf)) (b : (Int × Int × Bool)) (a : ((List UInt8) × Int × Int × (List (Int × Int)) × (List ((List UInt8) × (List UInt8) × Int)) × Int × Int × Int × Int × Int × Bool)) (c : Bool) : Option (Int × Int × Int × Int × (List Qf) × Int × Bool) :=
  ((app a.2.2.2.1 ([(b.1, b.2.1)] : List (Int × Int))).bind fun d => (some (a.2.2.2.2.2.1, a.2.2.2.2.2.2.1, a.2.2.2.2.2.2.2.1, a.2.2.2.2.2.2.2.2.1, q6, a.2.2.2.2.2.2.2.2.2.1, c)))
def Zx (q2 : Int) (q3 : Int) (q4 : Int) (q5 : Int) (c : Int) (b : (Int × Int × Bool)) (d : (List Qf)) (a : Qf) (e : Bool) : Option (Int × Int × Int × Int × (List Qf) × Int × Bool) :=
  ((app a.2.2.2.1 ([(b.1, b.2.1)] : List (Int × Int))).bind fun f => (some (q2, q3, q4, q5, (d ++ [(a.1, a.2.1, a.2.2.1, f, a.2.2.2.2)]), c, e)))
def Jv (q2 : Int) (q3 : Int) (q4 : Int) (q5 : Int) (q6 : (List Qf)) (b : Int) (e : Bool) (g : (List (List UInt8))) : Option (Int × Int × Int × Int × (List Qf) × Int × Bool) :=
  ((idx g 1).bind fun h => ((G2 h).bind fun a => (cond (List.isEmpty q6) ((X3 q2 q3 q4 q5 q6 b e).bind fun c => (cond c.2.2.2.2.2.2.2.2.2.2 (Zw q6 a c true) (cond (!a.2.2) (Zw q6 a c true) (Zw q6 a c (decide (((List.length c.2.2.2.2.1 : Nat) : Int) > 0)))))) ((X4 q2 q3 q4 q5 q6 b e).bind fun i => (lastB q6 (fun f d j => (cond e (Zx q2 q3 q4 q5 b a f d true) (cond (!a.2.2) (Zx q2 q3 q4 q5 b a f d true) (Zx q2 q3 q4 q5 b a f d (decide (((List.length d.2.2.2.2 : Nat) : Int) > 0)))))))))))
set_option maxHeartbeats 40000000 in
theorem N1 {S : List Nat} (g1 : Nat) (A7 : Option Addr) (c8 : Nat) (d1 : Option Addr) (d2 : Nat) (q2 : Int) (q3 : Int) (q4 : Int) (q5 : Int) (d9 : (List Qw)) (a6 : Int) (b4 : Bool) (c5 : (List (List UInt8))) (w0 : World) (hL : ∀ w, Mod S w0 w → Ur w) (hO : SP S w0 w0 [Qr g1 72 #[(.int .i64 q2), (.int .i64 q3), (.int .i64 q4), (.int .i64 q5), (.slice A7 (List.length (List.map stT d9)) c8), (.int .i64 a6), (.bool b4)], Yv A7 c8 d9]) (e8 : ∀ w, Mod S w0 w → RdT Qn w d1 d2 c5) (r : (Int × Int × Int × Int × (List Qf) × Int × Bool)) (H : Jv q2 q3 q4 q5 (List.map stT d9) a6 b4 c5 = some r) :
  Calls Tryz.prog 144 #[(pt g1 0), (.slice d1 (List.length c5) d2)] w0 (fun e w' => ∃ (e9 : Option Addr) (f0 : Nat) (e1 : List Qw), e = .returned (.tuple #[]) ∧ r.2.2.2.2.1 = List.map stT e1 ∧ SP S w0 w' [Qr g1 72 #[(.int .i64 r.1), (.int .i64 r.2.1), (.int .i64 r.2.2.1), (.int .i64 r.2.2.2.1), (.slice e9 (List.length (List.map stT e1)) f0), (.int .i64 r.2.2.2.2.2.1), (.bool r.2.2.2.2.2.2)], Yv e9 f0 e1]) := by
 unfold Jv at H
 refine Qz (n := 45) Tryz.func144 K K K ?_
 have d3 := hO
 refine aQ ?_
 refine aR ?_
 refine iR 1 1 [(8, (.slice d1 (List.length c5) d2))] ?_
 obtain ⟨f1, f2, f3, g9, H⟩ := Vc H
 refine iS 2 ?_
 refine Qp (e := Qn) (l := c5) (A := d1) (c := d2) (T := 79) (E := 9) (x := (.tmp 8)) (ix := (.const (.int .i64 (1)))) (ki := .i64) (iz := 1) (d := (some 9)) (k := 1) K rfl K K K K (e8 w0 (SP.mod d3)) f2 f3 ?_
 intro h1 h2 h3 l9 hc272
 refine iS 3 ?_
 refine sC 9 9 h1 (h2 + Int.toNat 1 * Qn.sz) (.string ⟨List.toArray f1⟩) 10 (Qt (e := Qn) (Qo (e8 w0 (SP.mod d3)) h3 f2 f3) g9 (j := 0) rfl) ?_
 obtain ⟨a, h4, H⟩ := Qc H
 refine iS 4 ?_
 refine cF 165 #[(.tmp 10)] #[9] 11 Tryz.call165 (Ds  f1 w0 (hL w0 (SP.mod d3)) a h4) ?_
 rintro e m0 ⟨rfl, f4⟩
 refine ⟨_, rfl, ?_⟩
 have h5 := SP.call d3 f4
 clear f4
 refine iR 3 7 [(7, (.tuple #[(.agg #[(.int .u32 a.1), (.int .i64 a.2.1)]), (.bool a.2.2)])), (12, (.agg #[(.int .u32 a.1), (.int .i64 a.2.1)])), (13, (.bool a.2.2))] ?_
 refine iS 8 ?_
 refine Qm.alloc (t := 102) (z := (.agg #[(.int .u32 0), (.int .i64 0)])) (d := (some 4)) (k := 7) K rfl K h5 ?_
 intro a1 m1 h6
 refine iS 9 ?_
 refine Qm.store (t := 102) (x := (.tmp 4)) (y := (.tmp 12)) (g := a1) (off := 0) (i := 2) (v := (.agg #[(.int .u32 a.1), (.int .i64 a.2.1)])) (cs' := #[(.int .u32 a.1), (.int .i64 a.2.1)]) (d := none) (k := 8) K rfl K K h6 rfl K ?_
 intro f5 c4
 refine iR 1 10 [(5, (.bool a.2.2))] ?_
 refine iF ?_
 refine aQ ?_
 refine aR ?_
 refine iR 1 1 [(14, (pt g1 0))] ?_
 rcases Bool.eq_false_or_eq_true (List.isEmpty (List.map stT d9)) with d4 | d4
 ·have H := ct H d4
  obtain ⟨p, h7, H⟩ := Qc H
  refine iS 2 ?_
  refine cF 166 #[(.tmp 14)] #[70] 15 Tryz.call166 (Jf g1 A7 c8 q2 q3 q4 q5 d9 a6 b4 f5 (Je c4 [0] rfl rfl) (fun w hm => G4 (SP.still c4 (l := [0]) (i := 1) rfl rfl rfl hm)) p h7) ?_
  rintro e h8 ⟨a0, a8, a9, b0, b1, rfl, f6⟩
  refine ⟨_, rfl, ?_⟩
  have c6 : SP S w0 h8 [Yv A7 c8 d9, Qr a1 102 #[(.int .u32 a.1), (.int .i64 a.2.1)], Qr a0 33 #[(.string ⟨List.toArray p.1⟩), (.int .i64 p.2.1), (.int .i64 p.2.2.1), (.slice a8 (List.length p.2.2.2.1) a9), (.slice b0 (List.length p.2.2.2.2.1) b1)], Ve 102 (Qd (Qx .u32) (Qx .i64)) a8 a9 p.2.2.2.1, Ve 37 (Qd Qn (Qd Qn (Qx .i64))) b0 b1 p.2.2.2.2.1, Qr g1 72 #[(.int .i64 p.2.2.2.2.2.1), (.int .i64 p.2.2.2.2.2.2.1), (.int .i64 p.2.2.2.2.2.2.2.1), (.int .i64 p.2.2.2.2.2.2.2.2.1), (.slice A7 (List.length (List.map stT d9)) c8), (.int .i64 p.2.2.2.2.2.2.2.2.2.1), (.bool p.2.2.2.2.2.2.2.2.2.2)]] := Zl c4 [0] [1, 2] rfl rfl f6 rfl
  clear f6
  refine iR 1 3 [(6, (pt a0 0))] ?_
  refine iF ?_
  refine aQ ?_
  refine At.join (fun ρ w => ∃ (b7 : Bool), Zd ρ [(4, (pt a1 0)), (6, (pt a0 0))] ∧ SP S w0 w [Yv A7 c8 d9, Qr g1 72 #[(.int .i64 p.2.2.2.2.2.1), (.int .i64 p.2.2.2.2.2.2.1), (.int .i64 p.2.2.2.2.2.2.2.1), (.int .i64 p.2.2.2.2.2.2.2.2.1), (.slice A7 (List.length (List.map stT d9)) c8), (.int .i64 p.2.2.2.2.2.2.2.2.2.1), (.bool b7)], Qr a1 102 #[(.int .u32 a.1), (.int .i64 a.2.1)], Ve 102 (Qd (Qx .u32) (Qx .i64)) a8 a9 p.2.2.2.1, Ve 37 (Qd Qn (Qd Qn (Qx .i64))) b0 b1 p.2.2.2.2.1, Qr a0 33 #[(.string ⟨List.toArray p.1⟩), (.int .i64 p.2.1), (.int .i64 p.2.2.1), (.slice a8 (List.length p.2.2.2.1) a9), (.slice b0 (List.length p.2.2.2.2.1) b1)]] ∧ Zw (List.map stT d9) a p b7 = some r) ?_ ?_
  ·refine aR ?_
   refine iR 4 4 [(16, (pt g1 0)), (17, (pt g1 0)), (18, (pt g1 0)), (19, (pt g1 6))] ?_
   refine iS 5 ?_
   refine sL 4 19 g1 6 5 (.bool p.2.2.2.2.2.2.2.2.2.2) 20 c6 rfl ?_
   refine iR 1 6 [(21, (.bool p.2.2.2.2.2.2.2.2.2.2))] ?_
   refine In.guard (t := 21) (b := p.2.2.2.2.2.2.2.2.2.2) K (fun e2 => ?_) (fun e2 => ?_)
   ·have H := ct H e2
    refine iR 13 19 [(22, undef), (23, undef), (24, (.bool true)), (25, (.bool true)), (26, undef), (27, undef), (28, undef), (29, undef), (30, undef), (31, undef), (32, (.bool true)), (33, (pt g1 0)), (34, (pt g1 6))] ?_
    refine iS 20 ?_
    refine Qm.store (t := 4) (x := (.tmp 34)) (y := (.tmp 32)) (g := g1) (off := 6) (i := 5) (v := (.bool true)) (cs' := #[(.int .i64 p.2.2.2.2.2.1), (.int .i64 p.2.2.2.2.2.2.1), (.int .i64 p.2.2.2.2.2.2.2.1), (.int .i64 p.2.2.2.2.2.2.2.2.1), (.slice A7 (List.length (List.map stT d9)) c8), (.int .i64 p.2.2.2.2.2.2.2.2.2.1), (.bool true)]) (d := none) (k := 19) K rfl K K c6 rfl K ?_
    intro m2 h9
    refine iF ?_
    exact ⟨true, ⟨K, K, trivial⟩, SP.sel h9 [0, 5, 1, 3, 4, 2] rfl rfl, H⟩
   ·have H := cf H e2
    refine iR 4 10 [(22, (.bool a.2.2)), (23, (.bool (!a.2.2))), (24, (.bool (!a.2.2))), (25, (.bool (!a.2.2)))] ?_
    refine In.guard (t := 25) (b := (!a.2.2)) K (fun e3 => ?_) (fun e3 => ?_)
    ·have H := ct H e3
     refine iR 9 19 [(26, undef), (27, undef), (28, undef), (29, undef), (30, undef), (31, undef), (32, (.bool true)), (33, (pt g1 0)), (34, (pt g1 6))] ?_
     refine iS 20 ?_
     refine Qm.store (t := 4) (x := (.tmp 34)) (y := (.tmp 32)) (g := g1) (off := 6) (i := 5) (v := (.bool true)) (cs' := #[(.int .i64 p.2.2.2.2.2.1), (.int .i64 p.2.2.2.2.2.2.1), (.int .i64 p.2.2.2.2.2.2.2.1), (.int .i64 p.2.2.2.2.2.2.2.2.1), (.slice A7 (List.length (List.map stT d9)) c8), (.int .i64 p.2.2.2.2.2.2.2.2.2.1), (.bool true)]) (d := none) (k := 19) K rfl K K c6 rfl K ?_
     intro m3 i0
     refine iF ?_
     exact ⟨true, ⟨K, K, trivial⟩, SP.sel i0 [0, 5, 1, 3, 4, 2] rfl rfl, H⟩
    ·have H := cf H e3
     refine iR 3 13 [(26, (pt a0 0)), (27, (pt a0 0)), (28, (pt a0 4))] ?_
     refine iS 14 ?_
     refine sL 31 28 a0 4 2 (.slice b0 (List.length p.2.2.2.2.1) b1) 29 c6 rfl ?_
     refine iR 5 19 [(30, (.int .i64 ((List.length p.2.2.2.2.1 : Nat) : Int))), (31, (.bool (decide (((List.length p.2.2.2.2.1 : Nat) : Int) > 0)))), (32, (.bool (decide (((List.length p.2.2.2.2.1 : Nat) : Int) > 0)))), (33, (pt g1 0)), (34, (pt g1 6))] ?_
     refine iS 20 ?_
     refine Qm.store (t := 4) (x := (.tmp 34)) (y := (.tmp 32)) (g := g1) (off := 6) (i := 5) (v := (.bool (decide (((List.length p.2.2.2.2.1 : Nat) : Int) > 0)))) (cs' := #[(.int .i64 p.2.2.2.2.2.1), (.int .i64 p.2.2.2.2.2.2.1), (.int .i64 p.2.2.2.2.2.2.2.1), (.int .i64 p.2.2.2.2.2.2.2.2.1), (.slice A7 (List.length (List.map stT d9)) c8), (.int .i64 p.2.2.2.2.2.2.2.2.2.1), (.bool (decide (((List.length p.2.2.2.2.1 : Nat) : Int) > 0)))]) (d := none) (k := 19) K rfl K K c6 rfl K ?_
     intro m4 i1
     refine iF ?_
     exact ⟨(decide (((List.length p.2.2.2.2.1 : Nat) : Int) > 0)), ⟨K, K, trivial⟩, SP.sel i1 [0, 5, 1, 3, 4, 2] rfl rfl, H⟩
  ·rintro ρ m5 ⟨b7, hk, i2, H⟩
   unfold Zw at H
   first | refine At.known [(4, (pt a1 0)), (6, (pt a0 0))] hk ?_ | rw [← Q1 (l := [(4, (pt a1 0)), (6, (pt a0 0))]) hk]
   obtain ⟨hl318, H⟩ := Un H
   obtain ⟨b6, hyl319⟩ : ∃ y, p.2.2.2.1 ++ ([(a.1, a.2.1)] : List (Int × Int)) = y := ⟨_, rfl⟩
   try rw [hyl319] at H
   refine aG [GEq (pt a0 0), GEq (pt a0 0), GEq (pt a0 0), GEq (pt a0 3), GEq (.slice a8 (List.length p.2.2.2.1) a9), GEq (.agg #[(.int .u32 a.1), (.int .i64 a.2.1)]), N2, N2, GEq (pt a0 0), GEq (pt a0 3), N2] [6, 7, 10] [([], fun vs w => VL vs [] ∧ SP S w0 w [Yv A7 c8 d9, Qr g1 72 #[(.int .i64 p.2.2.2.2.2.1), (.int .i64 p.2.2.2.2.2.2.1), (.int .i64 p.2.2.2.2.2.2.2.1), (.int .i64 p.2.2.2.2.2.2.2.2.1), (.slice A7 (List.length (List.map stT d9)) c8), (.int .i64 p.2.2.2.2.2.2.2.2.2.1), (.bool b7)], Qr a1 102 #[(.int .u32 a.1), (.int .i64 a.2.1)], Ve 102 (Qd (Qx .u32) (Qx .i64)) a8 a9 p.2.2.2.1, Ve 37 (Qd Qn (Qd Qn (Qx .i64))) b0 b1 p.2.2.2.2.1, Qr a0 33 #[(.string ⟨List.toArray p.1⟩), (.int .i64 p.2.1), (.int .i64 p.2.2.1), (.slice a8 (List.length p.2.2.2.1) a9), (.slice b0 (List.length p.2.2.2.2.1) b1)]]), ([6], fun vs w => ∃ (b8 : Nat), VL vs [(.slice (some ⟨b8, 0, none⟩) (List.length ([(a.1, a.2.1)] : List (Int × Int))) (List.length ([(a.1, a.2.1)] : List (Int × Int))))] ∧ SP S w0 w [Yv A7 c8 d9, Qr g1 72 #[(.int .i64 p.2.2.2.2.2.1), (.int .i64 p.2.2.2.2.2.2.1), (.int .i64 p.2.2.2.2.2.2.2.1), (.int .i64 p.2.2.2.2.2.2.2.2.1), (.slice A7 (List.length (List.map stT d9)) c8), (.int .i64 p.2.2.2.2.2.2.2.2.2.1), (.bool b7)], Qr a1 102 #[(.int .u32 a.1), (.int .i64 a.2.1)], Ve 102 (Qd (Qx .u32) (Qx .i64)) a8 a9 p.2.2.2.1, Ve 37 (Qd Qn (Qd Qn (Qx .i64))) b0 b1 p.2.2.2.2.1, Qr a0 33 #[(.string ⟨List.toArray p.1⟩), (.int .i64 p.2.1), (.int .i64 p.2.2.1), (.slice a8 (List.length p.2.2.2.1) a9), (.slice b0 (List.length p.2.2.2.2.1) b1)], Ve 102 (Qd (Qx .u32) (Qx .i64)) (some ⟨b8, 0, none⟩) (List.length ([(a.1, a.2.1)] : List (Int × Int))) ([(a.1, a.2.1)] : List (Int × Int))]), ([6, 7], fun vs w => ∃ (d5 : Nat), ∃ (b9 : Option Addr), ∃ (c0 : Nat), VL vs [(.slice (some ⟨d5, 0, none⟩) (List.length ([(a.1, a.2.1)] : List (Int × Int))) (List.length ([(a.1, a.2.1)] : List (Int × Int)))), (.slice b9 (List.length b6) c0)] ∧ SP S w0 w [Yv A7 c8 d9, Qr g1 72 #[(.int .i64 p.2.2.2.2.2.1), (.int .i64 p.2.2.2.2.2.2.1), (.int .i64 p.2.2.2.2.2.2.2.1), (.int .i64 p.2.2.2.2.2.2.2.2.1), (.slice A7 (List.length (List.map stT d9)) c8), (.int .i64 p.2.2.2.2.2.2.2.2.2.1), (.bool b7)], Qr a1 102 #[(.int .u32 a.1), (.int .i64 a.2.1)], Ve 102 (Qd (Qx .u32) (Qx .i64)) b9 c0 b6, Ve 37 (Qd Qn (Qd Qn (Qx .i64))) b0 b1 p.2.2.2.2.1, Qr a0 33 #[(.string ⟨List.toArray p.1⟩), (.int .i64 p.2.1), (.int .i64 p.2.2.1), (.slice a8 (List.length p.2.2.2.1) a9), (.slice b0 (List.length p.2.2.2.2.1) b1)], Ve 102 (Qd (Qx .u32) (Qx .i64)) (some ⟨d5, 0, none⟩) (List.length ([(a.1, a.2.1)] : List (Int × Int))) ([(a.1, a.2.1)] : List (Int × Int))]), ([6, 7, 10], fun vs w => ∃ (e4 : Nat), ∃ (d6 : Option Addr), ∃ (d7 : Nat), VL vs [(.slice (some ⟨e4, 0, none⟩) (List.length ([(a.1, a.2.1)] : List (Int × Int))) (List.length ([(a.1, a.2.1)] : List (Int × Int)))), (.slice d6 (List.length b6) d7), undef] ∧ SP S w0 w [Yv A7 c8 d9, Qr g1 72 #[(.int .i64 p.2.2.2.2.2.1), (.int .i64 p.2.2.2.2.2.2.1), (.int .i64 p.2.2.2.2.2.2.2.1), (.int .i64 p.2.2.2.2.2.2.2.2.1), (.slice A7 (List.length (List.map stT d9)) c8), (.int .i64 p.2.2.2.2.2.2.2.2.2.1), (.bool b7)], Qr a1 102 #[(.int .u32 a.1), (.int .i64 a.2.1)], Ve 102 (Qd (Qx .u32) (Qx .i64)) d6 d7 b6, Ve 37 (Qd Qn (Qd Qn (Qx .i64))) b0 b1 p.2.2.2.2.1, Qr a0 33 #[(.string ⟨List.toArray p.1⟩), (.int .i64 p.2.1), (.int .i64 p.2.2.1), (.slice d6 (List.length b6) d7), (.slice b0 (List.length p.2.2.2.2.1) b1)], Ve 102 (Qd (Qx .u32) (Qx .i64)) (some ⟨e4, 0, none⟩) (List.length ([(a.1, a.2.1)] : List (Int × Int))) ([(a.1, a.2.1)] : List (Int × Int))])] 11 3 ⟨trivial, SP.drew i2⟩ ?_ ?_
   iterate 11 refine And.intro ?_ ?_
   exact trivial
   ·exact oV (hC (hS 6 (pt a0 0)) (h0)) (pt a0 0)
   ·exact oV (hC (hS 6 (pt a0 0)) (h0)) (pt a0 0)
   ·exact oV (hC (hA 1 36) (h0)) (pt a0 0)
   ·exact oV (hC (hA 2 37) (h0)) (pt a0 3)
   ·refine Owe.light K [0, 1] K (Qb ?_ (Qb ?_ Qy))
    ·rintro ρ' w' hs a5 ⟨m6, i3⟩
     refine kM (kc (kA a5 3 38) k0) fun a4 => ?_
     refine sL 30 38 a0 3 5 (.slice a8 (List.length p.2.2.2.1) a9) 39 i3 rfl ?_
     exact eK a4
    ·rintro ρ' w' hs a5 ⟨b8, ⟨m7, -⟩, i4⟩
     refine kM (kc (kA a5 3 38) k0) fun a4 => ?_
     refine sL 30 38 a0 3 5 (.slice a8 (List.length p.2.2.2.1) a9) 39 i4 rfl ?_
     exact eK a4
   ·refine oL 0 ?_
    ·rintro ρ' w' hs a5 ⟨m8, i5⟩
     refine kM (kc (kS hs 4 (pt a1 0)) k0) fun a4 => ?_
     refine sL 102 4 a1 0 2 (.agg #[(.int .u32 a.1), (.int .i64 a.2.1)]) 40 i5 rfl ?_
     exact eK a4
   ·refine oH 0 1 ?_
    ·rintro ρ' w' hs a5 ⟨m9, i6⟩
     refine kM (kc (kA a5 5 40) k0) fun a4 => ?_
     refine Zk (e := (Qd (Qx .u32) (Qx .i64))) (T := 30) (E := 102) (len := 1) (parts := #[(0, (.tmp 40))]) (cs := #[(.int .u32 a.1), (.int .i64 a.2.1)]) ([(a.1, a.2.1)] : List (Int × Int)) (d := (some 41)) (k := 6) K rfl (fun _ => K) i6 rfl rfl rfl rfl ?_
     intro i7 n0 i8
     refine ⟨_, Qa a4, trivial, ?_⟩
     exact (Exists.intro i7 (And.intro (And.intro rfl (trivial)) i8))
   ·refine oH 1 2 ?_
    ·rintro ρ' w' hs a5 ⟨b8, ⟨f7, -⟩, f8⟩
     refine kN [(39, (.slice a8 (List.length p.2.2.2.1) a9)), (41, (.slice (some ⟨b8, 0, none⟩) (List.length ([(a.1, a.2.1)] : List (Int × Int))) (List.length ([(a.1, a.2.1)] : List (Int × Int)))))] ⟨a5 4 39 K, (Q9 (h := 6) K).symm.trans f7, trivial⟩ fun a4 => ?_
     refine Qm.append (e := (Qd (Qx .u32) (Qx .i64))) (l := p.2.2.2.1) (m := ([(a.1, a.2.1)] : List (Int × Int))) (A := a8) (c := a9) (T := 30) (TX := 30) (E := 102) (b := 16) (s := (.tmp 39)) (x := (.tmp 41)) (i := 3) (vx := (.slice (some ⟨b8, 0, none⟩) (List.length ([(a.1, a.2.1)] : List (Int × Int))) (List.length ([(a.1, a.2.1)] : List (Int × Int))))) (d := (some 42)) (k := 7) K rfl K K K K rfl f8 rfl (Dj (E := 102) K (Vr (SP.get f8 (i := 6) rfl))) hl318 ?_
     rw [hyl319]
     intro i9 j0 n1 j1
     refine ⟨_, Qa a4, trivial, ?_⟩
     exact (Exists.intro b8 (Exists.intro i9 (Exists.intro j0 (And.intro (And.intro f7 (And.intro rfl (trivial))) j1))))
   ·exact oV (hC (hA 0 35) (h0)) (pt a0 0)
   ·exact oV (hC (hA 8 43) (h0)) (pt a0 3)
   ·refine oH 2 3 ?_
    ·rintro ρ' w' hs a5 ⟨d5, b9, c0, ⟨j2, f9, -⟩, j3⟩
     refine kN [(44, (pt a0 3)), (42, (.slice b9 (List.length b6) c0))] ⟨a5 9 44 K, (Q9 (h := 7) K).symm.trans f9, trivial⟩ fun a4 => ?_
     refine Qm.store (t := 30) (x := (.tmp 44)) (y := (.tmp 42)) (g := a0) (off := 3) (i := 5) (v := (.slice b9 (List.length b6) c0)) (cs' := #[(.string ⟨List.toArray p.1⟩), (.int .i64 p.2.1), (.int .i64 p.2.2.1), (.slice b9 (List.length b6) c0), (.slice b0 (List.length p.2.2.2.2.1) b1)]) (d := none) (k := 10) K rfl K K j3 rfl K ?_
     intro n2 j4
     refine ⟨_, Qa a4, trivial, ?_⟩
     exact (Exists.intro d5 (Exists.intro b9 (Exists.intro c0 (And.intro (And.intro j2 (And.intro f9 (And.intro rfl (trivial)))) j4))))
   ·rintro ρ' w' hs hf ⟨e4, d6, d7, ⟨n3, n4, n5, -⟩, g0⟩
    refine Vv [] trivial ?_
    obtain ⟨n6, j5⟩ : ∃ x, w' = x := ⟨_, rfl⟩
    rw [j5] at g0 ⊢
    refine ⟨(.tuple #[]), K, ?_⟩
    obtain rfl := Qg H
    exact ⟨A7, c8, d9, rfl, rfl, SP.sel g0 [1,0] rfl rfl⟩
 ·have H := cf H d4
  obtain ⟨j6, j7, H⟩ := Qc H
  refine iS 2 ?_
  refine cF 166 #[(.tmp 14)] #[70] 15 Tryz.call166 (Jg g1 A7 c8 q2 q3 q4 q5 d9 a6 b4 f5 (Je c4 [0] rfl rfl) (fun w hm => G4 (SP.still c4 (l := [0]) (i := 1) rfl rfl rfl hm)) j6 j7) ?_
  rintro e g2 ⟨a2, a3, rfl, d8, g3⟩
  refine ⟨_, rfl, ?_⟩
  have j8 : SP S w0 g2 [Yv A7 c8 d9, Qr a1 102 #[(.int .u32 a.1), (.int .i64 a.2.1)], Qr g1 72 #[(.int .i64 q2), (.int .i64 q3), (.int .i64 q4), (.int .i64 q5), (.slice A7 (List.length (List.map stT d9)) c8), (.int .i64 a6), (.bool b4)]] := Zl c4 [0] [1, 2] rfl rfl g3 rfl
  clear g3
  obtain ⟨u, o, e5⟩ := Ck d4
  have Hd407 := Cl e5 H
  have hnd407 : List.length (List.map stT d9) - 1 = List.length u := by rw [e5]; simp
  rw [hnd407]
  subst e5
  have H := Hd407
  have c7 : SP S w0 g2 [Ve 33 V9 A7 c8 (u ++ [o]), Qr a1 102 #[(.int .u32 a.1), (.int .i64 a.2.1)], Qr g1 72 #[(.int .i64 q2), (.int .i64 q3), (.int .i64 q4), (.int .i64 q5), (.slice A7 (List.length (List.map stT (u ++ [o]))) c8), (.int .i64 a6), (.bool b4)], Rj u, Ve 102 (Qd (Qx .u32) (Qx .i64)) o.2.2.2.1.1 o.2.2.2.1.2.1 (stT o).2.2.2.1, Ve 37 (Qd Qn (Qd Qn (Qx .i64))) o.2.2.2.2.1 o.2.2.2.2.2.1 (stT o).2.2.2.2] := Bw j8 (i := 0) rfl rfl
  refine iR 1 3 [(6, (.pointer (some ⟨a2, (a3 + (List.length u) * V9.sz), none⟩)))] ?_
  refine iF ?_
  refine aQ ?_
  refine At.join (fun ρ w => ∃ (b5 : Bool), Zd ρ [(4, (pt a1 0)), (6, (.pointer (some ⟨a2, (a3 + (List.length u) * V9.sz), none⟩)))] ∧ SP S w0 w [Ve 33 V9 A7 c8 (u ++ [o]), Rj u, Ve 102 (Qd (Qx .u32) (Qx .i64)) o.2.2.2.1.1 o.2.2.2.1.2.1 (stT o).2.2.2.1, Ve 37 (Qd Qn (Qd Qn (Qx .i64))) o.2.2.2.2.1 o.2.2.2.2.2.1 (stT o).2.2.2.2, Qr g1 72 #[(.int .i64 q2), (.int .i64 q3), (.int .i64 q4), (.int .i64 q5), (.slice A7 (List.length (List.map stT (u ++ [o]))) c8), (.int .i64 a6), (.bool b5)], Qr a1 102 #[(.int .u32 a.1), (.int .i64 a.2.1)]] ∧ Zx q2 q3 q4 q5 a6 a (List.map stT u) (stT o) b5 = some r) ?_ ?_
  ·refine aR ?_
   refine iR 4 4 [(16, (pt g1 0)), (17, (pt g1 0)), (18, (pt g1 0)), (19, (pt g1 6))] ?_
   refine iS 5 ?_
   refine sL 4 19 g1 6 2 (.bool b4) 20 c7 rfl ?_
   refine iR 1 6 [(21, (.bool b4))] ?_
   refine In.guard (t := 21) (b := b4) K (fun e6 => ?_) (fun e6 => ?_)
   ·have H := ct H e6
    refine iR 13 19 [(22, undef), (23, undef), (24, (.bool true)), (25, (.bool true)), (26, undef), (27, undef), (28, undef), (29, undef), (30, undef), (31, undef), (32, (.bool true)), (33, (pt g1 0)), (34, (pt g1 6))] ?_
    refine iS 20 ?_
    refine Qm.store (t := 4) (x := (.tmp 34)) (y := (.tmp 32)) (g := g1) (off := 6) (i := 2) (v := (.bool true)) (cs' := #[(.int .i64 q2), (.int .i64 q3), (.int .i64 q4), (.int .i64 q5), (.slice A7 (List.length (List.map stT (u ++ [o]))) c8), (.int .i64 a6), (.bool true)]) (d := none) (k := 19) K rfl K K c7 rfl K ?_
    intro n7 j9
    refine iF ?_
    exact ⟨true, ⟨K, K, trivial⟩, SP.sel j9 [0, 3, 4, 5, 2, 1] rfl rfl, H⟩
   ·have H := cf H e6
    refine iR 4 10 [(22, (.bool a.2.2)), (23, (.bool (!a.2.2))), (24, (.bool (!a.2.2))), (25, (.bool (!a.2.2)))] ?_
    refine In.guard (t := 25) (b := (!a.2.2)) K (fun e7 => ?_) (fun e7 => ?_)
    ·have H := ct H e7
     refine iR 9 19 [(26, undef), (27, undef), (28, undef), (29, undef), (30, undef), (31, undef), (32, (.bool true)), (33, (pt g1 0)), (34, (pt g1 6))] ?_
     refine iS 20 ?_
     refine Qm.store (t := 4) (x := (.tmp 34)) (y := (.tmp 32)) (g := g1) (off := 6) (i := 2) (v := (.bool true)) (cs' := #[(.int .i64 q2), (.int .i64 q3), (.int .i64 q4), (.int .i64 q5), (.slice A7 (List.length (List.map stT (u ++ [o]))) c8), (.int .i64 a6), (.bool true)]) (d := none) (k := 19) K rfl K K c7 rfl K ?_
     intro n8 k1
     refine iF ?_
     exact ⟨true, ⟨K, K, trivial⟩, SP.sel k1 [0, 3, 4, 5, 2, 1] rfl rfl, H⟩
    ·have H := cf H e7
     refine iR 3 13 [(26, (.pointer (some ⟨a2, (a3 + (List.length u) * V9.sz), none⟩))), (27, (.pointer (some ⟨a2, (a3 + (List.length u) * V9.sz), none⟩))), (28, (.pointer (some ⟨a2, (a3 + (List.length u) * V9.sz + 4), none⟩)))] ?_
     refine iS 14 ?_
     refine sC 31 28 a2 (a3 + (List.length u) * V9.sz + 4) (.slice o.2.2.2.2.1 (List.length (stT o).2.2.2.2) o.2.2.2.2.2.1) 29 (N0 (SP.get c7 (i := 0) rfl) d8 (f := 4) rfl) ?_
     refine iR 5 19 [(30, (.int .i64 ((List.length (stT o).2.2.2.2 : Nat) : Int))), (31, (.bool (decide (((List.length (stT o).2.2.2.2 : Nat) : Int) > 0)))), (32, (.bool (decide (((List.length (stT o).2.2.2.2 : Nat) : Int) > 0)))), (33, (pt g1 0)), (34, (pt g1 6))] ?_
     refine iS 20 ?_
     refine Qm.store (t := 4) (x := (.tmp 34)) (y := (.tmp 32)) (g := g1) (off := 6) (i := 2) (v := (.bool (decide (((List.length (stT o).2.2.2.2 : Nat) : Int) > 0)))) (cs' := #[(.int .i64 q2), (.int .i64 q3), (.int .i64 q4), (.int .i64 q5), (.slice A7 (List.length (List.map stT (u ++ [o]))) c8), (.int .i64 a6), (.bool (decide (((List.length (stT o).2.2.2.2 : Nat) : Int) > 0)))]) (d := none) (k := 19) K rfl K K c7 rfl K ?_
     intro n9 k2
     refine iF ?_
     exact ⟨(decide (((List.length (stT o).2.2.2.2 : Nat) : Int) > 0)), ⟨K, K, trivial⟩, SP.sel k2 [0, 3, 4, 5, 2, 1] rfl rfl, H⟩
  ·rintro ρ o0 ⟨b5, hk, k3, H⟩
   unfold Zx at H
   first | refine At.known [(4, (pt a1 0)), (6, (.pointer (some ⟨a2, (a3 + (List.length u) * V9.sz), none⟩)))] hk ?_ | rw [← Q1 (l := [(4, (pt a1 0)), (6, (.pointer (some ⟨a2, (a3 + (List.length u) * V9.sz), none⟩)))]) hk]
   obtain ⟨hl433, H⟩ := Un H
   obtain ⟨a7, hyl434⟩ : ∃ y, (stT o).2.2.2.1 ++ ([(a.1, a.2.1)] : List (Int × Int)) = y := ⟨_, rfl⟩
   try rw [hyl434] at H
   refine aG [GEq (.pointer (some ⟨a2, (a3 + (List.length u) * V9.sz), none⟩)), GEq (.pointer (some ⟨a2, (a3 + (List.length u) * V9.sz), none⟩)), GEq (.pointer (some ⟨a2, (a3 + (List.length u) * V9.sz), none⟩)), GEq (.pointer (some ⟨a2, (a3 + (List.length u) * V9.sz + 3), none⟩)), GEq (.slice o.2.2.2.1.1 (List.length (stT o).2.2.2.1) o.2.2.2.1.2.1), GEq (.agg #[(.int .u32 a.1), (.int .i64 a.2.1)]), N2, N2, GEq (.pointer (some ⟨a2, (a3 + (List.length u) * V9.sz), none⟩)), GEq (.pointer (some ⟨a2, (a3 + (List.length u) * V9.sz + 3), none⟩)), N2] [6, 7, 10] [([], fun vs w => VL vs [] ∧ SP S w0 w [Ve 33 V9 A7 c8 (u ++ [o]), Rj u, Ve 102 (Qd (Qx .u32) (Qx .i64)) o.2.2.2.1.1 o.2.2.2.1.2.1 (stT o).2.2.2.1, Ve 37 (Qd Qn (Qd Qn (Qx .i64))) o.2.2.2.2.1 o.2.2.2.2.2.1 (stT o).2.2.2.2, Qr g1 72 #[(.int .i64 q2), (.int .i64 q3), (.int .i64 q4), (.int .i64 q5), (.slice A7 (List.length (List.map stT (u ++ [o]))) c8), (.int .i64 a6), (.bool b5)], Qr a1 102 #[(.int .u32 a.1), (.int .i64 a.2.1)]]), ([6], fun vs w => ∃ (c1 : Nat), VL vs [(.slice (some ⟨c1, 0, none⟩) (List.length ([(a.1, a.2.1)] : List (Int × Int))) (List.length ([(a.1, a.2.1)] : List (Int × Int))))] ∧ SP S w0 w [Ve 33 V9 A7 c8 (u ++ [o]), Rj u, Ve 102 (Qd (Qx .u32) (Qx .i64)) o.2.2.2.1.1 o.2.2.2.1.2.1 (stT o).2.2.2.1, Ve 37 (Qd Qn (Qd Qn (Qx .i64))) o.2.2.2.2.1 o.2.2.2.2.2.1 (stT o).2.2.2.2, Qr g1 72 #[(.int .i64 q2), (.int .i64 q3), (.int .i64 q4), (.int .i64 q5), (.slice A7 (List.length (List.map stT (u ++ [o]))) c8), (.int .i64 a6), (.bool b5)], Qr a1 102 #[(.int .u32 a.1), (.int .i64 a.2.1)], Ve 102 (Qd (Qx .u32) (Qx .i64)) (some ⟨c1, 0, none⟩) (List.length ([(a.1, a.2.1)] : List (Int × Int))) ([(a.1, a.2.1)] : List (Int × Int))]), ([6, 7], fun vs w => ∃ (e0 : Nat), ∃ (c2 : Option Addr), ∃ (c3 : Nat), VL vs [(.slice (some ⟨e0, 0, none⟩) (List.length ([(a.1, a.2.1)] : List (Int × Int))) (List.length ([(a.1, a.2.1)] : List (Int × Int)))), (.slice c2 (List.length a7) c3)] ∧ SP S w0 w [Ve 33 V9 A7 c8 (u ++ [o]), Rj u, Ve 102 (Qd (Qx .u32) (Qx .i64)) c2 c3 a7, Ve 37 (Qd Qn (Qd Qn (Qx .i64))) o.2.2.2.2.1 o.2.2.2.2.2.1 (stT o).2.2.2.2, Qr g1 72 #[(.int .i64 q2), (.int .i64 q3), (.int .i64 q4), (.int .i64 q5), (.slice A7 (List.length (List.map stT (u ++ [o]))) c8), (.int .i64 a6), (.bool b5)], Qr a1 102 #[(.int .u32 a.1), (.int .i64 a.2.1)], Ve 102 (Qd (Qx .u32) (Qx .i64)) (some ⟨e0, 0, none⟩) (List.length ([(a.1, a.2.1)] : List (Int × Int))) ([(a.1, a.2.1)] : List (Int × Int))]), ([6, 7, 10], fun vs w => ∃ (c9 : Nat), ∃ (b2 : Option Addr), ∃ (b3 : Nat), VL vs [(.slice (some ⟨c9, 0, none⟩) (List.length ([(a.1, a.2.1)] : List (Int × Int))) (List.length ([(a.1, a.2.1)] : List (Int × Int)))), (.slice b2 (List.length a7) b3), undef] ∧ SP S w0 w [Ve 33 V9 A7 c8 (u ++ [((o.1, o.2.1, o.2.2.1, (b2, b3, a7), o.2.2.2.2) : Qw)]), Rj u, Ve 102 (Qd (Qx .u32) (Qx .i64)) b2 b3 a7, Ve 37 (Qd Qn (Qd Qn (Qx .i64))) o.2.2.2.2.1 o.2.2.2.2.2.1 (stT o).2.2.2.2, Qr g1 72 #[(.int .i64 q2), (.int .i64 q3), (.int .i64 q4), (.int .i64 q5), (.slice A7 (List.length (List.map stT (u ++ [o]))) c8), (.int .i64 a6), (.bool b5)], Qr a1 102 #[(.int .u32 a.1), (.int .i64 a.2.1)], Ve 102 (Qd (Qx .u32) (Qx .i64)) (some ⟨c9, 0, none⟩) (List.length ([(a.1, a.2.1)] : List (Int × Int))) ([(a.1, a.2.1)] : List (Int × Int))])] 11 3 ⟨trivial, SP.drew k3⟩ ?_ ?_
   iterate 11 refine And.intro ?_ ?_
   exact trivial
   ·exact oV (hC (hS 6 (.pointer (some ⟨a2, (a3 + (List.length u) * V9.sz), none⟩))) (h0)) (.pointer (some ⟨a2, (a3 + (List.length u) * V9.sz), none⟩))
   ·exact oV (hC (hS 6 (.pointer (some ⟨a2, (a3 + (List.length u) * V9.sz), none⟩))) (h0)) (.pointer (some ⟨a2, (a3 + (List.length u) * V9.sz), none⟩))
   ·exact oV (hC (hA 1 36) (h0)) (.pointer (some ⟨a2, (a3 + (List.length u) * V9.sz), none⟩))
   ·exact oV (hC (hA 2 37) (h0)) (.pointer (some ⟨a2, (a3 + (List.length u) * V9.sz + 3), none⟩))
   ·refine Owe.light K [0, 1] K (Qb ?_ (Qb ?_ Qy))
    ·rintro ρ' w' hs a5 ⟨o1, k4⟩
     refine kM (kc (kA a5 3 38) k0) fun a4 => ?_
     refine sC 30 38 a2 (a3 + (List.length u) * V9.sz + 3) (.slice o.2.2.2.1.1 (List.length (stT o).2.2.2.1) o.2.2.2.1.2.1) 39 (N0 (SP.get k4 (i := 0) rfl) d8 (f := 3) rfl) ?_
     exact eK a4
    ·rintro ρ' w' hs a5 ⟨c1, ⟨o2, -⟩, k5⟩
     refine kM (kc (kA a5 3 38) k0) fun a4 => ?_
     refine sC 30 38 a2 (a3 + (List.length u) * V9.sz + 3) (.slice o.2.2.2.1.1 (List.length (stT o).2.2.2.1) o.2.2.2.1.2.1) 39 (N0 (SP.get k5 (i := 0) rfl) d8 (f := 3) rfl) ?_
     exact eK a4
   ·refine oL 0 ?_
    ·rintro ρ' w' hs a5 ⟨o3, k6⟩
     refine kM (kc (kS hs 4 (pt a1 0)) k0) fun a4 => ?_
     refine sL 102 4 a1 0 5 (.agg #[(.int .u32 a.1), (.int .i64 a.2.1)]) 40 k6 rfl ?_
     exact eK a4
   ·refine oH 0 1 ?_
    ·rintro ρ' w' hs a5 ⟨o4, k7⟩
     refine kM (kc (kA a5 5 40) k0) fun a4 => ?_
     refine Zk (e := (Qd (Qx .u32) (Qx .i64))) (T := 30) (E := 102) (len := 1) (parts := #[(0, (.tmp 40))]) (cs := #[(.int .u32 a.1), (.int .i64 a.2.1)]) ([(a.1, a.2.1)] : List (Int × Int)) (d := (some 41)) (k := 6) K rfl (fun _ => K) k7 rfl rfl rfl rfl ?_
     intro k8 o5 k9
     refine ⟨_, Qa a4, trivial, ?_⟩
     exact (Exists.intro k8 (And.intro (And.intro rfl (trivial)) k9))
   ·refine oH 1 2 ?_
    ·rintro ρ' w' hs a5 ⟨c1, ⟨g4, -⟩, g5⟩
     refine kN [(39, (.slice o.2.2.2.1.1 (List.length (stT o).2.2.2.1) o.2.2.2.1.2.1)), (41, (.slice (some ⟨c1, 0, none⟩) (List.length ([(a.1, a.2.1)] : List (Int × Int))) (List.length ([(a.1, a.2.1)] : List (Int × Int)))))] ⟨a5 4 39 K, (Q9 (h := 6) K).symm.trans g4, trivial⟩ fun a4 => ?_
     refine Qm.append (e := (Qd (Qx .u32) (Qx .i64))) (l := (stT o).2.2.2.1) (m := ([(a.1, a.2.1)] : List (Int × Int))) (A := o.2.2.2.1.1) (c := o.2.2.2.1.2.1) (T := 30) (TX := 30) (E := 102) (b := 16) (s := (.tmp 39)) (x := (.tmp 41)) (i := 2) (vx := (.slice (some ⟨c1, 0, none⟩) (List.length ([(a.1, a.2.1)] : List (Int × Int))) (List.length ([(a.1, a.2.1)] : List (Int × Int))))) (d := (some 42)) (k := 7) K rfl K K K K rfl g5 rfl (Dj (E := 102) K (Vr (SP.get g5 (i := 6) rfl))) hl433 ?_
     rw [hyl434]
     intro l0 l1 o6 l2
     refine ⟨_, Qa a4, trivial, ?_⟩
     exact (Exists.intro c1 (Exists.intro l0 (Exists.intro l1 (And.intro (And.intro g4 (And.intro rfl (trivial))) l2))))
   ·exact oV (hC (hA 0 35) (h0)) (.pointer (some ⟨a2, (a3 + (List.length u) * V9.sz), none⟩))
   ·exact oV (hC (hA 8 43) (h0)) (.pointer (some ⟨a2, (a3 + (List.length u) * V9.sz + 3), none⟩))
   ·refine oH 2 3 ?_
    ·rintro ρ' w' hs a5 ⟨e0, c2, c3, ⟨l3, g6, -⟩, l4⟩
     refine kN [(44, (.pointer (some ⟨a2, (a3 + (List.length u) * V9.sz + 3), none⟩))), (42, (.slice c2 (List.length a7) c3))] ⟨a5 9 44 K, (Q9 (h := 7) K).symm.trans g6, trivial⟩ fun a4 => ?_
     refine Rr (t := 30) (x := (.tmp 44)) (z := (.tmp 42)) (A := A7) (c := c8) (d0 := u) (y := o) (y' := ((o.1, o.2.1, o.2.2.1, (c2, c3, a7), o.2.2.2.2) : Qw)) (b := a2) (off := a3) (f := 3) (i := 0) (v := (.slice c2 (List.length a7) c3)) (dst := none) (k := 10) K rfl d8 K K l4 rfl K rfl K ?_
     intro o7 l5
     refine ⟨_, Qa a4, trivial, ?_⟩
     exact (Exists.intro e0 (Exists.intro c2 (Exists.intro c3 (And.intro (And.intro l3 (And.intro g6 (And.intro rfl (trivial)))) l5))))
   ·rintro ρ' w' hs hf ⟨c9, b2, b3, ⟨o8, o9, p0, -⟩, g7⟩
    refine Vv [] trivial ?_
    obtain ⟨g8, l6⟩ : ∃ x, w' = x := ⟨_, rfl⟩
    rw [l6] at g7 ⊢
    have l7 : SP S w0 g8 [Yv A7 c8 (u ++ [((o.1, o.2.1, o.2.2.1, (b2, b3, a7), o.2.2.2.2) : Qw)]), Qr g1 72 #[(.int .i64 q2), (.int .i64 q3), (.int .i64 q4), (.int .i64 q5), (.slice A7 (List.length (List.map stT (u ++ [o]))) c8), (.int .i64 a6), (.bool b5)], Qr a1 102 #[(.int .u32 a.1), (.int .i64 a.2.1)], Ve 102 (Qd (Qx .u32) (Qx .i64)) (some ⟨c9, 0, none⟩) (List.length ([(a.1, a.2.1)] : List (Int × Int))) ([(a.1, a.2.1)] : List (Int × Int))] := D2 g7 (A := A7) (c := c8) (d0 := u) (y := ((o.1, o.2.1, o.2.2.1, (b2, b3, a7), o.2.2.2.2) : Qw)) (i := 0) (q := 1) (j := 2) (m := 3) rfl rfl rfl rfl (by decide) (by decide) (by decide) rfl
    have l8 : SP S w0 g8 [Yv A7 c8 (u ++ [((o.1, o.2.1, o.2.2.1, (b2, b3, a7), o.2.2.2.2) : Qw)]), Qr g1 72 #[(.int .i64 q2), (.int .i64 q3), (.int .i64 q4), (.int .i64 q5), (.slice A7 (List.length (List.map stT (u ++ [((o.1, o.2.1, o.2.2.1, (b2, b3, a7), o.2.2.2.2) : Qw)]))) c8), (.int .i64 a6), (.bool b5)], Qr a1 102 #[(.int .u32 a.1), (.int .i64 a.2.1)], Ve 102 (Qd (Qx .u32) (Qx .i64)) (some ⟨c9, 0, none⟩) (List.length ([(a.1, a.2.1)] : List (Int × Int))) ([(a.1, a.2.1)] : List (Int × Int))] := by have h := l7; rw [Fv (d0 := u) (y := o) ((o.1, o.2.1, o.2.2.1, (b2, b3, a7), o.2.2.2.2) : Qw)] at h; exact h
    refine ⟨(.tuple #[]), K, ?_⟩
    obtain rfl := Qg H
    exact ⟨A7, c8, (u ++ [((o.1, o.2.1, o.2.2.1, (b2, b3, a7), o.2.2.2.2) : Qw)]), rfl, (C1 (d0 := u) (y := ((o.1, o.2.1, o.2.2.1, (b2, b3, a7), o.2.2.2.2) : Qw))), SP.sel l8 [1,0] rfl rfl⟩
def Z6 (q2 : Int) (q3 : Int) (q4 : Int) (q5 : Int) (q6 : (List Qf)) (f : Int) (e : (List (List UInt8))) (h : ((List UInt8) × Bool)) (g : Bool) : Option (Int × Int × Int × Int × (List Qf) × Int × Bool) :=
  (cond (List.isEmpty q6) ((X3 q2 q3 q4 q5 q6 f g).bind fun a => ((idx e 1).bind fun i => ((idx e 3).bind fun j => ((Vz a.2.2.2.2.2.1 a.2.2.2.2.2.2.1 a.2.2.2.2.2.2.2.1 a.2.2.2.2.2.2.2.2.1 a.2.2.2.2.2.2.2.2.2.1 a.2.2.2.2.2.2.2.2.2.2 j).bind fun b => ((app a.2.2.2.2.1 ([(i, h.1, b.1)] : List ((List UInt8) × (List UInt8) × Int))).bind fun o => (some (b.2.1, b.2.2.1, b.2.2.2.1, b.2.2.2.2.1, q6, b.2.2.2.2.2.1, b.2.2.2.2.2.2))))))) ((X4 q2 q3 q4 q5 q6 f g).bind fun p => (lastB q6 (fun k d q => ((idx e 1).bind fun l => ((idx e 3).bind fun m => ((Vz q2 q3 q4 q5 f g m).bind fun c => ((app d.2.2.2.2 ([(l, h.1, c.1)] : List ((List UInt8) × (List UInt8) × Int))).bind fun n => (some (c.2.1, c.2.2.1, c.2.2.2.1, c.2.2.2.2.1, (k ++ [(d.1, d.2.1, d.2.2.1, d.2.2.2.1, n)]), c.2.2.2.2.2.1, c.2.2.2.2.2.2))))))))))
def Y9 (q2 : Int) (q3 : Int) (q4 : Int) (q5 : Int) (q6 : (List Qf)) (c : Int) (d : Bool) (a : (List (List UInt8))) : Option (Int × Int × Int × Int × (List Qf) × Int × Bool) :=
  ((idx a 2).bind fun e => ((Nn e).bind fun b => (cond d (Z6 q2 q3 q4 q5 q6 c a b true) (Z6 q2 q3 q4 q5 q6 c a b (!b.2)))))
set_option maxHeartbeats 40000000 in
theorem Nd {S : List Nat} (g1 : Nat) (A7 : Option Addr) (c8 : Nat) (a6 : Option Addr) (b0 : Nat) (q2 : Int) (q3 : Int) (q4 : Int) (q5 : Int) (d9 : (List Qw)) (c0 : Int) (d5 : Bool) (a8 : (List (List UInt8))) (w0 : World) (hL : ∀ w, Mod S w0 w → Ur w) (hO : SP S w0 w0 [Qr g1 72 #[(.int .i64 q2), (.int .i64 q3), (.int .i64 q4), (.int .i64 q5), (.slice A7 (List.length (List.map stT d9)) c8), (.int .i64 c0), (.bool d5)], Yv A7 c8 d9]) (b9 : ∀ w, Mod S w0 w → RdT Qn w a6 b0 a8) (r : (Int × Int × Int × Int × (List Qf) × Int × Bool)) (H : Y9 q2 q3 q4 q5 (List.map stT d9) c0 d5 a8 = some r) :
  Calls Tryz.prog 145 #[(pt g1 0), (.slice a6 (List.length a8) b0)] w0 (fun e w' => ∃ (f9 : Option Addr) (g0 : Nat) (e8 : List Qw), e = .returned (.tuple #[]) ∧ r.2.2.2.2.1 = List.map stT e8 ∧ SP S w0 w' [Qr g1 72 #[(.int .i64 r.1), (.int .i64 r.2.1), (.int .i64 r.2.2.1), (.int .i64 r.2.2.2.1), (.slice f9 (List.length (List.map stT e8)) g0), (.int .i64 r.2.2.2.2.2.1), (.bool r.2.2.2.2.2.2)], Yv f9 g0 e8]) := by
 unfold Y9 at H
 refine Qz (n := 47) Tryz.func145 K K K ?_
 have e9 := hO
 refine aQ ?_
 refine aR ?_
 refine iR 1 1 [(8, (.slice a6 (List.length a8) b0))] ?_
 obtain ⟨g2, g3, g4, i8, H⟩ := Vc H
 refine iS 2 ?_
 refine Qp (e := Qn) (l := a8) (A := a6) (c := b0) (T := 79) (E := 9) (x := (.tmp 8)) (ix := (.const (.int .i64 (2)))) (ki := .i64) (iz := 2) (d := (some 9)) (k := 1) K rfl K K K K (b9 w0 (SP.mod e9)) g3 g4 ?_
 intro i9 j0 j1 u1 hc424
 refine iS 3 ?_
 refine sC 9 9 i9 (j0 + Int.toNat 2 * Qn.sz) (.string ⟨List.toArray g2⟩) 10 (Qt (e := Qn) (Qo (b9 w0 (SP.mod e9)) j1 g3 g4) i8 (j := 0) rfl) ?_
 obtain ⟨o, j2, H⟩ := Qc H
 refine iS 4 ?_
 refine cF 161 #[(.tmp 10)] #[9] 11 Tryz.call161 (Rz  g2 w0  o j2) ?_
 rintro e u2 ⟨a4, a5, rfl, g5⟩
 refine ⟨_, rfl, ?_⟩
 have f0 := SP.call e9 g5
 clear g5
 refine iR 5 9 [(7, (.tuple #[(.slice a4 (List.length o.1) a5), (.bool o.2)])), (12, (.slice a4 (List.length o.1) a5)), (13, (.bool o.2)), (4, (.slice a4 (List.length o.1) a5)), (5, (.bool o.2))] ?_
 refine iF ?_
 refine aQ ?_
 refine At.join (fun ρ w => ∃ (c3 : Bool), Zd ρ [(0, (pt g1 0)), (1, (.slice a6 (List.length a8) b0)), (4, (.slice a4 (List.length o.1) a5))] ∧ SP S w0 w [Yv A7 c8 d9, Qr g1 72 #[(.int .i64 q2), (.int .i64 q3), (.int .i64 q4), (.int .i64 q5), (.slice A7 (List.length (List.map stT d9)) c8), (.int .i64 c0), (.bool c3)], Ve 5 eU8 a4 a5 o.1] ∧ Z6 q2 q3 q4 q5 (List.map stT d9) c0 a8 o c3 = some r) ?_ ?_
 ·refine aR ?_
  refine iR 4 4 [(14, (pt g1 0)), (15, (pt g1 0)), (16, (pt g1 0)), (17, (pt g1 6))] ?_
  refine iS 5 ?_
  refine sL 4 17 g1 6 0 (.bool d5) 18 f0 rfl ?_
  refine iR 1 6 [(19, (.bool d5))] ?_
  refine In.guard (t := 19) (b := d5) K (fun f1 => ?_) (fun f1 => ?_)
  ·have H := ct H f1
   refine iR 5 11 [(20, undef), (21, undef), (22, (.bool true)), (23, (pt g1 0)), (24, (pt g1 6))] ?_
   refine iS 12 ?_
   refine Qm.store (t := 4) (x := (.tmp 24)) (y := (.tmp 22)) (g := g1) (off := 6) (i := 0) (v := (.bool true)) (cs' := #[(.int .i64 q2), (.int .i64 q3), (.int .i64 q4), (.int .i64 q5), (.slice A7 (List.length (List.map stT d9)) c8), (.int .i64 c0), (.bool true)]) (d := none) (k := 11) K rfl K K f0 rfl K ?_
   intro u3 j3
   refine iF ?_
   exact ⟨true, ⟨K, K, K, trivial⟩, SP.sel j3 [1, 0, 2] rfl rfl, H⟩
  ·have H := cf H f1
   refine iR 5 11 [(20, (.bool o.2)), (21, (.bool (!o.2))), (22, (.bool (!o.2))), (23, (pt g1 0)), (24, (pt g1 6))] ?_
   refine iS 12 ?_
   refine Qm.store (t := 4) (x := (.tmp 24)) (y := (.tmp 22)) (g := g1) (off := 6) (i := 0) (v := (.bool (!o.2))) (cs' := #[(.int .i64 q2), (.int .i64 q3), (.int .i64 q4), (.int .i64 q5), (.slice A7 (List.length (List.map stT d9)) c8), (.int .i64 c0), (.bool (!o.2))]) (d := none) (k := 11) K rfl K K f0 rfl K ?_
   intro u4 j4
   refine iF ?_
   exact ⟨(!o.2), ⟨K, K, K, trivial⟩, SP.sel j4 [1, 0, 2] rfl rfl, H⟩
 ·rintro ρ g6 ⟨c3, hk, d4, H⟩
  unfold Z6 at H
  first | refine At.known [(0, (pt g1 0)), (1, (.slice a6 (List.length a8) b0)), (4, (.slice a4 (List.length o.1) a5))] hk ?_ | rw [← Q1 (l := [(0, (pt g1 0)), (1, (.slice a6 (List.length a8) b0)), (4, (.slice a4 (List.length o.1) a5))]) hk]
  refine aQ ?_
  refine aR ?_
  refine iR 1 1 [(25, (pt g1 0))] ?_
  rcases Bool.eq_false_or_eq_true (List.isEmpty (List.map stT d9)) with d7 | d7
  ·have H := ct H d7
   obtain ⟨p, j5, H⟩ := Qc H
   refine iS 2 ?_
   refine cF 166 #[(.tmp 25)] #[70] 26 Tryz.call166 (Jf g1 A7 c8 q2 q3 q4 q5 d9 c0 c3 g6 (Je d4 [1] rfl rfl) (fun w hm => G4 (SP.still d4 (l := [1]) (i := 0) rfl rfl rfl hm)) p j5) ?_
   rintro e j6 ⟨a9, b6, b7, b4, b5, rfl, g7⟩
   refine ⟨_, rfl, ?_⟩
   have j7 : SP S w0 j6 [Yv A7 c8 d9, Ve 5 eU8 a4 a5 o.1, Qr a9 33 #[(.string ⟨List.toArray p.1⟩), (.int .i64 p.2.1), (.int .i64 p.2.2.1), (.slice b6 (List.length p.2.2.2.1) b7), (.slice b4 (List.length p.2.2.2.2.1) b5)], Ve 102 (Qd (Qx .u32) (Qx .i64)) b6 b7 p.2.2.2.1, Ve 37 (Qd Qn (Qd Qn (Qx .i64))) b4 b5 p.2.2.2.2.1, Qr g1 72 #[(.int .i64 p.2.2.2.2.2.1), (.int .i64 p.2.2.2.2.2.2.1), (.int .i64 p.2.2.2.2.2.2.2.1), (.int .i64 p.2.2.2.2.2.2.2.2.1), (.slice A7 (List.length (List.map stT d9)) c8), (.int .i64 p.2.2.2.2.2.2.2.2.2.1), (.bool p.2.2.2.2.2.2.2.2.2.2)]] := Zl d4 [1] [0, 2] rfl rfl g7 rfl
   clear g7
   refine iR 1 3 [(6, (pt a9 0))] ?_
   refine iF ?_
   obtain ⟨b1, d8, e0, g8, H⟩ := Vc H
   obtain ⟨f2, g9, h1, j8, H⟩ := Vc H
   obtain ⟨a2, j9, H⟩ := Qc H
   obtain ⟨hl485, H⟩ := Un H
   obtain ⟨c4, hyl486⟩ : ∃ y, p.2.2.2.2.1 ++ ([(b1, o.1, a2.1)] : List ((List UInt8) × (List UInt8) × Int)) = y := ⟨_, rfl⟩
   try rw [hyl486] at H
   refine aG [GEq (pt a9 0), GEq (pt a9 0), GEq (pt a9 0), GEq (pt a9 4), GEq (.slice b4 (List.length p.2.2.2.2.1) b5), GEq (.slice a6 (List.length a8) b0), Z2 a6 Qn.sz 1, GEq (.string ⟨List.toArray b1⟩), GEq (.slice a4 (List.length o.1) a5), GEq (.string ⟨List.toArray o.1⟩), GEq (pt g1 0), GEq (.slice a6 (List.length a8) b0), Z2 a6 Qn.sz 3, GEq (.string ⟨List.toArray f2⟩), GEq (.int .i64 a2.1), GEq (.agg #[(.string ⟨List.toArray b1⟩), (.string ⟨List.toArray o.1⟩), (.int .i64 a2.1)]), N2, N2, GEq (pt a9 0), GEq (pt a9 4), N2] [14, 16, 17, 20] [([], fun vs w => VL vs [] ∧ SP S w0 w [Yv A7 c8 d9, Ve 5 eU8 a4 a5 o.1, Qr a9 33 #[(.string ⟨List.toArray p.1⟩), (.int .i64 p.2.1), (.int .i64 p.2.2.1), (.slice b6 (List.length p.2.2.2.1) b7), (.slice b4 (List.length p.2.2.2.2.1) b5)], Ve 102 (Qd (Qx .u32) (Qx .i64)) b6 b7 p.2.2.2.1, Ve 37 (Qd Qn (Qd Qn (Qx .i64))) b4 b5 p.2.2.2.2.1, Qr g1 72 #[(.int .i64 p.2.2.2.2.2.1), (.int .i64 p.2.2.2.2.2.2.1), (.int .i64 p.2.2.2.2.2.2.2.1), (.int .i64 p.2.2.2.2.2.2.2.2.1), (.slice A7 (List.length (List.map stT d9)) c8), (.int .i64 p.2.2.2.2.2.2.2.2.2.1), (.bool p.2.2.2.2.2.2.2.2.2.2)]]), ([14], fun vs w => VL vs [(.int .i64 a2.1)] ∧ SP S w0 w [Yv A7 c8 d9, Ve 5 eU8 a4 a5 o.1, Qr a9 33 #[(.string ⟨List.toArray p.1⟩), (.int .i64 p.2.1), (.int .i64 p.2.2.1), (.slice b6 (List.length p.2.2.2.1) b7), (.slice b4 (List.length p.2.2.2.2.1) b5)], Ve 102 (Qd (Qx .u32) (Qx .i64)) b6 b7 p.2.2.2.1, Ve 37 (Qd Qn (Qd Qn (Qx .i64))) b4 b5 p.2.2.2.2.1, Qr g1 72 #[(.int .i64 a2.2.1), (.int .i64 a2.2.2.1), (.int .i64 a2.2.2.2.1), (.int .i64 a2.2.2.2.2.1), (.slice A7 (List.length (List.map stT d9)) c8), (.int .i64 a2.2.2.2.2.2.1), (.bool a2.2.2.2.2.2.2)]]), ([14, 16], fun vs w => ∃ (c5 : Nat), VL vs [(.int .i64 a2.1), (.slice (some ⟨c5, 0, none⟩) (List.length ([(b1, o.1, a2.1)] : List ((List UInt8) × (List UInt8) × Int))) (List.length ([(b1, o.1, a2.1)] : List ((List UInt8) × (List UInt8) × Int))))] ∧ SP S w0 w [Yv A7 c8 d9, Ve 5 eU8 a4 a5 o.1, Qr a9 33 #[(.string ⟨List.toArray p.1⟩), (.int .i64 p.2.1), (.int .i64 p.2.2.1), (.slice b6 (List.length p.2.2.2.1) b7), (.slice b4 (List.length p.2.2.2.2.1) b5)], Ve 102 (Qd (Qx .u32) (Qx .i64)) b6 b7 p.2.2.2.1, Ve 37 (Qd Qn (Qd Qn (Qx .i64))) b4 b5 p.2.2.2.2.1, Qr g1 72 #[(.int .i64 a2.2.1), (.int .i64 a2.2.2.1), (.int .i64 a2.2.2.2.1), (.int .i64 a2.2.2.2.2.1), (.slice A7 (List.length (List.map stT d9)) c8), (.int .i64 a2.2.2.2.2.2.1), (.bool a2.2.2.2.2.2.2)], Ve 37 (Qd Qn (Qd Qn (Qx .i64))) (some ⟨c5, 0, none⟩) (List.length ([(b1, o.1, a2.1)] : List ((List UInt8) × (List UInt8) × Int))) ([(b1, o.1, a2.1)] : List ((List UInt8) × (List UInt8) × Int))]), ([14, 16, 17], fun vs w => ∃ (e1 : Nat), ∃ (c6 : Option Addr), ∃ (c7 : Nat), VL vs [(.int .i64 a2.1), (.slice (some ⟨e1, 0, none⟩) (List.length ([(b1, o.1, a2.1)] : List ((List UInt8) × (List UInt8) × Int))) (List.length ([(b1, o.1, a2.1)] : List ((List UInt8) × (List UInt8) × Int)))), (.slice c6 (List.length c4) c7)] ∧ SP S w0 w [Yv A7 c8 d9, Ve 5 eU8 a4 a5 o.1, Qr a9 33 #[(.string ⟨List.toArray p.1⟩), (.int .i64 p.2.1), (.int .i64 p.2.2.1), (.slice b6 (List.length p.2.2.2.1) b7), (.slice b4 (List.length p.2.2.2.2.1) b5)], Ve 102 (Qd (Qx .u32) (Qx .i64)) b6 b7 p.2.2.2.1, Ve 37 (Qd Qn (Qd Qn (Qx .i64))) c6 c7 c4, Qr g1 72 #[(.int .i64 a2.2.1), (.int .i64 a2.2.2.1), (.int .i64 a2.2.2.2.1), (.int .i64 a2.2.2.2.2.1), (.slice A7 (List.length (List.map stT d9)) c8), (.int .i64 a2.2.2.2.2.2.1), (.bool a2.2.2.2.2.2.2)], Ve 37 (Qd Qn (Qd Qn (Qx .i64))) (some ⟨e1, 0, none⟩) (List.length ([(b1, o.1, a2.1)] : List ((List UInt8) × (List UInt8) × Int))) ([(b1, o.1, a2.1)] : List ((List UInt8) × (List UInt8) × Int))]), ([14, 16, 17, 20], fun vs w => ∃ (f3 : Nat), ∃ (e2 : Option Addr), ∃ (e3 : Nat), VL vs [(.int .i64 a2.1), (.slice (some ⟨f3, 0, none⟩) (List.length ([(b1, o.1, a2.1)] : List ((List UInt8) × (List UInt8) × Int))) (List.length ([(b1, o.1, a2.1)] : List ((List UInt8) × (List UInt8) × Int)))), (.slice e2 (List.length c4) e3), undef] ∧ SP S w0 w [Yv A7 c8 d9, Ve 5 eU8 a4 a5 o.1, Qr a9 33 #[(.string ⟨List.toArray p.1⟩), (.int .i64 p.2.1), (.int .i64 p.2.2.1), (.slice b6 (List.length p.2.2.2.1) b7), (.slice e2 (List.length c4) e3)], Ve 102 (Qd (Qx .u32) (Qx .i64)) b6 b7 p.2.2.2.1, Ve 37 (Qd Qn (Qd Qn (Qx .i64))) e2 e3 c4, Qr g1 72 #[(.int .i64 a2.2.1), (.int .i64 a2.2.2.1), (.int .i64 a2.2.2.2.1), (.int .i64 a2.2.2.2.2.1), (.slice A7 (List.length (List.map stT d9)) c8), (.int .i64 a2.2.2.2.2.2.1), (.bool a2.2.2.2.2.2.2)], Ve 37 (Qd Qn (Qd Qn (Qx .i64))) (some ⟨f3, 0, none⟩) (List.length ([(b1, o.1, a2.1)] : List ((List UInt8) × (List UInt8) × Int))) ([(b1, o.1, a2.1)] : List ((List UInt8) × (List UInt8) × Int))])] 21 4 ⟨trivial, SP.drew j7⟩ ?_ ?_
   iterate 21 refine And.intro ?_ ?_
   exact trivial
   ·exact oV (hC (hS 6 (pt a9 0)) (h0)) (pt a9 0)
   ·exact oV (hC (hS 6 (pt a9 0)) (h0)) (pt a9 0)
   ·exact oV (hC (hA 1 28) (h0)) (pt a9 0)
   ·exact oV (hC (hA 2 29) (h0)) (pt a9 4)
   ·refine Owe.light K [0, 1, 2] K (Qb ?_ (Qb ?_ (Qb ?_ Qy)))
    ·rintro ρ' w' hs a0 ⟨u5, k1⟩
     refine kM (kc (kA a0 3 30) k0) fun a1 => ?_
     refine sL 31 30 a9 4 2 (.slice b4 (List.length p.2.2.2.2.1) b5) 31 k1 rfl ?_
     exact eK a1
    ·rintro ρ' w' hs a0 ⟨⟨u6, -⟩, k2⟩
     refine kM (kc (kA a0 3 30) k0) fun a1 => ?_
     refine sL 31 30 a9 4 2 (.slice b4 (List.length p.2.2.2.2.1) b5) 31 k2 rfl ?_
     exact eK a1
    ·rintro ρ' w' hs a0 ⟨c5, ⟨u7, u8, -⟩, k3⟩
     refine kM (kc (kA a0 3 30) k0) fun a1 => ?_
     refine sL 31 30 a9 4 2 (.slice b4 (List.length p.2.2.2.2.1) b5) 31 k3 rfl ?_
     exact eK a1
   ·exact oV (hC (hS 1 (.slice a6 (List.length a8) b0)) (h0)) (.slice a6 (List.length a8) b0)
   ·refine Owe.light K [0, 1] K (Qb ?_ (Qb ?_ Qy))
    ·rintro ρ' w' hs a0 ⟨u9, k4⟩
     refine kM (kc (kA a0 5 32) k0) fun a1 => ?_
     refine Qp (e := Qn) (l := a8) (A := a6) (c := b0) (T := 79) (E := 9) (x := (.tmp 32)) (ix := (.const (.int .i64 (1)))) (ki := .i64) (iz := 1) (d := (some 33)) (k := 6) K rfl K K K K (b9 w' (SP.mod k4)) d8 e0 ?_
     intro k5 k6 k7 v0 hc549
     exact ⟨rfl, _, Qa a1, ⟨k5, k6, k7, rfl⟩⟩
    ·rintro ρ' w' hs a0 ⟨⟨v1, -⟩, k8⟩
     refine kM (kc (kA a0 5 32) k0) fun a1 => ?_
     refine Qp (e := Qn) (l := a8) (A := a6) (c := b0) (T := 79) (E := 9) (x := (.tmp 32)) (ix := (.const (.int .i64 (1)))) (ki := .i64) (iz := 1) (d := (some 33)) (k := 6) K rfl K K K K (b9 w' (SP.mod k8)) d8 e0 ?_
     intro k9 l0 l1 v2 hc557
     exact ⟨rfl, _, Qa a1, ⟨k9, l0, l1, rfl⟩⟩
   ·refine Owe.light K [0, 1] K (Qb ?_ (Qb ?_ Qy))
    ·rintro ρ' w' hs a0 ⟨v3, l2⟩
     obtain ⟨l3, l4, l5, c9⟩ := a0 6 33 K
     refine kM (kc c9 k0) fun a1 => ?_
     refine sC 9 33 l3 (l4 + Int.toNat 1 * Qn.sz) (.string ⟨List.toArray b1⟩) 34 (Qt (e := Qn) (Qo (b9 w' (SP.mod l2)) l5 d8 e0) g8 (j := 0) rfl) ?_
     exact eK a1
    ·rintro ρ' w' hs a0 ⟨⟨v4, -⟩, l6⟩
     obtain ⟨l7, l8, l9, c9⟩ := a0 6 33 K
     refine kM (kc c9 k0) fun a1 => ?_
     refine sC 9 33 l7 (l8 + Int.toNat 1 * Qn.sz) (.string ⟨List.toArray b1⟩) 34 (Qt (e := Qn) (Qo (b9 w' (SP.mod l6)) l9 d8 e0) g8 (j := 0) rfl) ?_
     exact eK a1
   ·exact oV (hC (hS 4 (.slice a4 (List.length o.1) a5)) (h0)) (.slice a4 (List.length o.1) a5)
   ·refine Owe.light K [0, 1] K (Qb ?_ (Qb ?_ Qy))
    ·rintro ρ' w' hs a0 ⟨v5, m0⟩
     refine kM (kc (kA a0 8 35) k0) fun a1 => ?_
     refine Nt (T := 48) (S' := 9) (E := 5) (x := (.tmp 35)) (A := a4) (c := a5) (l := o.1) (d := (some 36)) (k := 9) K rfl K K K K (Vr (SP.get m0 (i := 1) rfl)) ?_
     exact eK a1
    ·rintro ρ' w' hs a0 ⟨⟨v6, -⟩, m1⟩
     refine kM (kc (kA a0 8 35) k0) fun a1 => ?_
     refine Nt (T := 48) (S' := 9) (E := 5) (x := (.tmp 35)) (A := a4) (c := a5) (l := o.1) (d := (some 36)) (k := 9) K rfl K K K K (Vr (SP.get m1 (i := 1) rfl)) ?_
     exact eK a1
   ·exact oV (hC (hS 0 (pt g1 0)) (h0)) (pt g1 0)
   ·exact oV (hC (hS 1 (.slice a6 (List.length a8) b0)) (h0)) (.slice a6 (List.length a8) b0)
   ·refine oL 0 ?_
    ·rintro ρ' w' hs a0 ⟨v7, m2⟩
     refine kM (kc (kA a0 11 38) k0) fun a1 => ?_
     refine Qp (e := Qn) (l := a8) (A := a6) (c := b0) (T := 79) (E := 9) (x := (.tmp 38)) (ix := (.const (.int .i64 (3)))) (ki := .i64) (iz := 3) (d := (some 39)) (k := 12) K rfl K K K K (b9 w' (SP.mod m2)) g9 h1 ?_
     intro m3 m4 m5 v8 hc580
     exact ⟨rfl, _, Qa a1, ⟨m3, m4, m5, rfl⟩⟩
   ·refine oL 0 ?_
    ·rintro ρ' w' hs a0 ⟨v9, m6⟩
     obtain ⟨m7, m8, m9, f4⟩ := a0 12 39 K
     refine kM (kc f4 k0) fun a1 => ?_
     refine sC 9 39 m7 (m8 + Int.toNat 3 * Qn.sz) (.string ⟨List.toArray f2⟩) 40 (Qt (e := Qn) (Qo (b9 w' (SP.mod m6)) m9 g9 h1) j8 (j := 0) rfl) ?_
     exact eK a1
   ·refine oH 0 1 ?_
    ·rintro ρ' w' hs a0 ⟨w1, f5⟩
     refine kM (kc (kA a0 10 37) (kc (kA a0 13 40) k0)) fun a1 => ?_
     refine cF 164 #[(.tmp 37), (.tmp 40)] #[70, 9] 41 Tryz.call164 (Va g1 (.slice A7 (List.length (List.map stT d9)) c8) p.2.2.2.2.2.1 p.2.2.2.2.2.2.1 p.2.2.2.2.2.2.2.1 p.2.2.2.2.2.2.2.2.1 p.2.2.2.2.2.2.2.2.2.1 p.2.2.2.2.2.2.2.2.2.2 f2 w' (fun w hm => hL w (SP.through f5 (l := [5]) rfl hm)) (Je f5 [5] rfl rfl) a2 j9) ?_
     rintro e n0 ⟨rfl, h2⟩
     refine ⟨_, rfl, ?_⟩
     have n1 : SP S w0 n0 [Yv A7 c8 d9, Ve 5 eU8 a4 a5 o.1, Qr a9 33 #[(.string ⟨List.toArray p.1⟩), (.int .i64 p.2.1), (.int .i64 p.2.2.1), (.slice b6 (List.length p.2.2.2.1) b7), (.slice b4 (List.length p.2.2.2.2.1) b5)], Ve 102 (Qd (Qx .u32) (Qx .i64)) b6 b7 p.2.2.2.1, Ve 37 (Qd Qn (Qd Qn (Qx .i64))) b4 b5 p.2.2.2.2.1, Qr g1 72 #[(.int .i64 a2.2.1), (.int .i64 a2.2.2.1), (.int .i64 a2.2.2.2.1), (.int .i64 a2.2.2.2.2.1), (.slice A7 (List.length (List.map stT d9)) c8), (.int .i64 a2.2.2.2.2.2.1), (.bool a2.2.2.2.2.2.2)]] := Zl f5 [5] [0, 1, 2, 3, 4] rfl rfl h2 rfl
     clear h2
     refine ⟨_, Qa a1, rfl, ?_⟩
     exact (And.intro (And.intro rfl (trivial)) n1)
   ·exact oV (hC (hA 7 34) (hC (hA 9 36) (hC (hA 14 41) (h0)))) (.agg #[(.string ⟨List.toArray b1⟩), (.string ⟨List.toArray o.1⟩), (.int .i64 a2.1)])
   ·refine oH 1 2 ?_
    ·rintro ρ' w' hs a0 ⟨⟨n2, -⟩, n3⟩
     refine kM (kc (kA a0 15 42) k0) fun a1 => ?_
     refine Zk (e := (Qd Qn (Qd Qn (Qx .i64)))) (T := 31) (E := 37) (len := 1) (parts := #[(0, (.tmp 42))]) (cs := #[(.string ⟨List.toArray b1⟩), (.string ⟨List.toArray o.1⟩), (.int .i64 a2.1)]) ([(b1, o.1, a2.1)] : List ((List UInt8) × (List UInt8) × Int)) (d := (some 43)) (k := 16) K rfl (fun _ => K) n3 rfl rfl rfl rfl ?_
     intro n4 w2 n5
     refine ⟨_, Qa a1, trivial, ?_⟩
     exact (Exists.intro n4 (And.intro (And.intro n2 (And.intro rfl (trivial))) n5))
   ·refine oH 2 3 ?_
    ·rintro ρ' w' hs a0 ⟨c5, ⟨n6, h3, -⟩, h4⟩
     refine kN [(31, (.slice b4 (List.length p.2.2.2.2.1) b5)), (43, (.slice (some ⟨c5, 0, none⟩) (List.length ([(b1, o.1, a2.1)] : List ((List UInt8) × (List UInt8) × Int))) (List.length ([(b1, o.1, a2.1)] : List ((List UInt8) × (List UInt8) × Int)))))] ⟨a0 4 31 K, (Q9 (h := 16) K).symm.trans h3, trivial⟩ fun a1 => ?_
     refine Qm.append (e := (Qd Qn (Qd Qn (Qx .i64)))) (l := p.2.2.2.2.1) (m := ([(b1, o.1, a2.1)] : List ((List UInt8) × (List UInt8) × Int))) (A := b4) (c := b5) (T := 31) (TX := 31) (E := 37) (b := 40) (s := (.tmp 31)) (x := (.tmp 43)) (i := 4) (vx := (.slice (some ⟨c5, 0, none⟩) (List.length ([(b1, o.1, a2.1)] : List ((List UInt8) × (List UInt8) × Int))) (List.length ([(b1, o.1, a2.1)] : List ((List UInt8) × (List UInt8) × Int))))) (d := (some 44)) (k := 17) K rfl K K K K rfl h4 rfl (Dj (E := 37) K (Vr (SP.get h4 (i := 6) rfl))) hl485 ?_
     rw [hyl486]
     intro n7 n8 w3 n9
     refine ⟨_, Qa a1, trivial, ?_⟩
     exact (Exists.intro c5 (Exists.intro n7 (Exists.intro n8 (And.intro (And.intro n6 (And.intro h3 (And.intro rfl (trivial)))) n9))))
   ·exact oV (hC (hA 0 27) (h0)) (pt a9 0)
   ·exact oV (hC (hA 18 45) (h0)) (pt a9 4)
   ·refine oH 3 4 ?_
    ·rintro ρ' w' hs a0 ⟨e1, c6, c7, ⟨o0, o1, h5, -⟩, o2⟩
     refine kN [(46, (pt a9 4)), (44, (.slice c6 (List.length c4) c7))] ⟨a0 19 46 K, (Q9 (h := 17) K).symm.trans h5, trivial⟩ fun a1 => ?_
     refine Qm.store (t := 31) (x := (.tmp 46)) (y := (.tmp 44)) (g := a9) (off := 4) (i := 2) (v := (.slice c6 (List.length c4) c7)) (cs' := #[(.string ⟨List.toArray p.1⟩), (.int .i64 p.2.1), (.int .i64 p.2.2.1), (.slice b6 (List.length p.2.2.2.1) b7), (.slice c6 (List.length c4) c7)]) (d := none) (k := 20) K rfl K K o2 rfl K ?_
     intro w4 o3
     refine ⟨_, Qa a1, trivial, ?_⟩
     exact (Exists.intro e1 (Exists.intro c6 (Exists.intro c7 (And.intro (And.intro o0 (And.intro o1 (And.intro h5 (And.intro rfl (trivial))))) o3))))
   ·rintro ρ' w' hs hf ⟨f3, e2, e3, ⟨w5, w6, w7, w8, -⟩, h6⟩
    refine Vv [] trivial ?_
    obtain ⟨w9, o4⟩ : ∃ x, w' = x := ⟨_, rfl⟩
    rw [o4] at h6 ⊢
    refine ⟨(.tuple #[]), K, ?_⟩
    obtain rfl := Qg H
    exact ⟨A7, c8, d9, rfl, rfl, SP.sel h6 [5,0] rfl rfl⟩
  ·have H := cf H d7
   obtain ⟨o5, o6, H⟩ := Qc H
   refine iS 2 ?_
   refine cF 166 #[(.tmp 25)] #[70] 26 Tryz.call166 (Jg g1 A7 c8 q2 q3 q4 q5 d9 c0 c3 g6 (Je d4 [1] rfl rfl) (fun w hm => G4 (SP.still d4 (l := [1]) (i := 0) rfl rfl rfl hm)) o5 o6) ?_
   rintro e h7 ⟨b2, b3, rfl, e4, h8⟩
   refine ⟨_, rfl, ?_⟩
   have o7 : SP S w0 h7 [Yv A7 c8 d9, Ve 5 eU8 a4 a5 o.1, Qr g1 72 #[(.int .i64 q2), (.int .i64 q3), (.int .i64 q4), (.int .i64 q5), (.slice A7 (List.length (List.map stT d9)) c8), (.int .i64 c0), (.bool c3)]] := Zl d4 [1] [0, 2] rfl rfl h8 rfl
   clear h8
   obtain ⟨a3, a, f6⟩ := Ck d7
   have Hd634 := Cl f6 H
   have hnd634 : List.length (List.map stT d9) - 1 = List.length a3 := by rw [f6]; simp
   rw [hnd634]
   subst f6
   have H := Hd634
   have o8 : SP S w0 h7 [Ve 33 V9 A7 c8 (a3 ++ [a]), Ve 5 eU8 a4 a5 o.1, Qr g1 72 #[(.int .i64 q2), (.int .i64 q3), (.int .i64 q4), (.int .i64 q5), (.slice A7 (List.length (List.map stT (a3 ++ [a]))) c8), (.int .i64 c0), (.bool c3)], Rj a3, Ve 102 (Qd (Qx .u32) (Qx .i64)) a.2.2.2.1.1 a.2.2.2.1.2.1 (stT a).2.2.2.1, Ve 37 (Qd Qn (Qd Qn (Qx .i64))) a.2.2.2.2.1 a.2.2.2.2.2.1 (stT a).2.2.2.2] := Bw o7 (i := 0) rfl rfl
   refine iR 1 3 [(6, (.pointer (some ⟨b2, (b3 + (List.length a3) * V9.sz), none⟩)))] ?_
   refine iF ?_
   obtain ⟨a7, e5, e6, h9, H⟩ := Vc H
   obtain ⟨f7, i0, i1, o9, H⟩ := Vc H
   obtain ⟨u, p0, H⟩ := Qc H
   obtain ⟨hl670, H⟩ := Un H
   obtain ⟨b8, hyl671⟩ : ∃ y, (stT a).2.2.2.2 ++ ([(a7, o.1, u.1)] : List ((List UInt8) × (List UInt8) × Int)) = y := ⟨_, rfl⟩
   try rw [hyl671] at H
   refine aG [GEq (.pointer (some ⟨b2, (b3 + (List.length a3) * V9.sz), none⟩)), GEq (.pointer (some ⟨b2, (b3 + (List.length a3) * V9.sz), none⟩)), GEq (.pointer (some ⟨b2, (b3 + (List.length a3) * V9.sz), none⟩)), GEq (.pointer (some ⟨b2, (b3 + (List.length a3) * V9.sz + 4), none⟩)), GEq (.slice a.2.2.2.2.1 (List.length (stT a).2.2.2.2) a.2.2.2.2.2.1), GEq (.slice a6 (List.length a8) b0), Z2 a6 Qn.sz 1, GEq (.string ⟨List.toArray a7⟩), GEq (.slice a4 (List.length o.1) a5), GEq (.string ⟨List.toArray o.1⟩), GEq (pt g1 0), GEq (.slice a6 (List.length a8) b0), Z2 a6 Qn.sz 3, GEq (.string ⟨List.toArray f7⟩), GEq (.int .i64 u.1), GEq (.agg #[(.string ⟨List.toArray a7⟩), (.string ⟨List.toArray o.1⟩), (.int .i64 u.1)]), N2, N2, GEq (.pointer (some ⟨b2, (b3 + (List.length a3) * V9.sz), none⟩)), GEq (.pointer (some ⟨b2, (b3 + (List.length a3) * V9.sz + 4), none⟩)), N2] [14, 16, 17, 20] [([], fun vs w => VL vs [] ∧ SP S w0 w [Ve 33 V9 A7 c8 (a3 ++ [a]), Ve 5 eU8 a4 a5 o.1, Qr g1 72 #[(.int .i64 q2), (.int .i64 q3), (.int .i64 q4), (.int .i64 q5), (.slice A7 (List.length (List.map stT (a3 ++ [a]))) c8), (.int .i64 c0), (.bool c3)], Rj a3, Ve 102 (Qd (Qx .u32) (Qx .i64)) a.2.2.2.1.1 a.2.2.2.1.2.1 (stT a).2.2.2.1, Ve 37 (Qd Qn (Qd Qn (Qx .i64))) a.2.2.2.2.1 a.2.2.2.2.2.1 (stT a).2.2.2.2]), ([14], fun vs w => VL vs [(.int .i64 u.1)] ∧ SP S w0 w [Ve 33 V9 A7 c8 (a3 ++ [a]), Ve 5 eU8 a4 a5 o.1, Rj a3, Ve 102 (Qd (Qx .u32) (Qx .i64)) a.2.2.2.1.1 a.2.2.2.1.2.1 (stT a).2.2.2.1, Ve 37 (Qd Qn (Qd Qn (Qx .i64))) a.2.2.2.2.1 a.2.2.2.2.2.1 (stT a).2.2.2.2, Qr g1 72 #[(.int .i64 u.2.1), (.int .i64 u.2.2.1), (.int .i64 u.2.2.2.1), (.int .i64 u.2.2.2.2.1), (.slice A7 (List.length (List.map stT (a3 ++ [a]))) c8), (.int .i64 u.2.2.2.2.2.1), (.bool u.2.2.2.2.2.2)]]), ([14, 16], fun vs w => ∃ (d1 : Nat), VL vs [(.int .i64 u.1), (.slice (some ⟨d1, 0, none⟩) (List.length ([(a7, o.1, u.1)] : List ((List UInt8) × (List UInt8) × Int))) (List.length ([(a7, o.1, u.1)] : List ((List UInt8) × (List UInt8) × Int))))] ∧ SP S w0 w [Ve 33 V9 A7 c8 (a3 ++ [a]), Ve 5 eU8 a4 a5 o.1, Rj a3, Ve 102 (Qd (Qx .u32) (Qx .i64)) a.2.2.2.1.1 a.2.2.2.1.2.1 (stT a).2.2.2.1, Ve 37 (Qd Qn (Qd Qn (Qx .i64))) a.2.2.2.2.1 a.2.2.2.2.2.1 (stT a).2.2.2.2, Qr g1 72 #[(.int .i64 u.2.1), (.int .i64 u.2.2.1), (.int .i64 u.2.2.2.1), (.int .i64 u.2.2.2.2.1), (.slice A7 (List.length (List.map stT (a3 ++ [a]))) c8), (.int .i64 u.2.2.2.2.2.1), (.bool u.2.2.2.2.2.2)], Ve 37 (Qd Qn (Qd Qn (Qx .i64))) (some ⟨d1, 0, none⟩) (List.length ([(a7, o.1, u.1)] : List ((List UInt8) × (List UInt8) × Int))) ([(a7, o.1, u.1)] : List ((List UInt8) × (List UInt8) × Int))]), ([14, 16, 17], fun vs w => ∃ (e7 : Nat), ∃ (d2 : Option Addr), ∃ (d3 : Nat), VL vs [(.int .i64 u.1), (.slice (some ⟨e7, 0, none⟩) (List.length ([(a7, o.1, u.1)] : List ((List UInt8) × (List UInt8) × Int))) (List.length ([(a7, o.1, u.1)] : List ((List UInt8) × (List UInt8) × Int)))), (.slice d2 (List.length b8) d3)] ∧ SP S w0 w [Ve 33 V9 A7 c8 (a3 ++ [a]), Ve 5 eU8 a4 a5 o.1, Rj a3, Ve 102 (Qd (Qx .u32) (Qx .i64)) a.2.2.2.1.1 a.2.2.2.1.2.1 (stT a).2.2.2.1, Ve 37 (Qd Qn (Qd Qn (Qx .i64))) d2 d3 b8, Qr g1 72 #[(.int .i64 u.2.1), (.int .i64 u.2.2.1), (.int .i64 u.2.2.2.1), (.int .i64 u.2.2.2.2.1), (.slice A7 (List.length (List.map stT (a3 ++ [a]))) c8), (.int .i64 u.2.2.2.2.2.1), (.bool u.2.2.2.2.2.2)], Ve 37 (Qd Qn (Qd Qn (Qx .i64))) (some ⟨e7, 0, none⟩) (List.length ([(a7, o.1, u.1)] : List ((List UInt8) × (List UInt8) × Int))) ([(a7, o.1, u.1)] : List ((List UInt8) × (List UInt8) × Int))]), ([14, 16, 17, 20], fun vs w => ∃ (d6 : Nat), ∃ (c1 : Option Addr), ∃ (c2 : Nat), VL vs [(.int .i64 u.1), (.slice (some ⟨d6, 0, none⟩) (List.length ([(a7, o.1, u.1)] : List ((List UInt8) × (List UInt8) × Int))) (List.length ([(a7, o.1, u.1)] : List ((List UInt8) × (List UInt8) × Int)))), (.slice c1 (List.length b8) c2), undef] ∧ SP S w0 w [Ve 33 V9 A7 c8 (a3 ++ [((a.1, a.2.1, a.2.2.1, a.2.2.2.1, (c1, c2, b8)) : Qw)]), Ve 5 eU8 a4 a5 o.1, Rj a3, Ve 102 (Qd (Qx .u32) (Qx .i64)) a.2.2.2.1.1 a.2.2.2.1.2.1 (stT a).2.2.2.1, Ve 37 (Qd Qn (Qd Qn (Qx .i64))) c1 c2 b8, Qr g1 72 #[(.int .i64 u.2.1), (.int .i64 u.2.2.1), (.int .i64 u.2.2.2.1), (.int .i64 u.2.2.2.2.1), (.slice A7 (List.length (List.map stT (a3 ++ [a]))) c8), (.int .i64 u.2.2.2.2.2.1), (.bool u.2.2.2.2.2.2)], Ve 37 (Qd Qn (Qd Qn (Qx .i64))) (some ⟨d6, 0, none⟩) (List.length ([(a7, o.1, u.1)] : List ((List UInt8) × (List UInt8) × Int))) ([(a7, o.1, u.1)] : List ((List UInt8) × (List UInt8) × Int))])] 21 4 ⟨trivial, SP.drew o8⟩ ?_ ?_
   iterate 21 refine And.intro ?_ ?_
   exact trivial
   ·exact oV (hC (hS 6 (.pointer (some ⟨b2, (b3 + (List.length a3) * V9.sz), none⟩))) (h0)) (.pointer (some ⟨b2, (b3 + (List.length a3) * V9.sz), none⟩))
   ·exact oV (hC (hS 6 (.pointer (some ⟨b2, (b3 + (List.length a3) * V9.sz), none⟩))) (h0)) (.pointer (some ⟨b2, (b3 + (List.length a3) * V9.sz), none⟩))
   ·exact oV (hC (hA 1 28) (h0)) (.pointer (some ⟨b2, (b3 + (List.length a3) * V9.sz), none⟩))
   ·exact oV (hC (hA 2 29) (h0)) (.pointer (some ⟨b2, (b3 + (List.length a3) * V9.sz + 4), none⟩))
   ·refine Owe.light K [0, 1, 2] K (Qb ?_ (Qb ?_ (Qb ?_ Qy)))
    ·rintro ρ' w' hs a0 ⟨x0, p1⟩
     refine kM (kc (kA a0 3 30) k0) fun a1 => ?_
     refine sC 31 30 b2 (b3 + (List.length a3) * V9.sz + 4) (.slice a.2.2.2.2.1 (List.length (stT a).2.2.2.2) a.2.2.2.2.2.1) 31 (N0 (SP.get p1 (i := 0) rfl) e4 (f := 4) rfl) ?_
     exact eK a1
    ·rintro ρ' w' hs a0 ⟨⟨x1, -⟩, p2⟩
     refine kM (kc (kA a0 3 30) k0) fun a1 => ?_
     refine sC 31 30 b2 (b3 + (List.length a3) * V9.sz + 4) (.slice a.2.2.2.2.1 (List.length (stT a).2.2.2.2) a.2.2.2.2.2.1) 31 (N0 (SP.get p2 (i := 0) rfl) e4 (f := 4) rfl) ?_
     exact eK a1
    ·rintro ρ' w' hs a0 ⟨d1, ⟨x2, x3, -⟩, p3⟩
     refine kM (kc (kA a0 3 30) k0) fun a1 => ?_
     refine sC 31 30 b2 (b3 + (List.length a3) * V9.sz + 4) (.slice a.2.2.2.2.1 (List.length (stT a).2.2.2.2) a.2.2.2.2.2.1) 31 (N0 (SP.get p3 (i := 0) rfl) e4 (f := 4) rfl) ?_
     exact eK a1
   ·exact oV (hC (hS 1 (.slice a6 (List.length a8) b0)) (h0)) (.slice a6 (List.length a8) b0)
   ·refine Owe.light K [0, 1] K (Qb ?_ (Qb ?_ Qy))
    ·rintro ρ' w' hs a0 ⟨x4, p4⟩
     refine kM (kc (kA a0 5 32) k0) fun a1 => ?_
     refine Qp (e := Qn) (l := a8) (A := a6) (c := b0) (T := 79) (E := 9) (x := (.tmp 32)) (ix := (.const (.int .i64 (1)))) (ki := .i64) (iz := 1) (d := (some 33)) (k := 6) K rfl K K K K (b9 w' (SP.mod p4)) e5 e6 ?_
     intro p5 p6 p7 x5 hc734
     exact ⟨rfl, _, Qa a1, ⟨p5, p6, p7, rfl⟩⟩
    ·rintro ρ' w' hs a0 ⟨⟨x6, -⟩, p8⟩
     refine kM (kc (kA a0 5 32) k0) fun a1 => ?_
     refine Qp (e := Qn) (l := a8) (A := a6) (c := b0) (T := 79) (E := 9) (x := (.tmp 32)) (ix := (.const (.int .i64 (1)))) (ki := .i64) (iz := 1) (d := (some 33)) (k := 6) K rfl K K K K (b9 w' (SP.mod p8)) e5 e6 ?_
     intro p9 q0 q1 x7 hc742
     exact ⟨rfl, _, Qa a1, ⟨p9, q0, q1, rfl⟩⟩
   ·refine Owe.light K [0, 1] K (Qb ?_ (Qb ?_ Qy))
    ·rintro ρ' w' hs a0 ⟨x8, q6⟩
     obtain ⟨q7, q8, q9, c9⟩ := a0 6 33 K
     refine kM (kc c9 k0) fun a1 => ?_
     refine sC 9 33 q7 (q8 + Int.toNat 1 * Qn.sz) (.string ⟨List.toArray a7⟩) 34 (Qt (e := Qn) (Qo (b9 w' (SP.mod q6)) q9 e5 e6) h9 (j := 0) rfl) ?_
     exact eK a1
    ·rintro ρ' w' hs a0 ⟨⟨x9, -⟩, r0⟩
     obtain ⟨r1, r2, r3, c9⟩ := a0 6 33 K
     refine kM (kc c9 k0) fun a1 => ?_
     refine sC 9 33 r1 (r2 + Int.toNat 1 * Qn.sz) (.string ⟨List.toArray a7⟩) 34 (Qt (e := Qn) (Qo (b9 w' (SP.mod r0)) r3 e5 e6) h9 (j := 0) rfl) ?_
     exact eK a1
   ·exact oV (hC (hS 4 (.slice a4 (List.length o.1) a5)) (h0)) (.slice a4 (List.length o.1) a5)
   ·refine Owe.light K [0, 1] K (Qb ?_ (Qb ?_ Qy))
    ·rintro ρ' w' hs a0 ⟨y0, r4⟩
     refine kM (kc (kA a0 8 35) k0) fun a1 => ?_
     refine Nt (T := 48) (S' := 9) (E := 5) (x := (.tmp 35)) (A := a4) (c := a5) (l := o.1) (d := (some 36)) (k := 9) K rfl K K K K (Vr (SP.get r4 (i := 1) rfl)) ?_
     exact eK a1
    ·rintro ρ' w' hs a0 ⟨⟨y1, -⟩, r5⟩
     refine kM (kc (kA a0 8 35) k0) fun a1 => ?_
     refine Nt (T := 48) (S' := 9) (E := 5) (x := (.tmp 35)) (A := a4) (c := a5) (l := o.1) (d := (some 36)) (k := 9) K rfl K K K K (Vr (SP.get r5 (i := 1) rfl)) ?_
     exact eK a1
   ·exact oV (hC (hS 0 (pt g1 0)) (h0)) (pt g1 0)
   ·exact oV (hC (hS 1 (.slice a6 (List.length a8) b0)) (h0)) (.slice a6 (List.length a8) b0)
   ·refine oL 0 ?_
    ·rintro ρ' w' hs a0 ⟨y2, r6⟩
     refine kM (kc (kA a0 11 38) k0) fun a1 => ?_
     refine Qp (e := Qn) (l := a8) (A := a6) (c := b0) (T := 79) (E := 9) (x := (.tmp 38)) (ix := (.const (.int .i64 (3)))) (ki := .i64) (iz := 3) (d := (some 39)) (k := 12) K rfl K K K K (b9 w' (SP.mod r6)) i0 i1 ?_
     intro r7 r8 r9 y3 hc765
     exact ⟨rfl, _, Qa a1, ⟨r7, r8, r9, rfl⟩⟩
   ·refine oL 0 ?_
    ·rintro ρ' w' hs a0 ⟨y4, s0⟩
     obtain ⟨s1, s2, s3, f4⟩ := a0 12 39 K
     refine kM (kc f4 k0) fun a1 => ?_
     refine sC 9 39 s1 (s2 + Int.toNat 3 * Qn.sz) (.string ⟨List.toArray f7⟩) 40 (Qt (e := Qn) (Qo (b9 w' (SP.mod s0)) s3 i0 i1) o9 (j := 0) rfl) ?_
     exact eK a1
   ·refine oH 0 1 ?_
    ·rintro ρ' w' hs a0 ⟨y5, f8⟩
     refine kM (kc (kA a0 10 37) (kc (kA a0 13 40) k0)) fun a1 => ?_
     refine cF 164 #[(.tmp 37), (.tmp 40)] #[70, 9] 41 Tryz.call164 (Va g1 (.slice A7 (List.length (List.map stT (a3 ++ [a]))) c8) q2 q3 q4 q5 c0 c3 f7 w' (fun w hm => hL w (SP.through f8 (l := [2]) rfl hm)) (Je f8 [2] rfl rfl) u p0) ?_
     rintro e s4 ⟨rfl, i2⟩
     refine ⟨_, rfl, ?_⟩
     have s5 : SP S w0 s4 [Ve 33 V9 A7 c8 (a3 ++ [a]), Ve 5 eU8 a4 a5 o.1, Rj a3, Ve 102 (Qd (Qx .u32) (Qx .i64)) a.2.2.2.1.1 a.2.2.2.1.2.1 (stT a).2.2.2.1, Ve 37 (Qd Qn (Qd Qn (Qx .i64))) a.2.2.2.2.1 a.2.2.2.2.2.1 (stT a).2.2.2.2, Qr g1 72 #[(.int .i64 u.2.1), (.int .i64 u.2.2.1), (.int .i64 u.2.2.2.1), (.int .i64 u.2.2.2.2.1), (.slice A7 (List.length (List.map stT (a3 ++ [a]))) c8), (.int .i64 u.2.2.2.2.2.1), (.bool u.2.2.2.2.2.2)]] := Zl f8 [2] [0, 1, 3, 4, 5] rfl rfl i2 rfl
     clear i2
     refine ⟨_, Qa a1, rfl, ?_⟩
     exact (And.intro (And.intro rfl (trivial)) s5)
   ·exact oV (hC (hA 7 34) (hC (hA 9 36) (hC (hA 14 41) (h0)))) (.agg #[(.string ⟨List.toArray a7⟩), (.string ⟨List.toArray o.1⟩), (.int .i64 u.1)])
   ·refine oH 1 2 ?_
    ·rintro ρ' w' hs a0 ⟨⟨s6, -⟩, s7⟩
     refine kM (kc (kA a0 15 42) k0) fun a1 => ?_
     refine Zk (e := (Qd Qn (Qd Qn (Qx .i64)))) (T := 31) (E := 37) (len := 1) (parts := #[(0, (.tmp 42))]) (cs := #[(.string ⟨List.toArray a7⟩), (.string ⟨List.toArray o.1⟩), (.int .i64 u.1)]) ([(a7, o.1, u.1)] : List ((List UInt8) × (List UInt8) × Int)) (d := (some 43)) (k := 16) K rfl (fun _ => K) s7 rfl rfl rfl rfl ?_
     intro s8 y6 s9
     refine ⟨_, Qa a1, trivial, ?_⟩
     exact (Exists.intro s8 (And.intro (And.intro s6 (And.intro rfl (trivial))) s9))
   ·refine oH 2 3 ?_
    ·rintro ρ' w' hs a0 ⟨d1, ⟨t0, i3, -⟩, i4⟩
     refine kN [(31, (.slice a.2.2.2.2.1 (List.length (stT a).2.2.2.2) a.2.2.2.2.2.1)), (43, (.slice (some ⟨d1, 0, none⟩) (List.length ([(a7, o.1, u.1)] : List ((List UInt8) × (List UInt8) × Int))) (List.length ([(a7, o.1, u.1)] : List ((List UInt8) × (List UInt8) × Int)))))] ⟨a0 4 31 K, (Q9 (h := 16) K).symm.trans i3, trivial⟩ fun a1 => ?_
     refine Qm.append (e := (Qd Qn (Qd Qn (Qx .i64)))) (l := (stT a).2.2.2.2) (m := ([(a7, o.1, u.1)] : List ((List UInt8) × (List UInt8) × Int))) (A := a.2.2.2.2.1) (c := a.2.2.2.2.2.1) (T := 31) (TX := 31) (E := 37) (b := 40) (s := (.tmp 31)) (x := (.tmp 43)) (i := 4) (vx := (.slice (some ⟨d1, 0, none⟩) (List.length ([(a7, o.1, u.1)] : List ((List UInt8) × (List UInt8) × Int))) (List.length ([(a7, o.1, u.1)] : List ((List UInt8) × (List UInt8) × Int))))) (d := (some 44)) (k := 17) K rfl K K K K rfl i4 rfl (Dj (E := 37) K (Vr (SP.get i4 (i := 6) rfl))) hl670 ?_
     rw [hyl671]
     intro t1 t2 y7 t3
     refine ⟨_, Qa a1, trivial, ?_⟩
     exact (Exists.intro d1 (Exists.intro t1 (Exists.intro t2 (And.intro (And.intro t0 (And.intro i3 (And.intro rfl (trivial)))) t3))))
   ·exact oV (hC (hA 0 27) (h0)) (.pointer (some ⟨b2, (b3 + (List.length a3) * V9.sz), none⟩))
   ·exact oV (hC (hA 18 45) (h0)) (.pointer (some ⟨b2, (b3 + (List.length a3) * V9.sz + 4), none⟩))
   ·refine oH 3 4 ?_
    ·rintro ρ' w' hs a0 ⟨e7, d2, d3, ⟨t4, t5, i5, -⟩, t6⟩
     refine kN [(46, (.pointer (some ⟨b2, (b3 + (List.length a3) * V9.sz + 4), none⟩))), (44, (.slice d2 (List.length b8) d3))] ⟨a0 19 46 K, (Q9 (h := 17) K).symm.trans i5, trivial⟩ fun a1 => ?_
     refine Rr (t := 31) (x := (.tmp 46)) (z := (.tmp 44)) (A := A7) (c := c8) (d0 := a3) (y := a) (y' := ((a.1, a.2.1, a.2.2.1, a.2.2.2.1, (d2, d3, b8)) : Qw)) (b := b2) (off := b3) (f := 4) (i := 0) (v := (.slice d2 (List.length b8) d3)) (dst := none) (k := 20) K rfl e4 K K t6 rfl K rfl K ?_
     intro y8 t7
     refine ⟨_, Qa a1, trivial, ?_⟩
     exact (Exists.intro e7 (Exists.intro d2 (Exists.intro d3 (And.intro (And.intro t4 (And.intro t5 (And.intro i5 (And.intro rfl (trivial))))) t7))))
   ·rintro ρ' w' hs hf ⟨d6, c1, c2, ⟨y9, z0, z1, z2, -⟩, i6⟩
    refine Vv [] trivial ?_
    obtain ⟨i7, t8⟩ : ∃ x, w' = x := ⟨_, rfl⟩
    rw [t8] at i6 ⊢
    have t9 : SP S w0 i7 [Yv A7 c8 (a3 ++ [((a.1, a.2.1, a.2.2.1, a.2.2.2.1, (c1, c2, b8)) : Qw)]), Ve 5 eU8 a4 a5 o.1, Qr g1 72 #[(.int .i64 u.2.1), (.int .i64 u.2.2.1), (.int .i64 u.2.2.2.1), (.int .i64 u.2.2.2.2.1), (.slice A7 (List.length (List.map stT (a3 ++ [a]))) c8), (.int .i64 u.2.2.2.2.2.1), (.bool u.2.2.2.2.2.2)], Ve 37 (Qd Qn (Qd Qn (Qx .i64))) (some ⟨d6, 0, none⟩) (List.length ([(a7, o.1, u.1)] : List ((List UInt8) × (List UInt8) × Int))) ([(a7, o.1, u.1)] : List ((List UInt8) × (List UInt8) × Int))] := D2 i6 (A := A7) (c := c8) (d0 := a3) (y := ((a.1, a.2.1, a.2.2.1, a.2.2.2.1, (c1, c2, b8)) : Qw)) (i := 0) (q := 2) (j := 3) (m := 4) rfl rfl rfl rfl (by decide) (by decide) (by decide) rfl
    have u0 : SP S w0 i7 [Yv A7 c8 (a3 ++ [((a.1, a.2.1, a.2.2.1, a.2.2.2.1, (c1, c2, b8)) : Qw)]), Ve 5 eU8 a4 a5 o.1, Qr g1 72 #[(.int .i64 u.2.1), (.int .i64 u.2.2.1), (.int .i64 u.2.2.2.1), (.int .i64 u.2.2.2.2.1), (.slice A7 (List.length (List.map stT (a3 ++ [((a.1, a.2.1, a.2.2.1, a.2.2.2.1, (c1, c2, b8)) : Qw)]))) c8), (.int .i64 u.2.2.2.2.2.1), (.bool u.2.2.2.2.2.2)], Ve 37 (Qd Qn (Qd Qn (Qx .i64))) (some ⟨d6, 0, none⟩) (List.length ([(a7, o.1, u.1)] : List ((List UInt8) × (List UInt8) × Int))) ([(a7, o.1, u.1)] : List ((List UInt8) × (List UInt8) × Int))] := by have h := t9; rw [Fv (d0 := a3) (y := a) ((a.1, a.2.1, a.2.2.1, a.2.2.2.1, (c1, c2, b8)) : Qw)] at h; exact h
    refine ⟨(.tuple #[]), K, ?_⟩
    obtain rfl := Qg H
    exact ⟨A7, c8, (a3 ++ [((a.1, a.2.1, a.2.2.1, a.2.2.2.1, (c1, c2, b8)) : Qw)]), rfl, (C1 (d0 := a3) (y := ((a.1, a.2.1, a.2.2.1, a.2.2.2.1, (c1, c2, b8)) : Qw))), SP.sel u0 [2,0] rfl rfl⟩
end Go.Proofs.YtoflbpmbkmephaaGreatDoor
namespace Go.Proofs.YtoflbpmbkmephaaGreatDoor
open Go.RowKit
open Go.MapKept (sameNow_of_keys IsKey)
abbrev Gh : List UInt8 := [116, 105, 109, 101, 115]
abbrev Uv : List UInt8 := [116, 101, 110, 97, 110, 116]
abbrev C2 : List UInt8 := [110, 101, 116]
abbrev C3 : List UInt8 := [116, 111, 107, 101, 110]
def cin (w : List UInt8) : Bool := w == Gh || (w == Uv || (w == C2 || w == C3))
def G5 (w : List UInt8) : Int := cond (w == Gh) 5 (cond (w == Uv) 4 (cond (w == C2) 2 4))
def J7 (w : List UInt8) : FuncId := cond (w == Gh) 142 (cond (w == Uv) 143 (cond (w == C2) 144 145))
def cval (w : List UInt8) : Value := .agg #[.int .i64 (G5 w), .func (.func (J7 w)) #[] #[]]
def Fw : KV := [(.string ⟨List.toArray Gh⟩, cval Gh), (.string ⟨List.toArray Uv⟩, cval Uv), (.string ⟨List.toArray C2⟩, cval C2), (.string ⟨List.toArray C3⟩, cval C3)]
theorem cin_cases {w : List UInt8} (h : cin w = true) : w = Gh ∨ w = Uv ∨ w = C2 ∨ w = C3 := by
  unfold cin at h
  rw [Bool.or_eq_true, Bool.or_eq_true, Bool.or_eq_true] at h
  rcases h with h | h | h | h
  · exact .inl (eq_of_beq h)
  · exact .inr (.inl (eq_of_beq h))
  · exact .inr (.inr (.inl (eq_of_beq h)))
  · exact .inr (.inr (.inr (eq_of_beq h)))
theorem ctab_in {w : List UInt8} (h : cin w = true) : ∃ j, Gf .string (.string ⟨List.toArray w⟩) Fw 0 = some (some (j, cval w)) := by
  rcases cin_cases h with rfl | rfl | rfl | rfl
  · exact ⟨0, by kernel_rfl⟩
  · exact ⟨1, by kernel_rfl⟩
  · exact ⟨2, by kernel_rfl⟩
  · exact ⟨3, by kernel_rfl⟩
theorem C4 {a b : List UInt8} (h : (a == b) = false) : Instr.sameNow .string (.string ⟨List.toArray a⟩) (.string ⟨List.toArray b⟩) = some false := by
  obtain ⟨r, h1, h2⟩ := sameNow_of_keys (d := .string) (a := .string ⟨List.toArray a⟩) (b := .string ⟨List.toArray b⟩) trivial trivial
  cases r
  · exact h1
  · have h3 := h2.1 rfl
    injection h3 with h3
    injection h3 with h3
    have h4 : a = b := by simpa using congrArg Array.toList h3
    rw [h4] at h
    simp at h
theorem Fx {w : List UInt8} (h : cin w = false) : Gf .string (.string ⟨List.toArray w⟩) Fw 0 = some none := by
  unfold cin at h
  rw [Bool.or_eq_false_iff, Bool.or_eq_false_iff, Bool.or_eq_false_iff] at h
  obtain ⟨h1, h2, h3, h4⟩ := h
  simp only [Fw, Gf, C4 h1, C4 h2, C4 h3, C4 h4]
theorem Fl (w : List UInt8) (args : Array Value) (w0 : World) : (callFunc (J7 w) args).run Tryz.prog w0 = .ok (.enter (J7 w) args) w0 := by
  unfold J7
  cases (w == Gh)
  · cases (w == Uv)
    · cases (w == C2)
      · exact Tryz.call145 args w0
      · exact Tryz.call144 args w0
    · exact Tryz.call143 args w0
  · exact Tryz.call142 args w0
def Fm (w : List UInt8) (q2 q3 q4 q5 : Int) (l : List Qf) (q7 : Int) (q8 : Bool) (p : List (List UInt8)) : Option (Int × Int × Int × Int × List Qf × Int × Bool) :=
  cond (w == Gh) ((Y8 q2 q3 q4 q5 q7 q8 p).bind fun z => some (z.1, z.2.1, z.2.2.1, z.2.2.2.1, l, z.2.2.2.2.1, z.2.2.2.2.2))
    (cond (w == Uv) (Yw q2 q3 q4 q5 l q7 q8 p) (cond (w == C2) (Jv q2 q3 q4 q5 l q7 q8 p) (Y9 q2 q3 q4 q5 l q7 q8 p)))
theorem Ex (w : List UInt8) {S : List Nat} (g1 : Nat) (A7 : Option Addr) (c8 : Nat) (A13 : Option Addr) (c14 : Nat) (q2 q3 q4 q5 : Int) (d9 : List Qw) (q10 : Int) (q11 : Bool) (p12 : List (List UInt8)) (w0 : World) (hL : ∀ w, Mod S w0 w → Ur w)
    (hO : SP S w0 w0 [Qr g1 72 #[(.int .i64 q2), (.int .i64 q3), (.int .i64 q4), (.int .i64 q5), (.slice A7 (List.length (List.map stT d9)) c8), (.int .i64 q10), (.bool q11)], Yv A7 c8 d9]) (hr15 : ∀ w, Mod S w0 w → RdT Qn w A13 c14 p12)
    (r : Int × Int × Int × Int × List Qf × Int × Bool) (H : Fm w q2 q3 q4 q5 (List.map stT d9) q10 q11 p12 = some r) :
    Calls Tryz.prog (J7 w) #[(.pointer (some ⟨g1, 0, none⟩)), (.slice A13 (List.length p12) c14)] w0 (fun e w' => ∃ (A : Option Addr) (c : Nat) (d : List Qw), e = .returned (.tuple #[]) ∧ r.2.2.2.2.1 = List.map stT d ∧ SP S w0 w' [Qr g1 72 #[(.int .i64 r.1), (.int .i64 r.2.1), (.int .i64 r.2.2.1), (.int .i64 r.2.2.2.1), (.slice A (List.length (List.map stT d)) c), (.int .i64 r.2.2.2.2.2.1), (.bool r.2.2.2.2.2.2)], Yv A c d]) := by
  unfold Fm at H
  unfold J7
  cases h1 : (w == Gh) <;> rw [h1] at H
  · cases h2 : (w == Uv) <;> rw [h2] at H
    · cases h3 : (w == C2) <;> rw [h3] at H
      · exact Nd g1 A7 c8 A13 c14 q2 q3 q4 q5 d9 q10 q11 p12 w0 hL hO hr15 r H
      · exact N1 g1 A7 c8 A13 c14 q2 q3 q4 q5 d9 q10 q11 p12 w0 hL hO hr15 r H
    · exact Na g1 A7 c8 A13 c14 q2 q3 q4 q5 d9 q10 q11 p12 w0 hL hO hr15 r H
  · obtain ⟨z, hz, H⟩ := Qc H
    have hw := Nc g1 (.slice A7 (List.length (List.map stT d9)) c8) A13 c14 q2 q3 q4 q5 q10 q11 p12 w0 (fun w hm => hL w (SP.through hO (l := [0]) rfl hm)) (Je hO [0] rfl rfl) (fun w hm => hr15 w (SP.through hO (l := [0]) rfl hm)) z hz
    refine hw.mono fun e w' hp => ?_
    obtain ⟨he, hs⟩ := hp
    injection H with H
    subst H
    have h2 : SP S w0 w' [Yv A7 c8 d9, Qr g1 72 #[(.int .i64 z.1), (.int .i64 z.2.1), (.int .i64 z.2.2.1), (.int .i64 z.2.2.2.1), (.slice A7 (List.length (List.map stT d9)) c8), (.int .i64 z.2.2.2.2.1), (.bool z.2.2.2.2.2)]] := Zl hO [0] [1] rfl rfl hs rfl
    exact ⟨A7, c8, d9, he, rfl, SP.sel h2 [1, 0] rfl rfl⟩
end Go.Proofs.YtoflbpmbkmephaaGreatDoor
namespace Go.Proofs.YtoflbpmbkmephaaGreatDoor
open Go.RowKit
def No  : Option Unit :=
  (some ())
set_option maxHeartbeats 40000000 in
theorem Yj   (w0 : World)  (r : Unit) (H : No  = some r) :
  Calls Tryz.prog 91 #[] w0 (fun e w' => ∃ (g1 : Nat), e = .returned (.map (some g1)) ∧ SP [] w0 w' [Hh g1 Fw]) := by
 unfold No at H
 refine Qz (n := 7) Tryz.func91 K K K ?_
 have a := Q3 [] w0
 refine aQ ?_
 refine aR ?_
 refine iR 1 1 [(0, (.map none))] ?_
 refine iF ?_
 refine aQ ?_
 refine aR ?_
 refine iS 1 ?_
 refine Hi (T := 144) (dst := (some 1)) (o := 0) K rfl a ?_
 intro g2 w3 b
 refine iR 1 2 [(2, (.agg #[(.int .i64 5), (.func (.func 142) #[] #[])]))] ?_
 refine iS 3 ?_
 refine Dg (T := 144) (kt := 9) (et := 142) (m := g2) (L := []) (k := (.string ⟨List.toArray ([116, 105, 109, 101, 115] : List UInt8)⟩)) (v := (.agg #[(.int .i64 5), (.func (.func 142) #[] #[])])) (d := .string) (x := (.tmp 1)) (ix := (.const (.string ⟨List.toArray ([116, 105, 109, 101, 115] : List UInt8)⟩))) (y := (.tmp 2)) (i := 0) (dst := none) (o := 2) K rfl K K K K K K K K b rfl ?_
 intro w6 c
 refine iR 1 4 [(3, (.agg #[(.int .i64 4), (.func (.func 143) #[] #[])]))] ?_
 refine iS 5 ?_
 refine Dg (T := 144) (kt := 9) (et := 142) (m := g2) (L := ([] ++ [((.string ⟨List.toArray ([116, 105, 109, 101, 115] : List UInt8)⟩), (.agg #[(.int .i64 5), (.func (.func 142) #[] #[])]))])) (k := (.string ⟨List.toArray ([116, 101, 110, 97, 110, 116] : List UInt8)⟩)) (v := (.agg #[(.int .i64 4), (.func (.func 143) #[] #[])])) (d := .string) (x := (.tmp 1)) (ix := (.const (.string ⟨List.toArray ([116, 101, 110, 97, 110, 116] : List UInt8)⟩))) (y := (.tmp 3)) (i := 0) (dst := none) (o := 4) K rfl K K K K K K K K c rfl ?_
 intro w9 f
 refine iR 1 6 [(4, (.agg #[(.int .i64 2), (.func (.func 144) #[] #[])]))] ?_
 refine iS 7 ?_
 refine Dg (T := 144) (kt := 9) (et := 142) (m := g2) (L := (([] ++ [((.string ⟨List.toArray ([116, 105, 109, 101, 115] : List UInt8)⟩), (.agg #[(.int .i64 5), (.func (.func 142) #[] #[])]))]) ++ [((.string ⟨List.toArray ([116, 101, 110, 97, 110, 116] : List UInt8)⟩), (.agg #[(.int .i64 4), (.func (.func 143) #[] #[])]))])) (k := (.string ⟨List.toArray ([110, 101, 116] : List UInt8)⟩)) (v := (.agg #[(.int .i64 2), (.func (.func 144) #[] #[])])) (d := .string) (x := (.tmp 1)) (ix := (.const (.string ⟨List.toArray ([110, 101, 116] : List UInt8)⟩))) (y := (.tmp 4)) (i := 0) (dst := none) (o := 6) K rfl K K K K K K K K f rfl ?_
 intro j g
 refine iR 1 8 [(5, (.agg #[(.int .i64 4), (.func (.func 145) #[] #[])]))] ?_
 refine iS 9 ?_
 refine Dg (T := 144) (kt := 9) (et := 142) (m := g2) (L := ((([] ++ [((.string ⟨List.toArray ([116, 105, 109, 101, 115] : List UInt8)⟩), (.agg #[(.int .i64 5), (.func (.func 142) #[] #[])]))]) ++ [((.string ⟨List.toArray ([116, 101, 110, 97, 110, 116] : List UInt8)⟩), (.agg #[(.int .i64 4), (.func (.func 143) #[] #[])]))]) ++ [((.string ⟨List.toArray ([110, 101, 116] : List UInt8)⟩), (.agg #[(.int .i64 2), (.func (.func 144) #[] #[])]))])) (k := (.string ⟨List.toArray ([116, 111, 107, 101, 110] : List UInt8)⟩)) (v := (.agg #[(.int .i64 4), (.func (.func 145) #[] #[])])) (d := .string) (x := (.tmp 1)) (ix := (.const (.string ⟨List.toArray ([116, 111, 107, 101, 110] : List UInt8)⟩))) (y := (.tmp 5)) (i := 0) (dst := none) (o := 8) K rfl K K K K K K K K g rfl ?_
 intro l h
 refine iR 2 11 [(6, (.map (some g2))), (0, (.map (some g2)))] ?_
 refine iF ?_
 refine At.ret K ?_
 refine ⟨(.map (some g2)), K, ?_⟩
 obtain rfl := Qg H
 exact ⟨g2, rfl, SP.sel h [0] rfl rfl⟩
def Xb (a : (Int × Int × Int × Int × (List Qf) × Int × Bool)) (b : (List Qf)) (c : Bool) : Option (Bool × Int × Int × Int × Int × (List Qf) × Int × Bool) :=
  (some (c, a.1, a.2.1, a.2.2.1, a.2.2.2.1, b, (IntKind.wrap .i64 (a.2.2.2.2.2.1 + 1)), a.2.2.2.2.2.2))
def Xc (q2 : Int) (q3 : Int) (q4 : Int) (q5 : Int) (q6 : (List Qf)) (c : Int) (d : Bool) (e : ((List (List UInt8)))) (f : (List UInt8)) (g : Bool) : Option (Bool × Int × Int × Int × Int × (List Qf) × Int × Bool) :=
  (cond g (some (false, q2, q3, q4, q5, q6, c, d)) ((Fm f q2 q3 q4 q5 q6 c d e).bind fun a => ((some a.2.2.2.2.1).bind fun b => (cond (!a.2.2.2.2.2.2) ((Zz a.1 a.2.1 a.2.2.1 a.2.2.2.1 b).bind fun h => (Xb a b h)) (Xb a b false)))))
def Jj (q2 : Int) (q3 : Int) (q4 : Int) (q5 : Int) (q6 : (List Qf)) (c : Int) (d : Bool) (f : (List UInt8)) : Option (Bool × Int × Int × Int × Int × (List Qf) × Int × Bool) :=
  ((Ju f ([10] : List UInt8)).bind fun e => ((U8 e.1 ([32] : List UInt8)).bind fun a => ((No ).bind fun g => ((idx a 0).bind fun b => (cond (cin b) (cond (!e.2) (Xc q2 q3 q4 q5 q6 c d a b true) (Xc q2 q3 q4 q5 q6 c d a b (((List.length a : Nat) : Int) != (G5 b)))) (some (false, q2, q3, q4, q5, q6, c, d)))))))
set_option maxHeartbeats 40000000 in
theorem Np {S : List Nat} (g1 : Nat) (A7 : Option Addr) (c8 : Nat) (q2 : Int) (q3 : Int) (q4 : Int) (q5 : Int) (d9 : (List Qw)) (a5 : Int) (a6 : Bool) (c6 : (List UInt8)) (w0 : World) (hL : ∀ w, Mod S w0 w → Ur w) (hO : SP S w0 w0 [Qr g1 72 #[(.int .i64 q2), (.int .i64 q3), (.int .i64 q4), (.int .i64 q5), (.slice A7 (List.length (List.map stT d9)) c8), (.int .i64 a5), (.bool a6)], Yv A7 c8 d9])  (r : (Bool × Int × Int × Int × Int × (List Qf) × Int × Bool)) (H : Jj q2 q3 q4 q5 (List.map stT d9) a5 a6 c6 = some r) :
  Calls Tryz.prog 41 #[(pt g1 0), (.string ⟨List.toArray c6⟩)] w0 (fun e w' => ∃ (e0 : Option Addr) (e1 : Nat) (d3 : List Qw), e = .returned (.bool r.1) ∧ r.2.2.2.2.2.1 = List.map stT d3 ∧ SP S w0 w' [Qr g1 72 #[(.int .i64 r.2.1), (.int .i64 r.2.2.1), (.int .i64 r.2.2.2.1), (.int .i64 r.2.2.2.2.1), (.slice e0 (List.length (List.map stT d3)) e1), (.int .i64 r.2.2.2.2.2.2.1), (.bool r.2.2.2.2.2.2.2)], Yv e0 e1 d3]) := by
 unfold Jj at H
 refine Qz (n := 61) Tryz.func41 K K K ?_
 have f7 := hO
 refine aQ ?_
 refine aR ?_
 refine iR 1 1 [(4, (.bool false))] ?_
 refine iF ?_
 refine aQ ?_
 refine aR ?_
 refine iR 1 1 [(10, (.string ⟨List.toArray c6⟩))] ?_
 obtain ⟨a2, f8, H⟩ := Qc H
 refine iS 2 ?_
 refine cF 90 #[(.tmp 10), (.const (.string ⟨List.toArray ([10] : List UInt8)⟩))] #[9, 9] 11 Tryz.call90 (Nz  c6 ([10] : List UInt8) w0  a2 f8) ?_
 rintro e f9 ⟨rfl, e2⟩
 refine ⟨_, rfl, ?_⟩
 have g0 := SP.call f7 e2
 clear e2
 refine iR 5 7 [(9, (.tuple #[(.string ⟨List.toArray a2.1⟩), (.bool a2.2)])), (12, (.string ⟨List.toArray a2.1⟩)), (13, (.bool a2.2)), (1, (.string ⟨List.toArray a2.1⟩)), (5, (.bool a2.2))] ?_
 refine iF ?_
 refine aQ ?_
 refine aR ?_
 refine iR 1 1 [(14, (.string ⟨List.toArray a2.1⟩))] ?_
 obtain ⟨s, g2, H⟩ := Qc H
 refine iS 2 ?_
 refine cF 67 #[(.tmp 14), (.const (.string ⟨List.toArray ([32] : List UInt8)⟩))] #[9, 9] 15 Tryz.call67 (Ri  a2.1 ([32] : List UInt8) f9  s g2) ?_
 rintro e s6 ⟨u, a0, rfl, e3⟩
 refine ⟨_, rfl, ?_⟩
 have e4 := SP.call g0 e3
 clear e3
 refine iR 1 3 [(6, (.slice u (List.length s) a0))] ?_
 refine iF ?_
 refine aQ ?_
 obtain ⟨c7, c9, H⟩ := Qc H
 obtain ⟨p, a3, a4, b6, H⟩ := Vc H
 rcases Bool.eq_false_or_eq_true (cin p) with b9 | b9
 ·have H := ct H b9
  refine aG [N2, GEq (.slice u (List.length s) a0), Z2 u Qn.sz 0, GEq (.string ⟨List.toArray p⟩), GEq (.tuple #[(.agg #[(.int .i64 (G5 p)), (.func (.func (J7 p)) #[] #[])]), (.bool true)]), GEq (.tuple #[(.agg #[(.int .i64 (G5 p)), (.func (.func (J7 p)) #[] #[])]), (.bool true)]), GEq (.agg #[(.int .i64 (G5 p)), (.func (.func (J7 p)) #[] #[])]), GEq (.bool true), N2, N2, GEq (.bool true)] [0, 8, 9] [([], fun vs w => VL vs [] ∧ SP S w0 w [Qr g1 72 #[(.int .i64 q2), (.int .i64 q3), (.int .i64 q4), (.int .i64 q5), (.slice A7 (List.length (List.map stT d9)) c8), (.int .i64 a5), (.bool a6)], Yv A7 c8 d9, Ve 9 Qn u a0 s]), ([0], fun vs w => ∃ (a9 : Nat), VL vs [(.map (some a9))] ∧ SP S w0 w [Qr g1 72 #[(.int .i64 q2), (.int .i64 q3), (.int .i64 q4), (.int .i64 q5), (.slice A7 (List.length (List.map stT d9)) c8), (.int .i64 a5), (.bool a6)], Yv A7 c8 d9, Ve 9 Qn u a0 s, Hh a9 Fw]), ([8], fun vs w => ∃ (c0 : Nat), VL vs [(pt c0 0)] ∧ SP S w0 w [Qr g1 72 #[(.int .i64 q2), (.int .i64 q3), (.int .i64 q4), (.int .i64 q5), (.slice A7 (List.length (List.map stT d9)) c8), (.int .i64 a5), (.bool a6)], Yv A7 c8 d9, Ve 9 Qn u a0 s, Qr c0 142 #[(.int .i64 0), .nilFunc]]), ([0, 8], fun vs w => ∃ (b0 : Nat), ∃ (b1 : Nat), VL vs [(.map (some b0)), (pt b1 0)] ∧ SP S w0 w [Qr g1 72 #[(.int .i64 q2), (.int .i64 q3), (.int .i64 q4), (.int .i64 q5), (.slice A7 (List.length (List.map stT d9)) c8), (.int .i64 a5), (.bool a6)], Yv A7 c8 d9, Ve 9 Qn u a0 s, Hh b0 Fw, Qr b1 142 #[(.int .i64 0), .nilFunc]]), ([0, 8, 9], fun vs w => ∃ (d4 : Nat), ∃ (a8 : Nat), VL vs [(.map (some d4)), (pt a8 0), undef] ∧ SP S w0 w [Qr g1 72 #[(.int .i64 q2), (.int .i64 q3), (.int .i64 q4), (.int .i64 q5), (.slice A7 (List.length (List.map stT d9)) c8), (.int .i64 a5), (.bool a6)], Yv A7 c8 d9, Ve 9 Qn u a0 s, Hh d4 Fw, Qr a8 142 #[(.int .i64 (G5 p)), (.func (.func (J7 p)) #[] #[])]])] 11 4 ⟨trivial, SP.drew e4⟩ ?_ ?_
  iterate 11 refine And.intro ?_ ?_
  exact trivial
  ·refine Owe.heavy K [(0, 1), (2, 3)] K (Qb ⟨K, K, ?_⟩ (Qb ⟨K, K, ?_⟩ Qy))
   ·rintro ρ' w' hs q ⟨s7, g3⟩
    refine kN [] trivial fun a => ?_
    refine cF 91 #[] #[] 17 Tryz.call91 (Yj   w'  c7 c9) ?_
    rintro e s8 ⟨g4, rfl, e5⟩
    refine ⟨_, rfl, ?_⟩
    have g5 := SP.call g3 e5
    clear e5
    refine ⟨_, Qa a, trivial, ?_⟩
    exact (Exists.intro g4 (And.intro (And.intro rfl (trivial)) g5))
   ·rintro ρ' w' hs q ⟨c0, ⟨g6, -⟩, g7⟩
    refine kN [] trivial fun a => ?_
    refine cF 91 #[] #[] 17 Tryz.call91 (Yj   w'  c7 c9) ?_
    rintro e s9 ⟨g8, rfl, e6⟩
    refine ⟨_, rfl, ?_⟩
    have g9 := SP.call g7 e6
    clear e6
    refine ⟨_, Qa a, trivial, ?_⟩
    exact (Exists.intro g8 (Exists.intro c0 (And.intro (And.intro rfl (And.intro g6 (trivial))) (SP.sel g9 [0, 1, 2, 4, 3] rfl rfl))))
  ·exact oV (hC (hS 6 (.slice u (List.length s) a0)) (h0)) (.slice u (List.length s) a0)
  ·refine Owe.light K [0, 1, 2, 3] K (Qb ?_ (Qb ?_ (Qb ?_ (Qb ?_ Qy))))
   ·rintro ρ' w' hs q ⟨t0, h1⟩
    refine kM (kc (kA q 1 18) k0) fun a => ?_
    refine Qp (e := Qn) (l := s) (A := u) (c := a0) (T := 79) (E := 9) (x := (.tmp 18)) (ix := (.const (.int .i64 (0)))) (ki := .i64) (iz := 0) (d := (some 19)) (k := 2) K rfl K K K K (Vr (SP.get h1 (i := 2) rfl)) a3 a4 ?_
    intro h2 h3 h4 t1 hc454
    exact ⟨rfl, _, Qa a, ⟨h2, h3, h4, rfl⟩⟩
   ·rintro ρ' w' hs q ⟨a9, ⟨t2, -⟩, h5⟩
    refine kM (kc (kA q 1 18) k0) fun a => ?_
    refine Qp (e := Qn) (l := s) (A := u) (c := a0) (T := 79) (E := 9) (x := (.tmp 18)) (ix := (.const (.int .i64 (0)))) (ki := .i64) (iz := 0) (d := (some 19)) (k := 2) K rfl K K K K (Vr (SP.get h5 (i := 2) rfl)) a3 a4 ?_
    intro h6 h7 h8 t3 hc462
    exact ⟨rfl, _, Qa a, ⟨h6, h7, h8, rfl⟩⟩
   ·rintro ρ' w' hs q ⟨c0, ⟨t4, -⟩, h9⟩
    refine kM (kc (kA q 1 18) k0) fun a => ?_
    refine Qp (e := Qn) (l := s) (A := u) (c := a0) (T := 79) (E := 9) (x := (.tmp 18)) (ix := (.const (.int .i64 (0)))) (ki := .i64) (iz := 0) (d := (some 19)) (k := 2) K rfl K K K K (Vr (SP.get h9 (i := 2) rfl)) a3 a4 ?_
    intro i0 i1 i2 t5 hc470
    exact ⟨rfl, _, Qa a, ⟨i0, i1, i2, rfl⟩⟩
   ·rintro ρ' w' hs q ⟨b0, b1, ⟨t6, t7, -⟩, i3⟩
    refine kM (kc (kA q 1 18) k0) fun a => ?_
    refine Qp (e := Qn) (l := s) (A := u) (c := a0) (T := 79) (E := 9) (x := (.tmp 18)) (ix := (.const (.int .i64 (0)))) (ki := .i64) (iz := 0) (d := (some 19)) (k := 2) K rfl K K K K (Vr (SP.get i3 (i := 2) rfl)) a3 a4 ?_
    intro i4 i5 i6 t8 hc479
    exact ⟨rfl, _, Qa a, ⟨i4, i5, i6, rfl⟩⟩
  ·refine Owe.light K [0, 1, 2, 3] K (Qb ?_ (Qb ?_ (Qb ?_ (Qb ?_ Qy))))
   ·rintro ρ' w' hs q ⟨t9, i7⟩
    obtain ⟨i8, i9, j0, a7⟩ := q 2 19 K
    refine kM (kc a7 k0) fun a => ?_
    refine sC 9 19 i8 (i9 + Int.toNat 0 * Qn.sz) (.string ⟨List.toArray p⟩) 20 (Qt (e := Qn) (Qo (Vr (SP.get i7 (i := 2) rfl)) j0 a3 a4) b6 (j := 0) rfl) ?_
    exact eK a
   ·rintro ρ' w' hs q ⟨a9, ⟨u0, -⟩, j1⟩
    obtain ⟨j2, j3, j4, a7⟩ := q 2 19 K
    refine kM (kc a7 k0) fun a => ?_
    refine sC 9 19 j2 (j3 + Int.toNat 0 * Qn.sz) (.string ⟨List.toArray p⟩) 20 (Qt (e := Qn) (Qo (Vr (SP.get j1 (i := 2) rfl)) j4 a3 a4) b6 (j := 0) rfl) ?_
    exact eK a
   ·rintro ρ' w' hs q ⟨c0, ⟨u1, -⟩, j5⟩
    obtain ⟨j6, j7, j8, a7⟩ := q 2 19 K
    refine kM (kc a7 k0) fun a => ?_
    refine sC 9 19 j6 (j7 + Int.toNat 0 * Qn.sz) (.string ⟨List.toArray p⟩) 20 (Qt (e := Qn) (Qo (Vr (SP.get j5 (i := 2) rfl)) j8 a3 a4) b6 (j := 0) rfl) ?_
    exact eK a
   ·rintro ρ' w' hs q ⟨b0, b1, ⟨u2, u3, -⟩, j9⟩
    obtain ⟨k1, k2, k3, a7⟩ := q 2 19 K
    refine kM (kc a7 k0) fun a => ?_
    refine sC 9 19 k1 (k2 + Int.toNat 0 * Qn.sz) (.string ⟨List.toArray p⟩) 20 (Qt (e := Qn) (Qo (Vr (SP.get j9 (i := 2) rfl)) k3 a3 a4) b6 (j := 0) rfl) ?_
    exact eK a
  ·refine Owe.light K [1, 3] K (Qb ?_ (Qb ?_ Qy))
   ·rintro ρ' w' hs q ⟨a9, ⟨k4, -⟩, k5⟩
    refine kN [(17, (.map (some a9))), (20, (.string ⟨List.toArray p⟩))] ⟨(Q9 (h := 0) K).symm.trans k4, q 3 20 K, trivial⟩ fun a => ?_
    refine Bu (T := 144) (kt := 9) (et := 142) (m := a9) (L := Fw) (k := (.string ⟨List.toArray p⟩)) (d := .string) (x := (.tmp 17)) (ix := (.tmp 20)) (dst := (some 21)) (o := 4) (v := cval p) K rfl K K K K K (ctab_in b9) (SP.get k5 (i := 3) rfl) ?_
    exact eK a
   ·rintro ρ' w' hs q ⟨b0, b1, ⟨k6, u4, -⟩, k7⟩
    refine kN [(17, (.map (some b0))), (20, (.string ⟨List.toArray p⟩))] ⟨(Q9 (h := 0) K).symm.trans k6, q 3 20 K, trivial⟩ fun a => ?_
    refine Bu (T := 144) (kt := 9) (et := 142) (m := b0) (L := Fw) (k := (.string ⟨List.toArray p⟩)) (d := .string) (x := (.tmp 17)) (ix := (.tmp 20)) (dst := (some 21)) (o := 4) (v := cval p) K rfl K K K K K (ctab_in b9) (SP.get k7 (i := 3) rfl) ?_
    exact eK a
  ·exact oV (hC (hA 4 21) (h0)) (.tuple #[(.agg #[(.int .i64 (G5 p)), (.func (.func (J7 p)) #[] #[])]), (.bool true)])
  ·exact oV (hC (hA 5 16) (h0)) (.agg #[(.int .i64 (G5 p)), (.func (.func (J7 p)) #[] #[])])
  ·exact oV (hC (hA 5 16) (h0)) (.bool true)
  ·refine Owe.heavy K [(0, 2), (1, 3)] K (Qb ⟨K, K, ?_⟩ (Qb ⟨K, K, ?_⟩ Qy))
   ·rintro ρ' w' hs q ⟨u5, k8⟩
    refine kN [] trivial fun a => ?_
    refine Qm.alloc (t := 142) (z := (.agg #[(.int .i64 0), .nilFunc])) (d := (some 7)) (k := 8) K rfl K k8 ?_
    intro k9 u6 l0
    refine ⟨_, Qa a, trivial, ?_⟩
    exact (Exists.intro k9 (And.intro (And.intro rfl (trivial)) l0))
   ·rintro ρ' w' hs q ⟨a9, ⟨l1, -⟩, l2⟩
    refine kN [] trivial fun a => ?_
    refine Qm.alloc (t := 142) (z := (.agg #[(.int .i64 0), .nilFunc])) (d := (some 7)) (k := 8) K rfl K l2 ?_
    intro l3 u7 l4
    refine ⟨_, Qa a, trivial, ?_⟩
    exact (Exists.intro a9 (Exists.intro l3 (And.intro (And.intro l1 (And.intro rfl (trivial))) l4)))
  ·refine oH 3 4 ?_
   ·rintro ρ' w' hs q ⟨b0, b1, ⟨l5, e7, -⟩, l6⟩
    refine kN [(7, (pt b1 0)), (22, (.agg #[(.int .i64 (G5 p)), (.func (.func (J7 p)) #[] #[])]))] ⟨(Q9 (h := 8) K).symm.trans e7, q 6 22 K, trivial⟩ fun a => ?_
    refine Qm.store (t := 142) (x := (.tmp 7)) (y := (.tmp 22)) (g := b1) (off := 0) (i := 4) (v := (.agg #[(.int .i64 (G5 p)), (.func (.func (J7 p)) #[] #[])])) (cs' := #[(.int .i64 (G5 p)), (.func (.func (J7 p)) #[] #[])]) (d := none) (k := 9) K rfl K K l6 rfl K ?_
    intro u8 l7
    refine ⟨_, Qa a, trivial, ?_⟩
    exact (Exists.intro b0 (Exists.intro b1 (And.intro (And.intro l5 (And.intro e7 (And.intro rfl (trivial)))) l7)))
  ·exact oV (hC (hA 7 23) (h0)) (.bool true)
  ·rintro ρ' w' hs hf ⟨d4, a8, ⟨u9, l8, v0, -⟩, d0⟩
   refine Vv [(0, (pt g1 0)), (5, (.bool a2.2)), (6, (.slice u (List.length s) a0)), (7, (pt a8 0)), (8, (.bool true))] ⟨(hs 0 K).trans K, (hs 5 K).trans K, (hs 6 K).trans K, (Q9 (h := 8) K).symm.trans l8, hf 10 8 K, trivial⟩ ?_
   obtain ⟨v1, l9⟩ : ∃ x, w' = x := ⟨_, rfl⟩
   rw [l9] at d0 ⊢
   refine aQ ?_
   refine aQ ?_
   refine At.join (fun ρ w => ∃ (c1 : Bool), Zd ρ [(0, (pt g1 0)), (6, (.slice u (List.length s) a0)), (7, (pt a8 0)), (36, (.bool c1))] ∧ SP S w0 w [Yv A7 c8 d9, Qr g1 72 #[(.int .i64 q2), (.int .i64 q3), (.int .i64 q4), (.int .i64 q5), (.slice A7 (List.length (List.map stT d9)) c8), (.int .i64 a5), (.bool a6)], Qr a8 142 #[(.int .i64 (G5 p)), (.func (.func (J7 p)) #[] #[])], Ve 9 Qn u a0 s] ∧ Xc q2 q3 q4 q5 (List.map stT d9) a5 a6 s p c1 = some r) ?_ ?_
   ·refine aR ?_
    refine iR 7 7 [(24, (.bool true)), (25, (.bool false)), (26, (.bool false)), (27, (.bool a2.2)), (28, (.bool (!a2.2))), (29, (.bool (!a2.2))), (30, (.bool (!a2.2)))] ?_
    refine In.guard (t := 30) (b := (!a2.2)) K (fun d5 => ?_) (fun d5 => ?_)
    ·have H := ct H d5
     refine iR 6 13 [(31, undef), (32, undef), (33, undef), (34, undef), (35, undef), (36, (.bool true))] ?_
     refine iF ?_
     exact ⟨true, ⟨K, K, K, K, trivial⟩, SP.sel d0 [1, 0, 4, 2] rfl rfl, H⟩
    ·have H := cf H d5
     refine iR 3 10 [(31, (.slice u (List.length s) a0)), (32, (.int .i64 ((List.length s : Nat) : Int))), (33, (pt a8 0))] ?_
     refine iS 11 ?_
     refine sL 3 33 a8 0 4 (.int .i64 (G5 p)) 34 d0 rfl ?_
     refine iR 2 13 [(35, (.bool (((List.length s : Nat) : Int) != (G5 p)))), (36, (.bool (((List.length s : Nat) : Int) != (G5 p))))] ?_
     refine iF ?_
     exact ⟨(((List.length s : Nat) : Int) != (G5 p)), ⟨K, K, K, K, trivial⟩, SP.sel d0 [1, 0, 4, 2] rfl rfl, H⟩
   ·rintro ρ m0 ⟨c1, hk, c2, H⟩
    unfold Xc at H
    first | refine At.known [(0, (pt g1 0)), (6, (.slice u (List.length s) a0)), (7, (pt a8 0)), (36, (.bool c1))] hk ?_ | rw [← Q1 (l := [(0, (pt g1 0)), (6, (.slice u (List.length s) a0)), (7, (pt a8 0)), (36, (.bool c1))]) hk]
    refine Zv K (o := (.tmp 36)) K (b := c1) K (fun d6 => ?_) (fun d6 => ?_)
    ·have H := ct H d6
     refine aQ ?_
     refine aR ?_
     refine iR 1 1 [(4, (.bool false))] ?_
     refine iF ?_
     refine At.ret K ?_
     refine ⟨(.bool false), K, ?_⟩
     obtain rfl := Qg H
     exact ⟨A7, c8, d9, rfl, rfl, SP.sel c2 [1,0] rfl rfl⟩
    ·have H := cf H d6
     refine At.skip K ?_
     refine aQ ?_
     refine aR ?_
     refine iR 1 1 [(37, (pt a8 1))] ?_
     refine iS 2 ?_
     refine sL 140 37 a8 1 2 (.func (.func (J7 p)) #[] #[]) 38 c2 rfl ?_
     refine iR 2 4 [(39, (pt g1 0)), (40, (.slice u (List.length s) a0))] ?_
     obtain ⟨a1, m1, H⟩ := Qc H
     refine iS 5 ?_
     refine Xf (f := (J7 p)) (fo := (.tmp 38)) (xs := #[(.tmp 39), (.tmp 40)]) (tys := #[70, 79]) (first := #[]) (captured := #[]) (d := (some 41)) (k := 4) K rfl K K (Fl p) (Ex p g1 A7 c8 u a0 q2 q3 q4 q5 d9 a5 a6 s m0 (fun w hm => hL w (SP.through c2 (l := [1, 0]) rfl hm)) (Je c2 [1, 0] rfl rfl) (fun w hm => (Vr (SP.still c2 (l := [1, 0]) (i := 3) rfl rfl rfl hm))) a1 m1) ?_
     rintro e m2 ⟨b7, b8, b2, rfl, m3, e8⟩
     obtain ⟨v2, hll552, H⟩ := Zq H
     rw [m3] at hll552
     subst hll552
     refine ⟨_, rfl, ?_⟩
     have e9 : SP S w0 m2 [Qr a8 142 #[(.int .i64 (G5 p)), (.func (.func (J7 p)) #[] #[])], Ve 9 Qn u a0 s, Qr g1 72 #[(.int .i64 a1.1), (.int .i64 a1.2.1), (.int .i64 a1.2.2.1), (.int .i64 a1.2.2.2.1), (.slice b7 (List.length (List.map stT b2)) b8), (.int .i64 a1.2.2.2.2.2.1), (.bool a1.2.2.2.2.2.2)], Yv b7 b8 b2] := Zl c2 [1, 0] [2, 3] rfl rfl e8 rfl
     clear e8
     refine iF ?_
     refine aQ ?_
     refine aR ?_
     refine iR 3 3 [(42, (pt g1 0)), (43, (pt g1 0)), (44, (pt g1 5))] ?_
     refine iS 4 ?_
     refine sL 3 44 g1 5 2 (.int .i64 a1.2.2.2.2.2.1) 45 e9 rfl ?_
     refine iR 3 7 [(46, (.int .i64 (IntKind.wrap .i64 (a1.2.2.2.2.2.1 + 1)))), (47, (pt g1 0)), (48, (pt g1 5))] ?_
     refine iS 8 ?_
     refine Qm.store (t := 3) (x := (.tmp 48)) (y := (.tmp 46)) (g := g1) (off := 5) (i := 2) (v := (.int .i64 (IntKind.wrap .i64 (a1.2.2.2.2.2.1 + 1)))) (cs' := #[(.int .i64 a1.1), (.int .i64 a1.2.1), (.int .i64 a1.2.2.1), (.int .i64 a1.2.2.2.1), (.slice b7 (List.length (List.map stT b2)) b8), (.int .i64 (IntKind.wrap .i64 (a1.2.2.2.2.2.1 + 1))), (.bool a1.2.2.2.2.2.2)]) (d := none) (k := 7) K rfl K K e9 rfl K ?_
     intro f0 c3
     refine iF ?_
     refine aQ ?_
     refine At.join (fun ρ w => ∃ (c4 : Bool), Zd ρ [(4, (.bool c4))] ∧ SP S w0 w [Yv b7 b8 b2, Qr g1 72 #[(.int .i64 a1.1), (.int .i64 a1.2.1), (.int .i64 a1.2.2.1), (.int .i64 a1.2.2.2.1), (.slice b7 (List.length (List.map stT b2)) b8), (.int .i64 (IntKind.wrap .i64 (a1.2.2.2.2.2.1 + 1))), (.bool a1.2.2.2.2.2.2)]] ∧ Xb a1 (List.map stT b2) c4 = some r) ?_ ?_
     ·refine aR ?_
      refine iR 3 3 [(49, (pt g1 0)), (50, (pt g1 0)), (51, (pt g1 6))] ?_
      refine iS 4 ?_
      refine sL 4 51 g1 6 2 (.bool a1.2.2.2.2.2.2) 52 c3 rfl ?_
      refine iR 2 6 [(53, (.bool (!a1.2.2.2.2.2.2))), (54, (.bool (!a1.2.2.2.2.2.2)))] ?_
      refine In.guard (t := 54) (b := (!a1.2.2.2.2.2.2)) K (fun d7 => ?_) (fun d7 => ?_)
      ·have H := ct H d7
       refine iR 3 9 [(55, (pt g1 0)), (56, (pt g1 0)), (57, (pt g1 0))] ?_
       refine iS 10 ?_
       refine sL 24 57 g1 0 2 (.agg #[(.int .i64 a1.1), (.int .i64 a1.2.1), (.int .i64 a1.2.2.1), (.int .i64 a1.2.2.2.1), (.slice b7 (List.length (List.map stT b2)) b8)]) 58 c3 rfl ?_
       obtain ⟨d1, m4, H⟩ := Qc H
       refine iS 11 ?_
       refine cF 22 #[(.tmp 58)] #[24] 59 Tryz.call22 (Xl b7 b8 a1.1 a1.2.1 a1.2.2.1 a1.2.2.2.1 b2 f0 (hL f0 (SP.mod c3)) (G4 (SP.get c3 (i := 3) rfl)) d1 m4) ?_
       rintro e v3 ⟨rfl, f1⟩
       refine ⟨_, rfl, ?_⟩
       have m5 := SP.call c3 f1
       clear f1
       refine iR 2 13 [(60, (.bool d1)), (4, (.bool d1))] ?_
       refine iF ?_
       exact ⟨d1, ⟨K, trivial⟩, SP.sel m5 [3, 2] rfl rfl, H⟩
      ·have H := cf H d7
       refine iR 7 13 [(55, undef), (56, undef), (57, undef), (58, undef), (59, undef), (60, (.bool false)), (4, (.bool false))] ?_
       refine iF ?_
       exact ⟨false, ⟨K, trivial⟩, SP.sel c3 [3, 2] rfl rfl, H⟩
     ·rintro ρ v4 ⟨c4, hk, m6, H⟩
      unfold Xb at H
      first | refine At.known [(4, (.bool c4))] hk ?_ | rw [← Q1 (l := [(4, (.bool c4))]) hk]
      refine At.ret K ?_
      refine ⟨(.bool c4), K, ?_⟩
      obtain rfl := Qg H
      exact ⟨b7, b8, b2, rfl, rfl, SP.sel m6 [1,0] rfl rfl⟩
 ·have H := cf H b9
  refine aG [N2, GEq (.slice u (List.length s) a0), Z2 u Qn.sz 0, GEq (.string ⟨List.toArray p⟩), GEq (.tuple #[(.agg #[(.int .i64 0), .nilFunc]), (.bool false)]), GEq (.tuple #[(.agg #[(.int .i64 0), .nilFunc]), (.bool false)]), GEq (.agg #[(.int .i64 0), .nilFunc]), GEq (.bool false), N2, N2, GEq (.bool false)] [0, 8, 9] [([], fun vs w => VL vs [] ∧ SP S w0 w [Qr g1 72 #[(.int .i64 q2), (.int .i64 q3), (.int .i64 q4), (.int .i64 q5), (.slice A7 (List.length (List.map stT d9)) c8), (.int .i64 a5), (.bool a6)], Yv A7 c8 d9, Ve 9 Qn u a0 s]), ([0], fun vs w => ∃ (b3 : Nat), VL vs [(.map (some b3))] ∧ SP S w0 w [Qr g1 72 #[(.int .i64 q2), (.int .i64 q3), (.int .i64 q4), (.int .i64 q5), (.slice A7 (List.length (List.map stT d9)) c8), (.int .i64 a5), (.bool a6)], Yv A7 c8 d9, Ve 9 Qn u a0 s, Hh b3 Fw]), ([8], fun vs w => ∃ (c5 : Nat), VL vs [(pt c5 0)] ∧ SP S w0 w [Qr g1 72 #[(.int .i64 q2), (.int .i64 q3), (.int .i64 q4), (.int .i64 q5), (.slice A7 (List.length (List.map stT d9)) c8), (.int .i64 a5), (.bool a6)], Yv A7 c8 d9, Ve 9 Qn u a0 s, Qr c5 142 #[(.int .i64 0), .nilFunc]]), ([0, 8], fun vs w => ∃ (b4 : Nat), ∃ (b5 : Nat), VL vs [(.map (some b4)), (pt b5 0)] ∧ SP S w0 w [Qr g1 72 #[(.int .i64 q2), (.int .i64 q3), (.int .i64 q4), (.int .i64 q5), (.slice A7 (List.length (List.map stT d9)) c8), (.int .i64 a5), (.bool a6)], Yv A7 c8 d9, Ve 9 Qn u a0 s, Hh b4 Fw, Qr b5 142 #[(.int .i64 0), .nilFunc]]), ([0, 8, 9], fun vs w => ∃ (d8 : Nat), ∃ (d2 : Nat), VL vs [(.map (some d8)), (pt d2 0), undef] ∧ SP S w0 w [Qr g1 72 #[(.int .i64 q2), (.int .i64 q3), (.int .i64 q4), (.int .i64 q5), (.slice A7 (List.length (List.map stT d9)) c8), (.int .i64 a5), (.bool a6)], Yv A7 c8 d9, Ve 9 Qn u a0 s, Hh d8 Fw, Qr d2 142 #[(.int .i64 0), .nilFunc]])] 11 4 ⟨trivial, SP.drew e4⟩ ?_ ?_
  iterate 11 refine And.intro ?_ ?_
  exact trivial
  ·refine Owe.heavy K [(0, 1), (2, 3)] K (Qb ⟨K, K, ?_⟩ (Qb ⟨K, K, ?_⟩ Qy))
   ·rintro ρ' w' hs q ⟨v5, m7⟩
    refine kN [] trivial fun a => ?_
    refine cF 91 #[] #[] 17 Tryz.call91 (Yj   w'  c7 c9) ?_
    rintro e v6 ⟨m8, rfl, f2⟩
    refine ⟨_, rfl, ?_⟩
    have m9 := SP.call m7 f2
    clear f2
    refine ⟨_, Qa a, trivial, ?_⟩
    exact (Exists.intro m8 (And.intro (And.intro rfl (trivial)) m9))
   ·rintro ρ' w' hs q ⟨c5, ⟨n0, -⟩, n1⟩
    refine kN [] trivial fun a => ?_
    refine cF 91 #[] #[] 17 Tryz.call91 (Yj   w'  c7 c9) ?_
    rintro e v7 ⟨n2, rfl, f3⟩
    refine ⟨_, rfl, ?_⟩
    have n3 := SP.call n1 f3
    clear f3
    refine ⟨_, Qa a, trivial, ?_⟩
    exact (Exists.intro n2 (Exists.intro c5 (And.intro (And.intro rfl (And.intro n0 (trivial))) (SP.sel n3 [0, 1, 2, 4, 3] rfl rfl))))
  ·exact oV (hC (hS 6 (.slice u (List.length s) a0)) (h0)) (.slice u (List.length s) a0)
  ·refine Owe.light K [0, 1, 2, 3] K (Qb ?_ (Qb ?_ (Qb ?_ (Qb ?_ Qy))))
   ·rintro ρ' w' hs q ⟨v8, n4⟩
    refine kM (kc (kA q 1 18) k0) fun a => ?_
    refine Qp (e := Qn) (l := s) (A := u) (c := a0) (T := 79) (E := 9) (x := (.tmp 18)) (ix := (.const (.int .i64 (0)))) (ki := .i64) (iz := 0) (d := (some 19)) (k := 2) K rfl K K K K (Vr (SP.get n4 (i := 2) rfl)) a3 a4 ?_
    intro n5 n6 n7 v9 hc632
    exact ⟨rfl, _, Qa a, ⟨n5, n6, n7, rfl⟩⟩
   ·rintro ρ' w' hs q ⟨b3, ⟨w1, -⟩, n8⟩
    refine kM (kc (kA q 1 18) k0) fun a => ?_
    refine Qp (e := Qn) (l := s) (A := u) (c := a0) (T := 79) (E := 9) (x := (.tmp 18)) (ix := (.const (.int .i64 (0)))) (ki := .i64) (iz := 0) (d := (some 19)) (k := 2) K rfl K K K K (Vr (SP.get n8 (i := 2) rfl)) a3 a4 ?_
    intro n9 o0 o1 w2 hc640
    exact ⟨rfl, _, Qa a, ⟨n9, o0, o1, rfl⟩⟩
   ·rintro ρ' w' hs q ⟨c5, ⟨w3, -⟩, o2⟩
    refine kM (kc (kA q 1 18) k0) fun a => ?_
    refine Qp (e := Qn) (l := s) (A := u) (c := a0) (T := 79) (E := 9) (x := (.tmp 18)) (ix := (.const (.int .i64 (0)))) (ki := .i64) (iz := 0) (d := (some 19)) (k := 2) K rfl K K K K (Vr (SP.get o2 (i := 2) rfl)) a3 a4 ?_
    intro o3 o4 o5 w4 hc648
    exact ⟨rfl, _, Qa a, ⟨o3, o4, o5, rfl⟩⟩
   ·rintro ρ' w' hs q ⟨b4, b5, ⟨w5, w6, -⟩, o6⟩
    refine kM (kc (kA q 1 18) k0) fun a => ?_
    refine Qp (e := Qn) (l := s) (A := u) (c := a0) (T := 79) (E := 9) (x := (.tmp 18)) (ix := (.const (.int .i64 (0)))) (ki := .i64) (iz := 0) (d := (some 19)) (k := 2) K rfl K K K K (Vr (SP.get o6 (i := 2) rfl)) a3 a4 ?_
    intro o7 o8 o9 w7 hc657
    exact ⟨rfl, _, Qa a, ⟨o7, o8, o9, rfl⟩⟩
  ·refine Owe.light K [0, 1, 2, 3] K (Qb ?_ (Qb ?_ (Qb ?_ (Qb ?_ Qy))))
   ·rintro ρ' w' hs q ⟨w8, p0⟩
    obtain ⟨p1, p2, p3, a7⟩ := q 2 19 K
    refine kM (kc a7 k0) fun a => ?_
    refine sC 9 19 p1 (p2 + Int.toNat 0 * Qn.sz) (.string ⟨List.toArray p⟩) 20 (Qt (e := Qn) (Qo (Vr (SP.get p0 (i := 2) rfl)) p3 a3 a4) b6 (j := 0) rfl) ?_
    exact eK a
   ·rintro ρ' w' hs q ⟨b3, ⟨w9, -⟩, p4⟩
    obtain ⟨p5, p6, p7, a7⟩ := q 2 19 K
    refine kM (kc a7 k0) fun a => ?_
    refine sC 9 19 p5 (p6 + Int.toNat 0 * Qn.sz) (.string ⟨List.toArray p⟩) 20 (Qt (e := Qn) (Qo (Vr (SP.get p4 (i := 2) rfl)) p7 a3 a4) b6 (j := 0) rfl) ?_
    exact eK a
   ·rintro ρ' w' hs q ⟨c5, ⟨x0, -⟩, p8⟩
    obtain ⟨p9, q0, q1, a7⟩ := q 2 19 K
    refine kM (kc a7 k0) fun a => ?_
    refine sC 9 19 p9 (q0 + Int.toNat 0 * Qn.sz) (.string ⟨List.toArray p⟩) 20 (Qt (e := Qn) (Qo (Vr (SP.get p8 (i := 2) rfl)) q1 a3 a4) b6 (j := 0) rfl) ?_
    exact eK a
   ·rintro ρ' w' hs q ⟨b4, b5, ⟨x1, x2, -⟩, q6⟩
    obtain ⟨q7, q8, q9, a7⟩ := q 2 19 K
    refine kM (kc a7 k0) fun a => ?_
    refine sC 9 19 q7 (q8 + Int.toNat 0 * Qn.sz) (.string ⟨List.toArray p⟩) 20 (Qt (e := Qn) (Qo (Vr (SP.get q6 (i := 2) rfl)) q9 a3 a4) b6 (j := 0) rfl) ?_
    exact eK a
  ·refine Owe.light K [1, 3] K (Qb ?_ (Qb ?_ Qy))
   ·rintro ρ' w' hs q ⟨b3, ⟨r0, -⟩, r1⟩
    refine kN [(17, (.map (some b3))), (20, (.string ⟨List.toArray p⟩))] ⟨(Q9 (h := 0) K).symm.trans r0, q 3 20 K, trivial⟩ fun a => ?_
    refine Bv (T := 144) (kt := 9) (et := 142) (m := b3) (L := Fw) (k := (.string ⟨List.toArray p⟩)) (d := .string) (x := (.tmp 17)) (ix := (.tmp 20)) (dst := (some 21)) (o := 4) (v := (.agg #[(.int .i64 0), .nilFunc])) K rfl K K K K (fun _ => K) K (Fx b9) (SP.get r1 (i := 3) rfl) ?_
    exact eK a
   ·rintro ρ' w' hs q ⟨b4, b5, ⟨r2, x3, -⟩, r3⟩
    refine kN [(17, (.map (some b4))), (20, (.string ⟨List.toArray p⟩))] ⟨(Q9 (h := 0) K).symm.trans r2, q 3 20 K, trivial⟩ fun a => ?_
    refine Bv (T := 144) (kt := 9) (et := 142) (m := b4) (L := Fw) (k := (.string ⟨List.toArray p⟩)) (d := .string) (x := (.tmp 17)) (ix := (.tmp 20)) (dst := (some 21)) (o := 4) (v := (.agg #[(.int .i64 0), .nilFunc])) K rfl K K K K (fun _ => K) K (Fx b9) (SP.get r3 (i := 3) rfl) ?_
    exact eK a
  ·exact oV (hC (hA 4 21) (h0)) (.tuple #[(.agg #[(.int .i64 0), .nilFunc]), (.bool false)])
  ·exact oV (hC (hA 5 16) (h0)) (.agg #[(.int .i64 0), .nilFunc])
  ·exact oV (hC (hA 5 16) (h0)) (.bool false)
  ·refine Owe.heavy K [(0, 2), (1, 3)] K (Qb ⟨K, K, ?_⟩ (Qb ⟨K, K, ?_⟩ Qy))
   ·rintro ρ' w' hs q ⟨x4, r4⟩
    refine kN [] trivial fun a => ?_
    refine Qm.alloc (t := 142) (z := (.agg #[(.int .i64 0), .nilFunc])) (d := (some 7)) (k := 8) K rfl K r4 ?_
    intro r5 x5 r6
    refine ⟨_, Qa a, trivial, ?_⟩
    exact (Exists.intro r5 (And.intro (And.intro rfl (trivial)) r6))
   ·rintro ρ' w' hs q ⟨b3, ⟨r7, -⟩, r8⟩
    refine kN [] trivial fun a => ?_
    refine Qm.alloc (t := 142) (z := (.agg #[(.int .i64 0), .nilFunc])) (d := (some 7)) (k := 8) K rfl K r8 ?_
    intro r9 x6 s0
    refine ⟨_, Qa a, trivial, ?_⟩
    exact (Exists.intro b3 (Exists.intro r9 (And.intro (And.intro r7 (And.intro rfl (trivial))) s0)))
  ·refine oH 3 4 ?_
   ·rintro ρ' w' hs q ⟨b4, b5, ⟨s1, f4, -⟩, s2⟩
    refine kN [(7, (pt b5 0)), (22, (.agg #[(.int .i64 0), .nilFunc]))] ⟨(Q9 (h := 8) K).symm.trans f4, q 6 22 K, trivial⟩ fun a => ?_
    refine Qm.store (t := 142) (x := (.tmp 7)) (y := (.tmp 22)) (g := b5) (off := 0) (i := 4) (v := (.agg #[(.int .i64 0), .nilFunc])) (cs' := #[(.int .i64 0), .nilFunc]) (d := none) (k := 9) K rfl K K s2 rfl K ?_
    intro x7 s3
    refine ⟨_, Qa a, trivial, ?_⟩
    exact (Exists.intro b4 (Exists.intro b5 (And.intro (And.intro s1 (And.intro f4 (And.intro rfl (trivial)))) s3)))
  ·exact oV (hC (hA 7 23) (h0)) (.bool false)
  ·rintro ρ' w' hs hf ⟨d8, d2, ⟨x8, s4, x9, -⟩, f5⟩
   refine Vv [(0, (pt g1 0)), (5, (.bool a2.2)), (6, (.slice u (List.length s) a0)), (7, (pt d2 0)), (8, (.bool false))] ⟨(hs 0 K).trans K, (hs 5 K).trans K, (hs 6 K).trans K, (Q9 (h := 8) K).symm.trans s4, hf 10 8 K, trivial⟩ ?_
   obtain ⟨y0, s5⟩ : ∃ x, w' = x := ⟨_, rfl⟩
   rw [s5] at f5 ⊢
   refine aQ ?_
   refine aQ ?_
   refine aR ?_
   refine iR 13 13 [(24, (.bool false)), (25, (.bool true)), (26, (.bool true)), (27, undef), (28, undef), (29, (.bool true)), (30, (.bool true)), (31, undef), (32, undef), (33, undef), (34, undef), (35, undef), (36, (.bool true))] ?_
   refine iF ?_
   refine Zv K (o := (.tmp 36)) K (b := true) K (fun f6 => ?_) (fun f6 => ?_)
   rotate_left
   ·cases f6
   refine aQ ?_
   refine aR ?_
   refine iR 1 1 [(4, (.bool false))] ?_
   refine iF ?_
   refine At.ret K ?_
   refine ⟨(.bool false), K, ?_⟩
   obtain rfl := Qg H
   exact ⟨A7, c8, d9, rfl, rfl, SP.sel f5 [0,1] rfl rfl⟩
end Go.Proofs.YtoflbpmbkmephaaGreatDoor
namespace Go.Proofs.YtoflbpmbkmephaaGreatDoor
open Go.RowKit
def DeepR (Q : World → Prop) (E : Ent) (A : Option Addr) (c : Nat) (l : List Qf) : Prop := ∃ d : List Qw, l = List.map stT d ∧ ∀ w, Q w → E.ok w → (dDS V9 Eu).ok w (A, c, d)
section
variable {S : List Nat} {w w' w0 : World} {es : List Ent} {Q Q' : World → Prop} {E E' e1 e2 : Ent} {A : Option Addr} {c : Nat} {l : List Qf} {d : List Qw} {i j : Nat} {T : TypeId}
theorem DeepR.nil (Q : World → Prop) (E : Ent) : DeepR Q E none 0 [] := ⟨[], rfl, fun w _ _ => ds_nil V9 Eu w⟩
end
section
variable {α : Type} {e : Enc α} {p : Dp α} {w w0 : World} {Q : World → Prop} {A : Option Addr} {c : Nat} {l m : List α}
end
section
variable {α γ : Type} {P : Program} {n : Nat} {ρ : Fr} {w w0 : World} {B : Code} {p : List Bool} {k : Nat} {K : Fr → World → Prop} {S : List Nat} {es : List Ent} {d : Option Nat} {e : Enc α} {A A2 : Option Addr} {c c2 i b : Nat} {l m : List α}
end
end Go.Proofs.YtoflbpmbkmephaaGreatDoor
namespace Go.Proofs.YtoflbpmbkmephaaGreatDoor
open Go.RowKit
abbrev CfgL := Int × Int × Int × Int × List Qf
def okC (c : CfgL) : Bool := cfgOk c.1 c.2.1 c.2.2.1 c.2.2.2.1 c.2.2.2.2
end Go.Proofs.YtoflbpmbkmephaaGreatDoor
namespace Go.Proofs.YtoflbpmbkmephaaGreatDoor
open Go.RowKit Go.Shelf
attribute [local go_sem] Oper.semAt_some
def bodyKeep {α : Type} (K : List Nat) (I : List α → World → Prop) (Ix : Code → List α → World → Prop) (xs : List α) (W : World) : Exit → Act → World → Prop
  | .normal, _, W' => (∀ k ∈ K, W'.heap[k]? = W.heap[k]?) ∧ I xs W'
  | .ret, _, W' => (∀ k ∈ K, W'.heap[k]? = W.heap[k]?) ∧ Ix .ret xs W'
  | .exit id, _, W' => (∀ k ∈ K, W'.heap[k]? = W.heap[k]?) ∧ Ix (.exit id) xs W'
  | .goto t, _, W' => (∀ k ∈ K, W'.heap[k]? = W.heap[k]?) ∧ Ix (.goto t) xs W'
  | _, _, _ => False
def SeqKeep {α : Type} (P : Program) (m gf : Nat) (lb : Array Value) (encs : α → Array Value) (T : List Nat) (S : List α) (w : World) : Prop :=
  ∀ (l : Nat) (J Jx : List α → World → Prop) (W : World),
    (∀ pre W1 k (v : Value), k ∈ T → J pre W1 → J pre (W1.setCell ⟨k, 0, none⟩ v)) → (∀ pre W1, J pre W1 → J pre W1.drew) →
    (∀ pre x W1, J pre W1 → (∃ q, pre ++ x :: q = S) → YieldAt Fence.wide (m - 1) P l (encs x) W1 fun e W' =>
      (e = .returned (.bool true) ∧ J (pre ++ [x]) W' ∧ ∀ k ∈ T, W'.heap[k]? = W1.heap[k]?) ∨ (e = .returned (.bool false) ∧ Jx (pre ++ [x]) W')) →
    (∀ k ∈ T, W.heap[k]? = w.heap[k]?) → J [] W →
    CallsIn Fence.wide m P gf (#[.func (.yield l) #[] #[]] ++ lb) W fun e W' => (∃ v, e = .returned v) ∧ (J S W' ∨ ∃ pre, pre <+: S ∧ Jx pre W')
theorem Hj {α : Type} {P : Program} {g : Operand} {ps : Array Tmp} {assign body : Code} {Q : Exit → Act → World → Prop} {a : Act} {w : World} {m gf : Nat} {lb : Array Value}
    (hg : a.eval g = .func (.func gf) #[] lb) (eg : ∀ args w, (callFunc gf args).run P w = .ok (.enter gf args) w) {encs : α → Array Value} (hps : ∀ x, (encs x).size = ps.size)
    (T : List Nat) (hT : ∀ k ∈ T, k < w.heap.size) {S : List α} (iter : SeqKeep P (m - 1) gf lb encs T S w)
    (I : List α → World → Prop) (Ix : Code → List α → World → Prop) (hI : ∀ xs W W', I xs W → Mod (T ++ [w.heap.size, w.heap.size + 1]) W W' → I xs W') (hIx : ∀ c xs W W', Ix c xs W → Mod (T ++ [w.heap.size, w.heap.size + 1]) W W' → Ix c xs W')
    (h0 : I [] w) (a₁ : α → Act)
    (hassign : ∀ (l : Nat) (x : α) (W : World) (K : Act → World → Prop), K (a₁ x) W →
      assign.wpIn (Fence.wide.inRound l) (m - 1 - 1) P (Exit.then K (fun _ _ _ => False)) { tmps := (ps.zip (encs x)).foldl (fun t (p, v) => t.setIfInBounds p v) a.tmps, defers := [] } W)
    (hbody : ∀ (l : Nat) (pre : List α) (x : α) (W : World), I pre W → w.heap.size + 2 ≤ W.heap.size → (∃ q, pre ++ x :: q = S) → body.wpIn (Fence.wide.inRound l) (m - 1 - 1) P (bodyKeep (T ++ [w.heap.size, w.heap.size + 1]) I Ix (pre ++ [x]) W) (a₁ x) W)
    (hdone : ∀ (W : World), I S W → W.heap[w.heap.size]? = some (.deferred (some [])) → Q .normal { a with defers := { target := .collected w.heap.size, args := #[] } :: a.defers } W)
    (hstop : ∀ (c : Code) (pre : List α) (W : World), pre <+: S → Ix c pre W → W.heap[w.heap.size]? = some (.deferred (some [])) → c.wpIn Fence.wide m P Q { a with defers := { target := .collected w.heap.size, args := #[] } :: a.defers } W) :
    (Code.rangeFunc g ps assign body).wpIn Fence.wide m P Q a w := by
  refine wpIn_rangeFunc fun fn _ => ?_
  have hnT : ∀ j, w.heap.size ≤ j → j ∉ T := fun j hj hm => by have := hT j hm; omega
  generalize hrec : (fun st pe => ({ state := st, pending := pe, fn, tmps := a.tmps, params := ps, assign, body, defers := w.heap.size } : Loop)) = rec
  have hr1 : ∀ st pe, (rec st pe).state = st := fun st pe => by rw [← hrec]
  generalize hW1 : (w.alloc (.deferred (some []))).alloc (.loop (rec .ready none)) = W1
  have hmod1 : Mod (T ++ [w.heap.size, w.heap.size + 1]) w W1 := by rw [← hW1]; exact ((Mod.refl _ w).alloc _).alloc _
  have hL1 : W1.heap[w.heap.size + 1]? = some (.loop (rec .ready none)) := by
    rw [← hW1]
    have := World.alloc_heap_new (w.alloc (.deferred (some []))) (.loop (rec .ready none))
    rwa [World.size_alloc] at this
  have hK1 : W1.heap[w.heap.size]? = some (.deferred (some [])) := by
    rw [← hW1]
    exact (Below.heap_alloc _ _ _ (by simp)).trans (World.alloc_heap_new w _)
  have pb : ∀ (W : World) (o : Obj), Mod (T ++ [w.heap.size, w.heap.size + 1]) W (W.putObj (w.heap.size + 1) o) := fun W o => (Jz W _ o).more (by simp)
  refine ⟨w.heap.size + 1, [{ target := .collected w.heap.size, args := #[] }], W1, { target := .fn (.func gf) lb, args := #[.func (.yield (w.heap.size + 1)) #[] #[]] }, W1, gf, #[.func (.yield (w.heap.size + 1)) #[] #[]] ++ lb, W1, ?_, ?_, fun _ _ => trivial, ?_, fun h => (by cases h), ?_⟩
  · rw [← hW1, ← hrec]
    exact run_enterLoop_outer _ _ _ _ _
  · simp only [resolve, hg]
    simp [go_sem]
  · simp [invoke, go_sem, eg]
  · refine (iter (w.heap.size + 1) (fun pre W => I pre W ∧ W.heap[w.heap.size + 1]? = some (.loop (rec .ready none)) ∧ W.heap[w.heap.size]? = some (.deferred (some [])))
      (fun pre W => ∃ c, Ix c pre W ∧ W.heap[w.heap.size + 1]? = some (.loop (rec .done (some c))) ∧ W.heap[w.heap.size]? = some (.deferred (some []))) W1 ?_ ?_ ?_ ?_ ⟨hI _ _ _ h0 hmod1, hL1, hK1⟩).mono ?_
    · rintro pre W k v hk ⟨h1, h2, h3⟩
      have hlt := hT k hk
      exact ⟨hI _ _ _ h1 ((Br W k v).more fun j hj => by
        have : j = k := by simpa using hj
        subst this
        simp [hk]), (Xa (by omega)).trans h2, (Xa (by omega)).trans h3⟩
    · rintro pre W ⟨h1, h2, h3⟩
      exact ⟨hI _ _ _ h1 (Zp ((Below.refl _ W).drew) _), h2, h3⟩
    · rintro pre x W ⟨hi, hl, hk⟩ hq
      have hlt : w.heap.size + 1 < W.heap.size := (Array.getElem?_eq_some_iff.1 hl).1
      have hy := run_yield (P := P) (args := encs x) hl (by rw [← hrec]; exact hps x)
      rw [← hrec] at hy
      dsimp only at hy
      refine ⟨fn, _, assign, body, hy, ?_⟩
      refine roundIn_of_wpIn trivial ?_
      refine hassign _ x W _ ?_
      refine ⟨_, run_beginRound hl (hr1 _ _), ?_⟩
      generalize hW2 : W.putObj (w.heap.size + 1) (.loop { rec .ready none with state := .busy }) = W2
      have hm2 : Mod (T ++ [w.heap.size, w.heap.size + 1]) W W2 := by rw [← hW2]; exact pb W _
      have hs2 : W2.heap.size = W.heap.size := by rw [← hW2]; simp
      have hl2 : W2.heap[w.heap.size + 1]? = some (.loop { rec .ready none with state := .busy }) := by rw [← hW2]; exact World.putObj_heap_same hlt
      have hk2 : W2.heap[w.heap.size]? = some (.deferred (some [])) := by rw [← hW2]; exact (World.putObj_heap_other (by omega)).trans hk
      have hT2 : ∀ k ∈ T, W2.heap[k]? = W.heap[k]? := fun k hkT => by rw [← hW2]; exact World.putObj_heap_other (by have := hT k hkT; omega)
      refine wpIn_mono (hbody _ pre x W2 (hI _ _ _ hi hm2) (by omega) hq) ?_
      have fin : ∀ (jump : Option Code) (W3 : World), (∀ k ∈ T ++ [w.heap.size, w.heap.size + 1], W3.heap[k]? = W2.heap[k]?) → ∃ W4, (Instr.endRound (w.heap.size + 1) jump).run P W3 = .ok (.bool jump.isNone) W4 ∧ Mod (T ++ [w.heap.size, w.heap.size + 1]) W3 W4 ∧
          W4.heap[w.heap.size + 1]? = some (.loop (rec (if jump.isNone then .ready else .done) jump)) ∧ W4.heap[w.heap.size]? = some (.deferred (some [])) ∧ ∀ k ∈ T, W4.heap[k]? = W.heap[k]? := fun jump W3 hk3 => by
        have hl3 : W3.heap[w.heap.size + 1]? = some (.loop { rec .ready none with state := .busy }) := (hk3 _ (by simp)).trans hl2
        have hd3 : W3.heap[w.heap.size]? = some (.deferred (some [])) := (hk3 _ (by simp)).trans hk2
        have hrun := run_endRound (P := P) jump hl3
        refine ⟨_, hrun, pb W3 _, ?_, (World.putObj_heap_other (by omega)).trans hd3, fun k hkT => ?_⟩
        · rw [World.putObj_heap_same (Array.getElem?_eq_some_iff.1 hl3).1, ← hrec]
        · have := hT k hkT
          exact (World.putObj_heap_other (by omega)).trans ((hk3 _ (by simp [hkT])).trans (hT2 k hkT))
      rintro e a3 W3 hp
      cases e with
      | normal =>
        obtain ⟨W4, h1, h2, h3, h4, h5⟩ := fin none W3 hp.1
        exact ⟨_, _, h1, .inl ⟨rfl, ⟨hI _ _ _ hp.2 h2, h3, h4⟩, h5⟩⟩
      | ret =>
        obtain ⟨W4, h1, h2, h3, h4, h5⟩ := fin (some .ret) W3 hp.1
        exact ⟨_, _, h1, .inr ⟨rfl, .ret, hIx _ _ _ _ hp.2 h2, h3, h4⟩⟩
      | exit id =>
        obtain ⟨W4, h1, h2, h3, h4, h5⟩ := fin (some (.exit id)) W3 hp.1
        exact ⟨_, _, h1, .inr ⟨rfl, .exit id, hIx _ _ _ _ hp.2 h2, h3, h4⟩⟩
      | goto t =>
        obtain ⟨W4, h1, h2, h3, h4, h5⟩ := fin (some (.goto t)) W3 hp.1
        exact ⟨_, _, h1, .inr ⟨rfl, .goto t, hIx _ _ _ _ hp.2 h2, h3, h4⟩⟩
      | panic ch => exact hp.elim
      | outgrown => exact hp.elim
    · intro k hk
      have := hT k hk
      rw [← hW1]
      exact (Below.heap_alloc _ _ _ (by simp; omega)).trans (Below.heap_alloc _ _ _ this)
    · rintro e W2 ⟨⟨v, rfl⟩, (⟨hi, hl, hk⟩ | ⟨pre, hpre, c, hi, hl, hk⟩)⟩
      · have hend := run_endLoop (P := P) hl (by rw [hr1]; simp)
        rw [show (rec .ready none).pending = none by rw [← hrec]] at hend
        exact ⟨none, _, hend, hdone _ (hI _ _ _ hi (pb W2 _)) ((World.putObj_heap_other (by omega)).trans hk)⟩
      · have hend := run_endLoop (P := P) hl (by rw [hr1]; simp)
        rw [show (rec .done (some c)).pending = some c by rw [← hrec]] at hend
        exact ⟨some c, _, hend, hstop c pre _ hpre (hIx _ _ _ _ hi (pb W2 _)) ((World.putObj_heap_other (by omega)).trans hk)⟩
end Go.Proofs.YtoflbpmbkmephaaGreatDoor
namespace Go.Proofs.YtoflbpmbkmephaaGreatDoor
open Go.RowKit Go.Shelf
attribute [local go_sem] Oper.semAt_some
def Ye : List UInt8 → List (List UInt8)
  | [] => []
  | x :: r => if x = 10 then [x] :: Ye r else match Ye r with | [] => [[x]] | p :: ps => (x :: p) :: ps
theorem Fn {s : List UInt8} (hs : s ≠ []) : (Lib.indexByte s 10 = -1 ∧ Ye s = [s] ∧ (10 : UInt8) ∉ s) ∨ ∃ i : Nat, Lib.indexByte s 10 = (i : Int) ∧ i < s.length ∧ s[i]? = some 10 ∧ (10 : UInt8) ∉ s.take i ∧ Ye s = s.take (i + 1) :: Ye (s.drop (i + 1)) := by
  induction s with
  | nil => exact absurd rfl hs
  | cons x r ih =>
    by_cases h : x = 10
    · subst h
      refine .inr ⟨0, ?_, by simp, rfl, by simp, ?_⟩
      · simp [Lib.indexByte]
      · simp [Ye]
    · have hb : (x == 10) = false := by simpa using h
      by_cases hr : r = []
      · subst hr
        refine .inl ⟨?_, ?_, ?_⟩
        · simp [Lib.indexByte, hb]
        · unfold Ye; rw [if_neg h]; rfl
        · simp; exact fun e => h e.symm
      · rcases ih hr with ⟨h1, h2, h3⟩ | ⟨i, h1, h2, h3, h4, h5⟩
        · refine .inl ⟨?_, ?_, ?_⟩
          · simp [Lib.indexByte, hb, h1]
          · unfold Ye; rw [if_neg h, h2]
          · simp [h3]; exact fun e => h e.symm
        · refine .inr ⟨i + 1, ?_, by simpa using h2, by simpa using h3, ?_, ?_⟩
          · have h0 : (Lib.indexByte r 10 == -1) = false := by rw [h1, beq_eq_false_iff_ne]; omega
            simp only [Lib.indexByte, hb, h0, h1]
            simp
          · simp [h4]; exact fun e => h e.symm
          · rw [List.take_succ_cons, List.drop_succ_cons]
            conv => lhs; unfold Ye
            rw [if_neg h, h5]
def LBox (W : World) (b : Nat) (r : List UInt8) : Prop := W.heap[b]? = some (.cells #[.string ⟨r.toArray⟩] 9 (0, 0))
theorem Gi {W : World} {b : Nat} {r : List UInt8} (h : LBox W b r) : Dr W b = r.length := by
  unfold Dr
  rw [U6 h]
  exact Yx r
theorem Hk (m : Nat) (l b : Nat) (s : List UInt8) (hs : s.length ≤ maxLen) (J Jx : List (List UInt8) → World → Prop)
    (hJ : ∀ pre W1 (v : Value), J pre W1 → J pre (W1.setCell ⟨b, 0, none⟩ v)) (hJd : ∀ pre W1, J pre W1 → J pre W1.drew)
    (hY : ∀ pre x r W1, J pre W1 → LBox W1 b r → (∃ q, pre ++ x :: q = Ye s) → YieldAt Fence.wide (m - 1) Tryz.prog l #[.string ⟨x.toArray⟩] W1 fun e W' =>
      (e = .returned (.bool true) ∧ J (pre ++ [x]) W' ∧ W'.heap[b]? = W1.heap[b]?) ∨ (e = .returned (.bool false) ∧ Jx (pre ++ [x]) W'))
    (W : World) (hB : LBox W b s) (h0 : J [] W) :
    CallsIn Fence.wide m Tryz.prog 88 #[.func (.yield l) #[] #[], .pointer (some ⟨b, 0, none⟩)] W fun e W' => (∃ v, e = .returned v) ∧
      (J (Ye s) W' ∨ (∃ pre, pre <+: Ye s ∧ Jx pre W')) := by
  have c1 := U6 hB
  refine callsIn_of_wp Tryz.func88 rfl trivial ?_ rfl
  simp only [Tryz.ntmps88, List.size_toArray, List.length_cons, List.length_nil, Nat.reduceAdd, Nat.reduceSub, Array.replicate_succ, Array.replicate_zero, List.push_toArray, List.append_toArray, List.nil_append, List.cons_append]
  gi_wp2
  gi_loopw [4] (fun p wr => ∃ (pre : List (List UInt8)) (r : List UInt8), LBox wr b r ∧ pre ++ Ye r = Ye s ∧ r.length ≤ maxLen ∧ J pre wr) (fun p wr => Dr wr b)
  case atStart => exact ⟨[], s, hB, rfl, hs, h0⟩
  case round =>
    obtain ⟨pre, r, hb, hp, hr, hj⟩ := hrel
    have c1 := U6 hb
    have f1 := Nm hb
    have hrs := Yx r
    unfold maxLen at hr
    by_cases d : r = []
    · subst d
      gi_wp2
      go_end0
      exact ⟨⟨_, rfl⟩, .inl (by rw [← hp]; simpa [Ye] using hj)⟩
    · have hpos : 0 < r.length := List.length_pos_iff.2 d
      rcases Fn d with ⟨h1, h2, h3⟩ | ⟨i, h1, h2, h3, h4, h5⟩
      · have h1' : Lib.indexByte (⟨r.toArray⟩ : ByteArray).data.toList (10 : Int).toNat.toUInt8 = -1 := h1
        have a : LBox (wr.setCell ⟨b, 0, none⟩ (.string ⟨#[]⟩)) b [] := Yd hb
        obtain ⟨fn, tmps, assign, body, hy, hR⟩ := hY pre r [] (wr.setCell ⟨b, 0, none⟩ (.string ⟨#[]⟩)) (hJ _ _ _ hj) a ⟨[], by rw [← hp, h2]⟩
        gi_wp2_with (refine ⟨trivial, fun hh => (by cases hh), ?_⟩; gi_at_call 89; refine (callsIn_wide.2 (Tryz.strings_IndexByte (⟨r.toArray⟩ : ByteArray) 10 wr)).mono ?_; rintro e W3 ⟨rfl, rfl⟩; rw [h1'])
        refine ⟨fun hh => (by cases hh), ?_⟩
        refine hR.mono ?_
        rintro e W3 (⟨rfl, hJ3, hk⟩ | ⟨rfl, hJx3⟩)
        · have c : LBox W3 b [] := hk.trans a
          gi_wp2
          refine ⟨⟨pre ++ [r], [], c, by rw [← hp, h2]; simp [Ye], by simp, hJ3⟩, ?_⟩
          rw [Gi c, Gi hb]
          exact hpos
        · gi_wp2
          refine bodyPost_ret (results_none rfl _ _ _) rfl ?_
          exact ⟨⟨_, rfl⟩, .inr ⟨pre ++ [r], by rw [← hp, h2]; exact List.prefix_refl _, hJx3⟩⟩
      · have h1' : Lib.indexByte (⟨r.toArray⟩ : ByteArray).data.toList (10 : Int).toNat.toUInt8 = (i : Int) := h1
        gi_wp2_with (refine ⟨trivial, fun hh => (by cases hh), ?_⟩; gi_at_call 89; refine (callsIn_wide.2 (Tryz.strings_IndexByte (⟨r.toArray⟩ : ByteArray) 10 wr)).mono ?_; rintro e W3 ⟨rfl, rfl⟩; rw [h1'])
        gi_region
        have hex := U0 r 0 (i + 1) (by omega)
        rw [List.drop_zero] at hex
        have hex2 := U0 r (i + 1) r.length (Nat.le_refl _)
        rw [List.take_length] at hex2
        rw [hex, hex2]
        have a : LBox ((W3.setCell ⟨b, 0, none⟩ (.string ⟨(r.drop (i + 1)).toArray⟩)).drew) b (r.drop (i + 1)) := Yd hb
        obtain ⟨fn, tmps, assign, body, hy, hR⟩ := hY pre (r.take (i + 1)) (r.drop (i + 1)) _ (hJd _ _ (hJ _ _ _ hj)) a ⟨Ye (r.drop (i + 1)), by rw [← hp, h5]⟩
        gi_wp2
        refine ⟨fun hh => (by cases hh), ?_⟩
        refine hR.mono ?_
        rintro e W4 (⟨rfl, hJ3, hk⟩ | ⟨rfl, hJx3⟩)
        · have c : LBox W4 b (r.drop (i + 1)) := hk.trans a
          gi_wp2
          refine ⟨⟨pre ++ [r.take (i + 1)], r.drop (i + 1), c, by rw [← hp, h5]; simp, by unfold maxLen; rw [List.length_drop]; omega, hJ3⟩, ?_⟩
          rw [Gi c, Gi hb, List.length_drop]
          omega
        · gi_wp2
          refine bodyPost_ret (results_none rfl _ _ _) rfl ?_
          exact ⟨⟨_, rfl⟩, .inr ⟨pre ++ [r.take (i + 1)], ⟨Ye (r.drop (i + 1)), by rw [← hp, h5]; simp⟩, hJx3⟩⟩
end Go.Proofs.YtoflbpmbkmephaaGreatDoor
namespace Go.Proofs.YtoflbpmbkmephaaGreatDoor
open Go.RowKit Go.Shelf
attribute [local go_sem] Oper.semAt_some
abbrev StP := Int × Int × Int × Int × List Qf × Int × Bool
def lineP (st : StP) (x : List UInt8) : Option (Bool × StP) := Jj st.1 st.2.1 st.2.2.1 st.2.2.2.1 st.2.2.2.2.1 st.2.2.2.2.2.1 st.2.2.2.2.2.2 x
def J8 : List (List UInt8) → StP → Option (Sum Int StP)
  | [], st => some (.inr st)
  | x :: xs, st => (lineP st x).bind fun r => cond r.1 (J8 xs r.2) (some (.inl st.2.2.2.2.2.1))
theorem Rc : ∀ (pre ys : List (List UInt8)) (st : StP), J8 (pre ++ ys) st = (J8 pre st).bind fun z => match z with | .inl a => some (.inl a) | .inr st => J8 ys st
  | [], ys, st => rfl
  | x :: pre, ys, st => by
    rw [List.cons_append]
    cases h : lineP st x with
    | none => simp only [J8, h, Option.bind_none]
    | some r =>
      obtain ⟨b, r⟩ := r
      cases b
      · simp only [J8, h, Option.bind_some, cond_false]
      · simp only [J8, h, Option.bind_some, cond_true]
        exact Rc pre ys r
def st0P : StP := (0, 0, 0, 0, [], 0, false)
def Xe (s : List UInt8) : Option (Int × Int × Int × Int × List Qf × Int × Int) :=
  cond (decide (((List.length s : Nat) : Int) > 4096)) (some (0, 0, 0, 0, [], 2, 0))
    ((J8 (Ye s) st0P).bind fun z => match z with
      | .inl a => some (0, 0, 0, 0, [], 91, a)
      | .inr st => cond (st.2.2.2.2.2.1 == 0) (some (0, 0, 0, 0, [], 91, 0)) (some (st.1, st.2.1, st.2.2.1, st.2.2.2.1, st.2.2.2.2.1, 0, 0)))
theorem lines_any (s : ByteArray) (w : World) : Calls Tryz.prog 40 #[.string s] w fun e w' =>
    e = .returned (.func (.func 88) #[] #[.pointer (some ⟨w.heap.size, 0, none⟩)]) ∧ w' = w.alloc (.cells #[.string s] 9) := by
  go_enter Tryz.func40, Tryz.ntmps40
  go_wp2
  go_ret
  exact ⟨rfl, rfl⟩
theorem SP.other {w W W' : World} {es : List Ent} {K : List Nat} (h : SP [] w W es) (hm : Mod K W W') (h1 : ∀ k ∈ K, w.heap.size ≤ k) (h2 : ∀ e ∈ es, ∀ k ∈ e.fp, k ∉ K) : SP [] w W' es :=
  ⟨⟨hm.os.trans h.mod.os, hm.tape.trans h.mod.tape, hm.output.trans h.mod.output, Nat.le_trans h.mod.size hm.size, fun k hk hn => (hm.block k (Nat.lt_of_lt_of_le hk h.mod.size) fun hk' => by have := h1 k hk'; omega).trans (h.mod.block k hk hn)⟩,
    h.own.keep hm.size fun e he k hk => hm.block k (h.own.mem he |>.2 k hk).2 (h2 e he k hk)⟩
theorem SP.nilten {S : List Nat} {w W : World} {es : List Ent} (h : SP S w W es) : SP S w W (es ++ [Yv none 0 []]) :=
  h.push (Below.refl _ _) ⟨World.ownsRow_nil W 0 _ _, ⟨fun y hy => (by cases hy), List.nodup_nil⟩, List.nodup_nil⟩ (fun k hk => (by cases hk))
theorem Up {fn : Func} {P : Program} {w : World} {a b c : Tmp} {ta tb tc : TypeId} (h : fn.results = #[.cell a ta, .cell b tb, .cell c tc]) (tmps : Array Value) {g1 g2 g3 : Nat} {c1 c2 c3 : Array Value} {e1 e2 e3 : TypeId} {v1 v2 v3 : Value}
    (t1 : tmps.getD a undef = .pointer (some ⟨g1, 0, none⟩)) (t2 : tmps.getD b undef = .pointer (some ⟨g2, 0, none⟩)) (t3 : tmps.getD c undef = .pointer (some ⟨g3, 0, none⟩))
    (h1 : w.heap[g1]? = some (.cells c1 e1 (0, 0))) (h2 : w.heap[g2]? = some (.cells c2 e2 (0, 0))) (h3 : w.heap[g3]? = some (.cells c3 e3 (0, 0))) (l1 : Cp P ta 0 c1 = some v1) (l2 : Cp P tb 0 c2 = some v2) (l3 : Cp P tc 0 c3 = some v3) :
    (results fn tmps).run P w = .ok (.tuple #[v1, v2, v3]) w := by
  have k1 := Uw (w := w) l1 h1
  have k2 := Uw (w := w) l2 h2
  have k3 := Uw (w := w) l3 h3
  have t1' : tmps[a]?.getD undef = .pointer (some ⟨g1, 0, none⟩) := by simpa using t1
  have t2' : tmps[b]?.getD undef = .pointer (some ⟨g2, 0, none⟩) := by simpa using t2
  have t3' : tmps[c]?.getD undef = .pointer (some ⟨g3, 0, none⟩) := by simpa using t3
  simp [results, h, t1', t2', t3', asAddr, Sem.run_bind, Result.andThen, k1, k2, k3]
theorem SP.cell1 {S : List Nat} {w w0 : World} {es : List Ent} {i g off : Nat} {t : TypeId} {cs : Array Value} (v : Value) (hs : SP S w0 w es) (hi : es[i]? = some (Qr g t cs)) : SP S w0 (w.setCell ⟨g, off, none⟩ v) (es.set i (Qr g t (cs.setIfInBounds off v))) := by
  have hg : w.heap[g]? = some (.cells cs t (0, 0)) := hs.get hi
  have hlt : g < w.heap.size := (Array.getElem?_eq_some_iff.1 hg).1
  refine hs.set hi (T := [g]) ((Mod.refl [g] w).setCell (p := ⟨g, off, none⟩) (.inl (by simp)) _) (fun k hk => hk) ?_ fun k hk => ⟨.inl hk, ?_⟩
  · show (w.setCell ⟨g, off, none⟩ _).heap[g]? = _
    simp [World.setCell, hg, Array.getElem?_modify]
  · have : k = g := by simpa [Qr] using hk
    subst this
    simpa [World.setCell] using hlt
theorem Jr {W : World} {b off : Nat} {cs : Array Value} {v : Value} {t : TypeId} (h : W.heap[b]? = some (.cells cs t (0, 0))) (hv : cs[off]? = some v) : W.cell? ⟨b, off, none⟩ = some v := by rw [cell_of_row W b off _ t _ h]; exact hv
theorem Y1 {W : World} {b off : Nat} {cs : Array Value} {t : TypeId} (h : W.heap[b]? = some (.cells cs t (0, 0))) : W.frozen? ⟨b, off, none⟩ = false := by simp [World.frozen?, h]
theorem V6 {W : World} {b off k : Nat} {v : Value} (h : k ≠ b) : (W.setCell ⟨b, off, none⟩ v).heap[k]? = W.heap[k]? := by
  simp [World.setCell, Array.getElem?_modify, Ne.symm h]
theorem alloc_at' {w : World} {o : Obj} {k : Nat} (h : k = w.heap.size) : (w.alloc o).heap[k]? = some o := by subst h; exact World.alloc_heap_new w o
def cfg0 : Array Value := #[.int .i64 0, .int .i64 0, .int .i64 0, .int .i64 0, .slice none 0 0]
def Ey (g : Nat) (st : StP) (A : Option Addr) (c : Nat) (d : List Qw) : List Ent :=
  [Qr g 24 cfg0, Qr (g + 1) 27 #[.int .i64 0], Qr (g + 1 + 1) 3 #[.int .i64 0],
    Qr (g + 1 + 1 + 1) 72 #[.int .i64 st.1, .int .i64 st.2.1, .int .i64 st.2.2.1, .int .i64 st.2.2.2.1, .slice A (List.length (List.map stT d)) c, .int .i64 st.2.2.2.2.2.1, .bool st.2.2.2.2.2.2],
    Qr (g + 1 + 1 + 1 + 1) 70 #[.pointer (some ⟨g + 1 + 1 + 1, 0, none⟩)], Yv A c d]
theorem Jw (s : List UInt8) (w : World) (hL : Ur w) (r : Int × Int × Int × Int × List Qf × Int × Int) (H : Xe s = some r) :
    Calls Tryz.prog 16 #[.string ⟨List.toArray s⟩] w (fun e w' => ∃ (A : Option Addr) (c : Nat) (d : List Qw), e = .returned (.tuple #[(.agg #[(.int .i64 r.1), (.int .i64 r.2.1), (.int .i64 r.2.2.1), (.int .i64 r.2.2.2.1), (.slice A (List.length (List.map stT d)) c)]), (.int .i64 r.2.2.2.2.2.1), (.int .i64 r.2.2.2.2.2.2)]) ∧ r.2.2.2.2.1 = List.map stT d ∧ SP [] w w' [Yv A c d]) := by
  refine (callsIn_wide (n := 3)).1 ?_
  refine callsIn_of_wp_marks Tryz.func16 rfl trivial ?_ rfl
  simp only [Tryz.ntmps16, List.size_toArray, List.length_cons, List.length_nil, Nat.reduceAdd, Nat.reduceSub, Array.replicate_succ, Array.replicate_zero, List.push_toArray, List.append_toArray, List.nil_append, List.cons_append]
  by_cases hlen : (4096 : Int) < ((List.length s : Nat) : Int)
  · have hr : r = (0, 0, 0, 0, [], 2, 0) := by
      unfold Xe at H
      rw [show decide (((List.length s : Nat) : Int) > 4096) = true from decide_eq_true hlen] at H
      injection H with H
      exact H.symm
    subst hr
    have s3 := (((Q3 [] w).alloc (t := 24) (cs := #[.int .i64 0, .int .i64 0, .int .i64 0, .int .i64 0, .slice none 0 0])).alloc (t := 27) (cs := #[.int .i64 2])).alloc (t := 3) (cs := #[.int .i64 0])
    gi_wp2
    refine ⟨_, Up rfl _ rfl rfl rfl (s3.get (i := 0) rfl) (by have h := s3.get (i := 1) rfl; rw [World.size_alloc] at h; exact h) (by have h := s3.get (i := 2) rfl; rw [World.size_alloc, World.size_alloc] at h; exact h) (by kernel_rfl) (by kernel_rfl) (by kernel_rfl), none, 0, [], rfl, rfl, ?_⟩
    exact (s3.nilten).erase 0 rfl |>.erase 0 rfl |>.erase 0 rfl
  · gi_wp2_with (refine ⟨trivial, ?_⟩; gi_at_call 40; refine (callsIn_wide.2 (lines_any _ _)).mono ?_; rintro e w' ⟨rfl, rfl⟩)
    have hsl : s.length ≤ maxLen := by unfold maxLen; omega
    have hz : ∃ z, J8 (Ye s) st0P = some z := by
      unfold Xe at H
      rw [show decide (((List.length s : Nat) : Int) > 4096) = false from decide_eq_false (by omega)] at H
      obtain ⟨z, hz, _⟩ := Qc (show (J8 (Ye s) st0P).bind _ = some r from H)
      exact ⟨z, hz⟩
    obtain ⟨z, hz⟩ := hz
    have s5 := ((((((Q3 [] w).alloc (t := 24) (cs := #[.int .i64 0, .int .i64 0, .int .i64 0, .int .i64 0, .slice none 0 0])).alloc (t := 27) (cs := #[.int .i64 0])).alloc (t := 3) (cs := #[.int .i64 0])).alloc (t := 72) (cs := #[.int .i64 0, .int .i64 0, .int .i64 0, .int .i64 0, .slice none 0 0, .int .i64 0, .bool false])).alloc (t := 70) (cs := #[.pointer (some ⟨w.heap.size + 1 + 1 + 1, 0, none⟩)])).nilten
    simp only [World.size_alloc, List.nil_append, List.cons_append] at s5
    have s6 := s5.below ((Below.refl _ _).alloc (Nat.le_refl _) (.cells #[.string ⟨s.toArray⟩] 9))
    generalize hw6 : ((((((w.alloc (Obj.cells #[Value.int IntKind.i64 0, Value.int IntKind.i64 0, Value.int IntKind.i64 0, Value.int IntKind.i64 0, Value.slice none 0 0] 24)).alloc (Obj.cells #[Value.int IntKind.i64 0] 27)).alloc (Obj.cells #[Value.int IntKind.i64 0] 3)).alloc (Obj.cells #[Value.int IntKind.i64 0, Value.int IntKind.i64 0, Value.int IntKind.i64 0, Value.int IntKind.i64 0, Value.slice none 0 0, Value.int IntKind.i64 0, Value.bool false] 72)).alloc (Obj.cells #[Value.pointer (some { block := w.heap.size + 1 + 1 + 1, off := 0 })] 70)).alloc (Obj.cells #[Value.string { data := s.toArray }] 9)) = w6 at s6 ⊢
    have hsz6 : w6.heap.size = w.heap.size + 6 := by rw [← hw6]; simp
    have hbox : LBox w6 (w.heap.size + 1 + 1 + 1 + 1 + 1) s := by rw [← hw6]; exact alloc_at' (by simp)
    clear hw6
    refine Hj (gf := 88) (lb := #[.pointer (some ⟨w.heap.size + 1 + 1 + 1 + 1 + 1, 0, none⟩)]) rfl (enters_of Tryz.func88 (by kernel_rfl) rfl) (encs := fun x : List UInt8 => #[.string ⟨x.toArray⟩]) (fun _ => rfl) [w.heap.size + 1 + 1 + 1 + 1 + 1]
      (by intro k hk; simp at hk; omega) (S := Ye s) ?iter
      (fun pre W => ∃ (st : StP) (A : Option Addr) (c : Nat) (d : List Qw), J8 pre st0P = some (.inr st) ∧ st.2.2.2.2.1 = List.map stT d ∧ SP [] w W (Ey w.heap.size st A c d) ∧ (∀ k ∈ (Yv A c d).fp, k < w.heap.size + 5 ∨ w.heap.size + 8 ≤ k))
      (fun c pre W => c = .ret ∧ ∃ a, J8 (Ye s) st0P = some (.inl a) ∧ SP [] w W [Qr w.heap.size 24 cfg0, Qr (w.heap.size + 1) 27 #[.int .i64 91], Qr (w.heap.size + 1 + 1) 3 #[.int .i64 a]]) ?hI ?hIx
      ⟨st0P, none, 0, [], rfl, rfl, s6, fun k hk => by cases hk⟩
      (fun x => { tmps := #[.string ⟨s.toArray⟩, undef, .pointer (some ⟨w.heap.size, 0, none⟩), .pointer (some ⟨w.heap.size + 1, 0, none⟩), .pointer (some ⟨w.heap.size + 1 + 1, 0, none⟩), .pointer (some ⟨w.heap.size + 1 + 1 + 1 + 1, 0, none⟩), .string ⟨x.toArray⟩, undef, .string ⟨s.toArray⟩, .int .i64 ((List.length s : Nat) : Int), .bool false, undef,
        .agg #[.int .i64 0, .int .i64 0, .int .i64 0, .int .i64 0, .slice none 0 0, .int .i64 0, .bool false], .pointer (some ⟨w.heap.size + 1 + 1 + 1, 0, none⟩), .string ⟨s.toArray⟩, .func (.func 88) #[] #[.pointer (some ⟨w.heap.size + 1 + 1 + 1 + 1 + 1, 0, none⟩)], .string ⟨x.toArray⟩, undef, undef, undef, undef, undef, undef, undef, undef, undef, undef, undef, undef, undef, undef, undef, undef, undef, undef, undef, undef], defers := [] }) ?assign ?body ?done ?stop
    case iter =>
      intro l J Jx W hJ hJd hY hT hJ0
      refine Hk _ l (w.heap.size + 1 + 1 + 1 + 1 + 1) s hsl J Jx (fun pre W1 v hj => hJ pre W1 _ v (by simp) hj) hJd (fun pre x r W1 hj hb hq => ?_) W ((hT _ (by simp)).trans hbox) hJ0
      obtain ⟨fn, tmps, assign, body, hy, hR⟩ := hY pre x W1 hj hq
      refine ⟨fn, tmps, assign, body, hy, hR.mono ?_⟩
      rintro e W' (⟨h1, h2, h3⟩ | h)
      · exact .inl ⟨h1, h2, h3 _ (by simp)⟩
      · exact .inr h
    case hI =>
      rintro xs W W' ⟨st, A, c, d, h1, h2, h3, h4⟩ hm
      refine ⟨st, A, c, d, h1, h2, h3.other hm (by intro k hk; simp at hk; omega) (fun e he k hk hK => ?_), h4⟩
      simp only [List.cons_append, List.nil_append, List.mem_cons, List.not_mem_nil, or_false, hsz6] at hK
      simp only [Ey, List.mem_cons, List.not_mem_nil, or_false] at he
      rcases he with rfl | rfl | rfl | rfl | rfl | rfl
      · have hk' : k = w.heap.size := by simpa [Qr] using hk
        omega
      · have hk' : k = w.heap.size + 1 := by simpa [Qr] using hk
        omega
      · have hk' : k = w.heap.size + 1 + 1 := by simpa [Qr] using hk
        omega
      · have hk' : k = w.heap.size + 1 + 1 + 1 := by simpa [Qr] using hk
        omega
      · have hk' : k = w.heap.size + 1 + 1 + 1 + 1 := by simpa [Qr] using hk
        omega
      · have := h4 k hk
        omega
    case hIx =>
      rintro cc xs W W' ⟨h0, a, h1, h3⟩ hm
      refine ⟨h0, a, h1, h3.other hm (by intro k hk; simp at hk; omega) (fun e he k hk hK => ?_)⟩
      simp only [List.cons_append, List.nil_append, List.mem_cons, List.not_mem_nil, or_false, hsz6] at hK
      simp only [List.mem_cons, List.not_mem_nil, or_false] at he
      rcases he with rfl | rfl | rfl
      · have hk' : k = w.heap.size := by simpa [Qr] using hk
        omega
      · have hk' : k = w.heap.size + 1 := by simpa [Qr] using hk
        omega
      · have hk' : k = w.heap.size + 1 + 1 := by simpa [Qr] using hk
        omega
    case assign =>
      intro l x W K hK
      gi_wp2
      exact hK
    case body =>
      rintro l pre x W ⟨⟨wa, gr, id, le, tl, mn, bd⟩, A, c, d, h1, h2, h3, h4⟩ hsz ⟨q, hq⟩
      have h2 : tl = List.map stT d := h2
      subst h2
      rw [hsz6] at hsz
      have hz' := hz
      rw [← hq, Rc, h1] at hz'
      simp only [Option.bind_some, J8] at hz'
      obtain ⟨⟨b, rs⟩, hrr, hz'⟩ := Qc hz'
      have b4 : W.heap[w.heap.size + 1 + 1 + 1 + 1]? = some (.cells #[.pointer (some ⟨w.heap.size + 1 + 1 + 1, 0, none⟩)] 70 (0, 0)) := h3.get (i := 4) rfl
      have c4 := U6 b4
      have b3 := h3.get (i := 3) rfl
      have c35 : W.cell? ⟨w.heap.size + 1 + 1 + 1, 5, none⟩ = some (.int .i64 mn) := by rw [cell_of_row W _ 5 _ _ _ b3]; rfl
      have hw := Np (w.heap.size + 1 + 1 + 1) A c wa gr id le d mn bd x W (fun w' hm => Q5 hL (E9 h3 (l := [3, 5]) rfl hm)) (Je h3 [3, 5] rfl rfl) (b, rs) hrr
      have hfps : ∀ k, k ∈ (C7 (Ey w.heap.size (wa, gr, id, le, List.map stT d, mn, bd) A c d) [3, 5]).flatMap Ent.fp → k < w.heap.size + 5 ∨ w.heap.size + 8 ≤ k := by
        intro k hk
        obtain ⟨e, he, hke⟩ := List.mem_flatMap.1 hk
        obtain ⟨j, hj, hej⟩ := Nh he
        simp only [List.mem_cons, List.not_mem_nil, or_false] at hj
        rcases hj with rfl | rfl
        · injection hej with hej
          subst hej
          have hk' : k = w.heap.size + 1 + 1 + 1 := by simpa [Qr] using hke
          omega
        · injection hej with hej
          subst hej
          exact h4 k hke
      cases b with
      | true =>
        gi_wp2_with (refine ⟨trivial, ?_⟩; gi_at_call 41; refine (CallsIn.inRound l (callsIn_wide.2 hw)).mono ?_; rintro e W' ⟨A', c', d', rfl, hd', hs'⟩)
        have hl1 : J8 (pre ++ [x]) st0P = some (.inr rs) := by
          rw [Rc, h1]
          simp only [Option.bind_some, J8]
          rw [show lineP (wa, gr, id, le, List.map stT d, mn, bd) x = some (true, rs) from hrr]
          rfl
        have hsp : SP [] w W' (Ey w.heap.size rs A' c' d') := SP.sel (Zl h3 [3, 5] [0, 1, 2, 4] rfl rfl hs' rfl) [0, 1, 2, 4, 3, 5] rfl rfl
        have hfp : ∀ k ∈ (Yv A' c' d').fp, k < w.heap.size + 5 ∨ w.heap.size + 8 ≤ k := fun k hk => by
          rcases ((hs'.own.get (i := 1) rfl).2 k hk).1 with h | h
          · omega
          · exact hfps k h
        have hkeep : ∀ k ∈ [w.heap.size + 1 + 1 + 1 + 1 + 1] ++ [w6.heap.size, w6.heap.size + 1], W'.heap[k]? = W.heap[k]? := fun k hk => by
          simp only [List.cons_append, List.nil_append, List.mem_cons, List.not_mem_nil, or_false, hsz6] at hk
          refine hs'.mod.block k (by omega) fun hk' => ?_
          have := hfps k hk'
          omega
        gi_wp2
        exact ⟨hkeep, rs, A', c', d', hl1, hd', hsp, hfp⟩
      | false =>
        have hstop : J8 (Ye s) st0P = some (.inl mn) := by
          rw [← hq, Rc, h1]
          simp only [Option.bind_some, J8]
          rw [show lineP (wa, gr, id, le, List.map stT d, mn, bd) x = some (false, rs) from hrr]
          rfl
        gi_wp2_with (refine ⟨trivial, ?_⟩; gi_at_call 41; refine (CallsIn.inRound l (callsIn_wide.2 hw)).mono ?_; rintro e W' ⟨A', c', d', rfl, hd', hs'⟩; have hsp : SP [] w W' (Ey w.heap.size rs A' c' d') := SP.sel (Zl h3 [3, 5] [0, 1, 2, 4] rfl rfl hs' rfl) [0, 1, 2, 4, 3, 5] rfl rfl; have p0 := hsp.get (i := 0) rfl; have p1 := hsp.get (i := 1) rfl; have p2 := hsp.get (i := 2) rfl; have q0 := Jr (off := 0) p0 rfl; have q1 := Jr (off := 1) p0 rfl; have q2 := Jr (off := 2) p0 rfl; have q3 := Jr (off := 3) p0 rfl; have q4 := Jr (off := 4) p0 rfl; have q5 := Jr (off := 0) p1 rfl; have q6 := Jr (off := 0) p2 rfl; have f0 := Y1 (off := 0) p0; have f1 := Y1 (off := 1) p0; have f2 := Y1 (off := 2) p0; have f3 := Y1 (off := 3) p0; have f4 := Y1 (off := 4) p0; have f5 := Y1 (off := 0) p1; have f6 := Y1 (off := 0) p2)
        have e7 := ((((((hsp.cell1 (off := 0) (.int .i64 0) (i := 0) rfl).cell1 (off := 1) (.int .i64 0) (i := 0) rfl).cell1 (off := 2) (.int .i64 0) (i := 0) rfl).cell1 (off := 3) (.int .i64 0) (i := 0) rfl).cell1 (off := 4) (.slice none 0 0) (i := 0) rfl).cell1 (off := 0) (.int .i64 91) (i := 1) rfl).cell1 (off := 0) (.int .i64 mn) (i := 2) rfl
        have hkeep : ∀ k ∈ [w.heap.size + 1 + 1 + 1 + 1 + 1] ++ [w6.heap.size, w6.heap.size + 1], W'.heap[k]? = W.heap[k]? := fun k hk => by
          simp only [List.cons_append, List.nil_append, List.mem_cons, List.not_mem_nil, or_false, hsz6] at hk
          refine hs'.mod.block k (by omega) fun hk' => ?_
          have := hfps k hk'
          omega
        refine ⟨fun k hk => ?_, rfl, mn, hstop, SP.sel e7 [0, 1, 2] rfl rfl⟩
        have hk2 := hkeep k hk
        simp only [List.cons_append, List.nil_append, List.mem_cons, List.not_mem_nil, or_false, hsz6] at hk
        exact (V6 (by omega)).trans ((V6 (by omega)).trans ((V6 (by omega)).trans ((V6 (by omega)).trans ((V6 (by omega)).trans ((V6 (by omega)).trans ((V6 (by omega)).trans hk2))))))
    case done =>
      rintro W ⟨⟨wa, gr, id, le, tl, mn, bd⟩, A, c, d, h1, h2, h3, h4⟩ hK
      rw [hsz6] at hK
      have h2 : tl = List.map stT d := h2
      subst h2
      unfold Xe at H
      rw [show decide (((List.length s : Nat) : Int) > 4096) = false from decide_eq_false (by omega)] at H
      have H : (J8 (Ye s) st0P).bind _ = some r := H
      rw [h1] at H
      have H : cond (mn == 0) (some ((0 : Int), (0 : Int), (0 : Int), (0 : Int), ([] : List Qf), (91 : Int), (0 : Int))) (some (wa, gr, id, le, List.map stT d, 0, 0)) = some r := H
      have p0 := h3.get (i := 0) rfl
      have p1 := h3.get (i := 1) rfl
      have p2 := h3.get (i := 2) rfl
      have p3 := h3.get (i := 3) rfl
      have p4 := h3.get (i := 4) rfl
      have q0 := Jr (off := 0) p0 rfl
      have q1 := Jr (off := 1) p0 rfl
      have q2 := Jr (off := 2) p0 rfl
      have q3 := Jr (off := 3) p0 rfl
      have q4 := Jr (off := 4) p0 rfl
      have q5 := Jr (off := 0) p1 rfl
      have q6 := Jr (off := 0) p2 rfl
      have f0 := Y1 (off := 0) p0
      have f1 := Y1 (off := 1) p0
      have f2 := Y1 (off := 2) p0
      have f3 := Y1 (off := 3) p0
      have f4 := Y1 (off := 4) p0
      have f5 := Y1 (off := 0) p1
      have f6 := Y1 (off := 0) p2
      have r0 := Jr (off := 0) p3 rfl
      have r1 := Jr (off := 1) p3 rfl
      have r2 := Jr (off := 2) p3 rfl
      have r3 := Jr (off := 3) p3 rfl
      have r4 := Jr (off := 4) p3 rfl
      have r5 := Jr (off := 5) p3 rfl
      have u0 := Jr (off := 0) p4 rfl
      cases hm : (mn == 0) with
      | true =>
        rw [hm] at H
        injection H with H
        subst H
        gi_wp2
        have e7 := ((((((h3.cell1 (off := 0) (.int .i64 0) (i := 0) rfl).cell1 (off := 1) (.int .i64 0) (i := 0) rfl).cell1 (off := 2) (.int .i64 0) (i := 0) rfl).cell1 (off := 3) (.int .i64 0) (i := 0) rfl).cell1 (off := 4) (.slice none 0 0) (i := 0) rfl).cell1 (off := 0) (.int .i64 91) (i := 1) rfl).cell1 (off := 0) (.int .i64 0) (i := 2) rfl
        refine ⟨by simp, .inl ⟨_, _, rfl, run_takeDeferred ((V6 (by omega)).trans ((V6 (by omega)).trans ((V6 (by omega)).trans ((V6 (by omega)).trans ((V6 (by omega)).trans ((V6 (by omega)).trans ((V6 (by omega)).trans hK))))))), ?_⟩⟩
        have s2 := (SP.sel e7 [0, 1, 2, 5] rfl rfl : SP [] w _ [Qr w.heap.size 24 #[.int .i64 0, .int .i64 0, .int .i64 0, .int .i64 0, .slice none 0 0], Qr (w.heap.size + 1) 27 #[.int .i64 91], Qr (w.heap.size + 1 + 1) 3 #[.int .i64 0], Yv A c d]).other (Jz _ (w.heap.size + 6) (.deferred none)) (by intro k hk; simp at hk; omega) (fun e he k hk hK' => by
          simp only [List.mem_cons, List.not_mem_nil, or_false] at he hK'
          rcases he with rfl | rfl | rfl | rfl
          · have hk' : k = w.heap.size := by simpa [Qr] using hk
            omega
          · have hk' : k = w.heap.size + 1 := by simpa [Qr] using hk
            omega
          · have hk' : k = w.heap.size + 1 + 1 := by simpa [Qr] using hk
            omega
          · have := h4 k hk
            omega)
        exact ⟨_, Up rfl _ rfl rfl rfl (s2.get (i := 0) rfl) (s2.get (i := 1) rfl) (s2.get (i := 2) rfl) (v1 := .agg #[.int .i64 0, .int .i64 0, .int .i64 0, .int .i64 0, .slice none 0 0]) (v2 := .int .i64 91) (v3 := .int .i64 0) (by kernel_rfl) (by kernel_rfl) (by kernel_rfl), none, 0, [], rfl, rfl, ((SP.sel s2 [] rfl rfl : SP [] w _ []).nilten)⟩
      | false =>
        rw [hm] at H
        injection H with H
        subst H
        gi_wp2
        have e7 := ((((((h3.cell1 (off := 0) (.int .i64 wa) (i := 0) rfl).cell1 (off := 1) (.int .i64 gr) (i := 0) rfl).cell1 (off := 2) (.int .i64 id) (i := 0) rfl).cell1 (off := 3) (.int .i64 le) (i := 0) rfl).cell1 (off := 4) (.slice A d.length c) (i := 0) rfl).cell1 (off := 0) (.int .i64 0) (i := 1) rfl).cell1 (off := 0) (.int .i64 0) (i := 2) rfl
        refine ⟨by simp, .inl ⟨_, _, rfl, run_takeDeferred ((V6 (by omega)).trans ((V6 (by omega)).trans ((V6 (by omega)).trans ((V6 (by omega)).trans ((V6 (by omega)).trans ((V6 (by omega)).trans ((V6 (by omega)).trans hK))))))), ?_⟩⟩
        have s2 := (SP.sel e7 [0, 1, 2, 5] rfl rfl : SP [] w _ [Qr w.heap.size 24 #[.int .i64 wa, .int .i64 gr, .int .i64 id, .int .i64 le, .slice A d.length c], Qr (w.heap.size + 1) 27 #[.int .i64 0], Qr (w.heap.size + 1 + 1) 3 #[.int .i64 0], Yv A c d]).other (Jz _ (w.heap.size + 6) (.deferred none)) (by intro k hk; simp at hk; omega) (fun e he k hk hK' => by
          simp only [List.mem_cons, List.not_mem_nil, or_false] at he hK'
          rcases he with rfl | rfl | rfl | rfl
          · have hk' : k = w.heap.size := by simpa [Qr] using hk
            omega
          · have hk' : k = w.heap.size + 1 := by simpa [Qr] using hk
            omega
          · have hk' : k = w.heap.size + 1 + 1 := by simpa [Qr] using hk
            omega
          · have := h4 k hk
            omega)
        exact ⟨_, Up rfl _ rfl rfl rfl (s2.get (i := 0) rfl) (s2.get (i := 1) rfl) (s2.get (i := 2) rfl) (v1 := .agg #[.int .i64 wa, .int .i64 gr, .int .i64 id, .int .i64 le, .slice A d.length c]) (v2 := .int .i64 0) (v3 := .int .i64 0) (by kernel_rfl) (by kernel_rfl) (by kernel_rfl), A, c, d, rfl, rfl, SP.sel s2 [3] rfl rfl⟩
    case stop =>
      rintro cc pre W hpre ⟨rfl, a, ha, hsp⟩ hK
      rw [hsz6] at hK
      unfold Xe at H
      rw [show decide (((List.length s : Nat) : Int) > 4096) = false from decide_eq_false (by omega)] at H
      have H : (J8 (Ye s) st0P).bind _ = some r := H
      rw [ha] at H
      have H : some ((0 : Int), (0 : Int), (0 : Int), (0 : Int), ([] : List Qf), (91 : Int), a) = some r := H
      injection H with H
      subst H
      gi_wp2
      refine ⟨by simp, .inl ⟨_, _, rfl, run_takeDeferred hK, ?_⟩⟩
      have s2 := hsp.other (Jz W (w.heap.size + 6) (.deferred none)) (by intro k hk; simp at hk; omega) (fun e he k hk hK' => by
        simp only [List.mem_cons, List.not_mem_nil, or_false] at he hK'
        rcases he with rfl | rfl | rfl
        · have hk' : k = w.heap.size := by simpa [Qr] using hk
          omega
        · have hk' : k = w.heap.size + 1 := by simpa [Qr] using hk
          omega
        · have hk' : k = w.heap.size + 1 + 1 := by simpa [Qr] using hk
          omega)
      exact ⟨_, Up rfl _ rfl rfl rfl (s2.get (i := 0) rfl) (s2.get (i := 1) rfl) (s2.get (i := 2) rfl) (v1 := .agg #[.int .i64 0, .int .i64 0, .int .i64 0, .int .i64 0, .slice none 0 0]) (v2 := .int .i64 91) (v3 := .int .i64 a) (by kernel_rfl) (by kernel_rfl) (by kernel_rfl), none, 0, [], rfl, rfl, (s2.nilten).erase 0 rfl |>.erase 0 rfl |>.erase 0 rfl⟩
end Go.Proofs.YtoflbpmbkmephaaGreatDoor
namespace Go.Proofs.YtoflbpmbkmephaaGreatDoor
open Go.RowKit
def bl_ren : Go.Shelf.Ren := ⟨fun | 240 => 105 | 276 => 150 | n => n, fun | 70 => 91 | 72 => 93 | 164 => 175 | 20 => 20 | 9 => 9 | 4 => 4 | 37 => 48 | 5 => 5 | n => n, fun | n => n⟩
theorem bl_lays : Go.Proofs.Lays.n240 Tryz.prog bl_ren := {
  mixed := by kernel_rfl
  f240 := Tryz.func105.trans (congrArg some (by kernel_rfl))
  f276 := Tryz.func150.trans (congrArg some (by kernel_rfl))
  t0 := Tryz.underlying0
  a0 := Tryz.isAgg0
  z0 := Tryz.sizeOf0
  v0 := Tryz.zeroValue0
  t4 := Tryz.underlying4
  a4 := Tryz.isAgg4
  z4 := Tryz.sizeOf4
  v4 := Tryz.zeroValue4
  t9 := Tryz.underlying9
  a9 := Tryz.isAgg9
  z9 := Tryz.sizeOf9
  v9 := Tryz.zeroValue9
  t20 := Tryz.underlying20
  a20 := Tryz.isAgg20
  z20 := Tryz.sizeOf20
  v20 := Tryz.zeroValue20
  t70 := Tryz.underlying91
  a70 := Tryz.isAgg91
  z70 := Tryz.sizeOf91
  v70 := Tryz.zeroValue91
  t72 := Tryz.underlying93
  a72 := Tryz.isAgg93
  z72 := Tryz.sizeOf93
  v72 := Tryz.zeroValue93
  t164 := Tryz.underlying175
  a164 := Tryz.isAgg175
  z164 := Tryz.sizeOf175
  v164 := Tryz.zeroValue175 }
theorem bl_x : Builder.X72 Tryz.prog bl_ren := { sizeBuilder := by kernel_rfl, liesBuilder := by kernel_rfl }
def BP (g : Nat) (v : Value) : Prop := v = .pointer none ∨ v = .pointer (some ⟨g, 0, none⟩)
theorem B8 {S : List Nat} {g : Nat} {v x : Value} {w w0 : World} {es : List Ent} (hv : BP g v) (hs : SP S w0 w es) {i : Nat} (hi : es[i]? = some (Qr g 93 #[v, x])) :
    Calls Tryz.prog 105 #[.pointer (some ⟨g, 0, none⟩)] w (fun e w' => e = .returned (.tuple #[]) ∧ SP S w0 w' (es.set i (Qr g 93 #[.pointer (some ⟨g, 0, none⟩), x]))) := by
  have hg : w.heap[g]? = some (.cells #[v, x] 93 (0, 0)) := hs.get hi
  rcases hv with rfl | rfl
  · refine (Any.Builder_copyCheck_fresh bl_lays bl_x g w (by rw [cell_of_row w g 0 _ _ _ hg]; rfl) (by simp [World.shape?, hg]; rfl) (by simp [World.frozen?, hg])).mono ?_
    rintro e w' ⟨rfl, rfl⟩
    refine ⟨rfl, ?_⟩
    have hlt : g < w.heap.size := (Array.getElem?_eq_some_iff.1 hg).1
    refine hs.set hi (T := [g]) ((Mod.refl [g] w).setCell (p := ⟨g, 0, none⟩) (.inl (by simp)) _) (fun k hk => hk) ?_ fun k hk => ⟨.inl hk, ?_⟩
    · show (w.setCell ⟨g, 0, none⟩ _).heap[g]? = _
      simp [World.setCell, hg, Array.getElem?_modify]
    · have : k = g := by simpa [Qr] using hk
      subst this
      simpa [World.setCell] using hlt
  · refine (Any.Builder_copyCheck_used bl_lays bl_x g w (by rw [cell_of_row w g 0 _ _ _ hg]; rfl)).mono ?_
    rintro e w' ⟨rfl, rfl⟩
    refine ⟨rfl, ?_⟩
    have : es.set i (Qr g 93 #[.pointer (some ⟨g, 0, none⟩), x]) = es := by
      apply List.ext_getElem?
      intro j
      rw [List.getElem?_set]
      split
      · rename_i hij; subst hij
        split
        · exact hi.symm
        · rename_i hge; rw [List.getElem?_eq_none (by omega)]
      · rfl
    rw [this]
    exact hs
theorem Hl {g : Nat} {v : Value} {A : Option Addr} {c : Nat} {l : List UInt8} {w w0 : World} {es : List Ent} (hs : SP [] w0 w es) {i j : Nat} (hi : es[i]? = some (Qr g 93 #[v, .slice A (List.length l) c])) (hj : es[j]? = some (Ve 5 eU8 A c l)) (hij : i ≠ j) (hv : BP g v) :
    Calls Tryz.prog 62 #[.pointer (some ⟨g, 0, none⟩)] w (fun e w' => e = .returned (.string ⟨List.toArray l⟩) ∧ SP [] w0 w' []) := by
  have hg : w.heap[g]? = some (.cells #[v, .slice A (List.length l) c] 93 (0, 0)) := hs.get hi
  have hr : w.ownsRow 0 5 1 (.slice A l.length c) l.length (Vd eU8 l) := hs.get hj
  have hb : w0.heap.size ≤ g := by
    rcases ((hs.own.get hi).2 g (by simp [Qr])).1 with h | h
    · exact h
    · cases h
  have hap := hs.own.apart hi hj hij
  have hcells : Vd eU8 l = Lib.byteCells l := Cq l
  have hown : w.ownsRow w0.heap.size 5 1 (.slice A l.length c) (Lib.byteCells l).length (Lib.byteCells l) := by
    rw [← hcells, Za, show eU8.sz = 1 from rfl, Nat.mul_one]
    refine ⟨hr.1, ?_⟩
    rcases hr.2 with h | ⟨q, cap, cur, h1, h2, h3⟩
    · exact .inl h
    · refine .inr ⟨q, cap, cur, h1, ?_, h3⟩
      injection h1 with h1 _ _
      subst h1
      rcases ((hs.own.get hj).2 q (by simp [Ve, row, Value.ownBlock])).1 with h | h
      · exact h
      · cases h
  have hne : (Value.slice A l.length c).ownBlock ≠ some g := by
    intro h
    exact hap g (by simp [Qr]) (by simp [Ve, row, h])
  have hat : Lib.BuilderAt 93 5 w0.heap.size g v (Lib.byteCells l) w := ⟨hb, _, hg, hown, hne⟩
  refine (Tryz.Builder_String_any w0.heap.size g l w ?_ hs.mod.size).mono ?_
  · rcases hv with rfl | rfl
    · exact .inl hat
    · exact .inr hat
  · rintro e w' ⟨rfl, hb'⟩
    refine ⟨rfl, ⟨?_, trivial⟩⟩
    exact Zp (hs.keeps.trans hb') []
end Go.Proofs.YtoflbpmbkmephaaGreatDoor
