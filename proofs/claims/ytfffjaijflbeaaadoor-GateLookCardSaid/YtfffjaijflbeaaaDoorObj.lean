/- OBJECTS: things in memory that are handed to a function and come back; rows of structs; a result that may be nil. -/
import Derived.Test.YtfffjaijflbeaaaDoorStage
namespace Go.Proofs.YtfffjaijflbeaaaDoor
set_option linter.unusedSimpArgs false
set_option linter.unusedVariables false
open Go.RowKit
/-! elements of several parts -/
def ePair {α β : Type} (a : Enc α) (b : Enc β) : Enc (α × β) :=
  ⟨a.sz + b.sz, fun x => a.enc x.1 ++ b.enc x.2, fun x => by rw [List.length_append, a.len, b.len], fun x v hv => by
    rcases List.mem_append.1 hv with h | h
    · exact a.one _ v h
    · exact b.one _ v h⟩
/-! a result that may be nil -/
def optE {α β : Type} (z : Option α) (a : Option β) (f : α → Option β) : Option β := match z with | none => a | some x => f x
theorem optN {α β : Type} {a : Option β} {f : α → Option β} {r : β} (h : optE (none : Option α) a f = some r) : a = some r := h
theorem optS {α β : Type} {x : α} {a : Option β} {f : α → Option β} {r : β} (h : optE (some x) a f = some r) : f x = some r := h
section
variable {S : List Nat} {B : Nat} {w w' w0 : World} {es es' es2 : List Ent}
theorem nodup_app : ∀ {l m : List Nat}, nodupN (l ++ m) = true → nodupN l = true ∧ nodupN m = true ∧ ∀ i ∈ l, i ∉ m
  | [], m, h => ⟨rfl, h, fun i hi => by simp at hi⟩
  | i :: l, m, h => by
    simp only [List.cons_append, nodupN, Bool.and_eq_true, List.all_append] at h
    obtain ⟨⟨h1, h2⟩, h3⟩ := h
    obtain ⟨k1, k2, k3⟩ := nodup_app h3
    refine ⟨by simp only [nodupN, Bool.and_eq_true]; exact ⟨h1, k1⟩, k2, fun j hj => ?_⟩
    rcases List.mem_cons.1 hj with rfl | hj
    · intro hm
      rw [List.all_eq_true] at h2
      have := h2 j hm
      rw [Nat.beq_refl] at this
      cases this
    · exact k3 j hj
/-- what is handed over, as the one that gets it sees it -/
theorem SP.sub (h : SP S w0 w es) (l : List Nat) (hn : nodupN l = true) (he : es' = selE es l) : SP (es'.flatMap Ent.fp) w w es' := by
  subst he
  exact ⟨Mod.refl _ _, (h.own.sel hn).widen fun e hm k hk _ => .inr (List.mem_flatMap.2 ⟨e, hm, hk⟩)⟩
theorem fps_own (h : SP S w0 w es) {l : List Nat} {k : Nat} (hk : k ∈ (selE es l).flatMap Ent.fp) : (w0.heap.size ≤ k ∨ k ∈ S) ∧ k < w.heap.size := by
  obtain ⟨e, he, hke⟩ := List.mem_flatMap.1 hk
  obtain ⟨j, _, hj⟩ := selE_mem he
  exact (h.own.get hj).2 k hke
/-- what turns things of ours turns nothing else -/
theorem SP.through (h : SP S w0 w es) {l : List Nat} (he : es' = selE es l) (hm : Mod (es'.flatMap Ent.fp) w w') : Mod S w0 w' := by
  subst he
  have hs := h.mod.size
  refine ⟨hm.os.trans h.mod.os, hm.tape.trans h.mod.tape, hm.output.trans h.mod.output, Nat.le_trans hs hm.size, fun k hk hn => ?_⟩
  refine (hm.block k (Nat.lt_of_lt_of_le hk hs) fun hkT => ?_).trans (h.mod.block k hk hn)
  rcases (fps_own h hkT).1 with h1 | h1
  · omega
  · exact hn h1
/-- a callee that was handed things: they come back, perhaps turned -/
theorem SP.callS (h : SP S w0 w es) (l m : List Nat) (hn : nodupN (l ++ m) = true) {fs : List Ent} (hf : fs = selE es l) (hc : SP (fs.flatMap Ent.fp) w w' es2) (he : es' = selE es m ++ es2) : SP S w0 w' es' := by
  subst hf he
  obtain ⟨n1, n2, n3⟩ := nodup_app hn
  have hs := h.mod.size
  have hm := hc.mod
  have apart : ∀ f ∈ selE es m, ∀ k ∈ f.fp, k ∉ (selE es l).flatMap Ent.fp := fun f hf k hk hkl => by
    obtain ⟨j, hj, hfj⟩ := selE_mem hf
    obtain ⟨e, he, hke⟩ := List.mem_flatMap.1 hkl
    obtain ⟨i, hi, hei⟩ := selE_mem he
    exact h.own.apart hfj hei (fun e => n3 i hi (e ▸ hj)) k hk hke
  refine ⟨h.through rfl hm, ((h.own.sel n2).keep hm.size fun f hf k hk => hm.block k ((h.own.sel n2).mem hf |>.2 k hk).2 (apart f hf k hk)).append (hc.own.widen fun f hf k hk hor => ?_) fun f hf k hk f' hf' hk' => ?_⟩
  · rcases hor with h1 | h1
    · exact .inl (by omega)
    · exact (fps_own h h1).1
  · rcases ((hc.own.mem hf').2 k hk').1 with h1 | h1
    · have := ((h.own.sel n2).mem hf |>.2 k hk).2
      omega
    · exact apart f hf k hk h1
theorem SP.below_of (h : SP [] w0 w es) {l : List Nat} (he : es' = selE es l) (hm : Mod (es'.flatMap Ent.fp) w w') : Below w0.heap.size w0 w' := (h.through he hm).below (Nat.le_refl _) (by simp)
end
end Go.Proofs.YtfffjaijflbeaaaDoor
