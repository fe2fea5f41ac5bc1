/- ROWS WITHIN ROWS: a row that an element of a row has (where it lies is known beside what it holds); what is known of all of it. -/
import Derived.Test.YtfffjaijflbeaaaDoorObj
namespace Go.Proofs.YtfffjaijflbeaaaDoor
set_option linter.unusedSimpArgs false
set_option linter.unusedVariables false
open Go.RowKit
/-- a row as an element has it: where it lies, its room, what it holds -/
abbrev DS (α : Type) := Option Addr × Nat × List α
def eDS {α : Type} (e : Enc α) : Enc (DS α) := ⟨1, fun x => [.slice x.1 (List.length x.2.2) x.2.1], fun _ => rfl, fun _ v hv => by simp at hv; subst hv; rfl⟩
/-- a tenant: with where its rows lie; and without -/
abbrev TenantD := List UInt8 × Int × Int × DS (Int × Int) × DS (List UInt8 × List UInt8 × Int)
abbrev TenantL := List UInt8 × Int × Int × List (Int × Int) × List (List UInt8 × List UInt8 × Int)
abbrev stT (y : TenantD) : TenantL := (y.1, y.2.1, y.2.2.1, y.2.2.2.1.2.2, y.2.2.2.2.2.2)
/-- what is known of an element, and goes on being so -/
structure Dp (α : Type) where
  ok : World → α → Prop
  mono : ∀ {w w' : World} {x : α}, Below w.heap.size w w' → ok w x → ok w' x
def dT {α : Type} : Dp α := ⟨fun _ _ => True, fun _ _ => trivial⟩
def dPair {α β : Type} (a : Dp α) (b : Dp β) : Dp (α × β) := ⟨fun w x => a.ok w x.1 ∧ b.ok w x.2, fun hb h => ⟨a.mono hb h.1, b.mono hb h.2⟩⟩
def dDS {α : Type} (e : Enc α) (p : Dp α) : Dp (DS α) := ⟨fun w x => RdT e w x.1 x.2.1 x.2.2 ∧ ∀ y ∈ x.2.2, p.ok w y, fun hb h => ⟨RdT.below h.1 hb, fun y hy => p.mono hb (h.2 y hy)⟩⟩
abbrev eNet : Enc (Int × Int) := ePair (eInt .u32) (eInt .i64)
abbrev eTok : Enc (List UInt8 × List UInt8 × Int) := ePair eStr (ePair eStr (eInt .i64))
abbrev eTen : Enc TenantD := ePair eStr (ePair (eInt .i64) (ePair (eInt .i64) (ePair (eDS eNet) (eDS eTok))))
abbrev dTen : Dp TenantD := dPair dT (dPair dT (dPair dT (dPair (dDS eNet dT) (dDS eTok dT))))
section
variable {α β γ : Type} {e : Enc α} {p : Dp α} {q : Dp β} {w w' w0 : World} {es : List Ent}
theorem ds_rd {A : Option Addr} {c : Nat} {l : List α} (h : (dDS e p).ok w (A, c, l)) : RdT e w A c l := h.1
theorem ds_rdx {x : DS α} (h : (dDS e p).ok w x) : RdT e w x.1 x.2.1 x.2.2 := h.1
theorem ds_el {A : Option Addr} {c : Nat} {l : List α} (h : (dDS e p).ok w (A, c, l)) {i : Nat} {x : α} (hx : l[i]? = some x) : p.ok w x := h.2 x (List.mem_of_getElem? hx)
theorem dp1 {x : α × β} (h : (dPair p q).ok w x) : p.ok w x.1 := h.1
theorem dp2 {x : α × β} (h : (dPair p q).ok w x) : q.ok w x.2 := h.2
theorem dp_mk {x : α × β} (h1 : p.ok w x.1) (h2 : q.ok w x.2) : (dPair p q).ok w x := ⟨h1, h2⟩
theorem dT_ok {x : α} : (dT : Dp α).ok w x := trivial
theorem ds_nil (e : Enc α) (p : Dp α) (w : World) : (dDS e p).ok w (none, 0, []) := ⟨RdT.nil e w, fun y hy => by cases hy⟩
theorem ds_flat {x : DS α} (h : RdT e w x.1 x.2.1 x.2.2) : (dDS e dT).ok w x := ⟨h, fun _ _ => trivial⟩
theorem ds_mk {A : Option Addr} {c : Nat} {l : List α} (h : RdT e w A c l) (h2 : ∀ y ∈ l, p.ok w y) : (dDS e p).ok w (A, c, l) := ⟨h, h2⟩
theorem el_nil : ∀ y ∈ ([] : List α), p.ok w y := fun y hy => by cases hy
theorem el_cons {x : α} {l : List α} (h : p.ok w x) (h2 : ∀ y ∈ l, p.ok w y) : ∀ y ∈ x :: l, p.ok w y := fun y hy => by
  rcases List.mem_cons.1 hy with rfl | hy
  · exact h
  · exact h2 y hy
theorem Dp.sp {x : α} (h : p.ok w0 x) (hs : SP [] w0 w es) : p.ok w x := p.mono hs.keeps h
theorem keeps_then (hs : SP [] w0 w es) (hb : Below w.heap.size w w') : Below w0.heap.size w0 w' := (hs.below hb).keeps
theorem mod_then {S : List Nat} (hs : SP S w0 w es) (hb : Below w.heap.size w w') : Mod S w0 w' := (hs.below hb).mod
/-- what is not handed over is as it was, whatever is done with what is -/
theorem SP.still {S : List Nat} {es' : List Ent} {e : Ent} {l : List Nat} {i : Nat} (h : SP S w0 w es) (he : es' = selE es l) (hi : es[i]? = some e) (hn : l.all (fun j => !(Nat.beq i j)) = true) (hm : Mod (es'.flatMap Ent.fp) w w') : e.ok w' := by
  subst he
  have hg := h.own.get hi
  refine e.loc w w' (fun k hk => hm.block k (hg.2 k hk).2 fun hkl => ?_) hg.1
  obtain ⟨e', he', hke⟩ := List.mem_flatMap.1 hkl
  obtain ⟨j, hj, hej⟩ := selE_mem he'
  refine h.own.apart hi hej (fun hij => ?_) k hk hke
  rw [List.all_eq_true] at hn
  have := hn j hj
  rw [hij, Nat.beq_refl] at this
  cases this
theorem idxm_elim {f : α → γ} {l : List α} {i : Int} {K : γ → Option β} {r : β} (h : (idx (List.map f l) i).bind K = some r) : ∃ y, 0 ≤ i ∧ i < (l.length : Int) ∧ l[i.toNat]? = some y ∧ K (f y) = some r := by
  obtain ⟨x, h0, h1, hx, hK⟩ := idx_elim h
  rw [List.length_map] at h1
  rw [List.getElem?_map, Option.map_eq_some_iff] at hx
  obtain ⟨y, hy, rfl⟩ := hx
  exact ⟨y, h0, h1, hy, hK⟩
end
section
variable {α γ : Type} {e : Enc α} {P : Program} {n : Nat} {B : Code} {p : List Bool} {k : Nat} {K : Fr → World → Prop} {ρ : Fr} {w : World} {A : Option Addr} {c : Nat} {l : List α} {d : Option Nat}
theorem Step.elemM (f : α → γ) {T E : TypeId} {x ix : Operand} {ki : IntKind} {iz : Int} (ho : opAt (codeAt B p) k ρ = some (.indexAddr T x ix, d)) (hd : dstOk n d = true)
    (hx : opv ρ x = .slice A (List.length (List.map f l)) c) (hix : opv ρ ix = .int ki iz) (hT : P.underlying T = some (.slice E)) (hE : (P.info? E).map (·.size) = some e.sz) (hr : RdT e w A c l) (h0 : 0 ≤ iz) (h1 : iz < (l.length : Int))
    (next : ∀ b off : Nat, A = some ⟨b, off, none⟩ → b < w.heap.size → (∀ j u, (cellsOf e l)[j]? = some u → w.cell? ⟨b, off + j, none⟩ = some u) → K (updO ρ d (.pointer (some ⟨b, off + iz.toNat * e.sz, none⟩))) w) :
    Step P n B p k K ρ w := by
  rw [List.length_map] at hx
  exact Step.elem ho hd hx hix hT hE hr h0 h1 next
end
end Go.Proofs.YtfffjaijflbeaaaDoor
