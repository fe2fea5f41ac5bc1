/- TicketPlays in plain lists. -/
import Derived.Test.YtjllaeceghmjgaaDoorTkGreat
import Derived.Test.YtjllaeceghmjgaaDoorTkHead
import Derived.Test.YtjllaeceghmjgaaDoorLTicketPlays
namespace Go.Proofs.YtjllaeceghmjgaaDoor
set_option linter.unusedSimpArgs false
set_option linter.unusedVariables false
theorem plays_many (rec41 : (List UInt8) → Int → (List Tk) → (List UInt8) → Int → (List Rk) → (List Str) → Int → Option (Bool)) (i : Nat) (hi : i ≤ 1000) (key : Str) (n : Int) (l : List Tk) (told : List Str) :
    L_subwaylaw15_TicketPlays_k48 rec41 (i : Int) key n l key n (l.map sw) told = rec41 key n l key n (l.map sw) told ((i + 1 : Nat) : Int) := by
  unfold L_subwaylaw15_TicketPlays_k48
  rw [many_ok, Option.bind_some, List.length_map, bne_self_eq_false, cond_false, show ((i : Int) + 1) = ((i + 1 : Nat) : Int) by omega, wrap64 (by omega)]
theorem plays_loop (ops : List Op) (key : Str) (hk : key.length ≤ 3000) (hops : ops.length ≤ 200) (hS : ∀ o ∈ ops, OpS o) :
    ∀ (d i f : Nat) (n : Int) (l : List Tk) (told : List Str), d = ops.length - i → i ≤ ops.length → d < f → 0 ≤ n → n ≤ i → l.length ≤ 64 → told.length ≤ i →
      L_subwaylaw15_TicketPlays_l28 ops true f key n l key n (l.map sw) told (i : Int) = some true := by
  intro d
  induction d with
  | zero =>
    intro i f n l told hd hi hf h0 hn hl ht
    obtain ⟨f, rfl⟩ : ∃ g, f = g + 1 := ⟨f - 1, by omega⟩
    show L_subwaylaw15_TicketPlays_b28 (L_subwaylaw15_TicketPlays_l28 ops true f) ops true key n l key n (l.map sw) told (i : Int) = _
    unfold L_subwaylaw15_TicketPlays_b28
    rw [show decide ((i : Int) < ((ops.length : Nat) : Int)) = false from decide_eq_false (by omega), cond_false]
  | succ d ih =>
    intro i f n l told hd hi hf h0 hn hl ht
    obtain ⟨f, rfl⟩ : ∃ g, f = g + 1 := ⟨f - 1, by omega⟩
    have hlt : i < ops.length := by omega
    have hs := hS ops[i] (List.getElem_mem hlt)
    show L_subwaylaw15_TicketPlays_b28 (L_subwaylaw15_TicketPlays_l28 ops true f) ops true key n l key n (l.map sw) told (i : Int) = _
    unfold L_subwaylaw15_TicketPlays_b28
    rw [show decide ((i : Int) < ((ops.length : Nat) : Int)) = true from decide_eq_true (by omega), cond_true, idx_get hlt, Option.bind_some]
    generalize hR : L_subwaylaw15_TicketPlays_l28 ops true f = R at *
    have next : ∀ (n' : Int) (l' : List Tk) (told' : List Str), n ≤ n' → n' ≤ n + 1 → l'.length ≤ 64 → told'.length ≤ i + 1 → R key n' l' key n' (l'.map sw) told' ((i + 1 : Nat) : Int) = some true := by
      intro n' l' told' a1 a2 a3 a4
      rw [← hR]
      exact ih (i + 1) f n' l' told' (by omega) (by omega) (by omega) (by omega) (by omega) a3 a4
    generalize ops[i] = x at *
    cases h2 : (x.1 == 2) with
    | true =>
      rw [cond_true]
      obtain ⟨s, hsh⟩ := shown_ok x.1 x.2.1 x.2.2.1 x.2.2.2.1 x.2.2.2.2.1 x.2.2.2.2.2.1 x.2.2.2.2.2.2.1 x.2.2.2.2.2.2.2.1 x.2.2.2.2.2.2.2.2 told
      rw [hsh, Option.bind_some, prog_redeem key n l s _ (by omega), Option.bind_some, Option.bind_some, ref_redeem key n l s _ (by omega), Option.bind_some]
      obtain ⟨a, b, c, d', e, l', hr, hl'⟩ := redeemL_left key n l s x.2.2.2.2.2.2.2.2
      rw [hr]
      simp only [swQ, beq_self_eq_true, Bool.and_self, Bool.not_true, cond_false, bne_self_eq_false]
      unfold L_subwaylaw15_TicketPlays_k49
      simp only [cond_false]
      rw [plays_many R i (by omega)]
      exact next n l' told (by omega) (by omega) (by omega) (by omega)
    | false =>
      rw [cond_false]
      cases h3 : (x.1 == 3) with
      | true =>
        rw [cond_true, prog_void key n l _ (by omega), Option.bind_some, ref_void key n l _ (by omega), Option.bind_some]
        obtain ⟨a, l', hr, hl'⟩ := voidL_left key n l x.2.1
        rw [hr]
        simp only [swV, beq_self_eq_true, Bool.not_true, cond_false]
        unfold L_subwaylaw15_TicketPlays_k52
        rw [plays_many R i (by omega)]
        exact next n l' told (by omega) (by omega) (by omega) (by omega)
      | false =>
        rw [cond_false, prog_issue key n l _ _ _ _ _ (by omega) (by omega) (by omega) (by have := hs.2.2.1; omega), Option.bind_some, ref_issue key n l _ _ _ _ _ (by omega) (by omega) (by omega) (by have := hs.2.2.1; omega), Option.bind_some]
        obtain ⟨s, e, n', l', hr, hl', hn1, hn2⟩ := issueL_left key n l x.2.1 x.2.2.1 x.2.2.2.1 x.2.2.2.2.1 x.2.2.2.2.2.1 hl
        rw [hr]
        simp only [swR, beq_self_eq_true, Bool.not_true, cond_false, bne_self_eq_false]
        unfold L_subwaylaw15_TicketPlays_k53 L_subwaylaw15_TicketPlays_k54 L_subwaylaw15_TicketPlays_k52
        simp only [cond_false]
        cases he : (e == 0) with
        | true =>
          rw [cond_true, app_ok (by simp; omega), Option.bind_some, plays_many R i (by omega)]
          exact next n' l' _ hn1 hn2 hl' (by simp; omega)
        | false =>
          rw [cond_false, plays_many R i (by omega)]
          exact next n' l' told hn1 hn2 hl' (by omega)
theorem ticketPlays_plain (key : Str) (ops : List Op) (hk : key.length ≤ reachBytes) (hl : ops.length ≤ reachBytes) (hq : ∀ o ∈ ops, OpQ reachBytes o) : L_subwaylaw15_TicketPlays key ops = some true := by
  have h47 := reach47
  unfold L_subwaylaw15_TicketPlays
  obtain ⟨b, hb, hb'⟩ := ops_great ops hl hq
  rw [tkHead_true, Option.bind_some, prog_new key (by omega), Option.bind_some, ref_new, Option.bind_some, hb, Option.bind_some]
  cases b with
  | true =>
    rw [cond_true]
    unfold L_subwaylaw15_TicketPlays_k1
    rw [cond_true]
  | false =>
    rw [cond_false]
    unfold L_subwaylaw15_TicketPlays_k1
    by_cases h3 : ((key.length : Nat) : Int) > 3000
    · rw [decide_eq_true h3, cond_true]
    · rw [decide_eq_false h3, cond_false]
      exact plays_loop ops key (by omega) (hb' rfl).1 (hb' rfl).2 ops.length 0 fuel 0 [] [] (by omega) (by omega) (by have := (hb' rfl).1; unfold fuel; omega) (by omega) (by omega) (by simp) (by simp)
end Go.Proofs.YtjllaeceghmjgaaDoor
