/- TicketHeld in plain lists. -/
import Derived.Test.YtjllaeceghmjgaaDoorTkGreat
import Derived.Test.YtjllaeceghmjgaaDoorTkHead
import Derived.Test.YtjllaeceghmjgaaDoorLTicketHeld
namespace Go.Proofs.YtjllaeceghmjgaaDoor
set_option linter.unusedSimpArgs false
set_option linter.unusedVariables false
/-- a book of one ticket -/
theorem redeem_one (key : Str) (n : Int) (v : Int) (nm tn : Str) (ep : Int) (t s : Str) (who : Str) :
    redeemL key n [(v, nm, tn, ep, t)] s who = if t = s then (if tn = who then (v, nm, tn, ep, 0, key, n, []) else (0, [], [], 0, 131, key, n, [(v, nm, tn, ep, t)])) else (0, [], [], 0, 151, key, n, [(v, nm, tn, ep, t)]) := by
  unfold redeemL
  rw [List.findIdx?_cons, List.findIdx?_nil]
  by_cases h : t = s
  · rw [if_pos h, show ofT s (v, nm, tn, ep, t) = true from beq_iff_eq.2 h, if_pos rfl]
    rfl
  · rw [if_neg h, show ofT s (v, nm, tn, ep, t) = false from beq_eq_false_iff_ne.2 h]
    rfl
theorem ne_x (t : Str) : ¬ t = t ++ [120] := fun h => by
  have := congrArg List.length h
  simp at this
theorem ticketHeld_plain (key : Str) (v : Int) (nm tn : Str) (ep : Int) (dr who text : Str) (hk : key.length ≤ reachBytes) (ht : tn.length ≤ reachBytes) (hd : dr.length ≤ reachBytes) (hw : who.length ≤ reachBytes) (hx : text.length ≤ reachBytes) :
    L_subwaylaw15_TicketHeld key v nm tn ep dr who text = some true := by
  have h47 := reach47
  unfold L_subwaylaw15_TicketHeld
  rw [tkHead_true, Option.bind_some, prog_new key (by omega), Option.bind_some, wrap64 (x := ((key.length : Nat) : Int) + ((dr.length : Nat) : Int)) (by omega), wrap64 (x := ((key.length : Nat) : Int) + ((dr.length : Nat) : Int) + ((who.length : Nat) : Int)) (by omega),
    wrap64 (x := ((key.length : Nat) : Int) + ((dr.length : Nat) : Int) + ((who.length : Nat) : Int) + ((text.length : Nat) : Int)) (by omega), wrap64 (by omega)]
  by_cases h3 : ((key.length : Nat) : Int) + ((dr.length : Nat) : Int) + ((who.length : Nat) : Int) + ((text.length : Nat) : Int) + ((tn.length : Nat) : Int) > 3000
  · rw [decide_eq_true h3, cond_true]
  · rw [decide_eq_false h3, cond_false]
    simp only []
    rw [prog_issue key 0 [] v nm tn ep dr (by omega) (by omega) (by simp) (by omega), Option.bind_some]
    simp only [issueL, List.any_nil, Bool.false_eq_true, if_false, List.length_nil, show ¬ (0 = 64) by decide, List.nil_append]
    have hlen := tick_length key (0 + 1) dr
    generalize tick key (0 + 1) dr = t at *
    rw [bne_self_eq_false, cond_false, hlen, show ((((32 : Nat) : Int)) != 32) = false by decide]
    unfold L_subwaylaw15_TicketHeld_k1
    rw [cond_false]
    simp only []
    rw [prog_redeem key _ _ text who (by simp), Option.bind_some, redeem_one]
    by_cases hs : t = text
    · subst hs
      rw [if_pos rfl, beq_self_eq_true, cond_true]
      by_cases hwho : tn = who
      · subst hwho
        rw [if_pos rfl, beq_self_eq_true]
        unfold L_subwaylaw15_TicketHeld_k2
        rw [cond_true, cond_true]
        simp only [beq_self_eq_true, cond_true, many_ok, Option.bind_some, L_subwaylaw15_TicketHeld_k3, List.length_nil]
        rfl
      · rw [if_neg hwho, show (who == tn) = false from beq_eq_false_iff_ne.2 (fun e => hwho e.symm)]
        unfold L_subwaylaw15_TicketHeld_k2
        rw [cond_false, app_ok (by simp; omega), Option.bind_some]
        simp only []
        rw [prog_redeem key _ _ t _ (by simp), Option.bind_some, redeem_one, if_pos rfl, if_neg (ne_x tn)]
        simp only []
        rw [prog_redeem key _ _ t _ (by simp), Option.bind_some, redeem_one, if_pos rfl, if_pos rfl]
        simp only [beq_self_eq_true, Bool.and_self, cond_true, many_ok, Option.bind_some, L_subwaylaw15_TicketHeld_k4, List.length_nil, show ((131 : Int) != 0) = true by decide]
        rfl
    · rw [if_neg hs, show (text == t) = false from beq_eq_false_iff_ne.2 (fun e => hs e.symm), cond_false]
      unfold L_subwaylaw15_TicketHeld_k2
      rw [cond_false, app_ok (by simp; omega), Option.bind_some]
      simp only []
      rw [prog_redeem key _ _ t _ (by simp), Option.bind_some, redeem_one, if_pos rfl, if_neg (ne_x tn)]
      simp only []
      rw [prog_redeem key _ _ t _ (by simp), Option.bind_some, redeem_one, if_pos rfl, if_pos rfl]
      simp only [beq_self_eq_true, Bool.and_self, cond_true, many_ok, Option.bind_some, L_subwaylaw15_TicketHeld_k4, List.length_nil, show ((151 : Int) != 0) = true by decide]
      rfl
end Go.Proofs.YtjllaeceghmjgaaDoor
