/- TicketSerial in plain lists. -/
import Derived.Test.YtjllaeceghmjgaaDoorTkGreat
import Derived.Test.YtjllaeceghmjgaaDoorTkHead
import Derived.Test.YtjllaeceghmjgaaDoorLTicketSerial
namespace Go.Proofs.YtjllaeceghmjgaaDoor
set_option linter.unusedSimpArgs false
set_option linter.unusedVariables false
theorem ticketSerial_plain (key : Str) (v : Int) (nm tn : Str) (ep : Int) (dr : Str) (hk : key.length ≤ reachBytes) (hd : dr.length ≤ reachBytes) : L_subwaylaw15_TicketSerial key v nm tn ep dr = some true := by
  have h47 := reach47
  unfold L_subwaylaw15_TicketSerial
  rw [tkHead_true, Option.bind_some, prog_new key (by omega), Option.bind_some, wrap64 (by omega)]
  by_cases h3 : ((key.length : Nat) : Int) + ((dr.length : Nat) : Int) > 3000
  · rw [decide_eq_true h3, cond_true]
  · rw [decide_eq_false h3, cond_false, cut255 dr (by omega), Option.bind_some]
    simp only []
    rw [prog_issue key 0 [] v nm tn ep dr (by omega) (by omega) (by simp) (by omega), Option.bind_some]
    simp only [issueL, List.any_nil, Bool.false_eq_true, if_false, List.length_nil, show ¬ (0 = 64) by decide, List.nil_append]
    rw [prog_void key _ _ v (by simp), Option.bind_some]
    simp only [voidL, List.findIdx?_cons, ofV, beq_self_eq_true, if_true, List.eraseIdx_cons_zero]
    rw [prog_issue key _ [] v nm tn ep dr (by omega) (by omega) (by simp) (by omega), Option.bind_some]
    simp only [issueL, List.any_nil, Bool.false_eq_true, if_false, List.length_nil, show ¬ (0 = 64) by decide, List.nil_append]
    rw [cond_true, show ((0 : Int) == 0) = true by decide, cond_true, show Nat.ble key.length 281474976710656 = true from Nat.ble_eq_true_of_le (by omega)]
    simp only [chk, Option.bind_some]
    have e1 : ([49] : Str) = decL (0 + 1) := by decide +kernel
    have e2 : ([50] : Str) = decL (0 + 1 + 1) := by decide +kernel
    rw [e1, e2, ref_proof key (by omega) _ (by simp), Option.bind_some, cut32 (proof64 _ _ _), Option.bind_some]
    simp only [tick, beq_self_eq_true, cond_true]
    rw [ref_proof key (by omega) _ (by simp), Option.bind_some, cut32 (proof64 _ _ _), Option.bind_some]
    simp only [L_subwaylaw15_TicketSerial_k1, beq_self_eq_true]
end Go.Proofs.YtjllaeceghmjgaaDoor
