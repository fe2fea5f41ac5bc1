/- Opening the calls of a gate. -/
import Derived.Test.YtfffjaijflbeaaaDoorCfgOpen
import Derived.Test.YtfffjaijflbeaaaDoorGateHead
namespace Go.Proofs.YtfffjaijflbeaaaDoor
set_option linter.unusedSimpArgs false
set_option linter.unusedVariables false
def OpGW (r : Nat) (o : OpG) : Prop := (Lit.int .i64 o.1).wf = true ∧ o.2.1.length ≤ r ∧ (Lit.int .i64 o.2.2.1).wf = true ∧ (Lit.int .u32 o.2.2.2).wf = true
section
variable {H : Type} {enc : TypeId × Value → H} {W : World}
set_option maxRecDepth 100000 in
theorem opg_rds : Rds enc Tryd.prog W 35 (ePair (eInt .i64) (ePair eStr (ePair (eInt .i64) (eInt .u32)))) OpGW :=
  rds_struct (l := [(3, 0), (9, 1), (3, 2), (33, 3)]) (by kernel_rfl) (by kernel_rfl)
    (fs_cons (rds_int Tryd.underlying3) (by kernel_rfl) (fs_cons (rds_str Tryd.underlying9) (by kernel_rfl) (fs_cons (rds_int Tryd.underlying3) (by kernel_rfl) (fs_one (rds_int Tryd.underlying33) (by kernel_rfl)))))
theorem opg_q {l : List OpG} (hl : l.length ≤ reachBytes) (h : ∀ o ∈ l, OpGW reachBytes o) : l.length ≤ 140737488355328 ∧ ∀ o ∈ l, OpGQ o := by
  have hM := reachM
  refine ⟨Nat.le_trans hl hM, fun o ho => ?_⟩
  obtain ⟨q1, q2, q3, q4⟩ := h o ho
  simp [Lit.wf, IntKind.min, IntKind.max, IntKind.signed, IntKind.bits] at q4
  exact ⟨Nat.le_trans q2 hM, by omega, by omega⟩
end
end Go.Proofs.YtfffjaijflbeaaaDoor
