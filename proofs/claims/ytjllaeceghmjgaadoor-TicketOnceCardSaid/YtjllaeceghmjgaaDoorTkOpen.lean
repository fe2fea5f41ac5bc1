/- Opening a pass, and the calls of a book. -/
import Derived.Test.YtjllaeceghmjgaaDoorOpen
import Derived.Test.YtjllaeceghmjgaaDoorTkGreat
namespace Go.Proofs.YtjllaeceghmjgaaDoor
set_option linter.unusedSimpArgs false
set_option linter.unusedVariables false
section
variable {H : Type} {enc : TypeId × Value → H} {W : World}
abbrev Pass := Int × Str × Str × Int
def PassQ (r : Nat) (p : Pass) : Prop := (Lit.int .i64 p.1).wf = true ∧ p.2.1.length ≤ r ∧ p.2.2.1.length ≤ r ∧ (Lit.int .i64 p.2.2.2).wf = true
set_option maxRecDepth 100000 in
theorem pass_rds : Rds enc Tryd.prog W 31 (ePair (eInt .i64) (ePair eStr (ePair eStr (eInt .i64)))) PassQ :=
  rds_struct (l := [(3, 0), (9, 1), (9, 2), (2, 3)]) (by kernel_rfl) (by kernel_rfl)
    (fs_cons (rds_int Tryd.underlying3) (by kernel_rfl) (fs_cons (rds_str Tryd.underlying9) (by kernel_rfl) (fs_cons (rds_str Tryd.underlying9) (by kernel_rfl) (fs_one (rds_int Tryd.underlying2) (by kernel_rfl)))))
set_option maxRecDepth 100000 in
theorem op_rds : Rds enc Tryd.prog W 33 (ePair (eInt .i64) (ePair (eInt .i64) (ePair eStr (ePair eStr (ePair (eInt .i64) (ePair eStr (ePair (eInt .i64) (ePair eStr eStr)))))))) OpQ :=
  (rds_struct (l := [(3, 0), (31, 1), (9, 5), (3, 6), (9, 7), (9, 8)]) (by kernel_rfl) (by kernel_rfl)
    (fs_cons (rds_int Tryd.underlying3) (by kernel_rfl) (fs_cons pass_rds (by kernel_rfl) (fs_cons (rds_str Tryd.underlying9) (by kernel_rfl) (fs_cons (rds_int Tryd.underlying3) (by kernel_rfl)
      (fs_cons (rds_str Tryd.underlying9) (by kernel_rfl) (fs_one (rds_str Tryd.underlying9) (by kernel_rfl)))))))).conv
    (fun a => (a.1, a.2.1.1, a.2.1.2.1, a.2.1.2.2.1, a.2.1.2.2.2, a.2.2.1, a.2.2.2.1, a.2.2.2.2.1, a.2.2.2.2.2)) (fun a => rfl)
    (fun r a h => by obtain ⟨h1, ⟨h2, h3, h4, h5⟩, h6, h7, h8, h9⟩ := h; exact ⟨h1, h2, h3, h4, h5, h6, h7, h8, h9⟩)
end
end Go.Proofs.YtjllaeceghmjgaaDoor
