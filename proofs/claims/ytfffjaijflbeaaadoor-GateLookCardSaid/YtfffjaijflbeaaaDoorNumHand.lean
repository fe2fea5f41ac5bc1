/- strconv.FormatInt in base 10, as the lifted walks want it: its tables lie in every world that keeps what lay there. -/
import Derived.Test.YtfffjaijflbeaaaDoorStage
import Derived.Test.YtfffjaijflbeaaaDoorShelf
import Derived.WalkSmall
import Derived.Lib.SmallJoins
import Derived.Lib.AppendIntMem
namespace Go.Proofs.YtfffjaijflbeaaaDoor
set_option linter.unusedSimpArgs false
set_option linter.unusedVariables false
open Go.RowKit
def tabName : String := "internal/strconv.uint64pow10"
theorem tab_global : ∃ g, Tryd.prog.globalNamed tabName = some g := Option.isSome_iff_exists.mp (by kernel_rfl)
/-- the table of powers lies in this world -/
structure LaidW (w : World) : Prop where
  tab : Lib.TabIs Tryd.prog w tabName .u64 Lib.pow10Tab
  here : ∀ g, Tryd.prog.globalNamed tabName = some g → g < w.heap.size
theorem laid_below {w w' : World} (h : LaidW w) (hb : Below w.heap.size w w') : LaidW w' := by
  obtain ⟨g, hg⟩ := tab_global
  refine ⟨?_, fun k hk => Nat.lt_of_lt_of_le (h.here k hk) hb.size⟩
  exact Go.var?_below hb hg (h.here g hg) h.tab
def L_strconv_FormatInt (n base : Int) : Option (List UInt8) := cond (base == 10 && (decide (-9223372036854775808 ≤ n) && decide (n ≤ 9223372036854775807))) (some (Lib.itoa n)) none
theorem L_strconv_FormatInt_walk (n base : Int) (w0 : World) (hL : LaidW w0) (r : List UInt8) (H : L_strconv_FormatInt n base = some r) :
    Calls Tryd.prog 60 #[(.int .i64 n), (.int .i64 base)] w0 (fun e w' => e = .returned (.string ⟨List.toArray r⟩) ∧ SP [] w0 w' []) := by
  unfold L_strconv_FormatInt at H
  cases hc : (base == 10 && (decide (-9223372036854775808 ≤ n) && decide (n ≤ 9223372036854775807))) <;> rw [hc] at H
  · cases H
  injection H with H
  subst H
  simp only [Bool.and_eq_true, beq_iff_eq, decide_eq_true_eq] at hc
  obtain ⟨rfl, h0, h1⟩ := hc
  refine (Tryd.strconv_FormatInt_10 n h0 h1 w0 hL.tab).mono ?_
  rintro e w' ⟨rfl, k, os, rfl⟩
  exact ⟨rfl, Mod.of_below (Go.Lib.below_grow w0.heap.size w0 (Nat.le_refl _) k os) [], trivial⟩
end Go.Proofs.YtfffjaijflbeaaaDoor
