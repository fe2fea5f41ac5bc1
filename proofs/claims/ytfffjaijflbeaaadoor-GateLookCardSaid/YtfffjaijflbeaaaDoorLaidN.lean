/- The tables that a row lists: what they give to FormatInt; a world in which they lie. -/
import Derived.Test.YtfffjaijflbeaaaDoorNumHand
import Derived.Test.YtfffjaijflbeaaaDoorFrameN
import Derived.Test.YtfffjaijflbeaaaDoorCards
import Derived.Test.YtfffjaijflbeaaaDoorTie
import Derived.Deep.DeepHandedRow
import Derived.Lib.LaidTab
import Derived.LaidSub
import Derived.SevenTiedAt
namespace Go.Proofs.YtfffjaijflbeaaaDoor
set_option linter.unusedSimpArgs false
set_option linter.unusedVariables false
open Go.RowKit
abbrev laidTabs : List (String × DataW Unit) := [("math/bits.deBruijn32tab", Rows.laid_math_bits_deBruijn32tab), ("math/bits.deBruijn64tab", Rows.laid_math_bits_deBruijn64tab), ("internal/strconv.uint64pow10", Rows.laid_internal_strconv_uint64pow10)
  , ("unicode/utf8.acceptRanges", Rows.laid_unicode_utf8_acceptRanges), ("unicode/utf8.first", Rows.laid_unicode_utf8_first)
  ]
theorem gTab : Tryd.prog.globalNamed tabName = some 0 := by kernel_rfl
theorem gTabType : (Tryd.prog.globals[0]?).map (·.type) = some 133 := by kernel_rfl
theorem cellsTab : Tryd.prog.cellsOf 133 = 20 := by kernel_rfl
theorem cellsU64 : Tryd.prog.cellsOf 122 = 1 := by kernel_rfl
theorem laid_of {W : World} (h : laidMetH Tryd.prog laidTabs W) : LaidW W := by
  have h1 := h.filter (fun x => x.1 == tabName)
  have e : laidTabs.filter (fun x => x.1 == tabName) = [(tabName, Lib.tabData .u64 Lib.pow10Tab)] := by kernel_rfl
  rw [e] at h1
  have ht : Lib.TabIs Tryd.prog W tabName .u64 Lib.pow10Tab := Lib.tabIs_of_head (rest := []) gTab gTabType Tryd.underlying133 Tryd.underlying122 cellsU64 cellsTab h1
  refine ⟨ht, fun g hg => ?_⟩
  obtain rfl := Option.some.inj (gTab.symm.trans hg)
  have := ht.cell gTab 0 (by decide)
  exact block_lt_of_cell this
/-- A WORLD FOR THE WITNESS: the settled one, the tables holding what their initialisers lay -/
def cells1 : DataW Unit → List Value
  | .lit (.int k z) => [.int k z]
  | .lit (.bool b) => [.bool b]
  | _ => []
def cells2 : DataW Unit → List Value
  | .agg l => l.flatMap cells1
  | d => cells1 d
def cells3 : DataW Unit → List Value
  | .agg l => l.flatMap cells2
  | d => cells2 d
def tabCells (d : DataW Unit) : Obj → Obj
  | .cells _ t frozen => .cells (cells3 d).toArray t frozen
  | o => o
noncomputable def laidWorld (os : Os) : World :=
  { World.holding Tryd.prog os ⟨#[], #[], []⟩ with heap := ((((World.holding Tryd.prog os ⟨#[], #[], []⟩).heap.modify 4 (tabCells Rows.laid_math_bits_deBruijn32tab)).modify 5 (tabCells Rows.laid_math_bits_deBruijn64tab)).modify 0 (tabCells Rows.laid_internal_strconv_uint64pow10)
    |>.modify 2 (tabCells Rows.laid_unicode_utf8_acceptRanges) |>.modify 1 (tabCells Rows.laid_unicode_utf8_first)
    ) }
end Go.Proofs.YtfffjaijflbeaaaDoor
