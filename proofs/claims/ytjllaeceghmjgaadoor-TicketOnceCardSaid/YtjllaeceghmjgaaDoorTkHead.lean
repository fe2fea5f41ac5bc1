/- The live question of subwaylaw15, reckoned by the kernel. -/
import Derived.Test.YtjllaeceghmjgaaDoorLTB
namespace Go.Proofs.YtjllaeceghmjgaaDoor
theorem tkHead_true : L_subwaylaw15_head = some true := by kernel_rfl
end Go.Proofs.YtjllaeceghmjgaaDoor
