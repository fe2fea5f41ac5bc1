import Derived.Test.YtibipfdpembkgaaGreatDoorPkTopGrace7
set_option linter.unusedSimpArgs false
set_option linter.unusedVariables false
set_option linter.unusedSectionVars false
set_option maxRecDepth 100000
set_option maxHeartbeats 40000000
namespace Go.Ev
set_option maxRecDepth 100000
theorem gr1 : (okT (fnE (clE U9 (prE TD TR true) 60) c3 [.q 1, .b true] ⟨.e, .e, .h⟩) && okT (fnE (clE U9 (prE TD TR true) 60) c3 [.q 2, .b false] ⟨.e, .e, .h⟩) && okT (fnE (clE U9 (prE TD TR true) 60) c3 [.q 2, .b true] ⟨.e, .e, .h⟩)) = true := by decide +kernel
end Go.Ev
