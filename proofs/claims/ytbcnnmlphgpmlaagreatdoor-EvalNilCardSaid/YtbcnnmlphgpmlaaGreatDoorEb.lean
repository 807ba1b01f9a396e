/-
  This text proves what its parts' remarks say, of the abstract machine (part Eb); no condition stands ahead of the claim's statement.
-/
import Derived.Test.YtbcnnmlphgpmlaaGreatDoorEa

/- The fixed calls. -/
namespace Go.AM
set_option maxRecDepth 1000000
theorem fixed_ev : evF env3 100 30 11 [] = some (.bool true) := by kernel_rfl
theorem fixed_ok : CallOK Pz globs 11 [] (.bool true) := evF_sound mixed env3_ok 30 11 _ _ fixed_ev
end Go.AM
