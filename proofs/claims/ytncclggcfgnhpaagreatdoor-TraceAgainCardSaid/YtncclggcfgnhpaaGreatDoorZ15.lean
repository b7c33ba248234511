import Derived.Test.YtncclggcfgnhpaaGreatDoorRows
import Derived.JoinedOf
import Derived.Test.YtncclggcfgnhpaaGreatDoorZ6
namespace Go.Proofs.YtncclggcfgnhpaaGreatDoor
set_option maxRecDepth 100000
set_option maxHeartbeats 8000000
set_option linter.all false
open Go.Proofs.Tryz
section
open Go
theorem jfA:joinedFacts Tryz.prog 3 Tryz.f3 Rows.traceAgainSpec Rows.traceAgainRow=true:=by
 unfold joinedFacts;iterate 31 refine Bool.and_eq_true_iff.2 ⟨?_,by kernel_rfl⟩
 kernel_rfl
end
end Go.Proofs.YtncclggcfgnhpaaGreatDoor
