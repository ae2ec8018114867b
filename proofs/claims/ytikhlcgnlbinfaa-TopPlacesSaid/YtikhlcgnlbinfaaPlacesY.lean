/- What the kernel checks of the program's own text for this statement, in a text by itself (memory). Condition: none. -/
import Derived.JoinedOf
import Derived.ProofKit
import Derived.Test.YtikhlcgnlbinfaaProg
import Derived.Test.YtikhlcgnlbinfaaRows
namespace Go.Proofs.Ytikhlcgnlbinfaa.topPlaces
theorem facts : joinedFacts Try.pinned.checked.prog 3 Try.f3 Rows.topPlacesSpec Rows.topPlacesRow = true := of_decide_eq_true (by kernel_rfl)
end Go.Proofs.Ytikhlcgnlbinfaa.topPlaces
