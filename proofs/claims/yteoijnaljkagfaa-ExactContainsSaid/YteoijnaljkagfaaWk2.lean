/- Support of the walks that a program of mine prints (wk.py), second part. -/
import Derived.Test.YteoijnaljkagfaaWk
namespace Go.Proofs.Yteoijnaljkagfaa
open Go.RowKit
theorem ret_ib {a c : Int} {b d : Bool} (h : a = c) (k : b = d) : Ending.returned (.tuple #[.int .i64 a, .bool b]) = .returned (.tuple #[.int .i64 c, .bool d]) := by rw [h, k]
end Go.Proofs.Yteoijnaljkagfaa
