/- Support of the walks that a program of mine prints (wk.py). -/
import Derived.Test.YteoijnaljkagfaaBase2
namespace Go.Proofs.Yteoijnaljkagfaa
open Go.RowKit
theorem es_alloc (W : World) (o : Obj) : (W.alloc o).heap.size = W.heap.size + 1 := by simp
theorem Blk.at_ {W : World} {t : TypeId} {cs : Array Value} {g : Nat} (hg : W.heap.size = g) : Blk (W.alloc (.cells cs t)) g t cs := hg ▸ Blk.new W t cs
theorem ret_ii {a b c d : Int} (h : a = c) (k : b = d) : Ending.returned (.tuple #[.int .i64 a, .int .i64 b]) = .returned (.tuple #[.int .i64 c, .int .i64 d]) := by rw [h, k]
theorem ret_i {a c : Int} (h : a = c) : Ending.returned (.int .i64 a) = .returned (.int .i64 c) := by rw [h]
theorem ret_b {a c : Bool} (h : a = c) : Ending.returned (.bool a) = .returned (.bool c) := by rw [h]
theorem Ext.two {w0 w : World} {g : Nat} (h : Ext w0 w) (hg : w0.heap.size ≤ g) (x y : Value) : Ext w0 ((w.setCell ⟨g, 0, none⟩ x).setCell ⟨g, 1, none⟩ y) := (h.setCell hg x).setCell hg y
end Go.Proofs.Yteoijnaljkagfaa
