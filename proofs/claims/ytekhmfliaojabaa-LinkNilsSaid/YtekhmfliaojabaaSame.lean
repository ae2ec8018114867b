/- Walks: sameFrame of two frames that are the same returns true. Condition: their bytes read alike. -/
import Derived.Test.YtekhmfliaojabaaWrite
import Derived.Test.YtekhmfliaojabaaBase2
namespace Go.Proofs.Ytekhmfliaojabaa
open Go.RowKit

theorem str_any (w : World) {A : Option Addr} {n c : Nat} {xs : List Int} (h : Ints .u8 w A n xs) :
    (convert 22 9 (.slice A n c)).run Try.prog w = .ok (.string (strOfNums xs)) w := run_str w Try.underlying22 Try.underlying5 Try.underlying9 h

set_option maxHeartbeats 400000 in
theorem sameFrame_eq (s q : Int) (A B : Option Addr) (n c m d : Nat) (xs : List Int) (w : World) (hA : Ints .u8 w A n xs) (hB : Ints .u8 w B m xs) :
    Calls Try.prog 33 #[.agg #[.int .i64 s, .int .i64 q, .slice A n c], .agg #[.int .i64 s, .int .i64 q, .slice B m d]] w fun e w' => e = .returned (.bool true) ∧ Ext w w' := by
  have hx : Ext w ((w.alloc (.cells #[.int .i64 s, .int .i64 q, .slice A n c] 38)).alloc (.cells #[.int .i64 s, .int .i64 q, .slice B m d] 38)) := ((Ext.refl w).alloc _).alloc _
  have q1 := str_any _ (c := c) (hA.ext hx)
  have q2 := str_any _ (c := d) (hB.ext hx)
  obtain ⟨st, hst⟩ : ∃ st, strOfNums xs = st := ⟨_, rfl⟩
  rw [hst] at q1 q2
  have HX := Lib.hid hx
  clear hx hst hA hB
  go_enter Try.func33, Try.ntmps33
  go_wp2
  go_ret
  exact ⟨by simp, HX.out⟩
end Go.Proofs.Ytekhmfliaojabaa
