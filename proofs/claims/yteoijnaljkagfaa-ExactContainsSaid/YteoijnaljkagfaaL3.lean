/- Walks: Valid, both, span, Hull, Meet, Gap of package exact; good and inside of the statements. -/
import Derived.Test.YteoijnaljkagfaaL1
import Derived.Test.YteoijnaljkagfaaWk
namespace Go.Proofs.Yteoijnaljkagfaa
open Go.RowKit

/-- A span is valid. -/
def okS (lo hi : Int) : Bool := decide (-1152921504606846976 ≤ lo ∧ lo ≤ hi ∧ hi ≤ 1152921504606846976)
theorem okS_cases (lo hi : Int) : (okS lo hi = true ∧ -1152921504606846976 ≤ lo ∧ lo ≤ hi ∧ hi ≤ 1152921504606846976) ∨ (okS lo hi = false ∧ (lo < -1152921504606846976 ∨ (-1152921504606846976 ≤ lo ∧ hi < lo) ∨ (-1152921504606846976 ≤ lo ∧ lo ≤ hi ∧ 1152921504606846976 < hi))) := by
  by_cases hb : okS lo hi = true
  · have hb' := hb
    simp only [okS, decide_eq_true_eq] at hb'
    exact .inl ⟨hb, hb'⟩
  · refine .inr ⟨by simpa using hb, ?_⟩
    simp only [okS, decide_eq_true_eq] at hb; omega
theorem okS_in {lo hi : Int} (h : okS lo hi = true) : -1152921504606846976 ≤ lo ∧ lo ≤ hi ∧ hi ≤ 1152921504606846976 := by simpa [okS] using h

set_option maxHeartbeats 1000000 in
theorem valid_any (x y : Int) (w : World) : Calls Try.prog 52 #[.agg #[.int .i64 x, .int .i64 y]] w fun e w' => e = .returned (.bool (okS x y)) ∧ Ext w w' := by
  have HX := Lib.hid ((Ext.refl w).alloc (.cells #[.int .i64 x, .int .i64 y] 62))
  rcases okS_cases x y with ⟨hb, b1, b2, b3⟩ | ⟨hb, b1 | ⟨b1, b2⟩ | ⟨b1, b2, b3⟩⟩
  all_goals
    rw [hb]
    clear hb
    go_enter Try.func52, Try.ntmps52
    go_wp2
    go_ret
    refine ⟨?_, HX.out⟩
    first
    | rfl
    | (show Ending.returned (.bool (decide (y ≤ 1152921504606846976))) = Ending.returned (.bool false); rw [decide_eq_false (by omega)])
set_option maxHeartbeats 1000000 in
theorem good_any (x y : Int) (w : World) : Calls Try.prog 41 #[.agg #[.int .i64 x, .int .i64 y]] w fun e w' => e = .returned (.bool (okS x y)) ∧ Ext w w' := by
  have HX := Lib.hid ((Ext.refl w).alloc (.cells #[.int .i64 x, .int .i64 y] 62))
  rcases okS_cases x y with ⟨hb, b1, b2, b3⟩ | ⟨hb, b1 | ⟨b1, b2⟩ | ⟨b1, b2, b3⟩⟩
  all_goals
    rw [hb]
    clear hb
    go_enter Try.func41, Try.ntmps41
    go_wp2
    go_ret
    refine ⟨?_, HX.out⟩
    first
    | rfl
    | (show Ending.returned (.bool (decide (y ≤ 1152921504606846976))) = Ending.returned (.bool false); rw [decide_eq_false (by omega)])
set_option maxHeartbeats 1000000 in
theorem in_any (x l h : Int) (w : World) : Calls Try.prog 45 #[.int .i64 x, .agg #[.int .i64 l, .int .i64 h]] w fun e w' => e = .returned (.bool (decide (l ≤ x ∧ x ≤ h))) ∧ Ext w w' := by
  have HX := Lib.hid ((Ext.refl w).alloc (.cells #[.int .i64 l, .int .i64 h] 62))
  by_cases h1 : l ≤ x
  · rw [show decide (l ≤ x ∧ x ≤ h) = decide (x ≤ h) by simp [h1]]
    go_enter Try.func45, Try.ntmps45
    go_wp2
    go_ret
    exact ⟨rfl, HX.out⟩
  · rw [show decide (l ≤ x ∧ x ≤ h) = false by simp [h1]]
    go_enter Try.func45, Try.ntmps45
    go_wp2
    go_ret
    exact ⟨rfl, HX.out⟩
set_option maxHeartbeats 1000000 in
theorem both_any (a b c d : Int) (w : World) : Calls Try.prog 95 #[.agg #[.int .i64 a, .int .i64 b], .agg #[.int .i64 c, .int .i64 d]] w fun e w' => e = .returned (.bool (okS a b && okS c d)) ∧ Ext w w' := by
  obtain ⟨p, hp⟩ : ∃ p, okS a b = p := ⟨_, rfl⟩
  rw [hp]
  have HP := Lib.hid hp
  clear hp
  have hXw : Ext w ((w.alloc (.cells #[.int .i64 a, .int .i64 b] 62)).alloc (.cells #[.int .i64 c, .int .i64 d] 62)) := ((Ext.refl w).alloc _).alloc _
  have k2 := Blk.new (w.alloc (.cells #[.int .i64 a, .int .i64 b] 62)) 62 #[.int .i64 c, .int .i64 d]
  rw [show (w.alloc (.cells #[.int .i64 a, .int .i64 b] 62)).heap.size = w.heap.size + 1 by simp] at k2
  go_enter Try.func95, Try.ntmps95
  go_wp2_with fail
  generalize ((w.alloc (.cells #[.int .i64 a, .int .i64 b] 62)).alloc (.cells #[.int .i64 c, .int .i64 d] 62)) = w1 at hXw k2 ⊢
  refine (valid_any a b _).mono ?_
  rw [HP.out]
  rintro e w2 ⟨rfl, hX2⟩
  have x1 := (k2.ext hX2).cell 0
  have x2 := (k2.ext hX2).cell 1
  simp only [List.getElem?_toArray, List.getElem?_cons_zero, List.getElem?_cons_succ] at x1 x2
  have HX2 := Lib.hid (hXw.trans hX2)
  clear hXw hX2 k2
  cases p
  · go_wp2
    go_ret
    exact ⟨rfl, HX2.out⟩
  · go_wp2_with fail
    refine (valid_any c d _).mono ?_
    rintro e w3 ⟨rfl, hX3⟩
    have HX3 := Lib.hid (HX2.out.trans hX3)
    clear hX3
    go_wp2
    go_ret
    exact ⟨rfl, HX3.out⟩


set_option maxHeartbeats 1000000 in
theorem span_ok (lo hi : Int) (w : World) (h0 : -1152921504606846976 ≤ lo) (h1 : hi ≤ 1152921504606846976) : Calls Try.prog 96 #[.int .i64 lo, .int .i64 hi] w (RetE w (.agg #[.int .i64 lo, .int .i64 hi]) 0) := by
  have HX := Lib.hid ((Ext.refl w).alloc (.cells #[.int .i64 lo, .int .i64 hi] 62))
  go_enter Try.func96, Try.ntmps96
  go_wp2
  refine bodyPost_ret (v := .tuple #[.agg #[.int .i64 lo, .int .i64 hi], .int .i64 0]) (by simp [results, Try.results96, go_sem, *]) rfl ?_
  exact ⟨rfl, HX.out⟩
set_option maxHeartbeats 1000000 in
theorem span_no (lo hi : Int) (w : World) (h : lo < -1152921504606846976 ∨ 1152921504606846976 < hi) : Calls Try.prog 96 #[.int .i64 lo, .int .i64 hi] w (RetE w (.agg #[.int .i64 0, .int .i64 0]) 3) := by
  have HX := Lib.hid ((Ext.refl w).alloc (.cells #[.int .i64 0, .int .i64 0] 62))
  have h' : lo < -1152921504606846976 ∨ (-1152921504606846976 ≤ lo ∧ 1152921504606846976 < hi) := by omega
  rcases h' with h1 | ⟨h1, h2⟩
  all_goals
    go_enter Try.func96, Try.ntmps96
    go_wp2
    refine bodyPost_ret (v := .tuple #[.agg #[.int .i64 0, .int .i64 0], .int .i64 3]) (by simp [results, Try.results96, go_sem, *]) rfl ?_
    exact ⟨rfl, HX.out⟩
end Go.Proofs.Yteoijnaljkagfaa
