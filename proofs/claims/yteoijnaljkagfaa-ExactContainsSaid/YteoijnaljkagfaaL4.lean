/- Walks: Hull, Meet, Gap, Plus, Minus of package exact (program). -/
import Derived.Test.YteoijnaljkagfaaL3
import Derived.Test.YteoijnaljkagfaaWk
namespace Go.Proofs.Yteoijnaljkagfaa
open Go.RowKit

/-- What Meet returns. -/
def RetM (w : World) (v : Value) (b : Bool) (n : Int) (e : Ending) (w' : World) : Prop := e = .returned (.tuple #[v, .bool b, .int .i64 n]) ∧ Ext w w'

set_option maxRecDepth 100000 in
set_option maxHeartbeats 2000000 in
theorem ehull_bad (a b c d : Int) (w : World) (hn : (okS a b && okS c d) = false) :
    Calls Try.prog 42 #[.agg #[.int .i64 a, .int .i64 b], .agg #[.int .i64 c, .int .i64 d]] w (RetE w (.agg #[.int .i64 (0), .int .i64 (0)]) 2) := by
  have HB := Lib.hid hn
  clear hn
  have hXe : Ext w (((w.alloc (.cells #[.int .i64 a, .int .i64 b] 62)).alloc (.cells #[.int .i64 c, .int .i64 d] 62)).alloc (.cells #[.int .i64 0, .int .i64 0] 62)) := ((((Ext.refl w).alloc _).alloc _).alloc _)
  have kA : Blk (((w.alloc (.cells #[.int .i64 a, .int .i64 b] 62)).alloc (.cells #[.int .i64 c, .int .i64 d] 62)).alloc (.cells #[.int .i64 0, .int .i64 0] 62)) w.heap.size 62 #[.int .i64 a, .int .i64 b] := Blk.alloc (Blk.alloc (Blk.at_ (by simp)) _) _
  have kB : Blk (((w.alloc (.cells #[.int .i64 a, .int .i64 b] 62)).alloc (.cells #[.int .i64 c, .int .i64 d] 62)).alloc (.cells #[.int .i64 0, .int .i64 0] 62)) (w.heap.size + 1) 62 #[.int .i64 c, .int .i64 d] := Blk.alloc (Blk.at_ (by simp)) _
  have kR : Blk (((w.alloc (.cells #[.int .i64 a, .int .i64 b] 62)).alloc (.cells #[.int .i64 c, .int .i64 d] 62)).alloc (.cells #[.int .i64 0, .int .i64 0] 62)) (w.heap.size + 2) 62 #[.int .i64 0, .int .i64 0] := Blk.at_ (by simp)
  go_enter Try.func42, Try.ntmps42
  go_wp2_with fail
  generalize (((w.alloc (.cells #[.int .i64 a, .int .i64 b] 62)).alloc (.cells #[.int .i64 c, .int .i64 d] 62)).alloc (.cells #[.int .i64 0, .int .i64 0] 62)) = w1 at hXe kA kB kR ⊢
  have HX := Lib.hid hXe
  clear hXe
  have KA := Lib.hid kA
  clear kA
  have KB := Lib.hid kB
  clear kB
  have KR := Lib.hid kR
  clear kR
  refine (both_any a b c d _).mono ?_
  rw [HB.out]
  rintro e w2 ⟨rfl, hX⟩
  replace HX := Lib.hid (HX.out.trans hX)
  replace KA := Lib.hid (KA.out.ext hX)
  replace KB := Lib.hid (KB.out.ext hX)
  replace KR := Lib.hid (KR.out.ext hX)
  clear hX
  have cA0 : w2.cell? ⟨w.heap.size, 0, none⟩ = some (.int .i64 a) := KA.out.cell 0
  have cA1 : w2.cell? ⟨w.heap.size, 1, none⟩ = some (.int .i64 b) := KA.out.cell 1
  have cB0 : w2.cell? ⟨(w.heap.size + 1), 0, none⟩ = some (.int .i64 c) := KB.out.cell 0
  have cB1 : w2.cell? ⟨(w.heap.size + 1), 1, none⟩ = some (.int .i64 d) := KB.out.cell 1
  have cR0 : w2.cell? ⟨(w.heap.size + 2), 0, none⟩ = some (.int .i64 0) := KR.out.cell 0
  have fR0 : w2.frozen? ⟨(w.heap.size + 2), 0, none⟩ = false := KR.out.free 0
  have cR1 : w2.cell? ⟨(w.heap.size + 2), 1, none⟩ = some (.int .i64 0) := KR.out.cell 1
  have fR1 : w2.frozen? ⟨(w.heap.size + 2), 1, none⟩ = false := KR.out.free 1
  go_wp2
  refine bodyPost_ret (v := .tuple #[.agg #[.int .i64 (0), .int .i64 (0)], .int .i64 2]) (by simp [results, Try.results42, go_sem, *]) rfl ?_
  exact ⟨rfl, HX.out.two (by omega) _ _⟩

set_option maxRecDepth 100000 in
set_option maxHeartbeats 2000000 in
theorem eplus_bad (a b c d : Int) (w : World) (hn : (okS a b && okS c d) = false) :
    Calls Try.prog 54 #[.agg #[.int .i64 a, .int .i64 b], .agg #[.int .i64 c, .int .i64 d]] w (RetE w (.agg #[.int .i64 (0), .int .i64 (0)]) 2) := by
  have HB := Lib.hid hn
  clear hn
  have hXe : Ext w (((w.alloc (.cells #[.int .i64 a, .int .i64 b] 62)).alloc (.cells #[.int .i64 c, .int .i64 d] 62)).alloc (.cells #[.int .i64 0, .int .i64 0] 62)) := ((((Ext.refl w).alloc _).alloc _).alloc _)
  have kA : Blk (((w.alloc (.cells #[.int .i64 a, .int .i64 b] 62)).alloc (.cells #[.int .i64 c, .int .i64 d] 62)).alloc (.cells #[.int .i64 0, .int .i64 0] 62)) w.heap.size 62 #[.int .i64 a, .int .i64 b] := Blk.alloc (Blk.alloc (Blk.at_ (by simp)) _) _
  have kB : Blk (((w.alloc (.cells #[.int .i64 a, .int .i64 b] 62)).alloc (.cells #[.int .i64 c, .int .i64 d] 62)).alloc (.cells #[.int .i64 0, .int .i64 0] 62)) (w.heap.size + 1) 62 #[.int .i64 c, .int .i64 d] := Blk.alloc (Blk.at_ (by simp)) _
  have kR : Blk (((w.alloc (.cells #[.int .i64 a, .int .i64 b] 62)).alloc (.cells #[.int .i64 c, .int .i64 d] 62)).alloc (.cells #[.int .i64 0, .int .i64 0] 62)) (w.heap.size + 2) 62 #[.int .i64 0, .int .i64 0] := Blk.at_ (by simp)
  go_enter Try.func54, Try.ntmps54
  go_wp2_with fail
  generalize (((w.alloc (.cells #[.int .i64 a, .int .i64 b] 62)).alloc (.cells #[.int .i64 c, .int .i64 d] 62)).alloc (.cells #[.int .i64 0, .int .i64 0] 62)) = w1 at hXe kA kB kR ⊢
  have HX := Lib.hid hXe
  clear hXe
  have KA := Lib.hid kA
  clear kA
  have KB := Lib.hid kB
  clear kB
  have KR := Lib.hid kR
  clear kR
  refine (both_any a b c d _).mono ?_
  rw [HB.out]
  rintro e w2 ⟨rfl, hX⟩
  replace HX := Lib.hid (HX.out.trans hX)
  replace KA := Lib.hid (KA.out.ext hX)
  replace KB := Lib.hid (KB.out.ext hX)
  replace KR := Lib.hid (KR.out.ext hX)
  clear hX
  have cA0 : w2.cell? ⟨w.heap.size, 0, none⟩ = some (.int .i64 a) := KA.out.cell 0
  have cA1 : w2.cell? ⟨w.heap.size, 1, none⟩ = some (.int .i64 b) := KA.out.cell 1
  have cB0 : w2.cell? ⟨(w.heap.size + 1), 0, none⟩ = some (.int .i64 c) := KB.out.cell 0
  have cB1 : w2.cell? ⟨(w.heap.size + 1), 1, none⟩ = some (.int .i64 d) := KB.out.cell 1
  have cR0 : w2.cell? ⟨(w.heap.size + 2), 0, none⟩ = some (.int .i64 0) := KR.out.cell 0
  have fR0 : w2.frozen? ⟨(w.heap.size + 2), 0, none⟩ = false := KR.out.free 0
  have cR1 : w2.cell? ⟨(w.heap.size + 2), 1, none⟩ = some (.int .i64 0) := KR.out.cell 1
  have fR1 : w2.frozen? ⟨(w.heap.size + 2), 1, none⟩ = false := KR.out.free 1
  go_wp2
  refine bodyPost_ret (v := .tuple #[.agg #[.int .i64 (0), .int .i64 (0)], .int .i64 2]) (by simp [results, Try.results54, go_sem, *]) rfl ?_
  exact ⟨rfl, HX.out.two (by omega) _ _⟩

set_option maxRecDepth 100000 in
set_option maxHeartbeats 2000000 in
theorem eminus_bad (a b c d : Int) (w : World) (hn : (okS a b && okS c d) = false) :
    Calls Try.prog 55 #[.agg #[.int .i64 a, .int .i64 b], .agg #[.int .i64 c, .int .i64 d]] w (RetE w (.agg #[.int .i64 (0), .int .i64 (0)]) 2) := by
  have HB := Lib.hid hn
  clear hn
  have hXe : Ext w (((w.alloc (.cells #[.int .i64 a, .int .i64 b] 62)).alloc (.cells #[.int .i64 c, .int .i64 d] 62)).alloc (.cells #[.int .i64 0, .int .i64 0] 62)) := ((((Ext.refl w).alloc _).alloc _).alloc _)
  have kA : Blk (((w.alloc (.cells #[.int .i64 a, .int .i64 b] 62)).alloc (.cells #[.int .i64 c, .int .i64 d] 62)).alloc (.cells #[.int .i64 0, .int .i64 0] 62)) w.heap.size 62 #[.int .i64 a, .int .i64 b] := Blk.alloc (Blk.alloc (Blk.at_ (by simp)) _) _
  have kB : Blk (((w.alloc (.cells #[.int .i64 a, .int .i64 b] 62)).alloc (.cells #[.int .i64 c, .int .i64 d] 62)).alloc (.cells #[.int .i64 0, .int .i64 0] 62)) (w.heap.size + 1) 62 #[.int .i64 c, .int .i64 d] := Blk.alloc (Blk.at_ (by simp)) _
  have kR : Blk (((w.alloc (.cells #[.int .i64 a, .int .i64 b] 62)).alloc (.cells #[.int .i64 c, .int .i64 d] 62)).alloc (.cells #[.int .i64 0, .int .i64 0] 62)) (w.heap.size + 2) 62 #[.int .i64 0, .int .i64 0] := Blk.at_ (by simp)
  go_enter Try.func55, Try.ntmps55
  go_wp2_with fail
  generalize (((w.alloc (.cells #[.int .i64 a, .int .i64 b] 62)).alloc (.cells #[.int .i64 c, .int .i64 d] 62)).alloc (.cells #[.int .i64 0, .int .i64 0] 62)) = w1 at hXe kA kB kR ⊢
  have HX := Lib.hid hXe
  clear hXe
  have KA := Lib.hid kA
  clear kA
  have KB := Lib.hid kB
  clear kB
  have KR := Lib.hid kR
  clear kR
  refine (both_any a b c d _).mono ?_
  rw [HB.out]
  rintro e w2 ⟨rfl, hX⟩
  replace HX := Lib.hid (HX.out.trans hX)
  replace KA := Lib.hid (KA.out.ext hX)
  replace KB := Lib.hid (KB.out.ext hX)
  replace KR := Lib.hid (KR.out.ext hX)
  clear hX
  have cA0 : w2.cell? ⟨w.heap.size, 0, none⟩ = some (.int .i64 a) := KA.out.cell 0
  have cA1 : w2.cell? ⟨w.heap.size, 1, none⟩ = some (.int .i64 b) := KA.out.cell 1
  have cB0 : w2.cell? ⟨(w.heap.size + 1), 0, none⟩ = some (.int .i64 c) := KB.out.cell 0
  have cB1 : w2.cell? ⟨(w.heap.size + 1), 1, none⟩ = some (.int .i64 d) := KB.out.cell 1
  have cR0 : w2.cell? ⟨(w.heap.size + 2), 0, none⟩ = some (.int .i64 0) := KR.out.cell 0
  have fR0 : w2.frozen? ⟨(w.heap.size + 2), 0, none⟩ = false := KR.out.free 0
  have cR1 : w2.cell? ⟨(w.heap.size + 2), 1, none⟩ = some (.int .i64 0) := KR.out.cell 1
  have fR1 : w2.frozen? ⟨(w.heap.size + 2), 1, none⟩ = false := KR.out.free 1
  go_wp2
  refine bodyPost_ret (v := .tuple #[.agg #[.int .i64 (0), .int .i64 (0)], .int .i64 2]) (by simp [results, Try.results55, go_sem, *]) rfl ?_
  exact ⟨rfl, HX.out.two (by omega) _ _⟩

set_option maxRecDepth 100000 in
set_option maxHeartbeats 2000000 in
theorem ehull_ok (a b c d : Int) (w : World) (hab : okS a b = true) (hcd : okS c d = true) :
    Calls Try.prog 42 #[.agg #[.int .i64 a, .int .i64 b], .agg #[.int .i64 c, .int .i64 d]] w (RetE w (.agg #[.int .i64 (min a c), .int .i64 (max b d)]) 0) := by
  obtain ⟨a0, a1, a2⟩ := okS_in hab
  obtain ⟨c0, c1, c2⟩ := okS_in hcd
  have HB : Hid ((okS a b && okS c d) = true) := by show _ = _; rw [hab, hcd]; rfl
  clear hab hcd
  have hXe : Ext w (((w.alloc (.cells #[.int .i64 a, .int .i64 b] 62)).alloc (.cells #[.int .i64 c, .int .i64 d] 62)).alloc (.cells #[.int .i64 0, .int .i64 0] 62)) := ((((Ext.refl w).alloc _).alloc _).alloc _)
  have kA : Blk (((w.alloc (.cells #[.int .i64 a, .int .i64 b] 62)).alloc (.cells #[.int .i64 c, .int .i64 d] 62)).alloc (.cells #[.int .i64 0, .int .i64 0] 62)) w.heap.size 62 #[.int .i64 a, .int .i64 b] := Blk.alloc (Blk.alloc (Blk.at_ (by simp)) _) _
  have kB : Blk (((w.alloc (.cells #[.int .i64 a, .int .i64 b] 62)).alloc (.cells #[.int .i64 c, .int .i64 d] 62)).alloc (.cells #[.int .i64 0, .int .i64 0] 62)) (w.heap.size + 1) 62 #[.int .i64 c, .int .i64 d] := Blk.alloc (Blk.at_ (by simp)) _
  have kR : Blk (((w.alloc (.cells #[.int .i64 a, .int .i64 b] 62)).alloc (.cells #[.int .i64 c, .int .i64 d] 62)).alloc (.cells #[.int .i64 0, .int .i64 0] 62)) (w.heap.size + 2) 62 #[.int .i64 0, .int .i64 0] := Blk.at_ (by simp)
  go_enter Try.func42, Try.ntmps42
  go_wp2_with fail
  generalize (((w.alloc (.cells #[.int .i64 a, .int .i64 b] 62)).alloc (.cells #[.int .i64 c, .int .i64 d] 62)).alloc (.cells #[.int .i64 0, .int .i64 0] 62)) = w1 at hXe kA kB kR ⊢
  have HX := Lib.hid hXe
  clear hXe
  have KA := Lib.hid kA
  clear kA
  have KB := Lib.hid kB
  clear kB
  have KR := Lib.hid kR
  clear kR
  refine (both_any a b c d _).mono ?_
  rw [HB.out]
  rintro e w2 ⟨rfl, hX⟩
  replace HX := Lib.hid (HX.out.trans hX)
  replace KA := Lib.hid (KA.out.ext hX)
  replace KB := Lib.hid (KB.out.ext hX)
  replace KR := Lib.hid (KR.out.ext hX)
  clear hX
  have cA0 : w2.cell? ⟨w.heap.size, 0, none⟩ = some (.int .i64 a) := KA.out.cell 0
  have cA1 : w2.cell? ⟨w.heap.size, 1, none⟩ = some (.int .i64 b) := KA.out.cell 1
  have cB0 : w2.cell? ⟨(w.heap.size + 1), 0, none⟩ = some (.int .i64 c) := KB.out.cell 0
  have cB1 : w2.cell? ⟨(w.heap.size + 1), 1, none⟩ = some (.int .i64 d) := KB.out.cell 1
  have cR0 : w2.cell? ⟨(w.heap.size + 2), 0, none⟩ = some (.int .i64 0) := KR.out.cell 0
  have fR0 : w2.frozen? ⟨(w.heap.size + 2), 0, none⟩ = false := KR.out.free 0
  have cR1 : w2.cell? ⟨(w.heap.size + 2), 1, none⟩ = some (.int .i64 0) := KR.out.cell 1
  have fR1 : w2.frozen? ⟨(w.heap.size + 2), 1, none⟩ = false := KR.out.free 1
  go_wp2_with fail
  clear cA0 cA1 cB0 cB1 cR0 fR0 cR1 fR1
  refine (span_ok _ _ _ (by omega) (by omega)).mono ?_
  rintro e w3 ⟨rfl, hX⟩
  replace HX := Lib.hid (HX.out.trans hX)
  replace KA := Lib.hid (KA.out.ext hX)
  replace KB := Lib.hid (KB.out.ext hX)
  replace KR := Lib.hid (KR.out.ext hX)
  clear hX
  have cA0 : w3.cell? ⟨w.heap.size, 0, none⟩ = some (.int .i64 a) := KA.out.cell 0
  have cA1 : w3.cell? ⟨w.heap.size, 1, none⟩ = some (.int .i64 b) := KA.out.cell 1
  have cB0 : w3.cell? ⟨(w.heap.size + 1), 0, none⟩ = some (.int .i64 c) := KB.out.cell 0
  have cB1 : w3.cell? ⟨(w.heap.size + 1), 1, none⟩ = some (.int .i64 d) := KB.out.cell 1
  have cR0 : w3.cell? ⟨(w.heap.size + 2), 0, none⟩ = some (.int .i64 0) := KR.out.cell 0
  have fR0 : w3.frozen? ⟨(w.heap.size + 2), 0, none⟩ = false := KR.out.free 0
  have cR1 : w3.cell? ⟨(w.heap.size + 2), 1, none⟩ = some (.int .i64 0) := KR.out.cell 1
  have fR1 : w3.frozen? ⟨(w.heap.size + 2), 1, none⟩ = false := KR.out.free 1
  go_wp2
  refine bodyPost_ret (v := .tuple #[.agg #[.int .i64 (min a c), .int .i64 (max b d)], .int .i64 0]) (by simp [results, Try.results42, go_sem, *]) rfl ?_
  exact ⟨rfl, HX.out.two (by omega) _ _⟩

set_option maxRecDepth 100000 in
set_option maxHeartbeats 2000000 in
theorem eplus_ok (a b c d : Int) (w : World) (hab : okS a b = true) (hcd : okS c d = true) (h0 : -1152921504606846976 ≤ a + c) (h1 : b + d ≤ 1152921504606846976) :
    Calls Try.prog 54 #[.agg #[.int .i64 a, .int .i64 b], .agg #[.int .i64 c, .int .i64 d]] w (RetE w (.agg #[.int .i64 (a + c), .int .i64 (b + d)]) 0) := by
  obtain ⟨a0, a1, a2⟩ := okS_in hab
  obtain ⟨c0, c1, c2⟩ := okS_in hcd
  have HB : Hid ((okS a b && okS c d) = true) := by show _ = _; rw [hab, hcd]; rfl
  clear hab hcd
  have hXe : Ext w (((w.alloc (.cells #[.int .i64 a, .int .i64 b] 62)).alloc (.cells #[.int .i64 c, .int .i64 d] 62)).alloc (.cells #[.int .i64 0, .int .i64 0] 62)) := ((((Ext.refl w).alloc _).alloc _).alloc _)
  have kA : Blk (((w.alloc (.cells #[.int .i64 a, .int .i64 b] 62)).alloc (.cells #[.int .i64 c, .int .i64 d] 62)).alloc (.cells #[.int .i64 0, .int .i64 0] 62)) w.heap.size 62 #[.int .i64 a, .int .i64 b] := Blk.alloc (Blk.alloc (Blk.at_ (by simp)) _) _
  have kB : Blk (((w.alloc (.cells #[.int .i64 a, .int .i64 b] 62)).alloc (.cells #[.int .i64 c, .int .i64 d] 62)).alloc (.cells #[.int .i64 0, .int .i64 0] 62)) (w.heap.size + 1) 62 #[.int .i64 c, .int .i64 d] := Blk.alloc (Blk.at_ (by simp)) _
  have kR : Blk (((w.alloc (.cells #[.int .i64 a, .int .i64 b] 62)).alloc (.cells #[.int .i64 c, .int .i64 d] 62)).alloc (.cells #[.int .i64 0, .int .i64 0] 62)) (w.heap.size + 2) 62 #[.int .i64 0, .int .i64 0] := Blk.at_ (by simp)
  go_enter Try.func54, Try.ntmps54
  go_wp2_with fail
  generalize (((w.alloc (.cells #[.int .i64 a, .int .i64 b] 62)).alloc (.cells #[.int .i64 c, .int .i64 d] 62)).alloc (.cells #[.int .i64 0, .int .i64 0] 62)) = w1 at hXe kA kB kR ⊢
  have HX := Lib.hid hXe
  clear hXe
  have KA := Lib.hid kA
  clear kA
  have KB := Lib.hid kB
  clear kB
  have KR := Lib.hid kR
  clear kR
  refine (both_any a b c d _).mono ?_
  rw [HB.out]
  rintro e w2 ⟨rfl, hX⟩
  replace HX := Lib.hid (HX.out.trans hX)
  replace KA := Lib.hid (KA.out.ext hX)
  replace KB := Lib.hid (KB.out.ext hX)
  replace KR := Lib.hid (KR.out.ext hX)
  clear hX
  have cA0 : w2.cell? ⟨w.heap.size, 0, none⟩ = some (.int .i64 a) := KA.out.cell 0
  have cA1 : w2.cell? ⟨w.heap.size, 1, none⟩ = some (.int .i64 b) := KA.out.cell 1
  have cB0 : w2.cell? ⟨(w.heap.size + 1), 0, none⟩ = some (.int .i64 c) := KB.out.cell 0
  have cB1 : w2.cell? ⟨(w.heap.size + 1), 1, none⟩ = some (.int .i64 d) := KB.out.cell 1
  have cR0 : w2.cell? ⟨(w.heap.size + 2), 0, none⟩ = some (.int .i64 0) := KR.out.cell 0
  have fR0 : w2.frozen? ⟨(w.heap.size + 2), 0, none⟩ = false := KR.out.free 0
  have cR1 : w2.cell? ⟨(w.heap.size + 2), 1, none⟩ = some (.int .i64 0) := KR.out.cell 1
  have fR1 : w2.frozen? ⟨(w.heap.size + 2), 1, none⟩ = false := KR.out.free 1
  go_wp2_with fail
  clear cA0 cA1 cB0 cB1 cR0 fR0 cR1 fR1
  refine (span_ok _ _ _ (by omega) (by omega)).mono ?_
  rintro e w3 ⟨rfl, hX⟩
  replace HX := Lib.hid (HX.out.trans hX)
  replace KA := Lib.hid (KA.out.ext hX)
  replace KB := Lib.hid (KB.out.ext hX)
  replace KR := Lib.hid (KR.out.ext hX)
  clear hX
  have cA0 : w3.cell? ⟨w.heap.size, 0, none⟩ = some (.int .i64 a) := KA.out.cell 0
  have cA1 : w3.cell? ⟨w.heap.size, 1, none⟩ = some (.int .i64 b) := KA.out.cell 1
  have cB0 : w3.cell? ⟨(w.heap.size + 1), 0, none⟩ = some (.int .i64 c) := KB.out.cell 0
  have cB1 : w3.cell? ⟨(w.heap.size + 1), 1, none⟩ = some (.int .i64 d) := KB.out.cell 1
  have cR0 : w3.cell? ⟨(w.heap.size + 2), 0, none⟩ = some (.int .i64 0) := KR.out.cell 0
  have fR0 : w3.frozen? ⟨(w.heap.size + 2), 0, none⟩ = false := KR.out.free 0
  have cR1 : w3.cell? ⟨(w.heap.size + 2), 1, none⟩ = some (.int .i64 0) := KR.out.cell 1
  have fR1 : w3.frozen? ⟨(w.heap.size + 2), 1, none⟩ = false := KR.out.free 1
  go_wp2
  refine bodyPost_ret (v := .tuple #[.agg #[.int .i64 (a + c), .int .i64 (b + d)], .int .i64 0]) (by simp [results, Try.results54, go_sem, *]) rfl ?_
  exact ⟨rfl, HX.out.two (by omega) _ _⟩

set_option maxRecDepth 100000 in
set_option maxHeartbeats 2000000 in
theorem eplus_out (a b c d : Int) (w : World) (hab : okS a b = true) (hcd : okS c d = true) (h0 : a + c < -1152921504606846976 ∨ 1152921504606846976 < b + d) :
    Calls Try.prog 54 #[.agg #[.int .i64 a, .int .i64 b], .agg #[.int .i64 c, .int .i64 d]] w (RetE w (.agg #[.int .i64 (0), .int .i64 (0)]) 3) := by
  obtain ⟨a0, a1, a2⟩ := okS_in hab
  obtain ⟨c0, c1, c2⟩ := okS_in hcd
  have HB : Hid ((okS a b && okS c d) = true) := by show _ = _; rw [hab, hcd]; rfl
  clear hab hcd
  have hXe : Ext w (((w.alloc (.cells #[.int .i64 a, .int .i64 b] 62)).alloc (.cells #[.int .i64 c, .int .i64 d] 62)).alloc (.cells #[.int .i64 0, .int .i64 0] 62)) := ((((Ext.refl w).alloc _).alloc _).alloc _)
  have kA : Blk (((w.alloc (.cells #[.int .i64 a, .int .i64 b] 62)).alloc (.cells #[.int .i64 c, .int .i64 d] 62)).alloc (.cells #[.int .i64 0, .int .i64 0] 62)) w.heap.size 62 #[.int .i64 a, .int .i64 b] := Blk.alloc (Blk.alloc (Blk.at_ (by simp)) _) _
  have kB : Blk (((w.alloc (.cells #[.int .i64 a, .int .i64 b] 62)).alloc (.cells #[.int .i64 c, .int .i64 d] 62)).alloc (.cells #[.int .i64 0, .int .i64 0] 62)) (w.heap.size + 1) 62 #[.int .i64 c, .int .i64 d] := Blk.alloc (Blk.at_ (by simp)) _
  have kR : Blk (((w.alloc (.cells #[.int .i64 a, .int .i64 b] 62)).alloc (.cells #[.int .i64 c, .int .i64 d] 62)).alloc (.cells #[.int .i64 0, .int .i64 0] 62)) (w.heap.size + 2) 62 #[.int .i64 0, .int .i64 0] := Blk.at_ (by simp)
  go_enter Try.func54, Try.ntmps54
  go_wp2_with fail
  generalize (((w.alloc (.cells #[.int .i64 a, .int .i64 b] 62)).alloc (.cells #[.int .i64 c, .int .i64 d] 62)).alloc (.cells #[.int .i64 0, .int .i64 0] 62)) = w1 at hXe kA kB kR ⊢
  have HX := Lib.hid hXe
  clear hXe
  have KA := Lib.hid kA
  clear kA
  have KB := Lib.hid kB
  clear kB
  have KR := Lib.hid kR
  clear kR
  refine (both_any a b c d _).mono ?_
  rw [HB.out]
  rintro e w2 ⟨rfl, hX⟩
  replace HX := Lib.hid (HX.out.trans hX)
  replace KA := Lib.hid (KA.out.ext hX)
  replace KB := Lib.hid (KB.out.ext hX)
  replace KR := Lib.hid (KR.out.ext hX)
  clear hX
  have cA0 : w2.cell? ⟨w.heap.size, 0, none⟩ = some (.int .i64 a) := KA.out.cell 0
  have cA1 : w2.cell? ⟨w.heap.size, 1, none⟩ = some (.int .i64 b) := KA.out.cell 1
  have cB0 : w2.cell? ⟨(w.heap.size + 1), 0, none⟩ = some (.int .i64 c) := KB.out.cell 0
  have cB1 : w2.cell? ⟨(w.heap.size + 1), 1, none⟩ = some (.int .i64 d) := KB.out.cell 1
  have cR0 : w2.cell? ⟨(w.heap.size + 2), 0, none⟩ = some (.int .i64 0) := KR.out.cell 0
  have fR0 : w2.frozen? ⟨(w.heap.size + 2), 0, none⟩ = false := KR.out.free 0
  have cR1 : w2.cell? ⟨(w.heap.size + 2), 1, none⟩ = some (.int .i64 0) := KR.out.cell 1
  have fR1 : w2.frozen? ⟨(w.heap.size + 2), 1, none⟩ = false := KR.out.free 1
  go_wp2_with fail
  clear cA0 cA1 cB0 cB1 cR0 fR0 cR1 fR1
  refine (span_no _ _ _ h0).mono ?_
  rintro e w3 ⟨rfl, hX⟩
  replace HX := Lib.hid (HX.out.trans hX)
  replace KA := Lib.hid (KA.out.ext hX)
  replace KB := Lib.hid (KB.out.ext hX)
  replace KR := Lib.hid (KR.out.ext hX)
  clear hX
  have cA0 : w3.cell? ⟨w.heap.size, 0, none⟩ = some (.int .i64 a) := KA.out.cell 0
  have cA1 : w3.cell? ⟨w.heap.size, 1, none⟩ = some (.int .i64 b) := KA.out.cell 1
  have cB0 : w3.cell? ⟨(w.heap.size + 1), 0, none⟩ = some (.int .i64 c) := KB.out.cell 0
  have cB1 : w3.cell? ⟨(w.heap.size + 1), 1, none⟩ = some (.int .i64 d) := KB.out.cell 1
  have cR0 : w3.cell? ⟨(w.heap.size + 2), 0, none⟩ = some (.int .i64 0) := KR.out.cell 0
  have fR0 : w3.frozen? ⟨(w.heap.size + 2), 0, none⟩ = false := KR.out.free 0
  have cR1 : w3.cell? ⟨(w.heap.size + 2), 1, none⟩ = some (.int .i64 0) := KR.out.cell 1
  have fR1 : w3.frozen? ⟨(w.heap.size + 2), 1, none⟩ = false := KR.out.free 1
  go_wp2
  refine bodyPost_ret (v := .tuple #[.agg #[.int .i64 (0), .int .i64 (0)], .int .i64 3]) (by simp [results, Try.results54, go_sem, *]) rfl ?_
  exact ⟨rfl, HX.out.two (by omega) _ _⟩

set_option maxRecDepth 100000 in
set_option maxHeartbeats 2000000 in
theorem eminus_ok (a b c d : Int) (w : World) (hab : okS a b = true) (hcd : okS c d = true) (h0 : -1152921504606846976 ≤ a - d) (h1 : b - c ≤ 1152921504606846976) :
    Calls Try.prog 55 #[.agg #[.int .i64 a, .int .i64 b], .agg #[.int .i64 c, .int .i64 d]] w (RetE w (.agg #[.int .i64 (a - d), .int .i64 (b - c)]) 0) := by
  obtain ⟨a0, a1, a2⟩ := okS_in hab
  obtain ⟨c0, c1, c2⟩ := okS_in hcd
  have HB : Hid ((okS a b && okS c d) = true) := by show _ = _; rw [hab, hcd]; rfl
  clear hab hcd
  have hXe : Ext w (((w.alloc (.cells #[.int .i64 a, .int .i64 b] 62)).alloc (.cells #[.int .i64 c, .int .i64 d] 62)).alloc (.cells #[.int .i64 0, .int .i64 0] 62)) := ((((Ext.refl w).alloc _).alloc _).alloc _)
  have kA : Blk (((w.alloc (.cells #[.int .i64 a, .int .i64 b] 62)).alloc (.cells #[.int .i64 c, .int .i64 d] 62)).alloc (.cells #[.int .i64 0, .int .i64 0] 62)) w.heap.size 62 #[.int .i64 a, .int .i64 b] := Blk.alloc (Blk.alloc (Blk.at_ (by simp)) _) _
  have kB : Blk (((w.alloc (.cells #[.int .i64 a, .int .i64 b] 62)).alloc (.cells #[.int .i64 c, .int .i64 d] 62)).alloc (.cells #[.int .i64 0, .int .i64 0] 62)) (w.heap.size + 1) 62 #[.int .i64 c, .int .i64 d] := Blk.alloc (Blk.at_ (by simp)) _
  have kR : Blk (((w.alloc (.cells #[.int .i64 a, .int .i64 b] 62)).alloc (.cells #[.int .i64 c, .int .i64 d] 62)).alloc (.cells #[.int .i64 0, .int .i64 0] 62)) (w.heap.size + 2) 62 #[.int .i64 0, .int .i64 0] := Blk.at_ (by simp)
  go_enter Try.func55, Try.ntmps55
  go_wp2_with fail
  generalize (((w.alloc (.cells #[.int .i64 a, .int .i64 b] 62)).alloc (.cells #[.int .i64 c, .int .i64 d] 62)).alloc (.cells #[.int .i64 0, .int .i64 0] 62)) = w1 at hXe kA kB kR ⊢
  have HX := Lib.hid hXe
  clear hXe
  have KA := Lib.hid kA
  clear kA
  have KB := Lib.hid kB
  clear kB
  have KR := Lib.hid kR
  clear kR
  refine (both_any a b c d _).mono ?_
  rw [HB.out]
  rintro e w2 ⟨rfl, hX⟩
  replace HX := Lib.hid (HX.out.trans hX)
  replace KA := Lib.hid (KA.out.ext hX)
  replace KB := Lib.hid (KB.out.ext hX)
  replace KR := Lib.hid (KR.out.ext hX)
  clear hX
  have cA0 : w2.cell? ⟨w.heap.size, 0, none⟩ = some (.int .i64 a) := KA.out.cell 0
  have cA1 : w2.cell? ⟨w.heap.size, 1, none⟩ = some (.int .i64 b) := KA.out.cell 1
  have cB0 : w2.cell? ⟨(w.heap.size + 1), 0, none⟩ = some (.int .i64 c) := KB.out.cell 0
  have cB1 : w2.cell? ⟨(w.heap.size + 1), 1, none⟩ = some (.int .i64 d) := KB.out.cell 1
  have cR0 : w2.cell? ⟨(w.heap.size + 2), 0, none⟩ = some (.int .i64 0) := KR.out.cell 0
  have fR0 : w2.frozen? ⟨(w.heap.size + 2), 0, none⟩ = false := KR.out.free 0
  have cR1 : w2.cell? ⟨(w.heap.size + 2), 1, none⟩ = some (.int .i64 0) := KR.out.cell 1
  have fR1 : w2.frozen? ⟨(w.heap.size + 2), 1, none⟩ = false := KR.out.free 1
  go_wp2_with fail
  clear cA0 cA1 cB0 cB1 cR0 fR0 cR1 fR1
  refine (span_ok _ _ _ (by omega) (by omega)).mono ?_
  rintro e w3 ⟨rfl, hX⟩
  replace HX := Lib.hid (HX.out.trans hX)
  replace KA := Lib.hid (KA.out.ext hX)
  replace KB := Lib.hid (KB.out.ext hX)
  replace KR := Lib.hid (KR.out.ext hX)
  clear hX
  have cA0 : w3.cell? ⟨w.heap.size, 0, none⟩ = some (.int .i64 a) := KA.out.cell 0
  have cA1 : w3.cell? ⟨w.heap.size, 1, none⟩ = some (.int .i64 b) := KA.out.cell 1
  have cB0 : w3.cell? ⟨(w.heap.size + 1), 0, none⟩ = some (.int .i64 c) := KB.out.cell 0
  have cB1 : w3.cell? ⟨(w.heap.size + 1), 1, none⟩ = some (.int .i64 d) := KB.out.cell 1
  have cR0 : w3.cell? ⟨(w.heap.size + 2), 0, none⟩ = some (.int .i64 0) := KR.out.cell 0
  have fR0 : w3.frozen? ⟨(w.heap.size + 2), 0, none⟩ = false := KR.out.free 0
  have cR1 : w3.cell? ⟨(w.heap.size + 2), 1, none⟩ = some (.int .i64 0) := KR.out.cell 1
  have fR1 : w3.frozen? ⟨(w.heap.size + 2), 1, none⟩ = false := KR.out.free 1
  go_wp2
  refine bodyPost_ret (v := .tuple #[.agg #[.int .i64 (a - d), .int .i64 (b - c)], .int .i64 0]) (by simp [results, Try.results55, go_sem, *]) rfl ?_
  exact ⟨rfl, HX.out.two (by omega) _ _⟩

set_option maxRecDepth 100000 in
set_option maxHeartbeats 2000000 in
theorem eminus_out (a b c d : Int) (w : World) (hab : okS a b = true) (hcd : okS c d = true) (h0 : a - d < -1152921504606846976 ∨ 1152921504606846976 < b - c) :
    Calls Try.prog 55 #[.agg #[.int .i64 a, .int .i64 b], .agg #[.int .i64 c, .int .i64 d]] w (RetE w (.agg #[.int .i64 (0), .int .i64 (0)]) 3) := by
  obtain ⟨a0, a1, a2⟩ := okS_in hab
  obtain ⟨c0, c1, c2⟩ := okS_in hcd
  have HB : Hid ((okS a b && okS c d) = true) := by show _ = _; rw [hab, hcd]; rfl
  clear hab hcd
  have hXe : Ext w (((w.alloc (.cells #[.int .i64 a, .int .i64 b] 62)).alloc (.cells #[.int .i64 c, .int .i64 d] 62)).alloc (.cells #[.int .i64 0, .int .i64 0] 62)) := ((((Ext.refl w).alloc _).alloc _).alloc _)
  have kA : Blk (((w.alloc (.cells #[.int .i64 a, .int .i64 b] 62)).alloc (.cells #[.int .i64 c, .int .i64 d] 62)).alloc (.cells #[.int .i64 0, .int .i64 0] 62)) w.heap.size 62 #[.int .i64 a, .int .i64 b] := Blk.alloc (Blk.alloc (Blk.at_ (by simp)) _) _
  have kB : Blk (((w.alloc (.cells #[.int .i64 a, .int .i64 b] 62)).alloc (.cells #[.int .i64 c, .int .i64 d] 62)).alloc (.cells #[.int .i64 0, .int .i64 0] 62)) (w.heap.size + 1) 62 #[.int .i64 c, .int .i64 d] := Blk.alloc (Blk.at_ (by simp)) _
  have kR : Blk (((w.alloc (.cells #[.int .i64 a, .int .i64 b] 62)).alloc (.cells #[.int .i64 c, .int .i64 d] 62)).alloc (.cells #[.int .i64 0, .int .i64 0] 62)) (w.heap.size + 2) 62 #[.int .i64 0, .int .i64 0] := Blk.at_ (by simp)
  go_enter Try.func55, Try.ntmps55
  go_wp2_with fail
  generalize (((w.alloc (.cells #[.int .i64 a, .int .i64 b] 62)).alloc (.cells #[.int .i64 c, .int .i64 d] 62)).alloc (.cells #[.int .i64 0, .int .i64 0] 62)) = w1 at hXe kA kB kR ⊢
  have HX := Lib.hid hXe
  clear hXe
  have KA := Lib.hid kA
  clear kA
  have KB := Lib.hid kB
  clear kB
  have KR := Lib.hid kR
  clear kR
  refine (both_any a b c d _).mono ?_
  rw [HB.out]
  rintro e w2 ⟨rfl, hX⟩
  replace HX := Lib.hid (HX.out.trans hX)
  replace KA := Lib.hid (KA.out.ext hX)
  replace KB := Lib.hid (KB.out.ext hX)
  replace KR := Lib.hid (KR.out.ext hX)
  clear hX
  have cA0 : w2.cell? ⟨w.heap.size, 0, none⟩ = some (.int .i64 a) := KA.out.cell 0
  have cA1 : w2.cell? ⟨w.heap.size, 1, none⟩ = some (.int .i64 b) := KA.out.cell 1
  have cB0 : w2.cell? ⟨(w.heap.size + 1), 0, none⟩ = some (.int .i64 c) := KB.out.cell 0
  have cB1 : w2.cell? ⟨(w.heap.size + 1), 1, none⟩ = some (.int .i64 d) := KB.out.cell 1
  have cR0 : w2.cell? ⟨(w.heap.size + 2), 0, none⟩ = some (.int .i64 0) := KR.out.cell 0
  have fR0 : w2.frozen? ⟨(w.heap.size + 2), 0, none⟩ = false := KR.out.free 0
  have cR1 : w2.cell? ⟨(w.heap.size + 2), 1, none⟩ = some (.int .i64 0) := KR.out.cell 1
  have fR1 : w2.frozen? ⟨(w.heap.size + 2), 1, none⟩ = false := KR.out.free 1
  go_wp2_with fail
  clear cA0 cA1 cB0 cB1 cR0 fR0 cR1 fR1
  refine (span_no _ _ _ h0).mono ?_
  rintro e w3 ⟨rfl, hX⟩
  replace HX := Lib.hid (HX.out.trans hX)
  replace KA := Lib.hid (KA.out.ext hX)
  replace KB := Lib.hid (KB.out.ext hX)
  replace KR := Lib.hid (KR.out.ext hX)
  clear hX
  have cA0 : w3.cell? ⟨w.heap.size, 0, none⟩ = some (.int .i64 a) := KA.out.cell 0
  have cA1 : w3.cell? ⟨w.heap.size, 1, none⟩ = some (.int .i64 b) := KA.out.cell 1
  have cB0 : w3.cell? ⟨(w.heap.size + 1), 0, none⟩ = some (.int .i64 c) := KB.out.cell 0
  have cB1 : w3.cell? ⟨(w.heap.size + 1), 1, none⟩ = some (.int .i64 d) := KB.out.cell 1
  have cR0 : w3.cell? ⟨(w.heap.size + 2), 0, none⟩ = some (.int .i64 0) := KR.out.cell 0
  have fR0 : w3.frozen? ⟨(w.heap.size + 2), 0, none⟩ = false := KR.out.free 0
  have cR1 : w3.cell? ⟨(w.heap.size + 2), 1, none⟩ = some (.int .i64 0) := KR.out.cell 1
  have fR1 : w3.frozen? ⟨(w.heap.size + 2), 1, none⟩ = false := KR.out.free 1
  go_wp2
  refine bodyPost_ret (v := .tuple #[.agg #[.int .i64 (0), .int .i64 (0)], .int .i64 3]) (by simp [results, Try.results55, go_sem, *]) rfl ?_
  exact ⟨rfl, HX.out.two (by omega) _ _⟩

set_option maxRecDepth 100000 in
set_option maxHeartbeats 2000000 in
theorem egap_bad (a b c d : Int) (w : World) (hn : (okS a b && okS c d) = false) :
    Calls Try.prog 44 #[.agg #[.int .i64 a, .int .i64 b], .agg #[.int .i64 c, .int .i64 d]] w (fun e w' => e = .returned (.tuple #[.int .i64 0, .int .i64 2]) ∧ Ext w w') := by
  have HB := Lib.hid hn
  clear hn
  have hXe : Ext w ((w.alloc (.cells #[.int .i64 a, .int .i64 b] 62)).alloc (.cells #[.int .i64 c, .int .i64 d] 62)) := (((Ext.refl w).alloc _).alloc _)
  have kA : Blk ((w.alloc (.cells #[.int .i64 a, .int .i64 b] 62)).alloc (.cells #[.int .i64 c, .int .i64 d] 62)) w.heap.size 62 #[.int .i64 a, .int .i64 b] := Blk.alloc (Blk.at_ (by simp)) _
  have kB : Blk ((w.alloc (.cells #[.int .i64 a, .int .i64 b] 62)).alloc (.cells #[.int .i64 c, .int .i64 d] 62)) (w.heap.size + 1) 62 #[.int .i64 c, .int .i64 d] := Blk.at_ (by simp)
  go_enter Try.func44, Try.ntmps44
  go_wp2_with fail
  generalize ((w.alloc (.cells #[.int .i64 a, .int .i64 b] 62)).alloc (.cells #[.int .i64 c, .int .i64 d] 62)) = w1 at hXe kA kB ⊢
  have HX := Lib.hid hXe
  clear hXe
  have KA := Lib.hid kA
  clear kA
  have KB := Lib.hid kB
  clear kB
  refine (both_any a b c d _).mono ?_
  rw [HB.out]
  rintro e w2 ⟨rfl, hX⟩
  replace HX := Lib.hid (HX.out.trans hX)
  replace KA := Lib.hid (KA.out.ext hX)
  replace KB := Lib.hid (KB.out.ext hX)
  clear hX
  have cA0 : w2.cell? ⟨w.heap.size, 0, none⟩ = some (.int .i64 a) := KA.out.cell 0
  have cA1 : w2.cell? ⟨w.heap.size, 1, none⟩ = some (.int .i64 b) := KA.out.cell 1
  have cB0 : w2.cell? ⟨(w.heap.size + 1), 0, none⟩ = some (.int .i64 c) := KB.out.cell 0
  have cB1 : w2.cell? ⟨(w.heap.size + 1), 1, none⟩ = some (.int .i64 d) := KB.out.cell 1
  go_wp2
  go_ret2
  exact ⟨rfl, HX.out⟩

set_option maxRecDepth 100000 in
set_option maxHeartbeats 2000000 in
theorem egap_ok (a b c d : Int) (w : World) (hab : okS a b = true) (hcd : okS c d = true) :
    Calls Try.prog 44 #[.agg #[.int .i64 a, .int .i64 b], .agg #[.int .i64 c, .int .i64 d]] w (fun e w' => e = .returned (.tuple #[.int .i64 (max 0 (max (a - d) (c - b))), .int .i64 0]) ∧ Ext w w') := by
  obtain ⟨a0, a1, a2⟩ := okS_in hab
  obtain ⟨c0, c1, c2⟩ := okS_in hcd
  have HB : Hid ((okS a b && okS c d) = true) := by show _ = _; rw [hab, hcd]; rfl
  clear hab hcd
  have hXe : Ext w ((w.alloc (.cells #[.int .i64 a, .int .i64 b] 62)).alloc (.cells #[.int .i64 c, .int .i64 d] 62)) := (((Ext.refl w).alloc _).alloc _)
  have kA : Blk ((w.alloc (.cells #[.int .i64 a, .int .i64 b] 62)).alloc (.cells #[.int .i64 c, .int .i64 d] 62)) w.heap.size 62 #[.int .i64 a, .int .i64 b] := Blk.alloc (Blk.at_ (by simp)) _
  have kB : Blk ((w.alloc (.cells #[.int .i64 a, .int .i64 b] 62)).alloc (.cells #[.int .i64 c, .int .i64 d] 62)) (w.heap.size + 1) 62 #[.int .i64 c, .int .i64 d] := Blk.at_ (by simp)
  go_enter Try.func44, Try.ntmps44
  go_wp2_with fail
  generalize ((w.alloc (.cells #[.int .i64 a, .int .i64 b] 62)).alloc (.cells #[.int .i64 c, .int .i64 d] 62)) = w1 at hXe kA kB ⊢
  have HX := Lib.hid hXe
  clear hXe
  have KA := Lib.hid kA
  clear kA
  have KB := Lib.hid kB
  clear kB
  refine (both_any a b c d _).mono ?_
  rw [HB.out]
  rintro e w2 ⟨rfl, hX⟩
  replace HX := Lib.hid (HX.out.trans hX)
  replace KA := Lib.hid (KA.out.ext hX)
  replace KB := Lib.hid (KB.out.ext hX)
  clear hX
  have cA0 : w2.cell? ⟨w.heap.size, 0, none⟩ = some (.int .i64 a) := KA.out.cell 0
  have cA1 : w2.cell? ⟨w.heap.size, 1, none⟩ = some (.int .i64 b) := KA.out.cell 1
  have cB0 : w2.cell? ⟨(w.heap.size + 1), 0, none⟩ = some (.int .i64 c) := KB.out.cell 0
  have cB1 : w2.cell? ⟨(w.heap.size + 1), 1, none⟩ = some (.int .i64 d) := KB.out.cell 1
  go_wp2
  all_goals
    go_ret2
    exact ⟨ret_ii (by omega) rfl, HX.out⟩

set_option maxRecDepth 100000 in
set_option maxHeartbeats 2000000 in
theorem emeet_bad (a b c d : Int) (w : World) (hn : (okS a b && okS c d) = false) :
    Calls Try.prog 43 #[.agg #[.int .i64 a, .int .i64 b], .agg #[.int .i64 c, .int .i64 d]] w (RetM w (.agg #[.int .i64 (0), .int .i64 (0)]) false 2) := by
  have HB := Lib.hid hn
  clear hn
  have hXe : Ext w (((w.alloc (.cells #[.int .i64 a, .int .i64 b] 62)).alloc (.cells #[.int .i64 c, .int .i64 d] 62)).alloc (.cells #[.int .i64 0, .int .i64 0] 62)) := ((((Ext.refl w).alloc _).alloc _).alloc _)
  have kA : Blk (((w.alloc (.cells #[.int .i64 a, .int .i64 b] 62)).alloc (.cells #[.int .i64 c, .int .i64 d] 62)).alloc (.cells #[.int .i64 0, .int .i64 0] 62)) w.heap.size 62 #[.int .i64 a, .int .i64 b] := Blk.alloc (Blk.alloc (Blk.at_ (by simp)) _) _
  have kB : Blk (((w.alloc (.cells #[.int .i64 a, .int .i64 b] 62)).alloc (.cells #[.int .i64 c, .int .i64 d] 62)).alloc (.cells #[.int .i64 0, .int .i64 0] 62)) (w.heap.size + 1) 62 #[.int .i64 c, .int .i64 d] := Blk.alloc (Blk.at_ (by simp)) _
  have kR : Blk (((w.alloc (.cells #[.int .i64 a, .int .i64 b] 62)).alloc (.cells #[.int .i64 c, .int .i64 d] 62)).alloc (.cells #[.int .i64 0, .int .i64 0] 62)) (w.heap.size + 2) 62 #[.int .i64 0, .int .i64 0] := Blk.at_ (by simp)
  go_enter Try.func43, Try.ntmps43
  go_wp2_with fail
  generalize (((w.alloc (.cells #[.int .i64 a, .int .i64 b] 62)).alloc (.cells #[.int .i64 c, .int .i64 d] 62)).alloc (.cells #[.int .i64 0, .int .i64 0] 62)) = w1 at hXe kA kB kR ⊢
  have HX := Lib.hid hXe
  clear hXe
  have KA := Lib.hid kA
  clear kA
  have KB := Lib.hid kB
  clear kB
  have KR := Lib.hid kR
  clear kR
  refine (both_any a b c d _).mono ?_
  rw [HB.out]
  rintro e w2 ⟨rfl, hX⟩
  replace HX := Lib.hid (HX.out.trans hX)
  replace KA := Lib.hid (KA.out.ext hX)
  replace KB := Lib.hid (KB.out.ext hX)
  replace KR := Lib.hid (KR.out.ext hX)
  clear hX
  have cA0 : w2.cell? ⟨w.heap.size, 0, none⟩ = some (.int .i64 a) := KA.out.cell 0
  have cA1 : w2.cell? ⟨w.heap.size, 1, none⟩ = some (.int .i64 b) := KA.out.cell 1
  have cB0 : w2.cell? ⟨(w.heap.size + 1), 0, none⟩ = some (.int .i64 c) := KB.out.cell 0
  have cB1 : w2.cell? ⟨(w.heap.size + 1), 1, none⟩ = some (.int .i64 d) := KB.out.cell 1
  have cR0 : w2.cell? ⟨(w.heap.size + 2), 0, none⟩ = some (.int .i64 0) := KR.out.cell 0
  have fR0 : w2.frozen? ⟨(w.heap.size + 2), 0, none⟩ = false := KR.out.free 0
  have cR1 : w2.cell? ⟨(w.heap.size + 2), 1, none⟩ = some (.int .i64 0) := KR.out.cell 1
  have fR1 : w2.frozen? ⟨(w.heap.size + 2), 1, none⟩ = false := KR.out.free 1
  go_wp2
  refine bodyPost_ret (v := .tuple #[.agg #[.int .i64 (0), .int .i64 (0)], .bool false, .int .i64 2]) (by simp [results, Try.results43, go_sem, *]) rfl ?_
  exact ⟨rfl, HX.out.two (by omega) _ _⟩

set_option maxRecDepth 100000 in
set_option maxHeartbeats 2000000 in
theorem emeet_ok (a b c d : Int) (w : World) (hab : okS a b = true) (hcd : okS c d = true) (hm : max a c ≤ min b d) :
    Calls Try.prog 43 #[.agg #[.int .i64 a, .int .i64 b], .agg #[.int .i64 c, .int .i64 d]] w (RetM w (.agg #[.int .i64 (max a c), .int .i64 (min b d)]) true 0) := by
  obtain ⟨a0, a1, a2⟩ := okS_in hab
  obtain ⟨c0, c1, c2⟩ := okS_in hcd
  have HB : Hid ((okS a b && okS c d) = true) := by show _ = _; rw [hab, hcd]; rfl
  clear hab hcd
  have hXe : Ext w (((w.alloc (.cells #[.int .i64 a, .int .i64 b] 62)).alloc (.cells #[.int .i64 c, .int .i64 d] 62)).alloc (.cells #[.int .i64 0, .int .i64 0] 62)) := ((((Ext.refl w).alloc _).alloc _).alloc _)
  have kA : Blk (((w.alloc (.cells #[.int .i64 a, .int .i64 b] 62)).alloc (.cells #[.int .i64 c, .int .i64 d] 62)).alloc (.cells #[.int .i64 0, .int .i64 0] 62)) w.heap.size 62 #[.int .i64 a, .int .i64 b] := Blk.alloc (Blk.alloc (Blk.at_ (by simp)) _) _
  have kB : Blk (((w.alloc (.cells #[.int .i64 a, .int .i64 b] 62)).alloc (.cells #[.int .i64 c, .int .i64 d] 62)).alloc (.cells #[.int .i64 0, .int .i64 0] 62)) (w.heap.size + 1) 62 #[.int .i64 c, .int .i64 d] := Blk.alloc (Blk.at_ (by simp)) _
  have kR : Blk (((w.alloc (.cells #[.int .i64 a, .int .i64 b] 62)).alloc (.cells #[.int .i64 c, .int .i64 d] 62)).alloc (.cells #[.int .i64 0, .int .i64 0] 62)) (w.heap.size + 2) 62 #[.int .i64 0, .int .i64 0] := Blk.at_ (by simp)
  go_enter Try.func43, Try.ntmps43
  go_wp2_with fail
  generalize (((w.alloc (.cells #[.int .i64 a, .int .i64 b] 62)).alloc (.cells #[.int .i64 c, .int .i64 d] 62)).alloc (.cells #[.int .i64 0, .int .i64 0] 62)) = w1 at hXe kA kB kR ⊢
  have HX := Lib.hid hXe
  clear hXe
  have KA := Lib.hid kA
  clear kA
  have KB := Lib.hid kB
  clear kB
  have KR := Lib.hid kR
  clear kR
  refine (both_any a b c d _).mono ?_
  rw [HB.out]
  rintro e w2 ⟨rfl, hX⟩
  replace HX := Lib.hid (HX.out.trans hX)
  replace KA := Lib.hid (KA.out.ext hX)
  replace KB := Lib.hid (KB.out.ext hX)
  replace KR := Lib.hid (KR.out.ext hX)
  clear hX
  have cA0 : w2.cell? ⟨w.heap.size, 0, none⟩ = some (.int .i64 a) := KA.out.cell 0
  have cA1 : w2.cell? ⟨w.heap.size, 1, none⟩ = some (.int .i64 b) := KA.out.cell 1
  have cB0 : w2.cell? ⟨(w.heap.size + 1), 0, none⟩ = some (.int .i64 c) := KB.out.cell 0
  have cB1 : w2.cell? ⟨(w.heap.size + 1), 1, none⟩ = some (.int .i64 d) := KB.out.cell 1
  have cR0 : w2.cell? ⟨(w.heap.size + 2), 0, none⟩ = some (.int .i64 0) := KR.out.cell 0
  have fR0 : w2.frozen? ⟨(w.heap.size + 2), 0, none⟩ = false := KR.out.free 0
  have cR1 : w2.cell? ⟨(w.heap.size + 2), 1, none⟩ = some (.int .i64 0) := KR.out.cell 1
  have fR1 : w2.frozen? ⟨(w.heap.size + 2), 1, none⟩ = false := KR.out.free 1
  go_wp2_with fail
  go_quiet (fail)
  go_wp2
  refine bodyPost_ret (v := .tuple #[.agg #[.int .i64 (max a c), .int .i64 (min b d)], .bool true, .int .i64 0]) (by simp [results, Try.results43, go_sem, *]) rfl ?_
  exact ⟨rfl, (HX.out.drewN _).two (by omega) _ _⟩

set_option maxRecDepth 100000 in
set_option maxHeartbeats 2000000 in
theorem emeet_no (a b c d : Int) (w : World) (hab : okS a b = true) (hcd : okS c d = true) (hm : min b d < max a c) :
    Calls Try.prog 43 #[.agg #[.int .i64 a, .int .i64 b], .agg #[.int .i64 c, .int .i64 d]] w (RetM w (.agg #[.int .i64 (0), .int .i64 (0)]) false 0) := by
  obtain ⟨a0, a1, a2⟩ := okS_in hab
  obtain ⟨c0, c1, c2⟩ := okS_in hcd
  have HB : Hid ((okS a b && okS c d) = true) := by show _ = _; rw [hab, hcd]; rfl
  clear hab hcd
  have hXe : Ext w (((w.alloc (.cells #[.int .i64 a, .int .i64 b] 62)).alloc (.cells #[.int .i64 c, .int .i64 d] 62)).alloc (.cells #[.int .i64 0, .int .i64 0] 62)) := ((((Ext.refl w).alloc _).alloc _).alloc _)
  have kA : Blk (((w.alloc (.cells #[.int .i64 a, .int .i64 b] 62)).alloc (.cells #[.int .i64 c, .int .i64 d] 62)).alloc (.cells #[.int .i64 0, .int .i64 0] 62)) w.heap.size 62 #[.int .i64 a, .int .i64 b] := Blk.alloc (Blk.alloc (Blk.at_ (by simp)) _) _
  have kB : Blk (((w.alloc (.cells #[.int .i64 a, .int .i64 b] 62)).alloc (.cells #[.int .i64 c, .int .i64 d] 62)).alloc (.cells #[.int .i64 0, .int .i64 0] 62)) (w.heap.size + 1) 62 #[.int .i64 c, .int .i64 d] := Blk.alloc (Blk.at_ (by simp)) _
  have kR : Blk (((w.alloc (.cells #[.int .i64 a, .int .i64 b] 62)).alloc (.cells #[.int .i64 c, .int .i64 d] 62)).alloc (.cells #[.int .i64 0, .int .i64 0] 62)) (w.heap.size + 2) 62 #[.int .i64 0, .int .i64 0] := Blk.at_ (by simp)
  go_enter Try.func43, Try.ntmps43
  go_wp2_with fail
  generalize (((w.alloc (.cells #[.int .i64 a, .int .i64 b] 62)).alloc (.cells #[.int .i64 c, .int .i64 d] 62)).alloc (.cells #[.int .i64 0, .int .i64 0] 62)) = w1 at hXe kA kB kR ⊢
  have HX := Lib.hid hXe
  clear hXe
  have KA := Lib.hid kA
  clear kA
  have KB := Lib.hid kB
  clear kB
  have KR := Lib.hid kR
  clear kR
  refine (both_any a b c d _).mono ?_
  rw [HB.out]
  rintro e w2 ⟨rfl, hX⟩
  replace HX := Lib.hid (HX.out.trans hX)
  replace KA := Lib.hid (KA.out.ext hX)
  replace KB := Lib.hid (KB.out.ext hX)
  replace KR := Lib.hid (KR.out.ext hX)
  clear hX
  have cA0 : w2.cell? ⟨w.heap.size, 0, none⟩ = some (.int .i64 a) := KA.out.cell 0
  have cA1 : w2.cell? ⟨w.heap.size, 1, none⟩ = some (.int .i64 b) := KA.out.cell 1
  have cB0 : w2.cell? ⟨(w.heap.size + 1), 0, none⟩ = some (.int .i64 c) := KB.out.cell 0
  have cB1 : w2.cell? ⟨(w.heap.size + 1), 1, none⟩ = some (.int .i64 d) := KB.out.cell 1
  have cR0 : w2.cell? ⟨(w.heap.size + 2), 0, none⟩ = some (.int .i64 0) := KR.out.cell 0
  have fR0 : w2.frozen? ⟨(w.heap.size + 2), 0, none⟩ = false := KR.out.free 0
  have cR1 : w2.cell? ⟨(w.heap.size + 2), 1, none⟩ = some (.int .i64 0) := KR.out.cell 1
  have fR1 : w2.frozen? ⟨(w.heap.size + 2), 1, none⟩ = false := KR.out.free 1
  go_wp2_with fail
  go_quiet (fail)
  go_wp2
  refine bodyPost_ret (v := .tuple #[.agg #[.int .i64 (0), .int .i64 (0)], .bool false, .int .i64 0]) (by simp [results, Try.results43, go_sem, *]) rfl ?_
  exact ⟨rfl, (HX.out.drewN _).two (by omega) _ _⟩

end Go.Proofs.Yteoijnaljkagfaa
