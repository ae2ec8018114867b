/- Lemmas of the proof that follows (Spans, part 11): walks of functions by contract, and plain lemmas. Conditions: none. -/
import Derived.Test.YteoijnaljkagfaaSpansJ
namespace Go.Proofs.Yteoijnaljkagfaa
open Go.RowKit

theorem sgnQ_cast (x y : Int) : sgnQ ((y : Rat) - (x : Rat)) = sgI (y - x) := by rw [← Rat.intCast_sub, sgnQ_int]
theorem low_int {qs : List Rat} {k : Nat} {x y : Int} (hq : qs[k + 1]? = some ((y : Int) : Rat)) (ha : lowN qs k = ((x : Int) : Rat)) : lowN qs (k + 1) = ((min x y : Int) : Rat) := by
  rw [low_next hq ha, sgnQ_cast]
  by_cases h : y < x
  · rw [if_pos (by unfold sgI; rw [if_pos (by omega)]; omega), show min x y = y by omega]
  · rw [if_neg (by unfold sgI; rw [if_neg (by omega)]; split <;> omega), show min x y = x by omega]
theorem high_int {qs : List Rat} {k : Nat} {x y : Int} (hq : qs[k + 1]? = some ((y : Int) : Rat)) (ha : highN qs k = ((x : Int) : Rat)) : highN qs (k + 1) = ((max x y : Int) : Rat) := by
  rw [high_next hq ha, sgnQ_cast]
  by_cases h : x < y
  · rw [if_pos (by unfold sgI; rw [if_neg (by omega), if_pos (by omega)]; omega), show max x y = y by omega]
  · rw [if_neg (by unfold sgI; split; omega; rw [if_neg (by omega)]; omega), show max x y = x by omega]
theorem four_ints {z0 z1 z2 z3 : Int} {qs : List Rat} (h : qs = [(z0 : Rat), (z1 : Rat), (z2 : Rat), (z3 : Rat)]) : (lowN qs 3).floor = min (min (min z0 z1) z2) z3 ∧ -(-(highN qs 3)).floor = max (max (max z0 z1) z2) z3 := by
  subst h
  have l1 := low_int (qs := [(z0 : Rat), (z1 : Rat), (z2 : Rat), (z3 : Rat)]) (k := 0) (x := z0) (y := z1) rfl rfl
  have l2 := low_int (qs := [(z0 : Rat), (z1 : Rat), (z2 : Rat), (z3 : Rat)]) (k := 1) (y := z2) rfl l1
  have l3 := low_int (qs := [(z0 : Rat), (z1 : Rat), (z2 : Rat), (z3 : Rat)]) (k := 2) (y := z3) rfl l2
  have h1 := high_int (qs := [(z0 : Rat), (z1 : Rat), (z2 : Rat), (z3 : Rat)]) (k := 0) (x := z0) (y := z1) rfl rfl
  have h2 := high_int (qs := [(z0 : Rat), (z1 : Rat), (z2 : Rat), (z3 : Rat)]) (k := 1) (y := z2) rfl h1
  have h3 := high_int (qs := [(z0 : Rat), (z1 : Rat), (z2 : Rat), (z3 : Rat)]) (k := 2) (y := z3) rfl h2
  rw [l3, h3, ← Rat.intCast_neg, Rat.floor_intCast, Rat.floor_intCast]
  exact ⟨rfl, by omega⟩
theorem endE_iff {z : Int} : endE z = 0 ↔ -1152921504606846976 ≤ z ∧ z ≤ 1152921504606846976 := ⟨endE_zero, fun h => (end_in h).2⟩
theorem min_in {a b L H : Int} (ha : L ≤ a ∧ a ≤ H) (hb : L ≤ b ∧ b ≤ H) : L ≤ min a b ∧ min a b ≤ H := by omega
theorem max_in {a b L H : Int} (ha : L ≤ a ∧ a ≤ H) (hb : L ≤ b ∧ b ≤ H) : L ≤ max a b ∧ max a b ≤ H := by omega
theorem inN_end {z : Int} : inN z = decide (endE z = 0) := by
  unfold inN
  by_cases h : -1152921504606846976 ≤ z ∧ z ≤ 1152921504606846976
  · rw [decide_eq_true h, decide_eq_true (endE_iff.2 h)]
  · rw [decide_eq_false h, decide_eq_false (fun k => h (endE_iff.1 k))]

set_option maxRecDepth 100000 in
set_option maxHeartbeats 2000000 in
theorem rhull_ba (xa xb xc xd : Int) (w : World) (h : okS xa xb = false) :
    Calls Try.prog 69 #[.agg #[.int .i64 xa, .int .i64 xb], .agg #[.int .i64 xc, .int .i64 xd]] w (fun e w' => e = .returned (.tuple #[.agg #[.int .i64 0, .int .i64 0], .int .i64 2]) ∧ Ext w w') := by
  have HA := Lib.hid h
  clear h
  have hXe : Ext w (((w.alloc (.cells #[.int .i64 xa, .int .i64 xb] 62)).alloc (.cells #[.int .i64 xc, .int .i64 xd] 62)).alloc (.cells #[.int .i64 0, .int .i64 0] 62)) := ((((Ext.refl w).alloc _).alloc _).alloc _)
  have kA : Blk (((w.alloc (.cells #[.int .i64 xa, .int .i64 xb] 62)).alloc (.cells #[.int .i64 xc, .int .i64 xd] 62)).alloc (.cells #[.int .i64 0, .int .i64 0] 62)) w.heap.size 62 #[.int .i64 xa, .int .i64 xb] := Blk.alloc (Blk.alloc (Blk.at_ (by simp)) _) _
  have kB : Blk (((w.alloc (.cells #[.int .i64 xa, .int .i64 xb] 62)).alloc (.cells #[.int .i64 xc, .int .i64 xd] 62)).alloc (.cells #[.int .i64 0, .int .i64 0] 62)) (w.heap.size + 1) 62 #[.int .i64 xc, .int .i64 xd] := Blk.alloc (Blk.at_ (by simp)) _
  have kR : Blk (((w.alloc (.cells #[.int .i64 xa, .int .i64 xb] 62)).alloc (.cells #[.int .i64 xc, .int .i64 xd] 62)).alloc (.cells #[.int .i64 0, .int .i64 0] 62)) (w.heap.size + 2) 62 #[.int .i64 0, .int .i64 0] := Blk.at_ (by simp)
  go_enter Try.func69, Try.ntmps69
  go_wp2_with fail
  generalize (((w.alloc (.cells #[.int .i64 xa, .int .i64 xb] 62)).alloc (.cells #[.int .i64 xc, .int .i64 xd] 62)).alloc (.cells #[.int .i64 0, .int .i64 0] 62)) = w1 at hXe kA kB kR ⊢
  have HX := Lib.hid hXe
  clear hXe
  have KA := Lib.hid kA
  clear kA
  have KB := Lib.hid kB
  clear kB
  have KR := Lib.hid kR
  clear kR
  have cA0 : w1.cell? ⟨w.heap.size, 0, none⟩ = some (.int .i64 xa) := KA.out.cell 0
  have cA1 : w1.cell? ⟨w.heap.size, 1, none⟩ = some (.int .i64 xb) := KA.out.cell 1
  have cB0 : w1.cell? ⟨(w.heap.size + 1), 0, none⟩ = some (.int .i64 xc) := KB.out.cell 0
  have cB1 : w1.cell? ⟨(w.heap.size + 1), 1, none⟩ = some (.int .i64 xd) := KB.out.cell 1
  go_wp2_with fail
  clear cA0 cA1 cB0 cB1
  refine (rvalid_is HA.out _).mono ?_
  rintro e w2 ⟨rfl, hX⟩
  replace hX : Ext w1 w2 := by with_reducible exact hX
  replace HX := Lib.hid (HX.out.trans hX)
  replace KA := Lib.hid (KA.out.ext hX)
  replace KB := Lib.hid (KB.out.ext hX)
  replace KR := Lib.hid (KR.out.ext hX)
  clear hX
  have cR0 : w2.cell? ⟨(w.heap.size + 2), 0, none⟩ = some (.int .i64 0) := KR.out.cell 0
  have fR0 : w2.frozen? ⟨(w.heap.size + 2), 0, none⟩ = false := KR.out.free 0
  have cR1 : w2.cell? ⟨(w.heap.size + 2), 1, none⟩ = some (.int .i64 0) := KR.out.cell 1
  have fR1 : w2.frozen? ⟨(w.heap.size + 2), 1, none⟩ = false := KR.out.free 1
  go_wp2
  refine bodyPost_ret (v := .tuple #[.agg #[.int .i64 0, .int .i64 0], .int .i64 2]) (by simp [results, Try.results69, go_sem, *]) rfl ?_
  exact ⟨rfl, HX.out.two (by omega) _ _⟩

set_option maxRecDepth 100000 in
set_option maxHeartbeats 2000000 in
theorem rhull_bb (xa xb xc xd : Int) (w : World) (h : okS xa xb = true) (k : okS xc xd = false) :
    Calls Try.prog 69 #[.agg #[.int .i64 xa, .int .i64 xb], .agg #[.int .i64 xc, .int .i64 xd]] w (fun e w' => e = .returned (.tuple #[.agg #[.int .i64 0, .int .i64 0], .int .i64 2]) ∧ Ext w w') := by
  have HA := Lib.hid h
  clear h
  have HB := Lib.hid k
  clear k
  have hXe : Ext w (((w.alloc (.cells #[.int .i64 xa, .int .i64 xb] 62)).alloc (.cells #[.int .i64 xc, .int .i64 xd] 62)).alloc (.cells #[.int .i64 0, .int .i64 0] 62)) := ((((Ext.refl w).alloc _).alloc _).alloc _)
  have kA : Blk (((w.alloc (.cells #[.int .i64 xa, .int .i64 xb] 62)).alloc (.cells #[.int .i64 xc, .int .i64 xd] 62)).alloc (.cells #[.int .i64 0, .int .i64 0] 62)) w.heap.size 62 #[.int .i64 xa, .int .i64 xb] := Blk.alloc (Blk.alloc (Blk.at_ (by simp)) _) _
  have kB : Blk (((w.alloc (.cells #[.int .i64 xa, .int .i64 xb] 62)).alloc (.cells #[.int .i64 xc, .int .i64 xd] 62)).alloc (.cells #[.int .i64 0, .int .i64 0] 62)) (w.heap.size + 1) 62 #[.int .i64 xc, .int .i64 xd] := Blk.alloc (Blk.at_ (by simp)) _
  have kR : Blk (((w.alloc (.cells #[.int .i64 xa, .int .i64 xb] 62)).alloc (.cells #[.int .i64 xc, .int .i64 xd] 62)).alloc (.cells #[.int .i64 0, .int .i64 0] 62)) (w.heap.size + 2) 62 #[.int .i64 0, .int .i64 0] := Blk.at_ (by simp)
  go_enter Try.func69, Try.ntmps69
  go_wp2_with fail
  generalize (((w.alloc (.cells #[.int .i64 xa, .int .i64 xb] 62)).alloc (.cells #[.int .i64 xc, .int .i64 xd] 62)).alloc (.cells #[.int .i64 0, .int .i64 0] 62)) = w1 at hXe kA kB kR ⊢
  have HX := Lib.hid hXe
  clear hXe
  have KA := Lib.hid kA
  clear kA
  have KB := Lib.hid kB
  clear kB
  have KR := Lib.hid kR
  clear kR
  have cA0 : w1.cell? ⟨w.heap.size, 0, none⟩ = some (.int .i64 xa) := KA.out.cell 0
  have cA1 : w1.cell? ⟨w.heap.size, 1, none⟩ = some (.int .i64 xb) := KA.out.cell 1
  have cB0 : w1.cell? ⟨(w.heap.size + 1), 0, none⟩ = some (.int .i64 xc) := KB.out.cell 0
  have cB1 : w1.cell? ⟨(w.heap.size + 1), 1, none⟩ = some (.int .i64 xd) := KB.out.cell 1
  go_wp2_with fail
  clear cA0 cA1 cB0 cB1
  refine (rvalid_is HA.out _).mono ?_
  rintro e w2 ⟨rfl, hX⟩
  replace hX : Ext w1 w2 := by with_reducible exact hX
  replace HX := Lib.hid (HX.out.trans hX)
  replace KA := Lib.hid (KA.out.ext hX)
  replace KB := Lib.hid (KB.out.ext hX)
  replace KR := Lib.hid (KR.out.ext hX)
  clear hX
  have cB0 : w2.cell? ⟨(w.heap.size + 1), 0, none⟩ = some (.int .i64 xc) := KB.out.cell 0
  have cB1 : w2.cell? ⟨(w.heap.size + 1), 1, none⟩ = some (.int .i64 xd) := KB.out.cell 1
  go_wp2_with fail
  clear cB0 cB1
  refine (rvalid_is HB.out _).mono ?_
  rintro e w3 ⟨rfl, hX⟩
  replace hX : Ext w2 w3 := by with_reducible exact hX
  replace HX := Lib.hid (HX.out.trans hX)
  replace KA := Lib.hid (KA.out.ext hX)
  replace KB := Lib.hid (KB.out.ext hX)
  replace KR := Lib.hid (KR.out.ext hX)
  clear hX
  have cR0 : w3.cell? ⟨(w.heap.size + 2), 0, none⟩ = some (.int .i64 0) := KR.out.cell 0
  have fR0 : w3.frozen? ⟨(w.heap.size + 2), 0, none⟩ = false := KR.out.free 0
  have cR1 : w3.cell? ⟨(w.heap.size + 2), 1, none⟩ = some (.int .i64 0) := KR.out.cell 1
  have fR1 : w3.frozen? ⟨(w.heap.size + 2), 1, none⟩ = false := KR.out.free 1
  go_wp2
  refine bodyPost_ret (v := .tuple #[.agg #[.int .i64 0, .int .i64 0], .int .i64 2]) (by simp [results, Try.results69, go_sem, *]) rfl ?_
  exact ⟨rfl, HX.out.two (by omega) _ _⟩

set_option maxRecDepth 100000 in
set_option maxHeartbeats 2000000 in
theorem rmeet_ba (xa xb xc xd : Int) (w : World) (h : okS xa xb = false) :
    Calls Try.prog 70 #[.agg #[.int .i64 xa, .int .i64 xb], .agg #[.int .i64 xc, .int .i64 xd]] w (fun e w' => e = .returned (.tuple #[.agg #[.int .i64 0, .int .i64 0], .bool false, .int .i64 2]) ∧ Ext w w') := by
  have HA := Lib.hid h
  clear h
  have hXe : Ext w (((w.alloc (.cells #[.int .i64 xa, .int .i64 xb] 62)).alloc (.cells #[.int .i64 xc, .int .i64 xd] 62)).alloc (.cells #[.int .i64 0, .int .i64 0] 62)) := ((((Ext.refl w).alloc _).alloc _).alloc _)
  have kA : Blk (((w.alloc (.cells #[.int .i64 xa, .int .i64 xb] 62)).alloc (.cells #[.int .i64 xc, .int .i64 xd] 62)).alloc (.cells #[.int .i64 0, .int .i64 0] 62)) w.heap.size 62 #[.int .i64 xa, .int .i64 xb] := Blk.alloc (Blk.alloc (Blk.at_ (by simp)) _) _
  have kB : Blk (((w.alloc (.cells #[.int .i64 xa, .int .i64 xb] 62)).alloc (.cells #[.int .i64 xc, .int .i64 xd] 62)).alloc (.cells #[.int .i64 0, .int .i64 0] 62)) (w.heap.size + 1) 62 #[.int .i64 xc, .int .i64 xd] := Blk.alloc (Blk.at_ (by simp)) _
  have kR : Blk (((w.alloc (.cells #[.int .i64 xa, .int .i64 xb] 62)).alloc (.cells #[.int .i64 xc, .int .i64 xd] 62)).alloc (.cells #[.int .i64 0, .int .i64 0] 62)) (w.heap.size + 2) 62 #[.int .i64 0, .int .i64 0] := Blk.at_ (by simp)
  go_enter Try.func70, Try.ntmps70
  go_wp2_with fail
  generalize (((w.alloc (.cells #[.int .i64 xa, .int .i64 xb] 62)).alloc (.cells #[.int .i64 xc, .int .i64 xd] 62)).alloc (.cells #[.int .i64 0, .int .i64 0] 62)) = w1 at hXe kA kB kR ⊢
  have HX := Lib.hid hXe
  clear hXe
  have KA := Lib.hid kA
  clear kA
  have KB := Lib.hid kB
  clear kB
  have KR := Lib.hid kR
  clear kR
  have cA0 : w1.cell? ⟨w.heap.size, 0, none⟩ = some (.int .i64 xa) := KA.out.cell 0
  have cA1 : w1.cell? ⟨w.heap.size, 1, none⟩ = some (.int .i64 xb) := KA.out.cell 1
  have cB0 : w1.cell? ⟨(w.heap.size + 1), 0, none⟩ = some (.int .i64 xc) := KB.out.cell 0
  have cB1 : w1.cell? ⟨(w.heap.size + 1), 1, none⟩ = some (.int .i64 xd) := KB.out.cell 1
  go_wp2_with fail
  clear cA0 cA1 cB0 cB1
  refine (rvalid_is HA.out _).mono ?_
  rintro e w2 ⟨rfl, hX⟩
  replace hX : Ext w1 w2 := by with_reducible exact hX
  replace HX := Lib.hid (HX.out.trans hX)
  replace KA := Lib.hid (KA.out.ext hX)
  replace KB := Lib.hid (KB.out.ext hX)
  replace KR := Lib.hid (KR.out.ext hX)
  clear hX
  have cR0 : w2.cell? ⟨(w.heap.size + 2), 0, none⟩ = some (.int .i64 0) := KR.out.cell 0
  have fR0 : w2.frozen? ⟨(w.heap.size + 2), 0, none⟩ = false := KR.out.free 0
  have cR1 : w2.cell? ⟨(w.heap.size + 2), 1, none⟩ = some (.int .i64 0) := KR.out.cell 1
  have fR1 : w2.frozen? ⟨(w.heap.size + 2), 1, none⟩ = false := KR.out.free 1
  go_wp2
  refine bodyPost_ret (v := .tuple #[.agg #[.int .i64 0, .int .i64 0], .bool false, .int .i64 2]) (by simp [results, Try.results70, go_sem, *]) rfl ?_
  exact ⟨rfl, HX.out.two (by omega) _ _⟩

set_option maxRecDepth 100000 in
set_option maxHeartbeats 2000000 in
theorem rmeet_bb (xa xb xc xd : Int) (w : World) (h : okS xa xb = true) (k : okS xc xd = false) :
    Calls Try.prog 70 #[.agg #[.int .i64 xa, .int .i64 xb], .agg #[.int .i64 xc, .int .i64 xd]] w (fun e w' => e = .returned (.tuple #[.agg #[.int .i64 0, .int .i64 0], .bool false, .int .i64 2]) ∧ Ext w w') := by
  have HA := Lib.hid h
  clear h
  have HB := Lib.hid k
  clear k
  have hXe : Ext w (((w.alloc (.cells #[.int .i64 xa, .int .i64 xb] 62)).alloc (.cells #[.int .i64 xc, .int .i64 xd] 62)).alloc (.cells #[.int .i64 0, .int .i64 0] 62)) := ((((Ext.refl w).alloc _).alloc _).alloc _)
  have kA : Blk (((w.alloc (.cells #[.int .i64 xa, .int .i64 xb] 62)).alloc (.cells #[.int .i64 xc, .int .i64 xd] 62)).alloc (.cells #[.int .i64 0, .int .i64 0] 62)) w.heap.size 62 #[.int .i64 xa, .int .i64 xb] := Blk.alloc (Blk.alloc (Blk.at_ (by simp)) _) _
  have kB : Blk (((w.alloc (.cells #[.int .i64 xa, .int .i64 xb] 62)).alloc (.cells #[.int .i64 xc, .int .i64 xd] 62)).alloc (.cells #[.int .i64 0, .int .i64 0] 62)) (w.heap.size + 1) 62 #[.int .i64 xc, .int .i64 xd] := Blk.alloc (Blk.at_ (by simp)) _
  have kR : Blk (((w.alloc (.cells #[.int .i64 xa, .int .i64 xb] 62)).alloc (.cells #[.int .i64 xc, .int .i64 xd] 62)).alloc (.cells #[.int .i64 0, .int .i64 0] 62)) (w.heap.size + 2) 62 #[.int .i64 0, .int .i64 0] := Blk.at_ (by simp)
  go_enter Try.func70, Try.ntmps70
  go_wp2_with fail
  generalize (((w.alloc (.cells #[.int .i64 xa, .int .i64 xb] 62)).alloc (.cells #[.int .i64 xc, .int .i64 xd] 62)).alloc (.cells #[.int .i64 0, .int .i64 0] 62)) = w1 at hXe kA kB kR ⊢
  have HX := Lib.hid hXe
  clear hXe
  have KA := Lib.hid kA
  clear kA
  have KB := Lib.hid kB
  clear kB
  have KR := Lib.hid kR
  clear kR
  have cA0 : w1.cell? ⟨w.heap.size, 0, none⟩ = some (.int .i64 xa) := KA.out.cell 0
  have cA1 : w1.cell? ⟨w.heap.size, 1, none⟩ = some (.int .i64 xb) := KA.out.cell 1
  have cB0 : w1.cell? ⟨(w.heap.size + 1), 0, none⟩ = some (.int .i64 xc) := KB.out.cell 0
  have cB1 : w1.cell? ⟨(w.heap.size + 1), 1, none⟩ = some (.int .i64 xd) := KB.out.cell 1
  go_wp2_with fail
  clear cA0 cA1 cB0 cB1
  refine (rvalid_is HA.out _).mono ?_
  rintro e w2 ⟨rfl, hX⟩
  replace hX : Ext w1 w2 := by with_reducible exact hX
  replace HX := Lib.hid (HX.out.trans hX)
  replace KA := Lib.hid (KA.out.ext hX)
  replace KB := Lib.hid (KB.out.ext hX)
  replace KR := Lib.hid (KR.out.ext hX)
  clear hX
  have cB0 : w2.cell? ⟨(w.heap.size + 1), 0, none⟩ = some (.int .i64 xc) := KB.out.cell 0
  have cB1 : w2.cell? ⟨(w.heap.size + 1), 1, none⟩ = some (.int .i64 xd) := KB.out.cell 1
  go_wp2_with fail
  clear cB0 cB1
  refine (rvalid_is HB.out _).mono ?_
  rintro e w3 ⟨rfl, hX⟩
  replace hX : Ext w2 w3 := by with_reducible exact hX
  replace HX := Lib.hid (HX.out.trans hX)
  replace KA := Lib.hid (KA.out.ext hX)
  replace KB := Lib.hid (KB.out.ext hX)
  replace KR := Lib.hid (KR.out.ext hX)
  clear hX
  have cR0 : w3.cell? ⟨(w.heap.size + 2), 0, none⟩ = some (.int .i64 0) := KR.out.cell 0
  have fR0 : w3.frozen? ⟨(w.heap.size + 2), 0, none⟩ = false := KR.out.free 0
  have cR1 : w3.cell? ⟨(w.heap.size + 2), 1, none⟩ = some (.int .i64 0) := KR.out.cell 1
  have fR1 : w3.frozen? ⟨(w.heap.size + 2), 1, none⟩ = false := KR.out.free 1
  go_wp2
  refine bodyPost_ret (v := .tuple #[.agg #[.int .i64 0, .int .i64 0], .bool false, .int .i64 2]) (by simp [results, Try.results70, go_sem, *]) rfl ?_
  exact ⟨rfl, HX.out.two (by omega) _ _⟩

set_option maxRecDepth 100000 in
set_option maxHeartbeats 2000000 in
theorem rgap_ba (xa xb xc xd : Int) (w : World) (h : okS xa xb = false) :
    Calls Try.prog 71 #[.agg #[.int .i64 xa, .int .i64 xb], .agg #[.int .i64 xc, .int .i64 xd]] w (fun e w' => e = .returned (.tuple #[.int .i64 0, .int .i64 2]) ∧ Ext w w') := by
  have HA := Lib.hid h
  clear h
  have hXe : Ext w ((w.alloc (.cells #[.int .i64 xa, .int .i64 xb] 62)).alloc (.cells #[.int .i64 xc, .int .i64 xd] 62)) := (((Ext.refl w).alloc _).alloc _)
  have kA : Blk ((w.alloc (.cells #[.int .i64 xa, .int .i64 xb] 62)).alloc (.cells #[.int .i64 xc, .int .i64 xd] 62)) w.heap.size 62 #[.int .i64 xa, .int .i64 xb] := Blk.alloc (Blk.at_ (by simp)) _
  have kB : Blk ((w.alloc (.cells #[.int .i64 xa, .int .i64 xb] 62)).alloc (.cells #[.int .i64 xc, .int .i64 xd] 62)) (w.heap.size + 1) 62 #[.int .i64 xc, .int .i64 xd] := Blk.at_ (by simp)
  go_enter Try.func71, Try.ntmps71
  go_wp2_with fail
  generalize ((w.alloc (.cells #[.int .i64 xa, .int .i64 xb] 62)).alloc (.cells #[.int .i64 xc, .int .i64 xd] 62)) = w1 at hXe kA kB ⊢
  have HX := Lib.hid hXe
  clear hXe
  have KA := Lib.hid kA
  clear kA
  have KB := Lib.hid kB
  clear kB
  have cA0 : w1.cell? ⟨w.heap.size, 0, none⟩ = some (.int .i64 xa) := KA.out.cell 0
  have cA1 : w1.cell? ⟨w.heap.size, 1, none⟩ = some (.int .i64 xb) := KA.out.cell 1
  have cB0 : w1.cell? ⟨(w.heap.size + 1), 0, none⟩ = some (.int .i64 xc) := KB.out.cell 0
  have cB1 : w1.cell? ⟨(w.heap.size + 1), 1, none⟩ = some (.int .i64 xd) := KB.out.cell 1
  go_wp2_with fail
  clear cA0 cA1 cB0 cB1
  refine (rvalid_is HA.out _).mono ?_
  rintro e w2 ⟨rfl, hX⟩
  replace hX : Ext w1 w2 := by with_reducible exact hX
  replace HX := Lib.hid (HX.out.trans hX)
  replace KA := Lib.hid (KA.out.ext hX)
  replace KB := Lib.hid (KB.out.ext hX)
  clear hX
  go_wp2
  go_ret2
  exact ⟨rfl, HX.out⟩

set_option maxRecDepth 100000 in
set_option maxHeartbeats 2000000 in
theorem rgap_bb (xa xb xc xd : Int) (w : World) (h : okS xa xb = true) (k : okS xc xd = false) :
    Calls Try.prog 71 #[.agg #[.int .i64 xa, .int .i64 xb], .agg #[.int .i64 xc, .int .i64 xd]] w (fun e w' => e = .returned (.tuple #[.int .i64 0, .int .i64 2]) ∧ Ext w w') := by
  have HA := Lib.hid h
  clear h
  have HB := Lib.hid k
  clear k
  have hXe : Ext w ((w.alloc (.cells #[.int .i64 xa, .int .i64 xb] 62)).alloc (.cells #[.int .i64 xc, .int .i64 xd] 62)) := (((Ext.refl w).alloc _).alloc _)
  have kA : Blk ((w.alloc (.cells #[.int .i64 xa, .int .i64 xb] 62)).alloc (.cells #[.int .i64 xc, .int .i64 xd] 62)) w.heap.size 62 #[.int .i64 xa, .int .i64 xb] := Blk.alloc (Blk.at_ (by simp)) _
  have kB : Blk ((w.alloc (.cells #[.int .i64 xa, .int .i64 xb] 62)).alloc (.cells #[.int .i64 xc, .int .i64 xd] 62)) (w.heap.size + 1) 62 #[.int .i64 xc, .int .i64 xd] := Blk.at_ (by simp)
  go_enter Try.func71, Try.ntmps71
  go_wp2_with fail
  generalize ((w.alloc (.cells #[.int .i64 xa, .int .i64 xb] 62)).alloc (.cells #[.int .i64 xc, .int .i64 xd] 62)) = w1 at hXe kA kB ⊢
  have HX := Lib.hid hXe
  clear hXe
  have KA := Lib.hid kA
  clear kA
  have KB := Lib.hid kB
  clear kB
  have cA0 : w1.cell? ⟨w.heap.size, 0, none⟩ = some (.int .i64 xa) := KA.out.cell 0
  have cA1 : w1.cell? ⟨w.heap.size, 1, none⟩ = some (.int .i64 xb) := KA.out.cell 1
  have cB0 : w1.cell? ⟨(w.heap.size + 1), 0, none⟩ = some (.int .i64 xc) := KB.out.cell 0
  have cB1 : w1.cell? ⟨(w.heap.size + 1), 1, none⟩ = some (.int .i64 xd) := KB.out.cell 1
  go_wp2_with fail
  clear cA0 cA1 cB0 cB1
  refine (rvalid_is HA.out _).mono ?_
  rintro e w2 ⟨rfl, hX⟩
  replace hX : Ext w1 w2 := by with_reducible exact hX
  replace HX := Lib.hid (HX.out.trans hX)
  replace KA := Lib.hid (KA.out.ext hX)
  replace KB := Lib.hid (KB.out.ext hX)
  clear hX
  have cB0 : w2.cell? ⟨(w.heap.size + 1), 0, none⟩ = some (.int .i64 xc) := KB.out.cell 0
  have cB1 : w2.cell? ⟨(w.heap.size + 1), 1, none⟩ = some (.int .i64 xd) := KB.out.cell 1
  go_wp2_with fail
  clear cB0 cB1
  refine (rvalid_is HB.out _).mono ?_
  rintro e w3 ⟨rfl, hX⟩
  replace hX : Ext w2 w3 := by with_reducible exact hX
  replace HX := Lib.hid (HX.out.trans hX)
  replace KA := Lib.hid (KA.out.ext hX)
  replace KB := Lib.hid (KB.out.ext hX)
  clear hX
  go_wp2
  go_ret2
  exact ⟨rfl, HX.out⟩

set_option maxRecDepth 100000 in
set_option maxHeartbeats 2000000 in
theorem roperate_ba (xa xb xc xd : Int) (op : Int) (w : World) (h : okS xa xb = false) :
    Calls Try.prog 67 #[.int .i64 op, .agg #[.int .i64 xa, .int .i64 xb], .agg #[.int .i64 xc, .int .i64 xd]] w (fun e w' => e = .returned (.tuple #[.agg #[.int .i64 0, .int .i64 0], .int .i64 2]) ∧ Ext w w') := by
  have HA := Lib.hid h
  clear h
  have hXe : Ext w (((w.alloc (.cells #[.int .i64 xa, .int .i64 xb] 62)).alloc (.cells #[.int .i64 xc, .int .i64 xd] 62)).alloc (.cells #[.int .i64 0, .int .i64 0] 62)) := ((((Ext.refl w).alloc _).alloc _).alloc _)
  have kA : Blk (((w.alloc (.cells #[.int .i64 xa, .int .i64 xb] 62)).alloc (.cells #[.int .i64 xc, .int .i64 xd] 62)).alloc (.cells #[.int .i64 0, .int .i64 0] 62)) w.heap.size 62 #[.int .i64 xa, .int .i64 xb] := Blk.alloc (Blk.alloc (Blk.at_ (by simp)) _) _
  have kB : Blk (((w.alloc (.cells #[.int .i64 xa, .int .i64 xb] 62)).alloc (.cells #[.int .i64 xc, .int .i64 xd] 62)).alloc (.cells #[.int .i64 0, .int .i64 0] 62)) (w.heap.size + 1) 62 #[.int .i64 xc, .int .i64 xd] := Blk.alloc (Blk.at_ (by simp)) _
  have kR : Blk (((w.alloc (.cells #[.int .i64 xa, .int .i64 xb] 62)).alloc (.cells #[.int .i64 xc, .int .i64 xd] 62)).alloc (.cells #[.int .i64 0, .int .i64 0] 62)) (w.heap.size + 2) 62 #[.int .i64 0, .int .i64 0] := Blk.at_ (by simp)
  go_enter Try.func67, Try.ntmps67
  go_wp2_with fail
  generalize (((w.alloc (.cells #[.int .i64 xa, .int .i64 xb] 62)).alloc (.cells #[.int .i64 xc, .int .i64 xd] 62)).alloc (.cells #[.int .i64 0, .int .i64 0] 62)) = w1 at hXe kA kB kR ⊢
  have HX := Lib.hid hXe
  clear hXe
  have KA := Lib.hid kA
  clear kA
  have KB := Lib.hid kB
  clear kB
  have KR := Lib.hid kR
  clear kR
  have cA0 : w1.cell? ⟨w.heap.size, 0, none⟩ = some (.int .i64 xa) := KA.out.cell 0
  have cA1 : w1.cell? ⟨w.heap.size, 1, none⟩ = some (.int .i64 xb) := KA.out.cell 1
  have cB0 : w1.cell? ⟨(w.heap.size + 1), 0, none⟩ = some (.int .i64 xc) := KB.out.cell 0
  have cB1 : w1.cell? ⟨(w.heap.size + 1), 1, none⟩ = some (.int .i64 xd) := KB.out.cell 1
  go_wp2_with fail
  clear cA0 cA1 cB0 cB1
  refine (rvalid_is HA.out _).mono ?_
  rintro e w2 ⟨rfl, hX⟩
  replace hX : Ext w1 w2 := by with_reducible exact hX
  replace HX := Lib.hid (HX.out.trans hX)
  replace KA := Lib.hid (KA.out.ext hX)
  replace KB := Lib.hid (KB.out.ext hX)
  replace KR := Lib.hid (KR.out.ext hX)
  clear hX
  have cR0 : w2.cell? ⟨(w.heap.size + 2), 0, none⟩ = some (.int .i64 0) := KR.out.cell 0
  have fR0 : w2.frozen? ⟨(w.heap.size + 2), 0, none⟩ = false := KR.out.free 0
  have cR1 : w2.cell? ⟨(w.heap.size + 2), 1, none⟩ = some (.int .i64 0) := KR.out.cell 1
  have fR1 : w2.frozen? ⟨(w.heap.size + 2), 1, none⟩ = false := KR.out.free 1
  go_wp2
  refine bodyPost_ret (v := .tuple #[.agg #[.int .i64 0, .int .i64 0], .int .i64 2]) (by simp [results, Try.results67, go_sem, *]) rfl ?_
  exact ⟨rfl, HX.out.two (by omega) _ _⟩

set_option maxRecDepth 100000 in
set_option maxHeartbeats 2000000 in
theorem roperate_bb (xa xb xc xd : Int) (op : Int) (w : World) (h : okS xa xb = true) (k : okS xc xd = false) :
    Calls Try.prog 67 #[.int .i64 op, .agg #[.int .i64 xa, .int .i64 xb], .agg #[.int .i64 xc, .int .i64 xd]] w (fun e w' => e = .returned (.tuple #[.agg #[.int .i64 0, .int .i64 0], .int .i64 2]) ∧ Ext w w') := by
  have HA := Lib.hid h
  clear h
  have HB := Lib.hid k
  clear k
  have hXe : Ext w (((w.alloc (.cells #[.int .i64 xa, .int .i64 xb] 62)).alloc (.cells #[.int .i64 xc, .int .i64 xd] 62)).alloc (.cells #[.int .i64 0, .int .i64 0] 62)) := ((((Ext.refl w).alloc _).alloc _).alloc _)
  have kA : Blk (((w.alloc (.cells #[.int .i64 xa, .int .i64 xb] 62)).alloc (.cells #[.int .i64 xc, .int .i64 xd] 62)).alloc (.cells #[.int .i64 0, .int .i64 0] 62)) w.heap.size 62 #[.int .i64 xa, .int .i64 xb] := Blk.alloc (Blk.alloc (Blk.at_ (by simp)) _) _
  have kB : Blk (((w.alloc (.cells #[.int .i64 xa, .int .i64 xb] 62)).alloc (.cells #[.int .i64 xc, .int .i64 xd] 62)).alloc (.cells #[.int .i64 0, .int .i64 0] 62)) (w.heap.size + 1) 62 #[.int .i64 xc, .int .i64 xd] := Blk.alloc (Blk.at_ (by simp)) _
  have kR : Blk (((w.alloc (.cells #[.int .i64 xa, .int .i64 xb] 62)).alloc (.cells #[.int .i64 xc, .int .i64 xd] 62)).alloc (.cells #[.int .i64 0, .int .i64 0] 62)) (w.heap.size + 2) 62 #[.int .i64 0, .int .i64 0] := Blk.at_ (by simp)
  go_enter Try.func67, Try.ntmps67
  go_wp2_with fail
  generalize (((w.alloc (.cells #[.int .i64 xa, .int .i64 xb] 62)).alloc (.cells #[.int .i64 xc, .int .i64 xd] 62)).alloc (.cells #[.int .i64 0, .int .i64 0] 62)) = w1 at hXe kA kB kR ⊢
  have HX := Lib.hid hXe
  clear hXe
  have KA := Lib.hid kA
  clear kA
  have KB := Lib.hid kB
  clear kB
  have KR := Lib.hid kR
  clear kR
  have cA0 : w1.cell? ⟨w.heap.size, 0, none⟩ = some (.int .i64 xa) := KA.out.cell 0
  have cA1 : w1.cell? ⟨w.heap.size, 1, none⟩ = some (.int .i64 xb) := KA.out.cell 1
  have cB0 : w1.cell? ⟨(w.heap.size + 1), 0, none⟩ = some (.int .i64 xc) := KB.out.cell 0
  have cB1 : w1.cell? ⟨(w.heap.size + 1), 1, none⟩ = some (.int .i64 xd) := KB.out.cell 1
  go_wp2_with fail
  clear cA0 cA1 cB0 cB1
  refine (rvalid_is HA.out _).mono ?_
  rintro e w2 ⟨rfl, hX⟩
  replace hX : Ext w1 w2 := by with_reducible exact hX
  replace HX := Lib.hid (HX.out.trans hX)
  replace KA := Lib.hid (KA.out.ext hX)
  replace KB := Lib.hid (KB.out.ext hX)
  replace KR := Lib.hid (KR.out.ext hX)
  clear hX
  have cB0 : w2.cell? ⟨(w.heap.size + 1), 0, none⟩ = some (.int .i64 xc) := KB.out.cell 0
  have cB1 : w2.cell? ⟨(w.heap.size + 1), 1, none⟩ = some (.int .i64 xd) := KB.out.cell 1
  go_wp2_with fail
  clear cB0 cB1
  refine (rvalid_is HB.out _).mono ?_
  rintro e w3 ⟨rfl, hX⟩
  replace hX : Ext w2 w3 := by with_reducible exact hX
  replace HX := Lib.hid (HX.out.trans hX)
  replace KA := Lib.hid (KA.out.ext hX)
  replace KB := Lib.hid (KB.out.ext hX)
  replace KR := Lib.hid (KR.out.ext hX)
  clear hX
  have cR0 : w3.cell? ⟨(w.heap.size + 2), 0, none⟩ = some (.int .i64 0) := KR.out.cell 0
  have fR0 : w3.frozen? ⟨(w.heap.size + 2), 0, none⟩ = false := KR.out.free 0
  have cR1 : w3.cell? ⟨(w.heap.size + 2), 1, none⟩ = some (.int .i64 0) := KR.out.cell 1
  have fR1 : w3.frozen? ⟨(w.heap.size + 2), 1, none⟩ = false := KR.out.free 1
  go_wp2
  refine bodyPost_ret (v := .tuple #[.agg #[.int .i64 0, .int .i64 0], .int .i64 2]) (by simp [results, Try.results67, go_sem, *]) rfl ?_
  exact ⟨rfl, HX.out.two (by omega) _ _⟩

set_option maxRecDepth 100000 in
set_option maxHeartbeats 2000000 in
theorem rhull_ok (xa xb xc xd : Int) (w : World) (h : okS xa xb = true) (k : okS xc xd = true)  :
    Calls Try.prog 69 #[.agg #[.int .i64 xa, .int .i64 xb], .agg #[.int .i64 xc, .int .i64 xd]] w (fun e w' => e = .returned (.tuple #[.agg #[.int .i64 (min xa xc), .int .i64 (max xb xd)], .int .i64 0]) ∧ Ext w w') := by
  obtain ⟨a0, a1, a2⟩ := okS_in h
  obtain ⟨b0, b1, b2⟩ := okS_in k
  have HA := Lib.hid h
  have HB := Lib.hid k
  clear h k
  obtain ⟨mx, hmx⟩ : ∃ z, max xa xc = z := ⟨_, rfl⟩
  obtain ⟨mn, hmn⟩ : ∃ z, min xb xd = z := ⟨_, rfl⟩
  have e1 : -1152921504606846976 ≤ mx ∧ mx ≤ 1152921504606846976 := by omega
  have e2 : -1152921504606846976 ≤ mn ∧ mn ≤ 1152921504606846976 := by omega
  obtain ⟨e3, e4⟩ := e1
  obtain ⟨e5, e6⟩ := e2
  clear hmx hmn
  have hXe : Ext w (((w.alloc (.cells #[.int .i64 xa, .int .i64 xb] 62)).alloc (.cells #[.int .i64 xc, .int .i64 xd] 62)).alloc (.cells #[.int .i64 0, .int .i64 0] 62)) := ((((Ext.refl w).alloc _).alloc _).alloc _)
  have kA : Blk (((w.alloc (.cells #[.int .i64 xa, .int .i64 xb] 62)).alloc (.cells #[.int .i64 xc, .int .i64 xd] 62)).alloc (.cells #[.int .i64 0, .int .i64 0] 62)) w.heap.size 62 #[.int .i64 xa, .int .i64 xb] := Blk.alloc (Blk.alloc (Blk.at_ (by simp)) _) _
  have kB : Blk (((w.alloc (.cells #[.int .i64 xa, .int .i64 xb] 62)).alloc (.cells #[.int .i64 xc, .int .i64 xd] 62)).alloc (.cells #[.int .i64 0, .int .i64 0] 62)) (w.heap.size + 1) 62 #[.int .i64 xc, .int .i64 xd] := Blk.alloc (Blk.at_ (by simp)) _
  have kR : Blk (((w.alloc (.cells #[.int .i64 xa, .int .i64 xb] 62)).alloc (.cells #[.int .i64 xc, .int .i64 xd] 62)).alloc (.cells #[.int .i64 0, .int .i64 0] 62)) (w.heap.size + 2) 62 #[.int .i64 0, .int .i64 0] := Blk.at_ (by simp)
  go_enter Try.func69, Try.ntmps69
  go_wp2_with fail
  generalize (((w.alloc (.cells #[.int .i64 xa, .int .i64 xb] 62)).alloc (.cells #[.int .i64 xc, .int .i64 xd] 62)).alloc (.cells #[.int .i64 0, .int .i64 0] 62)) = w1 at hXe kA kB kR ⊢
  have HX := Lib.hid hXe
  clear hXe
  have KA := Lib.hid kA
  clear kA
  have KB := Lib.hid kB
  clear kB
  have KR := Lib.hid kR
  clear kR
  have cA0 : w1.cell? ⟨w.heap.size, 0, none⟩ = some (.int .i64 xa) := KA.out.cell 0
  have cA1 : w1.cell? ⟨w.heap.size, 1, none⟩ = some (.int .i64 xb) := KA.out.cell 1
  have cB0 : w1.cell? ⟨(w.heap.size + 1), 0, none⟩ = some (.int .i64 xc) := KB.out.cell 0
  have cB1 : w1.cell? ⟨(w.heap.size + 1), 1, none⟩ = some (.int .i64 xd) := KB.out.cell 1
  go_wp2_with fail
  clear cA0 cA1 cB0 cB1
  refine (rvalid_is HA.out _).mono ?_
  rintro e w2 ⟨rfl, hX⟩
  replace hX : Ext w1 w2 := by with_reducible exact hX
  replace HX := Lib.hid (HX.out.trans hX)
  replace KA := Lib.hid (KA.out.ext hX)
  replace KB := Lib.hid (KB.out.ext hX)
  replace KR := Lib.hid (KR.out.ext hX)
  clear hX
  have cB0 : w2.cell? ⟨(w.heap.size + 1), 0, none⟩ = some (.int .i64 xc) := KB.out.cell 0
  have cB1 : w2.cell? ⟨(w.heap.size + 1), 1, none⟩ = some (.int .i64 xd) := KB.out.cell 1
  go_wp2_with fail
  clear cB0 cB1
  refine (rvalid_is HB.out _).mono ?_
  rintro e w3 ⟨rfl, hX⟩
  replace hX : Ext w2 w3 := by with_reducible exact hX
  replace HX := Lib.hid (HX.out.trans hX)
  replace KA := Lib.hid (KA.out.ext hX)
  replace KB := Lib.hid (KB.out.ext hX)
  replace KR := Lib.hid (KR.out.ext hX)
  clear hX
  have cA0 : w3.cell? ⟨w.heap.size, 0, none⟩ = some (.int .i64 xa) := KA.out.cell 0
  have cA1 : w3.cell? ⟨w.heap.size, 1, none⟩ = some (.int .i64 xb) := KA.out.cell 1
  have cB0 : w3.cell? ⟨(w.heap.size + 1), 0, none⟩ = some (.int .i64 xc) := KB.out.cell 0
  have cB1 : w3.cell? ⟨(w.heap.size + 1), 1, none⟩ = some (.int .i64 xd) := KB.out.cell 1
  have cR0 : w3.cell? ⟨(w.heap.size + 2), 0, none⟩ = some (.int .i64 0) := KR.out.cell 0
  have fR0 : w3.frozen? ⟨(w.heap.size + 2), 0, none⟩ = false := KR.out.free 0
  have cR1 : w3.cell? ⟨(w.heap.size + 2), 1, none⟩ = some (.int .i64 0) := KR.out.cell 1
  have fR1 : w3.frozen? ⟨(w.heap.size + 2), 1, none⟩ = false := KR.out.free 1
  go_wp2
  refine bodyPost_ret (v := .tuple #[.agg #[.int .i64 (min xa xc), .int .i64 (max xb xd)], .int .i64 0]) (by simp [results, Try.results69, go_sem, *]) rfl ?_
  exact ⟨rfl, HX.out.two (by omega) _ _⟩

set_option maxRecDepth 100000 in
set_option maxHeartbeats 2000000 in
theorem rmeet_oky (xa xb xc xd : Int) (w : World) (h : okS xa xb = true) (k : okS xc xd = true) (hm : max xa xc ≤ min xb xd) :
    Calls Try.prog 70 #[.agg #[.int .i64 xa, .int .i64 xb], .agg #[.int .i64 xc, .int .i64 xd]] w (fun e w' => e = .returned (.tuple #[.agg #[.int .i64 (max xa xc), .int .i64 (min xb xd)], .bool true, .int .i64 0]) ∧ Ext w w') := by
  obtain ⟨a0, a1, a2⟩ := okS_in h
  obtain ⟨b0, b1, b2⟩ := okS_in k
  have HA := Lib.hid h
  have HB := Lib.hid k
  clear h k
  obtain ⟨mx, hmx⟩ : ∃ z, max xa xc = z := ⟨_, rfl⟩
  obtain ⟨mn, hmn⟩ : ∃ z, min xb xd = z := ⟨_, rfl⟩
  have e1 : -1152921504606846976 ≤ mx ∧ mx ≤ 1152921504606846976 := by omega
  have e2 : -1152921504606846976 ≤ mn ∧ mn ≤ 1152921504606846976 := by omega
  obtain ⟨e3, e4⟩ := e1
  obtain ⟨e5, e6⟩ := e2
  rw [hmx, hmn] at hm
  rw [hmx, hmn]
  have hXe : Ext w (((w.alloc (.cells #[.int .i64 xa, .int .i64 xb] 62)).alloc (.cells #[.int .i64 xc, .int .i64 xd] 62)).alloc (.cells #[.int .i64 0, .int .i64 0] 62)) := ((((Ext.refl w).alloc _).alloc _).alloc _)
  have kA : Blk (((w.alloc (.cells #[.int .i64 xa, .int .i64 xb] 62)).alloc (.cells #[.int .i64 xc, .int .i64 xd] 62)).alloc (.cells #[.int .i64 0, .int .i64 0] 62)) w.heap.size 62 #[.int .i64 xa, .int .i64 xb] := Blk.alloc (Blk.alloc (Blk.at_ (by simp)) _) _
  have kB : Blk (((w.alloc (.cells #[.int .i64 xa, .int .i64 xb] 62)).alloc (.cells #[.int .i64 xc, .int .i64 xd] 62)).alloc (.cells #[.int .i64 0, .int .i64 0] 62)) (w.heap.size + 1) 62 #[.int .i64 xc, .int .i64 xd] := Blk.alloc (Blk.at_ (by simp)) _
  have kR : Blk (((w.alloc (.cells #[.int .i64 xa, .int .i64 xb] 62)).alloc (.cells #[.int .i64 xc, .int .i64 xd] 62)).alloc (.cells #[.int .i64 0, .int .i64 0] 62)) (w.heap.size + 2) 62 #[.int .i64 0, .int .i64 0] := Blk.at_ (by simp)
  go_enter Try.func70, Try.ntmps70
  go_wp2_with fail
  generalize (((w.alloc (.cells #[.int .i64 xa, .int .i64 xb] 62)).alloc (.cells #[.int .i64 xc, .int .i64 xd] 62)).alloc (.cells #[.int .i64 0, .int .i64 0] 62)) = w1 at hXe kA kB kR ⊢
  have HX := Lib.hid hXe
  clear hXe
  have KA := Lib.hid kA
  clear kA
  have KB := Lib.hid kB
  clear kB
  have KR := Lib.hid kR
  clear kR
  have cA0 : w1.cell? ⟨w.heap.size, 0, none⟩ = some (.int .i64 xa) := KA.out.cell 0
  have cA1 : w1.cell? ⟨w.heap.size, 1, none⟩ = some (.int .i64 xb) := KA.out.cell 1
  have cB0 : w1.cell? ⟨(w.heap.size + 1), 0, none⟩ = some (.int .i64 xc) := KB.out.cell 0
  have cB1 : w1.cell? ⟨(w.heap.size + 1), 1, none⟩ = some (.int .i64 xd) := KB.out.cell 1
  go_wp2_with fail
  clear cA0 cA1 cB0 cB1
  refine (rvalid_is HA.out _).mono ?_
  rintro e w2 ⟨rfl, hX⟩
  replace hX : Ext w1 w2 := by with_reducible exact hX
  replace HX := Lib.hid (HX.out.trans hX)
  replace KA := Lib.hid (KA.out.ext hX)
  replace KB := Lib.hid (KB.out.ext hX)
  replace KR := Lib.hid (KR.out.ext hX)
  clear hX
  have cB0 : w2.cell? ⟨(w.heap.size + 1), 0, none⟩ = some (.int .i64 xc) := KB.out.cell 0
  have cB1 : w2.cell? ⟨(w.heap.size + 1), 1, none⟩ = some (.int .i64 xd) := KB.out.cell 1
  go_wp2_with fail
  clear cB0 cB1
  refine (rvalid_is HB.out _).mono ?_
  rintro e w3 ⟨rfl, hX⟩
  replace hX : Ext w2 w3 := by with_reducible exact hX
  replace HX := Lib.hid (HX.out.trans hX)
  replace KA := Lib.hid (KA.out.ext hX)
  replace KB := Lib.hid (KB.out.ext hX)
  replace KR := Lib.hid (KR.out.ext hX)
  clear hX
  have cA0 : w3.cell? ⟨w.heap.size, 0, none⟩ = some (.int .i64 xa) := KA.out.cell 0
  have cA1 : w3.cell? ⟨w.heap.size, 1, none⟩ = some (.int .i64 xb) := KA.out.cell 1
  have cB0 : w3.cell? ⟨(w.heap.size + 1), 0, none⟩ = some (.int .i64 xc) := KB.out.cell 0
  have cB1 : w3.cell? ⟨(w.heap.size + 1), 1, none⟩ = some (.int .i64 xd) := KB.out.cell 1
  go_upto_region 4 with (fail)
  clear cA0 cA1 cB0 cB1
  have hXa : Ext w3 (w3.alloc (.cells #[.int .i64 mx, .int .i64 mn] 62)) := (Ext.refl _).alloc _
  have kC := Blk.new w3 62 #[.int .i64 mx, .int .i64 mn]
  have zA := KA.out.lt
  have zB := KB.out.lt
  have zR := KR.out.lt
  have zg := HX.out.size
  replace HX := Lib.hid (HX.out.trans hXa)
  replace KA := Lib.hid (KA.out.ext hXa)
  replace KB := Lib.hid (KB.out.ext hXa)
  replace KR := Lib.hid (KR.out.ext hXa)
  generalize (w3.alloc (.cells #[.int .i64 mx, .int .i64 mn] 62)) = w4 at HX KA KB KR kC ⊢
  have KC := Lib.hid kC
  clear kC hXa
  have hm2 : ¬ mn < mx := by omega
  have cR0 : w4.cell? ⟨(w.heap.size + 2), 0, none⟩ = some (.int .i64 0) := KR.out.cell 0
  have fR0 : w4.frozen? ⟨(w.heap.size + 2), 0, none⟩ = false := KR.out.free 0
  have cR1 : w4.cell? ⟨(w.heap.size + 2), 1, none⟩ = some (.int .i64 0) := KR.out.cell 1
  have fR1 : w4.frozen? ⟨(w.heap.size + 2), 1, none⟩ = false := KR.out.free 1
  have cC0 : w4.cell? ⟨w3.heap.size, 0, none⟩ = some (.int .i64 mx) := KC.out.cell 0
  have cC1 : w4.cell? ⟨w3.heap.size, 1, none⟩ = some (.int .i64 mn) := KC.out.cell 1
  go_wp2
  refine bodyPost_ret (v := .tuple #[.agg #[.int .i64 mx, .int .i64 mn], .bool true, .int .i64 0]) (by simp [results, Try.results70, go_sem, *]) rfl ?_
  exact ⟨rfl, HX.out.two (by omega) _ _⟩

set_option maxRecDepth 100000 in
set_option maxHeartbeats 2000000 in
theorem rmeet_okn (xa xb xc xd : Int) (w : World) (h : okS xa xb = true) (k : okS xc xd = true) (hm : min xb xd < max xa xc) :
    Calls Try.prog 70 #[.agg #[.int .i64 xa, .int .i64 xb], .agg #[.int .i64 xc, .int .i64 xd]] w (fun e w' => e = .returned (.tuple #[.agg #[.int .i64 0, .int .i64 0], .bool false, .int .i64 0]) ∧ Ext w w') := by
  obtain ⟨a0, a1, a2⟩ := okS_in h
  obtain ⟨b0, b1, b2⟩ := okS_in k
  have HA := Lib.hid h
  have HB := Lib.hid k
  clear h k
  obtain ⟨mx, hmx⟩ : ∃ z, max xa xc = z := ⟨_, rfl⟩
  obtain ⟨mn, hmn⟩ : ∃ z, min xb xd = z := ⟨_, rfl⟩
  have e1 : -1152921504606846976 ≤ mx ∧ mx ≤ 1152921504606846976 := by omega
  have e2 : -1152921504606846976 ≤ mn ∧ mn ≤ 1152921504606846976 := by omega
  obtain ⟨e3, e4⟩ := e1
  obtain ⟨e5, e6⟩ := e2
  rw [hmx, hmn] at hm
  have hXe : Ext w (((w.alloc (.cells #[.int .i64 xa, .int .i64 xb] 62)).alloc (.cells #[.int .i64 xc, .int .i64 xd] 62)).alloc (.cells #[.int .i64 0, .int .i64 0] 62)) := ((((Ext.refl w).alloc _).alloc _).alloc _)
  have kA : Blk (((w.alloc (.cells #[.int .i64 xa, .int .i64 xb] 62)).alloc (.cells #[.int .i64 xc, .int .i64 xd] 62)).alloc (.cells #[.int .i64 0, .int .i64 0] 62)) w.heap.size 62 #[.int .i64 xa, .int .i64 xb] := Blk.alloc (Blk.alloc (Blk.at_ (by simp)) _) _
  have kB : Blk (((w.alloc (.cells #[.int .i64 xa, .int .i64 xb] 62)).alloc (.cells #[.int .i64 xc, .int .i64 xd] 62)).alloc (.cells #[.int .i64 0, .int .i64 0] 62)) (w.heap.size + 1) 62 #[.int .i64 xc, .int .i64 xd] := Blk.alloc (Blk.at_ (by simp)) _
  have kR : Blk (((w.alloc (.cells #[.int .i64 xa, .int .i64 xb] 62)).alloc (.cells #[.int .i64 xc, .int .i64 xd] 62)).alloc (.cells #[.int .i64 0, .int .i64 0] 62)) (w.heap.size + 2) 62 #[.int .i64 0, .int .i64 0] := Blk.at_ (by simp)
  go_enter Try.func70, Try.ntmps70
  go_wp2_with fail
  generalize (((w.alloc (.cells #[.int .i64 xa, .int .i64 xb] 62)).alloc (.cells #[.int .i64 xc, .int .i64 xd] 62)).alloc (.cells #[.int .i64 0, .int .i64 0] 62)) = w1 at hXe kA kB kR ⊢
  have HX := Lib.hid hXe
  clear hXe
  have KA := Lib.hid kA
  clear kA
  have KB := Lib.hid kB
  clear kB
  have KR := Lib.hid kR
  clear kR
  have cA0 : w1.cell? ⟨w.heap.size, 0, none⟩ = some (.int .i64 xa) := KA.out.cell 0
  have cA1 : w1.cell? ⟨w.heap.size, 1, none⟩ = some (.int .i64 xb) := KA.out.cell 1
  have cB0 : w1.cell? ⟨(w.heap.size + 1), 0, none⟩ = some (.int .i64 xc) := KB.out.cell 0
  have cB1 : w1.cell? ⟨(w.heap.size + 1), 1, none⟩ = some (.int .i64 xd) := KB.out.cell 1
  go_wp2_with fail
  clear cA0 cA1 cB0 cB1
  refine (rvalid_is HA.out _).mono ?_
  rintro e w2 ⟨rfl, hX⟩
  replace hX : Ext w1 w2 := by with_reducible exact hX
  replace HX := Lib.hid (HX.out.trans hX)
  replace KA := Lib.hid (KA.out.ext hX)
  replace KB := Lib.hid (KB.out.ext hX)
  replace KR := Lib.hid (KR.out.ext hX)
  clear hX
  have cB0 : w2.cell? ⟨(w.heap.size + 1), 0, none⟩ = some (.int .i64 xc) := KB.out.cell 0
  have cB1 : w2.cell? ⟨(w.heap.size + 1), 1, none⟩ = some (.int .i64 xd) := KB.out.cell 1
  go_wp2_with fail
  clear cB0 cB1
  refine (rvalid_is HB.out _).mono ?_
  rintro e w3 ⟨rfl, hX⟩
  replace hX : Ext w2 w3 := by with_reducible exact hX
  replace HX := Lib.hid (HX.out.trans hX)
  replace KA := Lib.hid (KA.out.ext hX)
  replace KB := Lib.hid (KB.out.ext hX)
  replace KR := Lib.hid (KR.out.ext hX)
  clear hX
  have cA0 : w3.cell? ⟨w.heap.size, 0, none⟩ = some (.int .i64 xa) := KA.out.cell 0
  have cA1 : w3.cell? ⟨w.heap.size, 1, none⟩ = some (.int .i64 xb) := KA.out.cell 1
  have cB0 : w3.cell? ⟨(w.heap.size + 1), 0, none⟩ = some (.int .i64 xc) := KB.out.cell 0
  have cB1 : w3.cell? ⟨(w.heap.size + 1), 1, none⟩ = some (.int .i64 xd) := KB.out.cell 1
  go_upto_region 4 with (fail)
  clear cA0 cA1 cB0 cB1
  have hXa : Ext w3 (w3.alloc (.cells #[.int .i64 mx, .int .i64 mn] 62)) := (Ext.refl _).alloc _
  have kC := Blk.new w3 62 #[.int .i64 mx, .int .i64 mn]
  have zA := KA.out.lt
  have zB := KB.out.lt
  have zR := KR.out.lt
  have zg := HX.out.size
  replace HX := Lib.hid (HX.out.trans hXa)
  replace KA := Lib.hid (KA.out.ext hXa)
  replace KB := Lib.hid (KB.out.ext hXa)
  replace KR := Lib.hid (KR.out.ext hXa)
  generalize (w3.alloc (.cells #[.int .i64 mx, .int .i64 mn] 62)) = w4 at HX KA KB KR kC ⊢
  have KC := Lib.hid kC
  clear kC hXa
  have hm2 : ¬ mx ≤ mn := by omega
  have cR0 : w4.cell? ⟨(w.heap.size + 2), 0, none⟩ = some (.int .i64 0) := KR.out.cell 0
  have fR0 : w4.frozen? ⟨(w.heap.size + 2), 0, none⟩ = false := KR.out.free 0
  have cR1 : w4.cell? ⟨(w.heap.size + 2), 1, none⟩ = some (.int .i64 0) := KR.out.cell 1
  have fR1 : w4.frozen? ⟨(w.heap.size + 2), 1, none⟩ = false := KR.out.free 1
  have cC0 : w4.cell? ⟨w3.heap.size, 0, none⟩ = some (.int .i64 mx) := KC.out.cell 0
  have cC1 : w4.cell? ⟨w3.heap.size, 1, none⟩ = some (.int .i64 mn) := KC.out.cell 1
  go_wp2
  refine bodyPost_ret (v := .tuple #[.agg #[.int .i64 0, .int .i64 0], .bool false, .int .i64 0]) (by simp [results, Try.results70, go_sem, *]) rfl ?_
  exact ⟨rfl, HX.out.two (by omega) _ _⟩

set_option maxRecDepth 100000 in
set_option maxHeartbeats 2000000 in
theorem rgap_ok (xa xb xc xd : Int) (w : World) (h : okS xa xb = true) (k : okS xc xd = true)  :
    Calls Try.prog 71 #[.agg #[.int .i64 xa, .int .i64 xb], .agg #[.int .i64 xc, .int .i64 xd]] w (fun e w' => e = .returned (.tuple #[.int .i64 (max 0 (max (xa - xd) (xc - xb))), .int .i64 0]) ∧ Ext w w') := by
  obtain ⟨a0, a1, a2⟩ := okS_in h
  obtain ⟨b0, b1, b2⟩ := okS_in k
  have HA := Lib.hid h
  have HB := Lib.hid k
  clear h k
  obtain ⟨mx, hmx⟩ : ∃ z, max xa xc = z := ⟨_, rfl⟩
  obtain ⟨mn, hmn⟩ : ∃ z, min xb xd = z := ⟨_, rfl⟩
  have e1 : -1152921504606846976 ≤ mx ∧ mx ≤ 1152921504606846976 := by omega
  have e2 : -1152921504606846976 ≤ mn ∧ mn ≤ 1152921504606846976 := by omega
  obtain ⟨e3, e4⟩ := e1
  obtain ⟨e5, e6⟩ := e2
  have hg : max 0 (max (xa - xd) (xc - xb)) = max 0 (mx - mn) := by omega
  rw [hg]
  clear hg
  have hXe : Ext w ((w.alloc (.cells #[.int .i64 xa, .int .i64 xb] 62)).alloc (.cells #[.int .i64 xc, .int .i64 xd] 62)) := (((Ext.refl w).alloc _).alloc _)
  have kA : Blk ((w.alloc (.cells #[.int .i64 xa, .int .i64 xb] 62)).alloc (.cells #[.int .i64 xc, .int .i64 xd] 62)) w.heap.size 62 #[.int .i64 xa, .int .i64 xb] := Blk.alloc (Blk.at_ (by simp)) _
  have kB : Blk ((w.alloc (.cells #[.int .i64 xa, .int .i64 xb] 62)).alloc (.cells #[.int .i64 xc, .int .i64 xd] 62)) (w.heap.size + 1) 62 #[.int .i64 xc, .int .i64 xd] := Blk.at_ (by simp)
  go_enter Try.func71, Try.ntmps71
  go_wp2_with fail
  generalize ((w.alloc (.cells #[.int .i64 xa, .int .i64 xb] 62)).alloc (.cells #[.int .i64 xc, .int .i64 xd] 62)) = w1 at hXe kA kB ⊢
  have HX := Lib.hid hXe
  clear hXe
  have KA := Lib.hid kA
  clear kA
  have KB := Lib.hid kB
  clear kB
  have cA0 : w1.cell? ⟨w.heap.size, 0, none⟩ = some (.int .i64 xa) := KA.out.cell 0
  have cA1 : w1.cell? ⟨w.heap.size, 1, none⟩ = some (.int .i64 xb) := KA.out.cell 1
  have cB0 : w1.cell? ⟨(w.heap.size + 1), 0, none⟩ = some (.int .i64 xc) := KB.out.cell 0
  have cB1 : w1.cell? ⟨(w.heap.size + 1), 1, none⟩ = some (.int .i64 xd) := KB.out.cell 1
  go_wp2_with fail
  clear cA0 cA1 cB0 cB1
  refine (rvalid_is HA.out _).mono ?_
  rintro e w2 ⟨rfl, hX⟩
  replace hX : Ext w1 w2 := by with_reducible exact hX
  replace HX := Lib.hid (HX.out.trans hX)
  replace KA := Lib.hid (KA.out.ext hX)
  replace KB := Lib.hid (KB.out.ext hX)
  clear hX
  have cB0 : w2.cell? ⟨(w.heap.size + 1), 0, none⟩ = some (.int .i64 xc) := KB.out.cell 0
  have cB1 : w2.cell? ⟨(w.heap.size + 1), 1, none⟩ = some (.int .i64 xd) := KB.out.cell 1
  go_wp2_with fail
  clear cB0 cB1
  refine (rvalid_is HB.out _).mono ?_
  rintro e w3 ⟨rfl, hX⟩
  replace hX : Ext w2 w3 := by with_reducible exact hX
  replace HX := Lib.hid (HX.out.trans hX)
  replace KA := Lib.hid (KA.out.ext hX)
  replace KB := Lib.hid (KB.out.ext hX)
  clear hX
  have cA0 : w3.cell? ⟨w.heap.size, 0, none⟩ = some (.int .i64 xa) := KA.out.cell 0
  have cA1 : w3.cell? ⟨w.heap.size, 1, none⟩ = some (.int .i64 xb) := KA.out.cell 1
  have cB0 : w3.cell? ⟨(w.heap.size + 1), 0, none⟩ = some (.int .i64 xc) := KB.out.cell 0
  have cB1 : w3.cell? ⟨(w.heap.size + 1), 1, none⟩ = some (.int .i64 xd) := KB.out.cell 1
  go_wp2
  go_ret2
  exact ⟨rfl, HX.out⟩

set_option maxRecDepth 100000 in
set_option maxHeartbeats 2000000 in
theorem etimes_bad (xa xb xc xd : Int) (w : World) (hn : (okS xa xb && okS xc xd) = false) :
    Calls Try.prog 56 #[.agg #[.int .i64 xa, .int .i64 xb], .agg #[.int .i64 xc, .int .i64 xd]] w (RetE w (.agg #[.int .i64 0, .int .i64 0]) 2) := by
  have HB := Lib.hid hn
  clear hn
  have hXe : Ext w (((w.alloc (.cells #[.int .i64 xa, .int .i64 xb] 62)).alloc (.cells #[.int .i64 xc, .int .i64 xd] 62)).alloc (.cells #[.int .i64 0, .int .i64 0] 62)) := ((((Ext.refl w).alloc _).alloc _).alloc _)
  have kA : Blk (((w.alloc (.cells #[.int .i64 xa, .int .i64 xb] 62)).alloc (.cells #[.int .i64 xc, .int .i64 xd] 62)).alloc (.cells #[.int .i64 0, .int .i64 0] 62)) w.heap.size 62 #[.int .i64 xa, .int .i64 xb] := Blk.alloc (Blk.alloc (Blk.at_ (by simp)) _) _
  have kB : Blk (((w.alloc (.cells #[.int .i64 xa, .int .i64 xb] 62)).alloc (.cells #[.int .i64 xc, .int .i64 xd] 62)).alloc (.cells #[.int .i64 0, .int .i64 0] 62)) (w.heap.size + 1) 62 #[.int .i64 xc, .int .i64 xd] := Blk.alloc (Blk.at_ (by simp)) _
  have kR : Blk (((w.alloc (.cells #[.int .i64 xa, .int .i64 xb] 62)).alloc (.cells #[.int .i64 xc, .int .i64 xd] 62)).alloc (.cells #[.int .i64 0, .int .i64 0] 62)) (w.heap.size + 2) 62 #[.int .i64 0, .int .i64 0] := Blk.at_ (by simp)
  go_enter Try.func56, Try.ntmps56
  go_wp2_with fail
  generalize (((w.alloc (.cells #[.int .i64 xa, .int .i64 xb] 62)).alloc (.cells #[.int .i64 xc, .int .i64 xd] 62)).alloc (.cells #[.int .i64 0, .int .i64 0] 62)) = w1 at hXe kA kB kR ⊢
  have HX := Lib.hid hXe
  clear hXe
  have KA := Lib.hid kA
  clear kA
  have KB := Lib.hid kB
  clear kB
  have KR := Lib.hid kR
  clear kR
  refine (both_any xa xb xc xd _).mono ?_
  rw [HB.out]
  rintro e w2 ⟨rfl, hX⟩
  replace hX : Ext w1 w2 := by with_reducible exact hX
  replace HX := Lib.hid (HX.out.trans hX)
  replace KA := Lib.hid (KA.out.ext hX)
  replace KB := Lib.hid (KB.out.ext hX)
  replace KR := Lib.hid (KR.out.ext hX)
  clear hX
  have cR0 : w2.cell? ⟨(w.heap.size + 2), 0, none⟩ = some (.int .i64 0) := KR.out.cell 0
  have fR0 : w2.frozen? ⟨(w.heap.size + 2), 0, none⟩ = false := KR.out.free 0
  have cR1 : w2.cell? ⟨(w.heap.size + 2), 1, none⟩ = some (.int .i64 0) := KR.out.cell 1
  have fR1 : w2.frozen? ⟨(w.heap.size + 2), 1, none⟩ = false := KR.out.free 1
  go_wp2
  refine bodyPost_ret (v := .tuple #[.agg #[.int .i64 0, .int .i64 0], .int .i64 2]) (by simp [results, Try.results56, go_sem, *]) rfl ?_
  exact ⟨rfl, HX.out.two (by omega) _ _⟩

theorem spans_plus (xa xb xc xd : Int) : ∃ z1 z2 z3 : Int, (∀ W, Calls Try.prog 54 #[.agg #[.int .i64 xa, .int .i64 xb], .agg #[.int .i64 xc, .int .i64 xd]] W (RetE W (.agg #[.int .i64 z1, .int .i64 z2]) z3)) ∧ (∀ W, Calls Try.prog 67 #[.int .i64 0, .agg #[.int .i64 xa, .int .i64 xb], .agg #[.int .i64 xc, .int .i64 xd]] W (RetE W (.agg #[.int .i64 z1, .int .i64 z2]) z3)) := by
  rcases hab : okS xa xb with _ | _
  · exact ⟨0, 0, 2, fun W => eplus_bad xa xb xc xd W (by rw [hab]; rfl), fun W => roperate_ba xa xb xc xd 0 W hab⟩
  · rcases hcd : okS xc xd with _ | _
    · exact ⟨0, 0, 2, fun W => eplus_bad xa xb xc xd W (by rw [hab, hcd]; rfl), fun W => roperate_bb xa xb xc xd 0 W hab hcd⟩
    · obtain ⟨a0, a1, a2⟩ := okS_in hab
      obtain ⟨b0, b1, b2⟩ := okS_in hcd
      obtain ⟨h1, h2⟩ := four_ints (z0 := xa + xc) (z1 := xa + xd) (z2 := xb + xc) (z3 := xb + xd) (qs := four (fun q r => q + r) xa xb xc xd) (by simp only [four, Rat.intCast_add])
      rw [show min (min (min (xa + xc) (xa + xd)) (xb + xc)) (xb + xd) = xa + xc by omega] at h1
      rw [show max (max (max (xa + xc) (xa + xd)) (xb + xc)) (xb + xd) = xb + xd by omega] at h2
      refine ⟨_, _, _, fun W => ?_, fun W => by have h := operate_add xa xb xc xd W hab hcd; rw [h1, h2] at h; exact h⟩
      by_cases hr : endE (xa + xc) = 0 ∧ endE (xb + xd) = 0
      · obtain ⟨e1, e2, e3⟩ := sp_yes hr.1 hr.2
        rw [e1, e2, e3]
        exact eplus_ok xa xb xc xd W hab hcd (endE_zero hr.1).1 (endE_zero hr.2).2
      · obtain ⟨e1, e2, e3⟩ := sp_no hr
        rw [e1, e2, e3]
        refine eplus_out xa xb xc xd W hab hcd ?_
        rw [endE_iff, endE_iff] at hr
        omega

theorem spans_minus (xa xb xc xd : Int) : ∃ z1 z2 z3 : Int, (∀ W, Calls Try.prog 55 #[.agg #[.int .i64 xa, .int .i64 xb], .agg #[.int .i64 xc, .int .i64 xd]] W (RetE W (.agg #[.int .i64 z1, .int .i64 z2]) z3)) ∧ (∀ W, Calls Try.prog 67 #[.int .i64 1, .agg #[.int .i64 xa, .int .i64 xb], .agg #[.int .i64 xc, .int .i64 xd]] W (RetE W (.agg #[.int .i64 z1, .int .i64 z2]) z3)) := by
  rcases hab : okS xa xb with _ | _
  · exact ⟨0, 0, 2, fun W => eminus_bad xa xb xc xd W (by rw [hab]; rfl), fun W => roperate_ba xa xb xc xd 1 W hab⟩
  · rcases hcd : okS xc xd with _ | _
    · exact ⟨0, 0, 2, fun W => eminus_bad xa xb xc xd W (by rw [hab, hcd]; rfl), fun W => roperate_bb xa xb xc xd 1 W hab hcd⟩
    · obtain ⟨a0, a1, a2⟩ := okS_in hab
      obtain ⟨b0, b1, b2⟩ := okS_in hcd
      obtain ⟨h1, h2⟩ := four_ints (z0 := xa - xc) (z1 := xa - xd) (z2 := xb - xc) (z3 := xb - xd) (qs := four (fun q r => q - r) xa xb xc xd) (by simp only [four, Rat.intCast_sub])
      rw [show min (min (min (xa - xc) (xa - xd)) (xb - xc)) (xb - xd) = xa - xd by omega] at h1
      rw [show max (max (max (xa - xc) (xa - xd)) (xb - xc)) (xb - xd) = xb - xc by omega] at h2
      refine ⟨_, _, _, fun W => ?_, fun W => by have h := operate_sub xa xb xc xd W hab hcd; rw [h1, h2] at h; exact h⟩
      by_cases hr : endE (xa - xd) = 0 ∧ endE (xb - xc) = 0
      · obtain ⟨e1, e2, e3⟩ := sp_yes hr.1 hr.2
        rw [e1, e2, e3]
        exact eminus_ok xa xb xc xd W hab hcd (endE_zero hr.1).1 (endE_zero hr.2).2
      · obtain ⟨e1, e2, e3⟩ := sp_no hr
        rw [e1, e2, e3]
        refine eminus_out xa xb xc xd W hab hcd ?_
        rw [endE_iff, endE_iff] at hr
        omega

theorem spans_times (xa xb xc xd : Int) : ∃ z1 z2 z3 : Int, (∀ W, Calls Try.prog 56 #[.agg #[.int .i64 xa, .int .i64 xb], .agg #[.int .i64 xc, .int .i64 xd]] W (RetE W (.agg #[.int .i64 z1, .int .i64 z2]) z3)) ∧ (∀ W, Calls Try.prog 67 #[.int .i64 2, .agg #[.int .i64 xa, .int .i64 xb], .agg #[.int .i64 xc, .int .i64 xd]] W (RetE W (.agg #[.int .i64 z1, .int .i64 z2]) z3)) := by
  rcases hab : okS xa xb with _ | _
  · exact ⟨0, 0, 2, fun W => etimes_bad xa xb xc xd W (by rw [hab]; rfl), fun W => roperate_ba xa xb xc xd 2 W hab⟩
  · rcases hcd : okS xc xd with _ | _
    · exact ⟨0, 0, 2, fun W => etimes_bad xa xb xc xd W (by rw [hab, hcd]; rfl), fun W => roperate_bb xa xb xc xd 2 W hab hcd⟩
    · obtain ⟨a0, a1, a2⟩ := okS_in hab
      obtain ⟨b0, b1, b2⟩ := okS_in hcd
      obtain ⟨h1, h2⟩ := four_ints (z0 := xa * xc) (z1 := xa * xd) (z2 := xb * xc) (z3 := xb * xd) (qs := four (fun q r => q * r) xa xb xc xd) (by simp only [four, Rat.intCast_mul])
      refine ⟨_, _, _, fun W => ?_, fun W => by have h := operate_mul xa xb xc xd W hab hcd; rw [h1, h2] at h; exact h⟩
      have ht := times_any xa xb xc xd W hab hcd
      unfold timesV timesE at ht
      have e0 : tp xa xb xc xd 0 = xa * xc := rfl
      have e1 : tp xa xb xc xd 1 = xa * xd := rfl
      have e2 : tp xa xb xc xd 2 = xb * xc := rfl
      have e3 : tp xa xb xc xd 3 = xb * xd := rfl
      have el : tlo xa xb xc xd 4 = min (min (min (min 1152921504606846976 (xa * xc)) (xa * xd)) (xb * xc)) (xb * xd) := rfl
      have eh : thi xa xb xc xd 4 = max (max (max (max (-1152921504606846976) (xa * xc)) (xa * xd)) (xb * xc)) (xb * xd) := rfl
      have hk : tok xa xb xc xd = (inN (xa * xc) && inN (xa * xd) && inN (xb * xc) && inN (xb * xd)) := rfl
      rw [inN_end, inN_end, inN_end, inN_end] at hk
      rw [el, eh] at ht
      generalize xa * xc = p0 at *
      generalize xa * xd = p1 at *
      generalize xb * xc = p2 at *
      generalize xb * xd = p3 at *
      rcases htk : tok xa xb xc xd with _ | _
      · rw [htk] at ht hk
        have hno : ¬ (endE (min (min (min p0 p1) p2) p3) = 0 ∧ endE (max (max (max p0 p1) p2) p3) = 0) := by
          rintro ⟨k1, k2⟩
          have k1 := endE_zero k1
          have k2 := endE_zero k2
          have q0 : endE p0 = 0 := endE_iff.2 (by omega)
          have q1 : endE p1 = 0 := endE_iff.2 (by omega)
          have q2 : endE p2 = 0 := endE_iff.2 (by omega)
          have q3 : endE p3 = 0 := endE_iff.2 (by omega)
          rw [q0, q1, q2, q3] at hk
          simp at hk
        obtain ⟨e1, e2, e3⟩ := sp_no hno
        rw [e1, e2, e3]
        exact ht
      · rw [htk] at ht hk
        have hk := hk.symm
        simp only [Bool.and_eq_true, decide_eq_true_eq] at hk
        obtain ⟨⟨⟨q0, q1⟩, q2⟩, q3⟩ := hk
        have q0 := endE_zero q0
        have q1 := endE_zero q1
        have q2 := endE_zero q2
        have q3 := endE_zero q3
        obtain ⟨e1, e2, e3⟩ := sp_yes (lo := min (min (min p0 p1) p2) p3) (hi := max (max (max p0 p1) p2) p3) (endE_iff.2 (min_in (min_in (min_in q0 q1) q2) q3)) (endE_iff.2 (max_in (max_in (max_in q0 q1) q2) q3))
        rw [e1, e2, e3]
        rw [show min 1152921504606846976 p0 = p0 by omega, show max (-1152921504606846976) p0 = p0 by omega] at ht
        exact ht

theorem spans_hull (xa xb xc xd : Int) : ∃ z1 z2 z3 : Int, (∀ W, Calls Try.prog 42 #[.agg #[.int .i64 xa, .int .i64 xb], .agg #[.int .i64 xc, .int .i64 xd]] W (RetE W (.agg #[.int .i64 z1, .int .i64 z2]) z3)) ∧ (∀ W, Calls Try.prog 69 #[.agg #[.int .i64 xa, .int .i64 xb], .agg #[.int .i64 xc, .int .i64 xd]] W (RetE W (.agg #[.int .i64 z1, .int .i64 z2]) z3)) := by
  rcases hab : okS xa xb with _ | _
  · exact ⟨0, 0, 2, fun W => ehull_bad xa xb xc xd W (by rw [hab]; rfl), fun W => rhull_ba xa xb xc xd W hab⟩
  · rcases hcd : okS xc xd with _ | _
    · exact ⟨0, 0, 2, fun W => ehull_bad xa xb xc xd W (by rw [hab, hcd]; rfl), fun W => rhull_bb xa xb xc xd W hab hcd⟩
    · exact ⟨_, _, 0, fun W => ehull_ok xa xb xc xd W hab hcd, fun W => rhull_ok xa xb xc xd W hab hcd⟩
theorem spans_meet (xa xb xc xd : Int) : ∃ (z1 z2 : Int) (bb : Bool) (z3 : Int), (∀ W, Calls Try.prog 43 #[.agg #[.int .i64 xa, .int .i64 xb], .agg #[.int .i64 xc, .int .i64 xd]] W fun e w' => e = .returned (.tuple #[.agg #[.int .i64 z1, .int .i64 z2], .bool bb, .int .i64 z3]) ∧ Ext W w') ∧ (∀ W, Calls Try.prog 70 #[.agg #[.int .i64 xa, .int .i64 xb], .agg #[.int .i64 xc, .int .i64 xd]] W fun e w' => e = .returned (.tuple #[.agg #[.int .i64 z1, .int .i64 z2], .bool bb, .int .i64 z3]) ∧ Ext W w') := by
  rcases hab : okS xa xb with _ | _
  · exact ⟨0, 0, false, 2, fun W => emeet_bad xa xb xc xd W (by rw [hab]; rfl), fun W => rmeet_ba xa xb xc xd W hab⟩
  · rcases hcd : okS xc xd with _ | _
    · exact ⟨0, 0, false, 2, fun W => emeet_bad xa xb xc xd W (by rw [hab, hcd]; rfl), fun W => rmeet_bb xa xb xc xd W hab hcd⟩
    · by_cases hm : max xa xc ≤ min xb xd
      · exact ⟨_, _, true, 0, fun W => emeet_ok xa xb xc xd W hab hcd hm, fun W => rmeet_oky xa xb xc xd W hab hcd hm⟩
      · exact ⟨0, 0, false, 0, fun W => emeet_no xa xb xc xd W hab hcd (by omega), fun W => rmeet_okn xa xb xc xd W hab hcd (by omega)⟩
theorem spans_gap (xa xb xc xd : Int) : ∃ (z1 z3 : Int), (∀ W, Calls Try.prog 44 #[.agg #[.int .i64 xa, .int .i64 xb], .agg #[.int .i64 xc, .int .i64 xd]] W fun e w' => e = .returned (.tuple #[.int .i64 z1, .int .i64 z3]) ∧ Ext W w') ∧ (∀ W, Calls Try.prog 71 #[.agg #[.int .i64 xa, .int .i64 xb], .agg #[.int .i64 xc, .int .i64 xd]] W fun e w' => e = .returned (.tuple #[.int .i64 z1, .int .i64 z3]) ∧ Ext W w') := by
  rcases hab : okS xa xb with _ | _
  · exact ⟨0, 2, fun W => egap_bad xa xb xc xd W (by rw [hab]; rfl), fun W => rgap_ba xa xb xc xd W hab⟩
  · rcases hcd : okS xc xd with _ | _
    · exact ⟨0, 2, fun W => egap_bad xa xb xc xd W (by rw [hab, hcd]; rfl), fun W => rgap_bb xa xb xc xd W hab hcd⟩
    · exact ⟨_, 0, fun W => egap_ok xa xb xc xd W hab hcd, fun W => rgap_ok xa xb xc xd W hab hcd⟩

end Go.Proofs.Yteoijnaljkagfaa
