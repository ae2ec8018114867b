/- Walks: ExactCorners and ExactPlanes. -/
import Derived.Test.YteoijnaljkagfaaL8
import Derived.Test.YteoijnaljkagfaaL9a
import Derived.Test.YteoijnaljkagfaaOpenY
namespace Go.Proofs.Yteoijnaljkagfaa
open Go.RowKit

set_option maxHeartbeats 1000000 in
theorem lvalid_any (x y : Int) (w : World) : Calls Try.prog 48 #[.agg #[.int .i64 x, .int .i64 y]] w fun e w' => e = .returned (.bool (okP (x, y))) ∧ Ext w w' := by
  have HX := Lib.hid ((Ext.refl w).alloc (.cells #[.int .i64 x, .int .i64 y] 23))
  rcases place_cases x y with ⟨hb, b1, b2, b3, b4⟩ | ⟨hb, b1 | ⟨b1, b2⟩ | ⟨b1, b2, b3⟩ | ⟨b1, b2, b3, b4⟩⟩
  all_goals
    rw [hb]
    clear hb
    go_enter Try.func48, Try.ntmps48
    go_wp2
    go_ret
    refine ⟨?_, HX.out⟩
    first
    | rfl
    | (show Ending.returned (.bool (decide (y ≤ 268435456))) = Ending.returned (.bool false); rw [decide_eq_false (by omega)])
theorem lvalid_is {x y : Int} {b : Bool} (h : okP (x, y) = b) (w : World) : Calls Try.prog 48 #[.agg #[.int .i64 x, .int .i64 y]] w fun e w' => e = .returned (.bool b) ∧ Ext w w' := by
  have := lvalid_any x y w
  rwa [h] at this
theorem turn_is {a1 a2 b1 b2 c1 c2 t : Int} (ha : okP (a1, a2) = true) (hb : okP (b1, b2) = true) (hc : okP (c1, c2) = true) (h : sgI (crossI (a1, a2) (b1, b2) (c1, c2)) = t) (w : World) :
    Calls Try.prog 18 #[.agg #[.int .i64 a1, .int .i64 a2], .agg #[.int .i64 b1, .int .i64 b2], .agg #[.int .i64 c1, .int .i64 c2]] w fun e w' => e = .returned (.tuple #[.int .i64 t, .int .i64 0]) ∧ Ext w w' := by
  have := turn_any a1 a2 b1 b2 c1 c2 w
  rwa [(turn_good ha hb hc).1, (turn_good ha hb hc).2, h] at this
theorem circ_is {a1 a2 b1 b2 c1 c2 d1 d2 n : Int} (ha : okP (a1, a2) = true) (hb : okP (b1, b2) = true) (hc : okP (c1, c2) = true) (hd : okP (d1, d2) = true) (hz : crossI (a1, a2) (b1, b2) (c1, c2) ≠ 0) (h : circI (a1, a2) (b1, b2) (c1, c2) (d1, d2) = n) (w : World) :
    Calls Try.prog 46 #[.agg #[.int .i64 a1, .int .i64 a2], .agg #[.int .i64 b1, .int .i64 b2], .agg #[.int .i64 c1, .int .i64 c2], .agg #[.int .i64 d1, .int .i64 d2]] w fun e w' => e = .returned (.tuple #[.int .i64 n, .int .i64 0]) ∧ Ext w w' := by
  rw [← h]
  exact circ_ok a1 a2 b1 b2 c1 c2 d1 d2 w ((okPs4 _ _ _ _).2 ⟨ha, hb, hc, hd⟩) hz
theorem circ_fl {a1 a2 b1 b2 c1 c2 d1 d2 : Int} (ha : okP (a1, a2) = true) (hb : okP (b1, b2) = true) (hc : okP (c1, c2) = true) (hd : okP (d1, d2) = true) (hz : crossI (a1, a2) (b1, b2) (c1, c2) = 0) (w : World) :
    Calls Try.prog 46 #[.agg #[.int .i64 a1, .int .i64 a2], .agg #[.int .i64 b1, .int .i64 b2], .agg #[.int .i64 c1, .int .i64 c2], .agg #[.int .i64 d1, .int .i64 d2]] w fun e w' => e = .returned (.tuple #[.int .i64 0, .int .i64 12]) ∧ Ext w w' :=
  circ_flat a1 a2 b1 b2 c1 c2 d1 d2 w ((okPs4 _ _ _ _).2 ⟨ha, hb, hc, hd⟩) hz

set_option maxRecDepth 100000 in
set_option maxHeartbeats 2000000 in
theorem corners_bad0 (a1 a2 b1 b2 c1 c2 : Int) (w : World) (ha : okP (a1, a2) = false) :
    Calls Try.prog 11 #[.agg #[.int .i64 a1, .int .i64 a2], .agg #[.int .i64 b1, .int .i64 b2], .agg #[.int .i64 c1, .int .i64 c2]] w (fun e w' => e = .returned (.bool true) ∧ Ext w w') := by
  have Oa := Lib.hid ha
  clear ha
  have hXe : Ext w (((w.alloc (.cells #[.int .i64 a1, .int .i64 a2] 23)).alloc (.cells #[.int .i64 b1, .int .i64 b2] 23)).alloc (.cells #[.int .i64 c1, .int .i64 c2] 23)) := ((((Ext.refl w).alloc _).alloc _).alloc _)
  have kA : Blk (((w.alloc (.cells #[.int .i64 a1, .int .i64 a2] 23)).alloc (.cells #[.int .i64 b1, .int .i64 b2] 23)).alloc (.cells #[.int .i64 c1, .int .i64 c2] 23)) w.heap.size 23 #[.int .i64 a1, .int .i64 a2] := Blk.alloc (Blk.alloc (Blk.at_ (by simp)) _) _
  have kB : Blk (((w.alloc (.cells #[.int .i64 a1, .int .i64 a2] 23)).alloc (.cells #[.int .i64 b1, .int .i64 b2] 23)).alloc (.cells #[.int .i64 c1, .int .i64 c2] 23)) (w.heap.size + 1) 23 #[.int .i64 b1, .int .i64 b2] := Blk.alloc (Blk.at_ (by simp)) _
  have kC : Blk (((w.alloc (.cells #[.int .i64 a1, .int .i64 a2] 23)).alloc (.cells #[.int .i64 b1, .int .i64 b2] 23)).alloc (.cells #[.int .i64 c1, .int .i64 c2] 23)) (w.heap.size + 2) 23 #[.int .i64 c1, .int .i64 c2] := Blk.at_ (by simp)
  go_enter Try.func11, Try.ntmps11
  go_wp2_with fail
  generalize (((w.alloc (.cells #[.int .i64 a1, .int .i64 a2] 23)).alloc (.cells #[.int .i64 b1, .int .i64 b2] 23)).alloc (.cells #[.int .i64 c1, .int .i64 c2] 23)) = w1 at hXe kA kB kC ⊢
  have HX := Lib.hid hXe
  clear hXe
  have KA := Lib.hid kA
  clear kA
  have KB := Lib.hid kB
  clear kB
  have KC := Lib.hid kC
  clear kC
  refine (lvalid_is Oa.out _).mono ?_
  rintro e w2 ⟨rfl, hX⟩
  replace HX := Lib.hid (HX.out.trans hX)
  replace KA := Lib.hid (KA.out.ext hX)
  replace KB := Lib.hid (KB.out.ext hX)
  replace KC := Lib.hid (KC.out.ext hX)
  clear hX
  go_wp2_with fail
  refine (first_any _).mono ?_
  rintro e w3 ⟨rfl, hX⟩
  replace HX := Lib.hid (HX.out.trans hX)
  replace KA := Lib.hid (KA.out.ext hX)
  replace KB := Lib.hid (KB.out.ext hX)
  replace KC := Lib.hid (KC.out.ext hX)
  clear hX
  go_wp2
  go_ret
  exact ⟨rfl, HX.out⟩

set_option maxRecDepth 100000 in
set_option maxHeartbeats 2000000 in
theorem corners_bad1 (a1 a2 b1 b2 c1 c2 : Int) (w : World) (ha : okP (a1, a2) = true) (hb : okP (b1, b2) = false) :
    Calls Try.prog 11 #[.agg #[.int .i64 a1, .int .i64 a2], .agg #[.int .i64 b1, .int .i64 b2], .agg #[.int .i64 c1, .int .i64 c2]] w (fun e w' => e = .returned (.bool true) ∧ Ext w w') := by
  have Oa := Lib.hid ha
  clear ha
  have Ob := Lib.hid hb
  clear hb
  have hXe : Ext w (((w.alloc (.cells #[.int .i64 a1, .int .i64 a2] 23)).alloc (.cells #[.int .i64 b1, .int .i64 b2] 23)).alloc (.cells #[.int .i64 c1, .int .i64 c2] 23)) := ((((Ext.refl w).alloc _).alloc _).alloc _)
  have kA : Blk (((w.alloc (.cells #[.int .i64 a1, .int .i64 a2] 23)).alloc (.cells #[.int .i64 b1, .int .i64 b2] 23)).alloc (.cells #[.int .i64 c1, .int .i64 c2] 23)) w.heap.size 23 #[.int .i64 a1, .int .i64 a2] := Blk.alloc (Blk.alloc (Blk.at_ (by simp)) _) _
  have kB : Blk (((w.alloc (.cells #[.int .i64 a1, .int .i64 a2] 23)).alloc (.cells #[.int .i64 b1, .int .i64 b2] 23)).alloc (.cells #[.int .i64 c1, .int .i64 c2] 23)) (w.heap.size + 1) 23 #[.int .i64 b1, .int .i64 b2] := Blk.alloc (Blk.at_ (by simp)) _
  have kC : Blk (((w.alloc (.cells #[.int .i64 a1, .int .i64 a2] 23)).alloc (.cells #[.int .i64 b1, .int .i64 b2] 23)).alloc (.cells #[.int .i64 c1, .int .i64 c2] 23)) (w.heap.size + 2) 23 #[.int .i64 c1, .int .i64 c2] := Blk.at_ (by simp)
  go_enter Try.func11, Try.ntmps11
  go_wp2_with fail
  generalize (((w.alloc (.cells #[.int .i64 a1, .int .i64 a2] 23)).alloc (.cells #[.int .i64 b1, .int .i64 b2] 23)).alloc (.cells #[.int .i64 c1, .int .i64 c2] 23)) = w1 at hXe kA kB kC ⊢
  have HX := Lib.hid hXe
  clear hXe
  have KA := Lib.hid kA
  clear kA
  have KB := Lib.hid kB
  clear kB
  have KC := Lib.hid kC
  clear kC
  refine (lvalid_is Oa.out _).mono ?_
  rintro e w2 ⟨rfl, hX⟩
  replace HX := Lib.hid (HX.out.trans hX)
  replace KA := Lib.hid (KA.out.ext hX)
  replace KB := Lib.hid (KB.out.ext hX)
  replace KC := Lib.hid (KC.out.ext hX)
  clear hX
  have cA0 : w2.cell? ⟨w.heap.size, 0, none⟩ = some (.int .i64 a1) := KA.out.cell 0
  have cA1 : w2.cell? ⟨w.heap.size, 1, none⟩ = some (.int .i64 a2) := KA.out.cell 1
  have cB0 : w2.cell? ⟨(w.heap.size + 1), 0, none⟩ = some (.int .i64 b1) := KB.out.cell 0
  have cB1 : w2.cell? ⟨(w.heap.size + 1), 1, none⟩ = some (.int .i64 b2) := KB.out.cell 1
  have cC0 : w2.cell? ⟨(w.heap.size + 2), 0, none⟩ = some (.int .i64 c1) := KC.out.cell 0
  have cC1 : w2.cell? ⟨(w.heap.size + 2), 1, none⟩ = some (.int .i64 c2) := KC.out.cell 1
  go_wp2_with fail
  clear cA0 cA1 cB0 cB1 cC0 cC1
  refine (lvalid_is Ob.out _).mono ?_
  rintro e w3 ⟨rfl, hX⟩
  replace HX := Lib.hid (HX.out.trans hX)
  replace KA := Lib.hid (KA.out.ext hX)
  replace KB := Lib.hid (KB.out.ext hX)
  replace KC := Lib.hid (KC.out.ext hX)
  clear hX
  go_wp2_with fail
  refine (first_any _).mono ?_
  rintro e w4 ⟨rfl, hX⟩
  replace HX := Lib.hid (HX.out.trans hX)
  replace KA := Lib.hid (KA.out.ext hX)
  replace KB := Lib.hid (KB.out.ext hX)
  replace KC := Lib.hid (KC.out.ext hX)
  clear hX
  go_wp2
  go_ret
  exact ⟨rfl, HX.out⟩

set_option maxRecDepth 100000 in
set_option maxHeartbeats 2000000 in
theorem corners_bad2 (a1 a2 b1 b2 c1 c2 : Int) (w : World) (ha : okP (a1, a2) = true) (hb : okP (b1, b2) = true) (hc : okP (c1, c2) = false) :
    Calls Try.prog 11 #[.agg #[.int .i64 a1, .int .i64 a2], .agg #[.int .i64 b1, .int .i64 b2], .agg #[.int .i64 c1, .int .i64 c2]] w (fun e w' => e = .returned (.bool true) ∧ Ext w w') := by
  have Oa := Lib.hid ha
  clear ha
  have Ob := Lib.hid hb
  clear hb
  have Oc := Lib.hid hc
  clear hc
  have hXe : Ext w (((w.alloc (.cells #[.int .i64 a1, .int .i64 a2] 23)).alloc (.cells #[.int .i64 b1, .int .i64 b2] 23)).alloc (.cells #[.int .i64 c1, .int .i64 c2] 23)) := ((((Ext.refl w).alloc _).alloc _).alloc _)
  have kA : Blk (((w.alloc (.cells #[.int .i64 a1, .int .i64 a2] 23)).alloc (.cells #[.int .i64 b1, .int .i64 b2] 23)).alloc (.cells #[.int .i64 c1, .int .i64 c2] 23)) w.heap.size 23 #[.int .i64 a1, .int .i64 a2] := Blk.alloc (Blk.alloc (Blk.at_ (by simp)) _) _
  have kB : Blk (((w.alloc (.cells #[.int .i64 a1, .int .i64 a2] 23)).alloc (.cells #[.int .i64 b1, .int .i64 b2] 23)).alloc (.cells #[.int .i64 c1, .int .i64 c2] 23)) (w.heap.size + 1) 23 #[.int .i64 b1, .int .i64 b2] := Blk.alloc (Blk.at_ (by simp)) _
  have kC : Blk (((w.alloc (.cells #[.int .i64 a1, .int .i64 a2] 23)).alloc (.cells #[.int .i64 b1, .int .i64 b2] 23)).alloc (.cells #[.int .i64 c1, .int .i64 c2] 23)) (w.heap.size + 2) 23 #[.int .i64 c1, .int .i64 c2] := Blk.at_ (by simp)
  go_enter Try.func11, Try.ntmps11
  go_wp2_with fail
  generalize (((w.alloc (.cells #[.int .i64 a1, .int .i64 a2] 23)).alloc (.cells #[.int .i64 b1, .int .i64 b2] 23)).alloc (.cells #[.int .i64 c1, .int .i64 c2] 23)) = w1 at hXe kA kB kC ⊢
  have HX := Lib.hid hXe
  clear hXe
  have KA := Lib.hid kA
  clear kA
  have KB := Lib.hid kB
  clear kB
  have KC := Lib.hid kC
  clear kC
  refine (lvalid_is Oa.out _).mono ?_
  rintro e w2 ⟨rfl, hX⟩
  replace HX := Lib.hid (HX.out.trans hX)
  replace KA := Lib.hid (KA.out.ext hX)
  replace KB := Lib.hid (KB.out.ext hX)
  replace KC := Lib.hid (KC.out.ext hX)
  clear hX
  have cA0 : w2.cell? ⟨w.heap.size, 0, none⟩ = some (.int .i64 a1) := KA.out.cell 0
  have cA1 : w2.cell? ⟨w.heap.size, 1, none⟩ = some (.int .i64 a2) := KA.out.cell 1
  have cB0 : w2.cell? ⟨(w.heap.size + 1), 0, none⟩ = some (.int .i64 b1) := KB.out.cell 0
  have cB1 : w2.cell? ⟨(w.heap.size + 1), 1, none⟩ = some (.int .i64 b2) := KB.out.cell 1
  have cC0 : w2.cell? ⟨(w.heap.size + 2), 0, none⟩ = some (.int .i64 c1) := KC.out.cell 0
  have cC1 : w2.cell? ⟨(w.heap.size + 2), 1, none⟩ = some (.int .i64 c2) := KC.out.cell 1
  go_wp2_with fail
  clear cA0 cA1 cB0 cB1 cC0 cC1
  refine (lvalid_is Ob.out _).mono ?_
  rintro e w3 ⟨rfl, hX⟩
  replace HX := Lib.hid (HX.out.trans hX)
  replace KA := Lib.hid (KA.out.ext hX)
  replace KB := Lib.hid (KB.out.ext hX)
  replace KC := Lib.hid (KC.out.ext hX)
  clear hX
  have cA0 : w3.cell? ⟨w.heap.size, 0, none⟩ = some (.int .i64 a1) := KA.out.cell 0
  have cA1 : w3.cell? ⟨w.heap.size, 1, none⟩ = some (.int .i64 a2) := KA.out.cell 1
  have cB0 : w3.cell? ⟨(w.heap.size + 1), 0, none⟩ = some (.int .i64 b1) := KB.out.cell 0
  have cB1 : w3.cell? ⟨(w.heap.size + 1), 1, none⟩ = some (.int .i64 b2) := KB.out.cell 1
  have cC0 : w3.cell? ⟨(w.heap.size + 2), 0, none⟩ = some (.int .i64 c1) := KC.out.cell 0
  have cC1 : w3.cell? ⟨(w.heap.size + 2), 1, none⟩ = some (.int .i64 c2) := KC.out.cell 1
  go_wp2_with fail
  clear cA0 cA1 cB0 cB1 cC0 cC1
  refine (lvalid_is Oc.out _).mono ?_
  rintro e w4 ⟨rfl, hX⟩
  replace HX := Lib.hid (HX.out.trans hX)
  replace KA := Lib.hid (KA.out.ext hX)
  replace KB := Lib.hid (KB.out.ext hX)
  replace KC := Lib.hid (KC.out.ext hX)
  clear hX
  go_wp2_with fail
  refine (first_any _).mono ?_
  rintro e w5 ⟨rfl, hX⟩
  replace HX := Lib.hid (HX.out.trans hX)
  replace KA := Lib.hid (KA.out.ext hX)
  replace KB := Lib.hid (KB.out.ext hX)
  replace KC := Lib.hid (KC.out.ext hX)
  clear hX
  go_wp2
  go_ret
  exact ⟨rfl, HX.out⟩

set_option maxRecDepth 100000 in
set_option maxHeartbeats 2000000 in
theorem corners_flat (a1 a2 b1 b2 c1 c2 : Int) (w : World) (ha : okP (a1, a2) = true) (hb : okP (b1, b2) = true) (hc : okP (c1, c2) = true) (hz : crossI (a1, a2) (b1, b2) (c1, c2) = 0) :
    Calls Try.prog 11 #[.agg #[.int .i64 a1, .int .i64 a2], .agg #[.int .i64 b1, .int .i64 b2], .agg #[.int .i64 c1, .int .i64 c2]] w (fun e w' => e = .returned (.bool true) ∧ Ext w w') := by
  have Oa := Lib.hid ha
  clear ha
  have Ob := Lib.hid hb
  clear hb
  have Oc := Lib.hid hc
  clear hc
  have HZ := Lib.hid hz
  have HT : Hid (sgI (crossI (a1, a2) (b1, b2) (c1, c2)) = 0) := sgI_zero.2 hz
  clear hz
  have hXe : Ext w (((w.alloc (.cells #[.int .i64 a1, .int .i64 a2] 23)).alloc (.cells #[.int .i64 b1, .int .i64 b2] 23)).alloc (.cells #[.int .i64 c1, .int .i64 c2] 23)) := ((((Ext.refl w).alloc _).alloc _).alloc _)
  have kA : Blk (((w.alloc (.cells #[.int .i64 a1, .int .i64 a2] 23)).alloc (.cells #[.int .i64 b1, .int .i64 b2] 23)).alloc (.cells #[.int .i64 c1, .int .i64 c2] 23)) w.heap.size 23 #[.int .i64 a1, .int .i64 a2] := Blk.alloc (Blk.alloc (Blk.at_ (by simp)) _) _
  have kB : Blk (((w.alloc (.cells #[.int .i64 a1, .int .i64 a2] 23)).alloc (.cells #[.int .i64 b1, .int .i64 b2] 23)).alloc (.cells #[.int .i64 c1, .int .i64 c2] 23)) (w.heap.size + 1) 23 #[.int .i64 b1, .int .i64 b2] := Blk.alloc (Blk.at_ (by simp)) _
  have kC : Blk (((w.alloc (.cells #[.int .i64 a1, .int .i64 a2] 23)).alloc (.cells #[.int .i64 b1, .int .i64 b2] 23)).alloc (.cells #[.int .i64 c1, .int .i64 c2] 23)) (w.heap.size + 2) 23 #[.int .i64 c1, .int .i64 c2] := Blk.at_ (by simp)
  go_enter Try.func11, Try.ntmps11
  go_wp2_with fail
  generalize (((w.alloc (.cells #[.int .i64 a1, .int .i64 a2] 23)).alloc (.cells #[.int .i64 b1, .int .i64 b2] 23)).alloc (.cells #[.int .i64 c1, .int .i64 c2] 23)) = w1 at hXe kA kB kC ⊢
  have HX := Lib.hid hXe
  clear hXe
  have KA := Lib.hid kA
  clear kA
  have KB := Lib.hid kB
  clear kB
  have KC := Lib.hid kC
  clear kC
  refine (lvalid_is Oa.out _).mono ?_
  rintro e w2 ⟨rfl, hX⟩
  replace HX := Lib.hid (HX.out.trans hX)
  replace KA := Lib.hid (KA.out.ext hX)
  replace KB := Lib.hid (KB.out.ext hX)
  replace KC := Lib.hid (KC.out.ext hX)
  clear hX
  have cA0 : w2.cell? ⟨w.heap.size, 0, none⟩ = some (.int .i64 a1) := KA.out.cell 0
  have cA1 : w2.cell? ⟨w.heap.size, 1, none⟩ = some (.int .i64 a2) := KA.out.cell 1
  have cB0 : w2.cell? ⟨(w.heap.size + 1), 0, none⟩ = some (.int .i64 b1) := KB.out.cell 0
  have cB1 : w2.cell? ⟨(w.heap.size + 1), 1, none⟩ = some (.int .i64 b2) := KB.out.cell 1
  have cC0 : w2.cell? ⟨(w.heap.size + 2), 0, none⟩ = some (.int .i64 c1) := KC.out.cell 0
  have cC1 : w2.cell? ⟨(w.heap.size + 2), 1, none⟩ = some (.int .i64 c2) := KC.out.cell 1
  go_wp2_with fail
  clear cA0 cA1 cB0 cB1 cC0 cC1
  refine (lvalid_is Ob.out _).mono ?_
  rintro e w3 ⟨rfl, hX⟩
  replace HX := Lib.hid (HX.out.trans hX)
  replace KA := Lib.hid (KA.out.ext hX)
  replace KB := Lib.hid (KB.out.ext hX)
  replace KC := Lib.hid (KC.out.ext hX)
  clear hX
  have cA0 : w3.cell? ⟨w.heap.size, 0, none⟩ = some (.int .i64 a1) := KA.out.cell 0
  have cA1 : w3.cell? ⟨w.heap.size, 1, none⟩ = some (.int .i64 a2) := KA.out.cell 1
  have cB0 : w3.cell? ⟨(w.heap.size + 1), 0, none⟩ = some (.int .i64 b1) := KB.out.cell 0
  have cB1 : w3.cell? ⟨(w.heap.size + 1), 1, none⟩ = some (.int .i64 b2) := KB.out.cell 1
  have cC0 : w3.cell? ⟨(w.heap.size + 2), 0, none⟩ = some (.int .i64 c1) := KC.out.cell 0
  have cC1 : w3.cell? ⟨(w.heap.size + 2), 1, none⟩ = some (.int .i64 c2) := KC.out.cell 1
  go_wp2_with fail
  clear cA0 cA1 cB0 cB1 cC0 cC1
  refine (lvalid_is Oc.out _).mono ?_
  rintro e w4 ⟨rfl, hX⟩
  replace HX := Lib.hid (HX.out.trans hX)
  replace KA := Lib.hid (KA.out.ext hX)
  replace KB := Lib.hid (KB.out.ext hX)
  replace KC := Lib.hid (KC.out.ext hX)
  clear hX
  have cA0 : w4.cell? ⟨w.heap.size, 0, none⟩ = some (.int .i64 a1) := KA.out.cell 0
  have cA1 : w4.cell? ⟨w.heap.size, 1, none⟩ = some (.int .i64 a2) := KA.out.cell 1
  have cB0 : w4.cell? ⟨(w.heap.size + 1), 0, none⟩ = some (.int .i64 b1) := KB.out.cell 0
  have cB1 : w4.cell? ⟨(w.heap.size + 1), 1, none⟩ = some (.int .i64 b2) := KB.out.cell 1
  have cC0 : w4.cell? ⟨(w.heap.size + 2), 0, none⟩ = some (.int .i64 c1) := KC.out.cell 0
  have cC1 : w4.cell? ⟨(w.heap.size + 2), 1, none⟩ = some (.int .i64 c2) := KC.out.cell 1
  go_wp2_with fail
  clear cA0 cA1 cB0 cB1 cC0 cC1
  refine (circ_fl Oa.out Ob.out Oc.out Oa.out HZ.out _).mono ?_
  rintro e w5 ⟨rfl, hX⟩
  replace HX := Lib.hid (HX.out.trans hX)
  replace KA := Lib.hid (KA.out.ext hX)
  replace KB := Lib.hid (KB.out.ext hX)
  replace KC := Lib.hid (KC.out.ext hX)
  clear hX
  have cA0 : w5.cell? ⟨w.heap.size, 0, none⟩ = some (.int .i64 a1) := KA.out.cell 0
  have cA1 : w5.cell? ⟨w.heap.size, 1, none⟩ = some (.int .i64 a2) := KA.out.cell 1
  have cB0 : w5.cell? ⟨(w.heap.size + 1), 0, none⟩ = some (.int .i64 b1) := KB.out.cell 0
  have cB1 : w5.cell? ⟨(w.heap.size + 1), 1, none⟩ = some (.int .i64 b2) := KB.out.cell 1
  have cC0 : w5.cell? ⟨(w.heap.size + 2), 0, none⟩ = some (.int .i64 c1) := KC.out.cell 0
  have cC1 : w5.cell? ⟨(w.heap.size + 2), 1, none⟩ = some (.int .i64 c2) := KC.out.cell 1
  go_wp2_with fail
  clear cA0 cA1 cB0 cB1 cC0 cC1
  refine (circ_fl Oa.out Ob.out Oc.out Ob.out HZ.out _).mono ?_
  rintro e w6 ⟨rfl, hX⟩
  replace HX := Lib.hid (HX.out.trans hX)
  replace KA := Lib.hid (KA.out.ext hX)
  replace KB := Lib.hid (KB.out.ext hX)
  replace KC := Lib.hid (KC.out.ext hX)
  clear hX
  have cA0 : w6.cell? ⟨w.heap.size, 0, none⟩ = some (.int .i64 a1) := KA.out.cell 0
  have cA1 : w6.cell? ⟨w.heap.size, 1, none⟩ = some (.int .i64 a2) := KA.out.cell 1
  have cB0 : w6.cell? ⟨(w.heap.size + 1), 0, none⟩ = some (.int .i64 b1) := KB.out.cell 0
  have cB1 : w6.cell? ⟨(w.heap.size + 1), 1, none⟩ = some (.int .i64 b2) := KB.out.cell 1
  have cC0 : w6.cell? ⟨(w.heap.size + 2), 0, none⟩ = some (.int .i64 c1) := KC.out.cell 0
  have cC1 : w6.cell? ⟨(w.heap.size + 2), 1, none⟩ = some (.int .i64 c2) := KC.out.cell 1
  go_wp2_with fail
  clear cA0 cA1 cB0 cB1 cC0 cC1
  refine (circ_fl Oa.out Ob.out Oc.out Oc.out HZ.out _).mono ?_
  rintro e w7 ⟨rfl, hX⟩
  replace HX := Lib.hid (HX.out.trans hX)
  replace KA := Lib.hid (KA.out.ext hX)
  replace KB := Lib.hid (KB.out.ext hX)
  replace KC := Lib.hid (KC.out.ext hX)
  clear hX
  have cA0 : w7.cell? ⟨w.heap.size, 0, none⟩ = some (.int .i64 a1) := KA.out.cell 0
  have cA1 : w7.cell? ⟨w.heap.size, 1, none⟩ = some (.int .i64 a2) := KA.out.cell 1
  have cB0 : w7.cell? ⟨(w.heap.size + 1), 0, none⟩ = some (.int .i64 b1) := KB.out.cell 0
  have cB1 : w7.cell? ⟨(w.heap.size + 1), 1, none⟩ = some (.int .i64 b2) := KB.out.cell 1
  have cC0 : w7.cell? ⟨(w.heap.size + 2), 0, none⟩ = some (.int .i64 c1) := KC.out.cell 0
  have cC1 : w7.cell? ⟨(w.heap.size + 2), 1, none⟩ = some (.int .i64 c2) := KC.out.cell 1
  go_wp2_with fail
  clear cA0 cA1 cB0 cB1 cC0 cC1
  refine (turn_is Oa.out Ob.out Oc.out HT.out _).mono ?_
  rintro e w8 ⟨rfl, hX⟩
  replace HX := Lib.hid (HX.out.trans hX)
  replace KA := Lib.hid (KA.out.ext hX)
  replace KB := Lib.hid (KB.out.ext hX)
  replace KC := Lib.hid (KC.out.ext hX)
  clear hX
  have cA0 : w8.cell? ⟨w.heap.size, 0, none⟩ = some (.int .i64 a1) := KA.out.cell 0
  have cA1 : w8.cell? ⟨w.heap.size, 1, none⟩ = some (.int .i64 a2) := KA.out.cell 1
  have cB0 : w8.cell? ⟨(w.heap.size + 1), 0, none⟩ = some (.int .i64 b1) := KB.out.cell 0
  have cB1 : w8.cell? ⟨(w.heap.size + 1), 1, none⟩ = some (.int .i64 b2) := KB.out.cell 1
  have cC0 : w8.cell? ⟨(w.heap.size + 2), 0, none⟩ = some (.int .i64 c1) := KC.out.cell 0
  have cC1 : w8.cell? ⟨(w.heap.size + 2), 1, none⟩ = some (.int .i64 c2) := KC.out.cell 1
  go_wp2_with fail
  clear cA0 cA1 cB0 cB1 cC0 cC1
  refine (first_any _).mono ?_
  rintro e w9 ⟨rfl, hX⟩
  replace HX := Lib.hid (HX.out.trans hX)
  replace KA := Lib.hid (KA.out.ext hX)
  replace KB := Lib.hid (KB.out.ext hX)
  replace KC := Lib.hid (KC.out.ext hX)
  clear hX
  go_wp2
  go_ret
  exact ⟨rfl, HX.out⟩

set_option maxRecDepth 100000 in
set_option maxHeartbeats 2000000 in
theorem corners_ok (a1 a2 b1 b2 c1 c2 : Int) (w : World) (ha : okP (a1, a2) = true) (hb : okP (b1, b2) = true) (hc : okP (c1, c2) = true) (hz : crossI (a1, a2) (b1, b2) (c1, c2) ≠ 0) :
    Calls Try.prog 11 #[.agg #[.int .i64 a1, .int .i64 a2], .agg #[.int .i64 b1, .int .i64 b2], .agg #[.int .i64 c1, .int .i64 c2]] w (fun e w' => e = .returned (.bool true) ∧ Ext w w') := by
  have Oa := Lib.hid ha
  clear ha
  have Ob := Lib.hid hb
  clear hb
  have Oc := Lib.hid hc
  clear hc
  obtain ⟨t, ht⟩ : ∃ t, sgI (crossI (a1, a2) (b1, b2) (c1, c2)) = t := ⟨_, rfl⟩
  have HT := Lib.hid ht
  have ht0 : (t == 0) = false := by
    rw [← ht]; simp only [beq_eq_false_iff_ne, ne_eq]; exact fun h => hz (sgI_zero.1 h)
  have HZ := Lib.hid hz
  clear hz ht
  have HCa : Hid (circI (a1, a2) (b1, b2) (c1, c2) (a1, a2) = 0) := by
    show _ = _
    unfold circI; rw [det_a]; exact Int.mul_zero _
  have HCb : Hid (circI (a1, a2) (b1, b2) (c1, c2) (b1, b2) = 0) := by
    show _ = _
    unfold circI; rw [det_b]; exact Int.mul_zero _
  have HCc : Hid (circI (a1, a2) (b1, b2) (c1, c2) (c1, c2) = 0) := by
    show _ = _
    unfold circI; rw [det_c]; exact Int.mul_zero _
  have hXe : Ext w (((w.alloc (.cells #[.int .i64 a1, .int .i64 a2] 23)).alloc (.cells #[.int .i64 b1, .int .i64 b2] 23)).alloc (.cells #[.int .i64 c1, .int .i64 c2] 23)) := ((((Ext.refl w).alloc _).alloc _).alloc _)
  have kA : Blk (((w.alloc (.cells #[.int .i64 a1, .int .i64 a2] 23)).alloc (.cells #[.int .i64 b1, .int .i64 b2] 23)).alloc (.cells #[.int .i64 c1, .int .i64 c2] 23)) w.heap.size 23 #[.int .i64 a1, .int .i64 a2] := Blk.alloc (Blk.alloc (Blk.at_ (by simp)) _) _
  have kB : Blk (((w.alloc (.cells #[.int .i64 a1, .int .i64 a2] 23)).alloc (.cells #[.int .i64 b1, .int .i64 b2] 23)).alloc (.cells #[.int .i64 c1, .int .i64 c2] 23)) (w.heap.size + 1) 23 #[.int .i64 b1, .int .i64 b2] := Blk.alloc (Blk.at_ (by simp)) _
  have kC : Blk (((w.alloc (.cells #[.int .i64 a1, .int .i64 a2] 23)).alloc (.cells #[.int .i64 b1, .int .i64 b2] 23)).alloc (.cells #[.int .i64 c1, .int .i64 c2] 23)) (w.heap.size + 2) 23 #[.int .i64 c1, .int .i64 c2] := Blk.at_ (by simp)
  go_enter Try.func11, Try.ntmps11
  go_wp2_with fail
  generalize (((w.alloc (.cells #[.int .i64 a1, .int .i64 a2] 23)).alloc (.cells #[.int .i64 b1, .int .i64 b2] 23)).alloc (.cells #[.int .i64 c1, .int .i64 c2] 23)) = w1 at hXe kA kB kC ⊢
  have HX := Lib.hid hXe
  clear hXe
  have KA := Lib.hid kA
  clear kA
  have KB := Lib.hid kB
  clear kB
  have KC := Lib.hid kC
  clear kC
  refine (lvalid_is Oa.out _).mono ?_
  rintro e w2 ⟨rfl, hX⟩
  replace HX := Lib.hid (HX.out.trans hX)
  replace KA := Lib.hid (KA.out.ext hX)
  replace KB := Lib.hid (KB.out.ext hX)
  replace KC := Lib.hid (KC.out.ext hX)
  clear hX
  have cA0 : w2.cell? ⟨w.heap.size, 0, none⟩ = some (.int .i64 a1) := KA.out.cell 0
  have cA1 : w2.cell? ⟨w.heap.size, 1, none⟩ = some (.int .i64 a2) := KA.out.cell 1
  have cB0 : w2.cell? ⟨(w.heap.size + 1), 0, none⟩ = some (.int .i64 b1) := KB.out.cell 0
  have cB1 : w2.cell? ⟨(w.heap.size + 1), 1, none⟩ = some (.int .i64 b2) := KB.out.cell 1
  have cC0 : w2.cell? ⟨(w.heap.size + 2), 0, none⟩ = some (.int .i64 c1) := KC.out.cell 0
  have cC1 : w2.cell? ⟨(w.heap.size + 2), 1, none⟩ = some (.int .i64 c2) := KC.out.cell 1
  go_wp2_with fail
  clear cA0 cA1 cB0 cB1 cC0 cC1
  refine (lvalid_is Ob.out _).mono ?_
  rintro e w3 ⟨rfl, hX⟩
  replace HX := Lib.hid (HX.out.trans hX)
  replace KA := Lib.hid (KA.out.ext hX)
  replace KB := Lib.hid (KB.out.ext hX)
  replace KC := Lib.hid (KC.out.ext hX)
  clear hX
  have cA0 : w3.cell? ⟨w.heap.size, 0, none⟩ = some (.int .i64 a1) := KA.out.cell 0
  have cA1 : w3.cell? ⟨w.heap.size, 1, none⟩ = some (.int .i64 a2) := KA.out.cell 1
  have cB0 : w3.cell? ⟨(w.heap.size + 1), 0, none⟩ = some (.int .i64 b1) := KB.out.cell 0
  have cB1 : w3.cell? ⟨(w.heap.size + 1), 1, none⟩ = some (.int .i64 b2) := KB.out.cell 1
  have cC0 : w3.cell? ⟨(w.heap.size + 2), 0, none⟩ = some (.int .i64 c1) := KC.out.cell 0
  have cC1 : w3.cell? ⟨(w.heap.size + 2), 1, none⟩ = some (.int .i64 c2) := KC.out.cell 1
  go_wp2_with fail
  clear cA0 cA1 cB0 cB1 cC0 cC1
  refine (lvalid_is Oc.out _).mono ?_
  rintro e w4 ⟨rfl, hX⟩
  replace HX := Lib.hid (HX.out.trans hX)
  replace KA := Lib.hid (KA.out.ext hX)
  replace KB := Lib.hid (KB.out.ext hX)
  replace KC := Lib.hid (KC.out.ext hX)
  clear hX
  have cA0 : w4.cell? ⟨w.heap.size, 0, none⟩ = some (.int .i64 a1) := KA.out.cell 0
  have cA1 : w4.cell? ⟨w.heap.size, 1, none⟩ = some (.int .i64 a2) := KA.out.cell 1
  have cB0 : w4.cell? ⟨(w.heap.size + 1), 0, none⟩ = some (.int .i64 b1) := KB.out.cell 0
  have cB1 : w4.cell? ⟨(w.heap.size + 1), 1, none⟩ = some (.int .i64 b2) := KB.out.cell 1
  have cC0 : w4.cell? ⟨(w.heap.size + 2), 0, none⟩ = some (.int .i64 c1) := KC.out.cell 0
  have cC1 : w4.cell? ⟨(w.heap.size + 2), 1, none⟩ = some (.int .i64 c2) := KC.out.cell 1
  go_wp2_with fail
  clear cA0 cA1 cB0 cB1 cC0 cC1
  refine (circ_is Oa.out Ob.out Oc.out Oa.out HZ.out HCa.out _).mono ?_
  rintro e w5 ⟨rfl, hX⟩
  replace HX := Lib.hid (HX.out.trans hX)
  replace KA := Lib.hid (KA.out.ext hX)
  replace KB := Lib.hid (KB.out.ext hX)
  replace KC := Lib.hid (KC.out.ext hX)
  clear hX
  have cA0 : w5.cell? ⟨w.heap.size, 0, none⟩ = some (.int .i64 a1) := KA.out.cell 0
  have cA1 : w5.cell? ⟨w.heap.size, 1, none⟩ = some (.int .i64 a2) := KA.out.cell 1
  have cB0 : w5.cell? ⟨(w.heap.size + 1), 0, none⟩ = some (.int .i64 b1) := KB.out.cell 0
  have cB1 : w5.cell? ⟨(w.heap.size + 1), 1, none⟩ = some (.int .i64 b2) := KB.out.cell 1
  have cC0 : w5.cell? ⟨(w.heap.size + 2), 0, none⟩ = some (.int .i64 c1) := KC.out.cell 0
  have cC1 : w5.cell? ⟨(w.heap.size + 2), 1, none⟩ = some (.int .i64 c2) := KC.out.cell 1
  go_wp2_with fail
  clear cA0 cA1 cB0 cB1 cC0 cC1
  refine (circ_is Oa.out Ob.out Oc.out Ob.out HZ.out HCb.out _).mono ?_
  rintro e w6 ⟨rfl, hX⟩
  replace HX := Lib.hid (HX.out.trans hX)
  replace KA := Lib.hid (KA.out.ext hX)
  replace KB := Lib.hid (KB.out.ext hX)
  replace KC := Lib.hid (KC.out.ext hX)
  clear hX
  have cA0 : w6.cell? ⟨w.heap.size, 0, none⟩ = some (.int .i64 a1) := KA.out.cell 0
  have cA1 : w6.cell? ⟨w.heap.size, 1, none⟩ = some (.int .i64 a2) := KA.out.cell 1
  have cB0 : w6.cell? ⟨(w.heap.size + 1), 0, none⟩ = some (.int .i64 b1) := KB.out.cell 0
  have cB1 : w6.cell? ⟨(w.heap.size + 1), 1, none⟩ = some (.int .i64 b2) := KB.out.cell 1
  have cC0 : w6.cell? ⟨(w.heap.size + 2), 0, none⟩ = some (.int .i64 c1) := KC.out.cell 0
  have cC1 : w6.cell? ⟨(w.heap.size + 2), 1, none⟩ = some (.int .i64 c2) := KC.out.cell 1
  go_wp2_with fail
  clear cA0 cA1 cB0 cB1 cC0 cC1
  refine (circ_is Oa.out Ob.out Oc.out Oc.out HZ.out HCc.out _).mono ?_
  rintro e w7 ⟨rfl, hX⟩
  replace HX := Lib.hid (HX.out.trans hX)
  replace KA := Lib.hid (KA.out.ext hX)
  replace KB := Lib.hid (KB.out.ext hX)
  replace KC := Lib.hid (KC.out.ext hX)
  clear hX
  have cA0 : w7.cell? ⟨w.heap.size, 0, none⟩ = some (.int .i64 a1) := KA.out.cell 0
  have cA1 : w7.cell? ⟨w.heap.size, 1, none⟩ = some (.int .i64 a2) := KA.out.cell 1
  have cB0 : w7.cell? ⟨(w.heap.size + 1), 0, none⟩ = some (.int .i64 b1) := KB.out.cell 0
  have cB1 : w7.cell? ⟨(w.heap.size + 1), 1, none⟩ = some (.int .i64 b2) := KB.out.cell 1
  have cC0 : w7.cell? ⟨(w.heap.size + 2), 0, none⟩ = some (.int .i64 c1) := KC.out.cell 0
  have cC1 : w7.cell? ⟨(w.heap.size + 2), 1, none⟩ = some (.int .i64 c2) := KC.out.cell 1
  go_wp2_with fail
  clear cA0 cA1 cB0 cB1 cC0 cC1
  refine (turn_is Oa.out Ob.out Oc.out HT.out _).mono ?_
  rintro e w8 ⟨rfl, hX⟩
  replace HX := Lib.hid (HX.out.trans hX)
  replace KA := Lib.hid (KA.out.ext hX)
  replace KB := Lib.hid (KB.out.ext hX)
  replace KC := Lib.hid (KC.out.ext hX)
  clear hX
  have cA0 : w8.cell? ⟨w.heap.size, 0, none⟩ = some (.int .i64 a1) := KA.out.cell 0
  have cA1 : w8.cell? ⟨w.heap.size, 1, none⟩ = some (.int .i64 a2) := KA.out.cell 1
  have cB0 : w8.cell? ⟨(w.heap.size + 1), 0, none⟩ = some (.int .i64 b1) := KB.out.cell 0
  have cB1 : w8.cell? ⟨(w.heap.size + 1), 1, none⟩ = some (.int .i64 b2) := KB.out.cell 1
  have cC0 : w8.cell? ⟨(w.heap.size + 2), 0, none⟩ = some (.int .i64 c1) := KC.out.cell 0
  have cC1 : w8.cell? ⟨(w.heap.size + 2), 1, none⟩ = some (.int .i64 c2) := KC.out.cell 1
  go_wp2_with fail
  clear cA0 cA1 cB0 cB1 cC0 cC1
  refine (first_any _).mono ?_
  rintro e w9 ⟨rfl, hX⟩
  replace HX := Lib.hid (HX.out.trans hX)
  replace KA := Lib.hid (KA.out.ext hX)
  replace KB := Lib.hid (KB.out.ext hX)
  replace KC := Lib.hid (KC.out.ext hX)
  clear hX
  go_wp2
  go_ret
  exact ⟨rfl, HX.out⟩

theorem exactCorners_walk (va : Value) (a : Int × Int) (vb : Value) (b : Int × Int) (vc : Value) (c : Int × Int) (w : World) (ha : Two64 va a) (hb : Two64 vb b) (hc : Two64 vc c) :
    Calls Try.prog 11 #[va, vb, vc] w fun e w' => e = .returned (.bool true) ∧ Ext w w' := by
  obtain ⟨a1, a2⟩ := a
  obtain ⟨b1, b2⟩ := b
  obtain ⟨c1, c2⟩ := c
  obtain ⟨rfl, _⟩ := ha
  obtain ⟨rfl, _⟩ := hb
  obtain ⟨rfl, _⟩ := hc
  rcases hA : okP (a1, a2) with _ | _
  · exact corners_bad0 a1 a2 b1 b2 c1 c2 w hA
  · rcases hB : okP (b1, b2) with _ | _
    · exact corners_bad1 a1 a2 b1 b2 c1 c2 w hA hB
    · rcases hC : okP (c1, c2) with _ | _
      · exact corners_bad2 a1 a2 b1 b2 c1 c2 w hA hB hC
      · by_cases hz : crossI (a1, a2) (b1, b2) (c1, c2) = 0
        · exact corners_flat a1 a2 b1 b2 c1 c2 w hA hB hC hz
        · exact corners_ok a1 a2 b1 b2 c1 c2 w hA hB hC hz

set_option maxRecDepth 100000 in
set_option maxHeartbeats 2000000 in
theorem planes_bad0 (a1 a2 b1 b2 c1 c2 d1 d2 : Int) (w : World) (ha : okP (a1, a2) = false) :
    Calls Try.prog 10 #[.agg #[.int .i64 a1, .int .i64 a2, .int .i64 b1, .int .i64 b2, .int .i64 c1, .int .i64 c2, .int .i64 d1, .int .i64 d2]] w (fun e w' => e = .returned (.bool true) ∧ Ext w w') := by
  have Oa := Lib.hid ha
  clear ha
  have hXe : Ext w (w.alloc (.cells #[.int .i64 a1, .int .i64 a2, .int .i64 b1, .int .i64 b2, .int .i64 c1, .int .i64 c2, .int .i64 d1, .int .i64 d2] 72)) := ((Ext.refl w).alloc _)
  have kV : Blk (w.alloc (.cells #[.int .i64 a1, .int .i64 a2, .int .i64 b1, .int .i64 b2, .int .i64 c1, .int .i64 c2, .int .i64 d1, .int .i64 d2] 72)) w.heap.size 72 #[.int .i64 a1, .int .i64 a2, .int .i64 b1, .int .i64 b2, .int .i64 c1, .int .i64 c2, .int .i64 d1, .int .i64 d2] := Blk.at_ (by simp)
  go_enter Try.func10, Try.ntmps10
  go_wp2_with fail
  generalize (w.alloc (.cells #[.int .i64 a1, .int .i64 a2, .int .i64 b1, .int .i64 b2, .int .i64 c1, .int .i64 c2, .int .i64 d1, .int .i64 d2] 72)) = w1 at hXe kV ⊢
  have HX := Lib.hid hXe
  clear hXe
  have KV := Lib.hid kV
  clear kV
  have lV := KV.out.lt
  refine open_ExactPlanes w.heap.size a1 a2 b1 b2 c1 c2 d1 d2 w1 (KV.out.cell 0) (KV.out.cell 1) (KV.out.cell 2) (KV.out.cell 3) (KV.out.cell 4) (KV.out.cell 5) (KV.out.cell 6) (KV.out.cell 7) _ _ (by simp) rfl ?_
  rintro xv0 xv1 xv2 xv3 xv4 xv5 xv6 xv7 xv8 xv9 xv10 xv11 xv12 xv13 xv14 xv15 w2 rfl rfl rfl rfl rfl rfl rfl rfl ⟨ga, rfl, hga, hBa⟩ ⟨gb, rfl, hgb, hBb⟩ ⟨gc, rfl, hgc, hBc⟩ ⟨gd, rfl, hgd, hBd⟩ n0 n1 n2 n3 n4 n5 hXW
  simp only [rops, Try.f10, regOf, Option.bind_some, Nat.reduceBEq, if_true, if_false, Bool.false_eq_true, Option.getD_some, List.drop_succ_cons, List.drop_zero]
  simp only [Act.put, List.setIfInBounds_toArray, List.set_cons_succ, List.set_cons_zero]
  replace HX := Lib.hid (HX.out.trans hXW)
  replace KV := Lib.hid (KV.out.ext hXW)
  clear hXW
  clear KV
  clear n0 n1 n2 n3 n4 n5
  have KA := Lib.hid hBa
  clear hBa
  have KB := Lib.hid hBb
  clear hBb
  have KC := Lib.hid hBc
  clear hBc
  have KD := Lib.hid hBd
  clear hBd
  have cA0 : w2.cell? ⟨ga, 0, none⟩ = some (.int .i64 a1) := KA.out.cell 0
  have cA1 : w2.cell? ⟨ga, 1, none⟩ = some (.int .i64 a2) := KA.out.cell 1
  have cB0 : w2.cell? ⟨gb, 0, none⟩ = some (.int .i64 b1) := KB.out.cell 0
  have cB1 : w2.cell? ⟨gb, 1, none⟩ = some (.int .i64 b2) := KB.out.cell 1
  have cC0 : w2.cell? ⟨gc, 0, none⟩ = some (.int .i64 c1) := KC.out.cell 0
  have cC1 : w2.cell? ⟨gc, 1, none⟩ = some (.int .i64 c2) := KC.out.cell 1
  have cD0 : w2.cell? ⟨gd, 0, none⟩ = some (.int .i64 d1) := KD.out.cell 0
  have cD1 : w2.cell? ⟨gd, 1, none⟩ = some (.int .i64 d2) := KD.out.cell 1
  go_wp2_with fail
  clear cA0 cA1 cB0 cB1 cC0 cC1 cD0 cD1
  refine (lvalid_is Oa.out _).mono ?_
  rintro e w3 ⟨rfl, hX⟩
  replace HX := Lib.hid (HX.out.trans hX)
  replace KA := Lib.hid (KA.out.ext hX)
  replace KB := Lib.hid (KB.out.ext hX)
  replace KC := Lib.hid (KC.out.ext hX)
  replace KD := Lib.hid (KD.out.ext hX)
  clear hX
  go_wp2_with fail
  refine (first_any _).mono ?_
  rintro e w4 ⟨rfl, hX⟩
  replace HX := Lib.hid (HX.out.trans hX)
  replace KA := Lib.hid (KA.out.ext hX)
  replace KB := Lib.hid (KB.out.ext hX)
  replace KC := Lib.hid (KC.out.ext hX)
  replace KD := Lib.hid (KD.out.ext hX)
  clear hX
  go_wp2
  go_ret
  exact ⟨rfl, HX.out⟩

set_option maxRecDepth 100000 in
set_option maxHeartbeats 2000000 in
theorem planes_bad1 (a1 a2 b1 b2 c1 c2 d1 d2 : Int) (w : World) (ha : okP (a1, a2) = true) (hb : okP (b1, b2) = false) :
    Calls Try.prog 10 #[.agg #[.int .i64 a1, .int .i64 a2, .int .i64 b1, .int .i64 b2, .int .i64 c1, .int .i64 c2, .int .i64 d1, .int .i64 d2]] w (fun e w' => e = .returned (.bool true) ∧ Ext w w') := by
  have Oa := Lib.hid ha
  clear ha
  have Ob := Lib.hid hb
  clear hb
  have hXe : Ext w (w.alloc (.cells #[.int .i64 a1, .int .i64 a2, .int .i64 b1, .int .i64 b2, .int .i64 c1, .int .i64 c2, .int .i64 d1, .int .i64 d2] 72)) := ((Ext.refl w).alloc _)
  have kV : Blk (w.alloc (.cells #[.int .i64 a1, .int .i64 a2, .int .i64 b1, .int .i64 b2, .int .i64 c1, .int .i64 c2, .int .i64 d1, .int .i64 d2] 72)) w.heap.size 72 #[.int .i64 a1, .int .i64 a2, .int .i64 b1, .int .i64 b2, .int .i64 c1, .int .i64 c2, .int .i64 d1, .int .i64 d2] := Blk.at_ (by simp)
  go_enter Try.func10, Try.ntmps10
  go_wp2_with fail
  generalize (w.alloc (.cells #[.int .i64 a1, .int .i64 a2, .int .i64 b1, .int .i64 b2, .int .i64 c1, .int .i64 c2, .int .i64 d1, .int .i64 d2] 72)) = w1 at hXe kV ⊢
  have HX := Lib.hid hXe
  clear hXe
  have KV := Lib.hid kV
  clear kV
  have lV := KV.out.lt
  refine open_ExactPlanes w.heap.size a1 a2 b1 b2 c1 c2 d1 d2 w1 (KV.out.cell 0) (KV.out.cell 1) (KV.out.cell 2) (KV.out.cell 3) (KV.out.cell 4) (KV.out.cell 5) (KV.out.cell 6) (KV.out.cell 7) _ _ (by simp) rfl ?_
  rintro xv0 xv1 xv2 xv3 xv4 xv5 xv6 xv7 xv8 xv9 xv10 xv11 xv12 xv13 xv14 xv15 w2 rfl rfl rfl rfl rfl rfl rfl rfl ⟨ga, rfl, hga, hBa⟩ ⟨gb, rfl, hgb, hBb⟩ ⟨gc, rfl, hgc, hBc⟩ ⟨gd, rfl, hgd, hBd⟩ n0 n1 n2 n3 n4 n5 hXW
  simp only [rops, Try.f10, regOf, Option.bind_some, Nat.reduceBEq, if_true, if_false, Bool.false_eq_true, Option.getD_some, List.drop_succ_cons, List.drop_zero]
  simp only [Act.put, List.setIfInBounds_toArray, List.set_cons_succ, List.set_cons_zero]
  replace HX := Lib.hid (HX.out.trans hXW)
  replace KV := Lib.hid (KV.out.ext hXW)
  clear hXW
  clear KV
  clear n0 n1 n2 n3 n4 n5
  have KA := Lib.hid hBa
  clear hBa
  have KB := Lib.hid hBb
  clear hBb
  have KC := Lib.hid hBc
  clear hBc
  have KD := Lib.hid hBd
  clear hBd
  have cA0 : w2.cell? ⟨ga, 0, none⟩ = some (.int .i64 a1) := KA.out.cell 0
  have cA1 : w2.cell? ⟨ga, 1, none⟩ = some (.int .i64 a2) := KA.out.cell 1
  have cB0 : w2.cell? ⟨gb, 0, none⟩ = some (.int .i64 b1) := KB.out.cell 0
  have cB1 : w2.cell? ⟨gb, 1, none⟩ = some (.int .i64 b2) := KB.out.cell 1
  have cC0 : w2.cell? ⟨gc, 0, none⟩ = some (.int .i64 c1) := KC.out.cell 0
  have cC1 : w2.cell? ⟨gc, 1, none⟩ = some (.int .i64 c2) := KC.out.cell 1
  have cD0 : w2.cell? ⟨gd, 0, none⟩ = some (.int .i64 d1) := KD.out.cell 0
  have cD1 : w2.cell? ⟨gd, 1, none⟩ = some (.int .i64 d2) := KD.out.cell 1
  go_wp2_with fail
  clear cA0 cA1 cB0 cB1 cC0 cC1 cD0 cD1
  refine (lvalid_is Oa.out _).mono ?_
  rintro e w3 ⟨rfl, hX⟩
  replace HX := Lib.hid (HX.out.trans hX)
  replace KA := Lib.hid (KA.out.ext hX)
  replace KB := Lib.hid (KB.out.ext hX)
  replace KC := Lib.hid (KC.out.ext hX)
  replace KD := Lib.hid (KD.out.ext hX)
  clear hX
  have cA0 : w3.cell? ⟨ga, 0, none⟩ = some (.int .i64 a1) := KA.out.cell 0
  have cA1 : w3.cell? ⟨ga, 1, none⟩ = some (.int .i64 a2) := KA.out.cell 1
  have cB0 : w3.cell? ⟨gb, 0, none⟩ = some (.int .i64 b1) := KB.out.cell 0
  have cB1 : w3.cell? ⟨gb, 1, none⟩ = some (.int .i64 b2) := KB.out.cell 1
  have cC0 : w3.cell? ⟨gc, 0, none⟩ = some (.int .i64 c1) := KC.out.cell 0
  have cC1 : w3.cell? ⟨gc, 1, none⟩ = some (.int .i64 c2) := KC.out.cell 1
  have cD0 : w3.cell? ⟨gd, 0, none⟩ = some (.int .i64 d1) := KD.out.cell 0
  have cD1 : w3.cell? ⟨gd, 1, none⟩ = some (.int .i64 d2) := KD.out.cell 1
  go_wp2_with fail
  clear cA0 cA1 cB0 cB1 cC0 cC1 cD0 cD1
  refine (lvalid_is Ob.out _).mono ?_
  rintro e w4 ⟨rfl, hX⟩
  replace HX := Lib.hid (HX.out.trans hX)
  replace KA := Lib.hid (KA.out.ext hX)
  replace KB := Lib.hid (KB.out.ext hX)
  replace KC := Lib.hid (KC.out.ext hX)
  replace KD := Lib.hid (KD.out.ext hX)
  clear hX
  go_wp2_with fail
  refine (first_any _).mono ?_
  rintro e w5 ⟨rfl, hX⟩
  replace HX := Lib.hid (HX.out.trans hX)
  replace KA := Lib.hid (KA.out.ext hX)
  replace KB := Lib.hid (KB.out.ext hX)
  replace KC := Lib.hid (KC.out.ext hX)
  replace KD := Lib.hid (KD.out.ext hX)
  clear hX
  go_wp2
  go_ret
  exact ⟨rfl, HX.out⟩

set_option maxRecDepth 100000 in
set_option maxHeartbeats 2000000 in
theorem planes_bad2 (a1 a2 b1 b2 c1 c2 d1 d2 : Int) (w : World) (ha : okP (a1, a2) = true) (hb : okP (b1, b2) = true) (hc : okP (c1, c2) = false) :
    Calls Try.prog 10 #[.agg #[.int .i64 a1, .int .i64 a2, .int .i64 b1, .int .i64 b2, .int .i64 c1, .int .i64 c2, .int .i64 d1, .int .i64 d2]] w (fun e w' => e = .returned (.bool true) ∧ Ext w w') := by
  have Oa := Lib.hid ha
  clear ha
  have Ob := Lib.hid hb
  clear hb
  have Oc := Lib.hid hc
  clear hc
  have hXe : Ext w (w.alloc (.cells #[.int .i64 a1, .int .i64 a2, .int .i64 b1, .int .i64 b2, .int .i64 c1, .int .i64 c2, .int .i64 d1, .int .i64 d2] 72)) := ((Ext.refl w).alloc _)
  have kV : Blk (w.alloc (.cells #[.int .i64 a1, .int .i64 a2, .int .i64 b1, .int .i64 b2, .int .i64 c1, .int .i64 c2, .int .i64 d1, .int .i64 d2] 72)) w.heap.size 72 #[.int .i64 a1, .int .i64 a2, .int .i64 b1, .int .i64 b2, .int .i64 c1, .int .i64 c2, .int .i64 d1, .int .i64 d2] := Blk.at_ (by simp)
  go_enter Try.func10, Try.ntmps10
  go_wp2_with fail
  generalize (w.alloc (.cells #[.int .i64 a1, .int .i64 a2, .int .i64 b1, .int .i64 b2, .int .i64 c1, .int .i64 c2, .int .i64 d1, .int .i64 d2] 72)) = w1 at hXe kV ⊢
  have HX := Lib.hid hXe
  clear hXe
  have KV := Lib.hid kV
  clear kV
  have lV := KV.out.lt
  refine open_ExactPlanes w.heap.size a1 a2 b1 b2 c1 c2 d1 d2 w1 (KV.out.cell 0) (KV.out.cell 1) (KV.out.cell 2) (KV.out.cell 3) (KV.out.cell 4) (KV.out.cell 5) (KV.out.cell 6) (KV.out.cell 7) _ _ (by simp) rfl ?_
  rintro xv0 xv1 xv2 xv3 xv4 xv5 xv6 xv7 xv8 xv9 xv10 xv11 xv12 xv13 xv14 xv15 w2 rfl rfl rfl rfl rfl rfl rfl rfl ⟨ga, rfl, hga, hBa⟩ ⟨gb, rfl, hgb, hBb⟩ ⟨gc, rfl, hgc, hBc⟩ ⟨gd, rfl, hgd, hBd⟩ n0 n1 n2 n3 n4 n5 hXW
  simp only [rops, Try.f10, regOf, Option.bind_some, Nat.reduceBEq, if_true, if_false, Bool.false_eq_true, Option.getD_some, List.drop_succ_cons, List.drop_zero]
  simp only [Act.put, List.setIfInBounds_toArray, List.set_cons_succ, List.set_cons_zero]
  replace HX := Lib.hid (HX.out.trans hXW)
  replace KV := Lib.hid (KV.out.ext hXW)
  clear hXW
  clear KV
  clear n0 n1 n2 n3 n4 n5
  have KA := Lib.hid hBa
  clear hBa
  have KB := Lib.hid hBb
  clear hBb
  have KC := Lib.hid hBc
  clear hBc
  have KD := Lib.hid hBd
  clear hBd
  have cA0 : w2.cell? ⟨ga, 0, none⟩ = some (.int .i64 a1) := KA.out.cell 0
  have cA1 : w2.cell? ⟨ga, 1, none⟩ = some (.int .i64 a2) := KA.out.cell 1
  have cB0 : w2.cell? ⟨gb, 0, none⟩ = some (.int .i64 b1) := KB.out.cell 0
  have cB1 : w2.cell? ⟨gb, 1, none⟩ = some (.int .i64 b2) := KB.out.cell 1
  have cC0 : w2.cell? ⟨gc, 0, none⟩ = some (.int .i64 c1) := KC.out.cell 0
  have cC1 : w2.cell? ⟨gc, 1, none⟩ = some (.int .i64 c2) := KC.out.cell 1
  have cD0 : w2.cell? ⟨gd, 0, none⟩ = some (.int .i64 d1) := KD.out.cell 0
  have cD1 : w2.cell? ⟨gd, 1, none⟩ = some (.int .i64 d2) := KD.out.cell 1
  go_wp2_with fail
  clear cA0 cA1 cB0 cB1 cC0 cC1 cD0 cD1
  refine (lvalid_is Oa.out _).mono ?_
  rintro e w3 ⟨rfl, hX⟩
  replace HX := Lib.hid (HX.out.trans hX)
  replace KA := Lib.hid (KA.out.ext hX)
  replace KB := Lib.hid (KB.out.ext hX)
  replace KC := Lib.hid (KC.out.ext hX)
  replace KD := Lib.hid (KD.out.ext hX)
  clear hX
  have cA0 : w3.cell? ⟨ga, 0, none⟩ = some (.int .i64 a1) := KA.out.cell 0
  have cA1 : w3.cell? ⟨ga, 1, none⟩ = some (.int .i64 a2) := KA.out.cell 1
  have cB0 : w3.cell? ⟨gb, 0, none⟩ = some (.int .i64 b1) := KB.out.cell 0
  have cB1 : w3.cell? ⟨gb, 1, none⟩ = some (.int .i64 b2) := KB.out.cell 1
  have cC0 : w3.cell? ⟨gc, 0, none⟩ = some (.int .i64 c1) := KC.out.cell 0
  have cC1 : w3.cell? ⟨gc, 1, none⟩ = some (.int .i64 c2) := KC.out.cell 1
  have cD0 : w3.cell? ⟨gd, 0, none⟩ = some (.int .i64 d1) := KD.out.cell 0
  have cD1 : w3.cell? ⟨gd, 1, none⟩ = some (.int .i64 d2) := KD.out.cell 1
  go_wp2_with fail
  clear cA0 cA1 cB0 cB1 cC0 cC1 cD0 cD1
  refine (lvalid_is Ob.out _).mono ?_
  rintro e w4 ⟨rfl, hX⟩
  replace HX := Lib.hid (HX.out.trans hX)
  replace KA := Lib.hid (KA.out.ext hX)
  replace KB := Lib.hid (KB.out.ext hX)
  replace KC := Lib.hid (KC.out.ext hX)
  replace KD := Lib.hid (KD.out.ext hX)
  clear hX
  have cA0 : w4.cell? ⟨ga, 0, none⟩ = some (.int .i64 a1) := KA.out.cell 0
  have cA1 : w4.cell? ⟨ga, 1, none⟩ = some (.int .i64 a2) := KA.out.cell 1
  have cB0 : w4.cell? ⟨gb, 0, none⟩ = some (.int .i64 b1) := KB.out.cell 0
  have cB1 : w4.cell? ⟨gb, 1, none⟩ = some (.int .i64 b2) := KB.out.cell 1
  have cC0 : w4.cell? ⟨gc, 0, none⟩ = some (.int .i64 c1) := KC.out.cell 0
  have cC1 : w4.cell? ⟨gc, 1, none⟩ = some (.int .i64 c2) := KC.out.cell 1
  have cD0 : w4.cell? ⟨gd, 0, none⟩ = some (.int .i64 d1) := KD.out.cell 0
  have cD1 : w4.cell? ⟨gd, 1, none⟩ = some (.int .i64 d2) := KD.out.cell 1
  go_wp2_with fail
  clear cA0 cA1 cB0 cB1 cC0 cC1 cD0 cD1
  refine (lvalid_is Oc.out _).mono ?_
  rintro e w5 ⟨rfl, hX⟩
  replace HX := Lib.hid (HX.out.trans hX)
  replace KA := Lib.hid (KA.out.ext hX)
  replace KB := Lib.hid (KB.out.ext hX)
  replace KC := Lib.hid (KC.out.ext hX)
  replace KD := Lib.hid (KD.out.ext hX)
  clear hX
  go_wp2_with fail
  refine (first_any _).mono ?_
  rintro e w6 ⟨rfl, hX⟩
  replace HX := Lib.hid (HX.out.trans hX)
  replace KA := Lib.hid (KA.out.ext hX)
  replace KB := Lib.hid (KB.out.ext hX)
  replace KC := Lib.hid (KC.out.ext hX)
  replace KD := Lib.hid (KD.out.ext hX)
  clear hX
  go_wp2
  go_ret
  exact ⟨rfl, HX.out⟩

set_option maxRecDepth 100000 in
set_option maxHeartbeats 2000000 in
theorem planes_bad3 (a1 a2 b1 b2 c1 c2 d1 d2 : Int) (w : World) (ha : okP (a1, a2) = true) (hb : okP (b1, b2) = true) (hc : okP (c1, c2) = true) (hd : okP (d1, d2) = false) :
    Calls Try.prog 10 #[.agg #[.int .i64 a1, .int .i64 a2, .int .i64 b1, .int .i64 b2, .int .i64 c1, .int .i64 c2, .int .i64 d1, .int .i64 d2]] w (fun e w' => e = .returned (.bool true) ∧ Ext w w') := by
  have Oa := Lib.hid ha
  clear ha
  have Ob := Lib.hid hb
  clear hb
  have Oc := Lib.hid hc
  clear hc
  have Od := Lib.hid hd
  clear hd
  have hXe : Ext w (w.alloc (.cells #[.int .i64 a1, .int .i64 a2, .int .i64 b1, .int .i64 b2, .int .i64 c1, .int .i64 c2, .int .i64 d1, .int .i64 d2] 72)) := ((Ext.refl w).alloc _)
  have kV : Blk (w.alloc (.cells #[.int .i64 a1, .int .i64 a2, .int .i64 b1, .int .i64 b2, .int .i64 c1, .int .i64 c2, .int .i64 d1, .int .i64 d2] 72)) w.heap.size 72 #[.int .i64 a1, .int .i64 a2, .int .i64 b1, .int .i64 b2, .int .i64 c1, .int .i64 c2, .int .i64 d1, .int .i64 d2] := Blk.at_ (by simp)
  go_enter Try.func10, Try.ntmps10
  go_wp2_with fail
  generalize (w.alloc (.cells #[.int .i64 a1, .int .i64 a2, .int .i64 b1, .int .i64 b2, .int .i64 c1, .int .i64 c2, .int .i64 d1, .int .i64 d2] 72)) = w1 at hXe kV ⊢
  have HX := Lib.hid hXe
  clear hXe
  have KV := Lib.hid kV
  clear kV
  have lV := KV.out.lt
  refine open_ExactPlanes w.heap.size a1 a2 b1 b2 c1 c2 d1 d2 w1 (KV.out.cell 0) (KV.out.cell 1) (KV.out.cell 2) (KV.out.cell 3) (KV.out.cell 4) (KV.out.cell 5) (KV.out.cell 6) (KV.out.cell 7) _ _ (by simp) rfl ?_
  rintro xv0 xv1 xv2 xv3 xv4 xv5 xv6 xv7 xv8 xv9 xv10 xv11 xv12 xv13 xv14 xv15 w2 rfl rfl rfl rfl rfl rfl rfl rfl ⟨ga, rfl, hga, hBa⟩ ⟨gb, rfl, hgb, hBb⟩ ⟨gc, rfl, hgc, hBc⟩ ⟨gd, rfl, hgd, hBd⟩ n0 n1 n2 n3 n4 n5 hXW
  simp only [rops, Try.f10, regOf, Option.bind_some, Nat.reduceBEq, if_true, if_false, Bool.false_eq_true, Option.getD_some, List.drop_succ_cons, List.drop_zero]
  simp only [Act.put, List.setIfInBounds_toArray, List.set_cons_succ, List.set_cons_zero]
  replace HX := Lib.hid (HX.out.trans hXW)
  replace KV := Lib.hid (KV.out.ext hXW)
  clear hXW
  clear KV
  clear n0 n1 n2 n3 n4 n5
  have KA := Lib.hid hBa
  clear hBa
  have KB := Lib.hid hBb
  clear hBb
  have KC := Lib.hid hBc
  clear hBc
  have KD := Lib.hid hBd
  clear hBd
  have cA0 : w2.cell? ⟨ga, 0, none⟩ = some (.int .i64 a1) := KA.out.cell 0
  have cA1 : w2.cell? ⟨ga, 1, none⟩ = some (.int .i64 a2) := KA.out.cell 1
  have cB0 : w2.cell? ⟨gb, 0, none⟩ = some (.int .i64 b1) := KB.out.cell 0
  have cB1 : w2.cell? ⟨gb, 1, none⟩ = some (.int .i64 b2) := KB.out.cell 1
  have cC0 : w2.cell? ⟨gc, 0, none⟩ = some (.int .i64 c1) := KC.out.cell 0
  have cC1 : w2.cell? ⟨gc, 1, none⟩ = some (.int .i64 c2) := KC.out.cell 1
  have cD0 : w2.cell? ⟨gd, 0, none⟩ = some (.int .i64 d1) := KD.out.cell 0
  have cD1 : w2.cell? ⟨gd, 1, none⟩ = some (.int .i64 d2) := KD.out.cell 1
  go_wp2_with fail
  clear cA0 cA1 cB0 cB1 cC0 cC1 cD0 cD1
  refine (lvalid_is Oa.out _).mono ?_
  rintro e w3 ⟨rfl, hX⟩
  replace HX := Lib.hid (HX.out.trans hX)
  replace KA := Lib.hid (KA.out.ext hX)
  replace KB := Lib.hid (KB.out.ext hX)
  replace KC := Lib.hid (KC.out.ext hX)
  replace KD := Lib.hid (KD.out.ext hX)
  clear hX
  have cA0 : w3.cell? ⟨ga, 0, none⟩ = some (.int .i64 a1) := KA.out.cell 0
  have cA1 : w3.cell? ⟨ga, 1, none⟩ = some (.int .i64 a2) := KA.out.cell 1
  have cB0 : w3.cell? ⟨gb, 0, none⟩ = some (.int .i64 b1) := KB.out.cell 0
  have cB1 : w3.cell? ⟨gb, 1, none⟩ = some (.int .i64 b2) := KB.out.cell 1
  have cC0 : w3.cell? ⟨gc, 0, none⟩ = some (.int .i64 c1) := KC.out.cell 0
  have cC1 : w3.cell? ⟨gc, 1, none⟩ = some (.int .i64 c2) := KC.out.cell 1
  have cD0 : w3.cell? ⟨gd, 0, none⟩ = some (.int .i64 d1) := KD.out.cell 0
  have cD1 : w3.cell? ⟨gd, 1, none⟩ = some (.int .i64 d2) := KD.out.cell 1
  go_wp2_with fail
  clear cA0 cA1 cB0 cB1 cC0 cC1 cD0 cD1
  refine (lvalid_is Ob.out _).mono ?_
  rintro e w4 ⟨rfl, hX⟩
  replace HX := Lib.hid (HX.out.trans hX)
  replace KA := Lib.hid (KA.out.ext hX)
  replace KB := Lib.hid (KB.out.ext hX)
  replace KC := Lib.hid (KC.out.ext hX)
  replace KD := Lib.hid (KD.out.ext hX)
  clear hX
  have cA0 : w4.cell? ⟨ga, 0, none⟩ = some (.int .i64 a1) := KA.out.cell 0
  have cA1 : w4.cell? ⟨ga, 1, none⟩ = some (.int .i64 a2) := KA.out.cell 1
  have cB0 : w4.cell? ⟨gb, 0, none⟩ = some (.int .i64 b1) := KB.out.cell 0
  have cB1 : w4.cell? ⟨gb, 1, none⟩ = some (.int .i64 b2) := KB.out.cell 1
  have cC0 : w4.cell? ⟨gc, 0, none⟩ = some (.int .i64 c1) := KC.out.cell 0
  have cC1 : w4.cell? ⟨gc, 1, none⟩ = some (.int .i64 c2) := KC.out.cell 1
  have cD0 : w4.cell? ⟨gd, 0, none⟩ = some (.int .i64 d1) := KD.out.cell 0
  have cD1 : w4.cell? ⟨gd, 1, none⟩ = some (.int .i64 d2) := KD.out.cell 1
  go_wp2_with fail
  clear cA0 cA1 cB0 cB1 cC0 cC1 cD0 cD1
  refine (lvalid_is Oc.out _).mono ?_
  rintro e w5 ⟨rfl, hX⟩
  replace HX := Lib.hid (HX.out.trans hX)
  replace KA := Lib.hid (KA.out.ext hX)
  replace KB := Lib.hid (KB.out.ext hX)
  replace KC := Lib.hid (KC.out.ext hX)
  replace KD := Lib.hid (KD.out.ext hX)
  clear hX
  have cA0 : w5.cell? ⟨ga, 0, none⟩ = some (.int .i64 a1) := KA.out.cell 0
  have cA1 : w5.cell? ⟨ga, 1, none⟩ = some (.int .i64 a2) := KA.out.cell 1
  have cB0 : w5.cell? ⟨gb, 0, none⟩ = some (.int .i64 b1) := KB.out.cell 0
  have cB1 : w5.cell? ⟨gb, 1, none⟩ = some (.int .i64 b2) := KB.out.cell 1
  have cC0 : w5.cell? ⟨gc, 0, none⟩ = some (.int .i64 c1) := KC.out.cell 0
  have cC1 : w5.cell? ⟨gc, 1, none⟩ = some (.int .i64 c2) := KC.out.cell 1
  have cD0 : w5.cell? ⟨gd, 0, none⟩ = some (.int .i64 d1) := KD.out.cell 0
  have cD1 : w5.cell? ⟨gd, 1, none⟩ = some (.int .i64 d2) := KD.out.cell 1
  go_wp2_with fail
  clear cA0 cA1 cB0 cB1 cC0 cC1 cD0 cD1
  refine (lvalid_is Od.out _).mono ?_
  rintro e w6 ⟨rfl, hX⟩
  replace HX := Lib.hid (HX.out.trans hX)
  replace KA := Lib.hid (KA.out.ext hX)
  replace KB := Lib.hid (KB.out.ext hX)
  replace KC := Lib.hid (KC.out.ext hX)
  replace KD := Lib.hid (KD.out.ext hX)
  clear hX
  go_wp2_with fail
  refine (first_any _).mono ?_
  rintro e w7 ⟨rfl, hX⟩
  replace HX := Lib.hid (HX.out.trans hX)
  replace KA := Lib.hid (KA.out.ext hX)
  replace KB := Lib.hid (KB.out.ext hX)
  replace KC := Lib.hid (KC.out.ext hX)
  replace KD := Lib.hid (KD.out.ext hX)
  clear hX
  go_wp2
  go_ret
  exact ⟨rfl, HX.out⟩

set_option maxRecDepth 100000 in
set_option maxHeartbeats 2000000 in
theorem planes_flat (a1 a2 b1 b2 c1 c2 d1 d2 : Int) (w : World) (ha : okP (a1, a2) = true) (hb : okP (b1, b2) = true) (hc : okP (c1, c2) = true) (hd : okP (d1, d2) = true) (hz : crossI (a1, a2) (b1, b2) (c1, c2) = 0) :
    Calls Try.prog 10 #[.agg #[.int .i64 a1, .int .i64 a2, .int .i64 b1, .int .i64 b2, .int .i64 c1, .int .i64 c2, .int .i64 d1, .int .i64 d2]] w (fun e w' => e = .returned (.bool true) ∧ Ext w w') := by
  have Oa := Lib.hid ha
  clear ha
  have Ob := Lib.hid hb
  clear hb
  have Oc := Lib.hid hc
  clear hc
  have Od := Lib.hid hd
  clear hd
  have HT : Hid (sgI (crossI (a1, a2) (b1, b2) (c1, c2)) = 0) := sgI_zero.2 hz
  have HU : Hid (sgI (crossI (b1, b2) (a1, a2) (c1, c2)) = 0) := by
    show _ = _
    rw [cross_swap, hz]; rfl
  have HO : Hid (sgI (crossI (b1, b2) (c1, c2) (a1, a2)) = 0) := by
    show _ = _
    rw [cross_cyc, hz]; rfl
  have Z1 := Lib.hid hz
  have Z2 : Hid (crossI (c1, c2) (a1, a2) (b1, b2) = 0) := by
    show _ = _
    rw [← cross_cyc, hz]
  have Z3 : Hid (crossI (b1, b2) (a1, a2) (c1, c2) = 0) := by
    show _ = _
    rw [cross_swap, hz]; rfl
  clear hz
  have hXe : Ext w (w.alloc (.cells #[.int .i64 a1, .int .i64 a2, .int .i64 b1, .int .i64 b2, .int .i64 c1, .int .i64 c2, .int .i64 d1, .int .i64 d2] 72)) := ((Ext.refl w).alloc _)
  have kV : Blk (w.alloc (.cells #[.int .i64 a1, .int .i64 a2, .int .i64 b1, .int .i64 b2, .int .i64 c1, .int .i64 c2, .int .i64 d1, .int .i64 d2] 72)) w.heap.size 72 #[.int .i64 a1, .int .i64 a2, .int .i64 b1, .int .i64 b2, .int .i64 c1, .int .i64 c2, .int .i64 d1, .int .i64 d2] := Blk.at_ (by simp)
  go_enter Try.func10, Try.ntmps10
  go_wp2_with fail
  generalize (w.alloc (.cells #[.int .i64 a1, .int .i64 a2, .int .i64 b1, .int .i64 b2, .int .i64 c1, .int .i64 c2, .int .i64 d1, .int .i64 d2] 72)) = w1 at hXe kV ⊢
  have HX := Lib.hid hXe
  clear hXe
  have KV := Lib.hid kV
  clear kV
  have lV := KV.out.lt
  refine open_ExactPlanes w.heap.size a1 a2 b1 b2 c1 c2 d1 d2 w1 (KV.out.cell 0) (KV.out.cell 1) (KV.out.cell 2) (KV.out.cell 3) (KV.out.cell 4) (KV.out.cell 5) (KV.out.cell 6) (KV.out.cell 7) _ _ (by simp) rfl ?_
  rintro xv0 xv1 xv2 xv3 xv4 xv5 xv6 xv7 xv8 xv9 xv10 xv11 xv12 xv13 xv14 xv15 w2 rfl rfl rfl rfl rfl rfl rfl rfl ⟨ga, rfl, hga, hBa⟩ ⟨gb, rfl, hgb, hBb⟩ ⟨gc, rfl, hgc, hBc⟩ ⟨gd, rfl, hgd, hBd⟩ n0 n1 n2 n3 n4 n5 hXW
  simp only [rops, Try.f10, regOf, Option.bind_some, Nat.reduceBEq, if_true, if_false, Bool.false_eq_true, Option.getD_some, List.drop_succ_cons, List.drop_zero]
  simp only [Act.put, List.setIfInBounds_toArray, List.set_cons_succ, List.set_cons_zero]
  replace HX := Lib.hid (HX.out.trans hXW)
  replace KV := Lib.hid (KV.out.ext hXW)
  clear hXW
  clear KV
  clear n0 n1 n2 n3 n4 n5
  have KA := Lib.hid hBa
  clear hBa
  have KB := Lib.hid hBb
  clear hBb
  have KC := Lib.hid hBc
  clear hBc
  have KD := Lib.hid hBd
  clear hBd
  have cA0 : w2.cell? ⟨ga, 0, none⟩ = some (.int .i64 a1) := KA.out.cell 0
  have cA1 : w2.cell? ⟨ga, 1, none⟩ = some (.int .i64 a2) := KA.out.cell 1
  have cB0 : w2.cell? ⟨gb, 0, none⟩ = some (.int .i64 b1) := KB.out.cell 0
  have cB1 : w2.cell? ⟨gb, 1, none⟩ = some (.int .i64 b2) := KB.out.cell 1
  have cC0 : w2.cell? ⟨gc, 0, none⟩ = some (.int .i64 c1) := KC.out.cell 0
  have cC1 : w2.cell? ⟨gc, 1, none⟩ = some (.int .i64 c2) := KC.out.cell 1
  have cD0 : w2.cell? ⟨gd, 0, none⟩ = some (.int .i64 d1) := KD.out.cell 0
  have cD1 : w2.cell? ⟨gd, 1, none⟩ = some (.int .i64 d2) := KD.out.cell 1
  go_wp2_with fail
  clear cA0 cA1 cB0 cB1 cC0 cC1 cD0 cD1
  refine (lvalid_is Oa.out _).mono ?_
  rintro e w3 ⟨rfl, hX⟩
  replace HX := Lib.hid (HX.out.trans hX)
  replace KA := Lib.hid (KA.out.ext hX)
  replace KB := Lib.hid (KB.out.ext hX)
  replace KC := Lib.hid (KC.out.ext hX)
  replace KD := Lib.hid (KD.out.ext hX)
  clear hX
  have cA0 : w3.cell? ⟨ga, 0, none⟩ = some (.int .i64 a1) := KA.out.cell 0
  have cA1 : w3.cell? ⟨ga, 1, none⟩ = some (.int .i64 a2) := KA.out.cell 1
  have cB0 : w3.cell? ⟨gb, 0, none⟩ = some (.int .i64 b1) := KB.out.cell 0
  have cB1 : w3.cell? ⟨gb, 1, none⟩ = some (.int .i64 b2) := KB.out.cell 1
  have cC0 : w3.cell? ⟨gc, 0, none⟩ = some (.int .i64 c1) := KC.out.cell 0
  have cC1 : w3.cell? ⟨gc, 1, none⟩ = some (.int .i64 c2) := KC.out.cell 1
  have cD0 : w3.cell? ⟨gd, 0, none⟩ = some (.int .i64 d1) := KD.out.cell 0
  have cD1 : w3.cell? ⟨gd, 1, none⟩ = some (.int .i64 d2) := KD.out.cell 1
  go_wp2_with fail
  clear cA0 cA1 cB0 cB1 cC0 cC1 cD0 cD1
  refine (lvalid_is Ob.out _).mono ?_
  rintro e w4 ⟨rfl, hX⟩
  replace HX := Lib.hid (HX.out.trans hX)
  replace KA := Lib.hid (KA.out.ext hX)
  replace KB := Lib.hid (KB.out.ext hX)
  replace KC := Lib.hid (KC.out.ext hX)
  replace KD := Lib.hid (KD.out.ext hX)
  clear hX
  have cA0 : w4.cell? ⟨ga, 0, none⟩ = some (.int .i64 a1) := KA.out.cell 0
  have cA1 : w4.cell? ⟨ga, 1, none⟩ = some (.int .i64 a2) := KA.out.cell 1
  have cB0 : w4.cell? ⟨gb, 0, none⟩ = some (.int .i64 b1) := KB.out.cell 0
  have cB1 : w4.cell? ⟨gb, 1, none⟩ = some (.int .i64 b2) := KB.out.cell 1
  have cC0 : w4.cell? ⟨gc, 0, none⟩ = some (.int .i64 c1) := KC.out.cell 0
  have cC1 : w4.cell? ⟨gc, 1, none⟩ = some (.int .i64 c2) := KC.out.cell 1
  have cD0 : w4.cell? ⟨gd, 0, none⟩ = some (.int .i64 d1) := KD.out.cell 0
  have cD1 : w4.cell? ⟨gd, 1, none⟩ = some (.int .i64 d2) := KD.out.cell 1
  go_wp2_with fail
  clear cA0 cA1 cB0 cB1 cC0 cC1 cD0 cD1
  refine (lvalid_is Oc.out _).mono ?_
  rintro e w5 ⟨rfl, hX⟩
  replace HX := Lib.hid (HX.out.trans hX)
  replace KA := Lib.hid (KA.out.ext hX)
  replace KB := Lib.hid (KB.out.ext hX)
  replace KC := Lib.hid (KC.out.ext hX)
  replace KD := Lib.hid (KD.out.ext hX)
  clear hX
  have cA0 : w5.cell? ⟨ga, 0, none⟩ = some (.int .i64 a1) := KA.out.cell 0
  have cA1 : w5.cell? ⟨ga, 1, none⟩ = some (.int .i64 a2) := KA.out.cell 1
  have cB0 : w5.cell? ⟨gb, 0, none⟩ = some (.int .i64 b1) := KB.out.cell 0
  have cB1 : w5.cell? ⟨gb, 1, none⟩ = some (.int .i64 b2) := KB.out.cell 1
  have cC0 : w5.cell? ⟨gc, 0, none⟩ = some (.int .i64 c1) := KC.out.cell 0
  have cC1 : w5.cell? ⟨gc, 1, none⟩ = some (.int .i64 c2) := KC.out.cell 1
  have cD0 : w5.cell? ⟨gd, 0, none⟩ = some (.int .i64 d1) := KD.out.cell 0
  have cD1 : w5.cell? ⟨gd, 1, none⟩ = some (.int .i64 d2) := KD.out.cell 1
  go_wp2_with fail
  clear cA0 cA1 cB0 cB1 cC0 cC1 cD0 cD1
  refine (lvalid_is Od.out _).mono ?_
  rintro e w6 ⟨rfl, hX⟩
  replace HX := Lib.hid (HX.out.trans hX)
  replace KA := Lib.hid (KA.out.ext hX)
  replace KB := Lib.hid (KB.out.ext hX)
  replace KC := Lib.hid (KC.out.ext hX)
  replace KD := Lib.hid (KD.out.ext hX)
  clear hX
  have cA0 : w6.cell? ⟨ga, 0, none⟩ = some (.int .i64 a1) := KA.out.cell 0
  have cA1 : w6.cell? ⟨ga, 1, none⟩ = some (.int .i64 a2) := KA.out.cell 1
  have cB0 : w6.cell? ⟨gb, 0, none⟩ = some (.int .i64 b1) := KB.out.cell 0
  have cB1 : w6.cell? ⟨gb, 1, none⟩ = some (.int .i64 b2) := KB.out.cell 1
  have cC0 : w6.cell? ⟨gc, 0, none⟩ = some (.int .i64 c1) := KC.out.cell 0
  have cC1 : w6.cell? ⟨gc, 1, none⟩ = some (.int .i64 c2) := KC.out.cell 1
  have cD0 : w6.cell? ⟨gd, 0, none⟩ = some (.int .i64 d1) := KD.out.cell 0
  have cD1 : w6.cell? ⟨gd, 1, none⟩ = some (.int .i64 d2) := KD.out.cell 1
  go_wp2_with fail
  clear cA0 cA1 cB0 cB1 cC0 cC1 cD0 cD1
  refine (turn_is Oa.out Ob.out Oc.out HT.out _).mono ?_
  rintro e w7 ⟨rfl, hX⟩
  replace HX := Lib.hid (HX.out.trans hX)
  replace KA := Lib.hid (KA.out.ext hX)
  replace KB := Lib.hid (KB.out.ext hX)
  replace KC := Lib.hid (KC.out.ext hX)
  replace KD := Lib.hid (KD.out.ext hX)
  clear hX
  have cA0 : w7.cell? ⟨ga, 0, none⟩ = some (.int .i64 a1) := KA.out.cell 0
  have cA1 : w7.cell? ⟨ga, 1, none⟩ = some (.int .i64 a2) := KA.out.cell 1
  have cB0 : w7.cell? ⟨gb, 0, none⟩ = some (.int .i64 b1) := KB.out.cell 0
  have cB1 : w7.cell? ⟨gb, 1, none⟩ = some (.int .i64 b2) := KB.out.cell 1
  have cC0 : w7.cell? ⟨gc, 0, none⟩ = some (.int .i64 c1) := KC.out.cell 0
  have cC1 : w7.cell? ⟨gc, 1, none⟩ = some (.int .i64 c2) := KC.out.cell 1
  have cD0 : w7.cell? ⟨gd, 0, none⟩ = some (.int .i64 d1) := KD.out.cell 0
  have cD1 : w7.cell? ⟨gd, 1, none⟩ = some (.int .i64 d2) := KD.out.cell 1
  go_wp2_with fail
  clear cA0 cA1 cB0 cB1 cC0 cC1 cD0 cD1
  refine (turn_is Ob.out Oa.out Oc.out HU.out _).mono ?_
  rintro e w8 ⟨rfl, hX⟩
  replace HX := Lib.hid (HX.out.trans hX)
  replace KA := Lib.hid (KA.out.ext hX)
  replace KB := Lib.hid (KB.out.ext hX)
  replace KC := Lib.hid (KC.out.ext hX)
  replace KD := Lib.hid (KD.out.ext hX)
  clear hX
  have cA0 : w8.cell? ⟨ga, 0, none⟩ = some (.int .i64 a1) := KA.out.cell 0
  have cA1 : w8.cell? ⟨ga, 1, none⟩ = some (.int .i64 a2) := KA.out.cell 1
  have cB0 : w8.cell? ⟨gb, 0, none⟩ = some (.int .i64 b1) := KB.out.cell 0
  have cB1 : w8.cell? ⟨gb, 1, none⟩ = some (.int .i64 b2) := KB.out.cell 1
  have cC0 : w8.cell? ⟨gc, 0, none⟩ = some (.int .i64 c1) := KC.out.cell 0
  have cC1 : w8.cell? ⟨gc, 1, none⟩ = some (.int .i64 c2) := KC.out.cell 1
  have cD0 : w8.cell? ⟨gd, 0, none⟩ = some (.int .i64 d1) := KD.out.cell 0
  have cD1 : w8.cell? ⟨gd, 1, none⟩ = some (.int .i64 d2) := KD.out.cell 1
  go_wp2_with fail
  clear cA0 cA1 cB0 cB1 cC0 cC1 cD0 cD1
  refine (turn_is Ob.out Oc.out Oa.out HO.out _).mono ?_
  rintro e w9 ⟨rfl, hX⟩
  replace HX := Lib.hid (HX.out.trans hX)
  replace KA := Lib.hid (KA.out.ext hX)
  replace KB := Lib.hid (KB.out.ext hX)
  replace KC := Lib.hid (KC.out.ext hX)
  replace KD := Lib.hid (KD.out.ext hX)
  clear hX
  have cA0 : w9.cell? ⟨ga, 0, none⟩ = some (.int .i64 a1) := KA.out.cell 0
  have cA1 : w9.cell? ⟨ga, 1, none⟩ = some (.int .i64 a2) := KA.out.cell 1
  have cB0 : w9.cell? ⟨gb, 0, none⟩ = some (.int .i64 b1) := KB.out.cell 0
  have cB1 : w9.cell? ⟨gb, 1, none⟩ = some (.int .i64 b2) := KB.out.cell 1
  have cC0 : w9.cell? ⟨gc, 0, none⟩ = some (.int .i64 c1) := KC.out.cell 0
  have cC1 : w9.cell? ⟨gc, 1, none⟩ = some (.int .i64 c2) := KC.out.cell 1
  have cD0 : w9.cell? ⟨gd, 0, none⟩ = some (.int .i64 d1) := KD.out.cell 0
  have cD1 : w9.cell? ⟨gd, 1, none⟩ = some (.int .i64 d2) := KD.out.cell 1
  go_wp2_with fail
  clear cA0 cA1 cB0 cB1 cC0 cC1 cD0 cD1
  refine (circ_fl Oa.out Ob.out Oc.out Od.out Z1.out _).mono ?_
  rintro e w10 ⟨rfl, hX⟩
  replace HX := Lib.hid (HX.out.trans hX)
  replace KA := Lib.hid (KA.out.ext hX)
  replace KB := Lib.hid (KB.out.ext hX)
  replace KC := Lib.hid (KC.out.ext hX)
  replace KD := Lib.hid (KD.out.ext hX)
  clear hX
  have cA0 : w10.cell? ⟨ga, 0, none⟩ = some (.int .i64 a1) := KA.out.cell 0
  have cA1 : w10.cell? ⟨ga, 1, none⟩ = some (.int .i64 a2) := KA.out.cell 1
  have cB0 : w10.cell? ⟨gb, 0, none⟩ = some (.int .i64 b1) := KB.out.cell 0
  have cB1 : w10.cell? ⟨gb, 1, none⟩ = some (.int .i64 b2) := KB.out.cell 1
  have cC0 : w10.cell? ⟨gc, 0, none⟩ = some (.int .i64 c1) := KC.out.cell 0
  have cC1 : w10.cell? ⟨gc, 1, none⟩ = some (.int .i64 c2) := KC.out.cell 1
  have cD0 : w10.cell? ⟨gd, 0, none⟩ = some (.int .i64 d1) := KD.out.cell 0
  have cD1 : w10.cell? ⟨gd, 1, none⟩ = some (.int .i64 d2) := KD.out.cell 1
  go_wp2_with fail
  clear cA0 cA1 cB0 cB1 cC0 cC1 cD0 cD1
  refine (circ_fl Oc.out Oa.out Ob.out Od.out Z2.out _).mono ?_
  rintro e w11 ⟨rfl, hX⟩
  replace HX := Lib.hid (HX.out.trans hX)
  replace KA := Lib.hid (KA.out.ext hX)
  replace KB := Lib.hid (KB.out.ext hX)
  replace KC := Lib.hid (KC.out.ext hX)
  replace KD := Lib.hid (KD.out.ext hX)
  clear hX
  have cA0 : w11.cell? ⟨ga, 0, none⟩ = some (.int .i64 a1) := KA.out.cell 0
  have cA1 : w11.cell? ⟨ga, 1, none⟩ = some (.int .i64 a2) := KA.out.cell 1
  have cB0 : w11.cell? ⟨gb, 0, none⟩ = some (.int .i64 b1) := KB.out.cell 0
  have cB1 : w11.cell? ⟨gb, 1, none⟩ = some (.int .i64 b2) := KB.out.cell 1
  have cC0 : w11.cell? ⟨gc, 0, none⟩ = some (.int .i64 c1) := KC.out.cell 0
  have cC1 : w11.cell? ⟨gc, 1, none⟩ = some (.int .i64 c2) := KC.out.cell 1
  have cD0 : w11.cell? ⟨gd, 0, none⟩ = some (.int .i64 d1) := KD.out.cell 0
  have cD1 : w11.cell? ⟨gd, 1, none⟩ = some (.int .i64 d2) := KD.out.cell 1
  go_wp2_with fail
  clear cA0 cA1 cB0 cB1 cC0 cC1 cD0 cD1
  refine (circ_fl Ob.out Oa.out Oc.out Od.out Z3.out _).mono ?_
  rintro e w12 ⟨rfl, hX⟩
  replace HX := Lib.hid (HX.out.trans hX)
  replace KA := Lib.hid (KA.out.ext hX)
  replace KB := Lib.hid (KB.out.ext hX)
  replace KC := Lib.hid (KC.out.ext hX)
  replace KD := Lib.hid (KD.out.ext hX)
  clear hX
  have cA0 : w12.cell? ⟨ga, 0, none⟩ = some (.int .i64 a1) := KA.out.cell 0
  have cA1 : w12.cell? ⟨ga, 1, none⟩ = some (.int .i64 a2) := KA.out.cell 1
  have cB0 : w12.cell? ⟨gb, 0, none⟩ = some (.int .i64 b1) := KB.out.cell 0
  have cB1 : w12.cell? ⟨gb, 1, none⟩ = some (.int .i64 b2) := KB.out.cell 1
  have cC0 : w12.cell? ⟨gc, 0, none⟩ = some (.int .i64 c1) := KC.out.cell 0
  have cC1 : w12.cell? ⟨gc, 1, none⟩ = some (.int .i64 c2) := KC.out.cell 1
  have cD0 : w12.cell? ⟨gd, 0, none⟩ = some (.int .i64 d1) := KD.out.cell 0
  have cD1 : w12.cell? ⟨gd, 1, none⟩ = some (.int .i64 d2) := KD.out.cell 1
  go_wp2_with fail
  clear cA0 cA1 cB0 cB1 cC0 cC1 cD0 cD1
  refine (first_any _).mono ?_
  rintro e w13 ⟨rfl, hX⟩
  replace HX := Lib.hid (HX.out.trans hX)
  replace KA := Lib.hid (KA.out.ext hX)
  replace KB := Lib.hid (KB.out.ext hX)
  replace KC := Lib.hid (KC.out.ext hX)
  replace KD := Lib.hid (KD.out.ext hX)
  clear hX
  go_wp2
  go_ret
  exact ⟨rfl, HX.out⟩

set_option maxRecDepth 100000 in
set_option maxHeartbeats 2000000 in
theorem planes_one (a1 a2 b1 b2 c1 c2 d1 d2 : Int) (w : World) (ha : okP (a1, a2) = true) (hb : okP (b1, b2) = true) (hc : okP (c1, c2) = true) (hd : okP (d1, d2) = true) (hz : crossI (a1, a2) (b1, b2) (c1, c2) ≠ 0) (t : Int) (ht : sgI (crossI (a1, a2) (b1, b2) (c1, c2)) = t) (n : Int) (hn : circI (a1, a2) (b1, b2) (c1, c2) (d1, d2) = n) (x : Int) (hx : sgI (crossI (b1, b2) (a1, a2) (d1, d2)) = x) (ht' : t ≠ 1) :
    Calls Try.prog 10 #[.agg #[.int .i64 a1, .int .i64 a2, .int .i64 b1, .int .i64 b2, .int .i64 c1, .int .i64 c2, .int .i64 d1, .int .i64 d2]] w (fun e w' => e = .returned (.bool true) ∧ Ext w w') := by
  have Oa := Lib.hid ha
  clear ha
  have Ob := Lib.hid hb
  clear hb
  have Oc := Lib.hid hc
  clear hc
  have Od := Lib.hid hd
  clear hd
  have HT := Lib.hid ht
  have HU : Hid (sgI (crossI (b1, b2) (a1, a2) (c1, c2)) = -t) := by
    show _ = _
    rw [cross_swap, sgI_neg, ht]
  have HO : Hid (sgI (crossI (b1, b2) (c1, c2) (a1, a2)) = t) := by
    show _ = _
    rw [cross_cyc, ht]
  obtain ⟨ht1, ht2⟩ := sgI_in (crossI (a1, a2) (b1, b2) (c1, c2))
  rw [ht] at ht1 ht2
  have HN := Lib.hid hn
  have HM : Hid (circI (c1, c2) (a1, a2) (b1, b2) (d1, d2) = n) := by
    show _ = _
    unfold circI at hn ⊢
    rw [← cross_cyc, det_cyc]; exact hn
  have HK : Hid (circI (b1, b2) (a1, a2) (c1, c2) (d1, d2) = n) := by
    show _ = _
    unfold circI at hn ⊢
    rw [cross_swap, sgI_neg, det_swap, sgI_neg, Int.neg_mul_neg]; exact hn
  have Z1 := Lib.hid hz
  have Z2 : Hid (crossI (c1, c2) (a1, a2) (b1, b2) ≠ 0) := by
    show _ ≠ _
    rw [← cross_cyc]; exact hz
  have Z3 : Hid (crossI (b1, b2) (a1, a2) (c1, c2) ≠ 0) := by
    show _ ≠ _
    rw [cross_swap]; exact fun h => hz (by omega)
  have ht0 : (t == 0) = false := by
    rw [← ht]; simp only [beq_eq_false_iff_ne, ne_eq]; exact fun h => hz (sgI_zero.1 h)
  have HW := Lib.hid hx
  have ht3 : (t != 1) = true := by simpa using ht'
  clear hz hx hn ht ht'
  have hXe : Ext w (w.alloc (.cells #[.int .i64 a1, .int .i64 a2, .int .i64 b1, .int .i64 b2, .int .i64 c1, .int .i64 c2, .int .i64 d1, .int .i64 d2] 72)) := ((Ext.refl w).alloc _)
  have kV : Blk (w.alloc (.cells #[.int .i64 a1, .int .i64 a2, .int .i64 b1, .int .i64 b2, .int .i64 c1, .int .i64 c2, .int .i64 d1, .int .i64 d2] 72)) w.heap.size 72 #[.int .i64 a1, .int .i64 a2, .int .i64 b1, .int .i64 b2, .int .i64 c1, .int .i64 c2, .int .i64 d1, .int .i64 d2] := Blk.at_ (by simp)
  go_enter Try.func10, Try.ntmps10
  go_wp2_with fail
  generalize (w.alloc (.cells #[.int .i64 a1, .int .i64 a2, .int .i64 b1, .int .i64 b2, .int .i64 c1, .int .i64 c2, .int .i64 d1, .int .i64 d2] 72)) = w1 at hXe kV ⊢
  have HX := Lib.hid hXe
  clear hXe
  have KV := Lib.hid kV
  clear kV
  have lV := KV.out.lt
  refine open_ExactPlanes w.heap.size a1 a2 b1 b2 c1 c2 d1 d2 w1 (KV.out.cell 0) (KV.out.cell 1) (KV.out.cell 2) (KV.out.cell 3) (KV.out.cell 4) (KV.out.cell 5) (KV.out.cell 6) (KV.out.cell 7) _ _ (by simp) rfl ?_
  rintro xv0 xv1 xv2 xv3 xv4 xv5 xv6 xv7 xv8 xv9 xv10 xv11 xv12 xv13 xv14 xv15 w2 rfl rfl rfl rfl rfl rfl rfl rfl ⟨ga, rfl, hga, hBa⟩ ⟨gb, rfl, hgb, hBb⟩ ⟨gc, rfl, hgc, hBc⟩ ⟨gd, rfl, hgd, hBd⟩ n0 n1 n2 n3 n4 n5 hXW
  simp only [rops, Try.f10, regOf, Option.bind_some, Nat.reduceBEq, if_true, if_false, Bool.false_eq_true, Option.getD_some, List.drop_succ_cons, List.drop_zero]
  simp only [Act.put, List.setIfInBounds_toArray, List.set_cons_succ, List.set_cons_zero]
  replace HX := Lib.hid (HX.out.trans hXW)
  replace KV := Lib.hid (KV.out.ext hXW)
  clear hXW
  clear KV
  clear n0 n1 n2 n3 n4 n5
  have KA := Lib.hid hBa
  clear hBa
  have KB := Lib.hid hBb
  clear hBb
  have KC := Lib.hid hBc
  clear hBc
  have KD := Lib.hid hBd
  clear hBd
  have cA0 : w2.cell? ⟨ga, 0, none⟩ = some (.int .i64 a1) := KA.out.cell 0
  have cA1 : w2.cell? ⟨ga, 1, none⟩ = some (.int .i64 a2) := KA.out.cell 1
  have cB0 : w2.cell? ⟨gb, 0, none⟩ = some (.int .i64 b1) := KB.out.cell 0
  have cB1 : w2.cell? ⟨gb, 1, none⟩ = some (.int .i64 b2) := KB.out.cell 1
  have cC0 : w2.cell? ⟨gc, 0, none⟩ = some (.int .i64 c1) := KC.out.cell 0
  have cC1 : w2.cell? ⟨gc, 1, none⟩ = some (.int .i64 c2) := KC.out.cell 1
  have cD0 : w2.cell? ⟨gd, 0, none⟩ = some (.int .i64 d1) := KD.out.cell 0
  have cD1 : w2.cell? ⟨gd, 1, none⟩ = some (.int .i64 d2) := KD.out.cell 1
  go_wp2_with fail
  clear cA0 cA1 cB0 cB1 cC0 cC1 cD0 cD1
  refine (lvalid_is Oa.out _).mono ?_
  rintro e w3 ⟨rfl, hX⟩
  replace HX := Lib.hid (HX.out.trans hX)
  replace KA := Lib.hid (KA.out.ext hX)
  replace KB := Lib.hid (KB.out.ext hX)
  replace KC := Lib.hid (KC.out.ext hX)
  replace KD := Lib.hid (KD.out.ext hX)
  clear hX
  have cA0 : w3.cell? ⟨ga, 0, none⟩ = some (.int .i64 a1) := KA.out.cell 0
  have cA1 : w3.cell? ⟨ga, 1, none⟩ = some (.int .i64 a2) := KA.out.cell 1
  have cB0 : w3.cell? ⟨gb, 0, none⟩ = some (.int .i64 b1) := KB.out.cell 0
  have cB1 : w3.cell? ⟨gb, 1, none⟩ = some (.int .i64 b2) := KB.out.cell 1
  have cC0 : w3.cell? ⟨gc, 0, none⟩ = some (.int .i64 c1) := KC.out.cell 0
  have cC1 : w3.cell? ⟨gc, 1, none⟩ = some (.int .i64 c2) := KC.out.cell 1
  have cD0 : w3.cell? ⟨gd, 0, none⟩ = some (.int .i64 d1) := KD.out.cell 0
  have cD1 : w3.cell? ⟨gd, 1, none⟩ = some (.int .i64 d2) := KD.out.cell 1
  go_wp2_with fail
  clear cA0 cA1 cB0 cB1 cC0 cC1 cD0 cD1
  refine (lvalid_is Ob.out _).mono ?_
  rintro e w4 ⟨rfl, hX⟩
  replace HX := Lib.hid (HX.out.trans hX)
  replace KA := Lib.hid (KA.out.ext hX)
  replace KB := Lib.hid (KB.out.ext hX)
  replace KC := Lib.hid (KC.out.ext hX)
  replace KD := Lib.hid (KD.out.ext hX)
  clear hX
  have cA0 : w4.cell? ⟨ga, 0, none⟩ = some (.int .i64 a1) := KA.out.cell 0
  have cA1 : w4.cell? ⟨ga, 1, none⟩ = some (.int .i64 a2) := KA.out.cell 1
  have cB0 : w4.cell? ⟨gb, 0, none⟩ = some (.int .i64 b1) := KB.out.cell 0
  have cB1 : w4.cell? ⟨gb, 1, none⟩ = some (.int .i64 b2) := KB.out.cell 1
  have cC0 : w4.cell? ⟨gc, 0, none⟩ = some (.int .i64 c1) := KC.out.cell 0
  have cC1 : w4.cell? ⟨gc, 1, none⟩ = some (.int .i64 c2) := KC.out.cell 1
  have cD0 : w4.cell? ⟨gd, 0, none⟩ = some (.int .i64 d1) := KD.out.cell 0
  have cD1 : w4.cell? ⟨gd, 1, none⟩ = some (.int .i64 d2) := KD.out.cell 1
  go_wp2_with fail
  clear cA0 cA1 cB0 cB1 cC0 cC1 cD0 cD1
  refine (lvalid_is Oc.out _).mono ?_
  rintro e w5 ⟨rfl, hX⟩
  replace HX := Lib.hid (HX.out.trans hX)
  replace KA := Lib.hid (KA.out.ext hX)
  replace KB := Lib.hid (KB.out.ext hX)
  replace KC := Lib.hid (KC.out.ext hX)
  replace KD := Lib.hid (KD.out.ext hX)
  clear hX
  have cA0 : w5.cell? ⟨ga, 0, none⟩ = some (.int .i64 a1) := KA.out.cell 0
  have cA1 : w5.cell? ⟨ga, 1, none⟩ = some (.int .i64 a2) := KA.out.cell 1
  have cB0 : w5.cell? ⟨gb, 0, none⟩ = some (.int .i64 b1) := KB.out.cell 0
  have cB1 : w5.cell? ⟨gb, 1, none⟩ = some (.int .i64 b2) := KB.out.cell 1
  have cC0 : w5.cell? ⟨gc, 0, none⟩ = some (.int .i64 c1) := KC.out.cell 0
  have cC1 : w5.cell? ⟨gc, 1, none⟩ = some (.int .i64 c2) := KC.out.cell 1
  have cD0 : w5.cell? ⟨gd, 0, none⟩ = some (.int .i64 d1) := KD.out.cell 0
  have cD1 : w5.cell? ⟨gd, 1, none⟩ = some (.int .i64 d2) := KD.out.cell 1
  go_wp2_with fail
  clear cA0 cA1 cB0 cB1 cC0 cC1 cD0 cD1
  refine (lvalid_is Od.out _).mono ?_
  rintro e w6 ⟨rfl, hX⟩
  replace HX := Lib.hid (HX.out.trans hX)
  replace KA := Lib.hid (KA.out.ext hX)
  replace KB := Lib.hid (KB.out.ext hX)
  replace KC := Lib.hid (KC.out.ext hX)
  replace KD := Lib.hid (KD.out.ext hX)
  clear hX
  have cA0 : w6.cell? ⟨ga, 0, none⟩ = some (.int .i64 a1) := KA.out.cell 0
  have cA1 : w6.cell? ⟨ga, 1, none⟩ = some (.int .i64 a2) := KA.out.cell 1
  have cB0 : w6.cell? ⟨gb, 0, none⟩ = some (.int .i64 b1) := KB.out.cell 0
  have cB1 : w6.cell? ⟨gb, 1, none⟩ = some (.int .i64 b2) := KB.out.cell 1
  have cC0 : w6.cell? ⟨gc, 0, none⟩ = some (.int .i64 c1) := KC.out.cell 0
  have cC1 : w6.cell? ⟨gc, 1, none⟩ = some (.int .i64 c2) := KC.out.cell 1
  have cD0 : w6.cell? ⟨gd, 0, none⟩ = some (.int .i64 d1) := KD.out.cell 0
  have cD1 : w6.cell? ⟨gd, 1, none⟩ = some (.int .i64 d2) := KD.out.cell 1
  go_wp2_with fail
  clear cA0 cA1 cB0 cB1 cC0 cC1 cD0 cD1
  refine (turn_is Oa.out Ob.out Oc.out HT.out _).mono ?_
  rintro e w7 ⟨rfl, hX⟩
  replace HX := Lib.hid (HX.out.trans hX)
  replace KA := Lib.hid (KA.out.ext hX)
  replace KB := Lib.hid (KB.out.ext hX)
  replace KC := Lib.hid (KC.out.ext hX)
  replace KD := Lib.hid (KD.out.ext hX)
  clear hX
  have cA0 : w7.cell? ⟨ga, 0, none⟩ = some (.int .i64 a1) := KA.out.cell 0
  have cA1 : w7.cell? ⟨ga, 1, none⟩ = some (.int .i64 a2) := KA.out.cell 1
  have cB0 : w7.cell? ⟨gb, 0, none⟩ = some (.int .i64 b1) := KB.out.cell 0
  have cB1 : w7.cell? ⟨gb, 1, none⟩ = some (.int .i64 b2) := KB.out.cell 1
  have cC0 : w7.cell? ⟨gc, 0, none⟩ = some (.int .i64 c1) := KC.out.cell 0
  have cC1 : w7.cell? ⟨gc, 1, none⟩ = some (.int .i64 c2) := KC.out.cell 1
  have cD0 : w7.cell? ⟨gd, 0, none⟩ = some (.int .i64 d1) := KD.out.cell 0
  have cD1 : w7.cell? ⟨gd, 1, none⟩ = some (.int .i64 d2) := KD.out.cell 1
  go_wp2_with fail
  clear cA0 cA1 cB0 cB1 cC0 cC1 cD0 cD1
  refine (turn_is Ob.out Oa.out Oc.out HU.out _).mono ?_
  rintro e w8 ⟨rfl, hX⟩
  replace HX := Lib.hid (HX.out.trans hX)
  replace KA := Lib.hid (KA.out.ext hX)
  replace KB := Lib.hid (KB.out.ext hX)
  replace KC := Lib.hid (KC.out.ext hX)
  replace KD := Lib.hid (KD.out.ext hX)
  clear hX
  have cA0 : w8.cell? ⟨ga, 0, none⟩ = some (.int .i64 a1) := KA.out.cell 0
  have cA1 : w8.cell? ⟨ga, 1, none⟩ = some (.int .i64 a2) := KA.out.cell 1
  have cB0 : w8.cell? ⟨gb, 0, none⟩ = some (.int .i64 b1) := KB.out.cell 0
  have cB1 : w8.cell? ⟨gb, 1, none⟩ = some (.int .i64 b2) := KB.out.cell 1
  have cC0 : w8.cell? ⟨gc, 0, none⟩ = some (.int .i64 c1) := KC.out.cell 0
  have cC1 : w8.cell? ⟨gc, 1, none⟩ = some (.int .i64 c2) := KC.out.cell 1
  have cD0 : w8.cell? ⟨gd, 0, none⟩ = some (.int .i64 d1) := KD.out.cell 0
  have cD1 : w8.cell? ⟨gd, 1, none⟩ = some (.int .i64 d2) := KD.out.cell 1
  go_wp2_with fail
  clear cA0 cA1 cB0 cB1 cC0 cC1 cD0 cD1
  refine (turn_is Ob.out Oc.out Oa.out HO.out _).mono ?_
  rintro e w9 ⟨rfl, hX⟩
  replace HX := Lib.hid (HX.out.trans hX)
  replace KA := Lib.hid (KA.out.ext hX)
  replace KB := Lib.hid (KB.out.ext hX)
  replace KC := Lib.hid (KC.out.ext hX)
  replace KD := Lib.hid (KD.out.ext hX)
  clear hX
  have cA0 : w9.cell? ⟨ga, 0, none⟩ = some (.int .i64 a1) := KA.out.cell 0
  have cA1 : w9.cell? ⟨ga, 1, none⟩ = some (.int .i64 a2) := KA.out.cell 1
  have cB0 : w9.cell? ⟨gb, 0, none⟩ = some (.int .i64 b1) := KB.out.cell 0
  have cB1 : w9.cell? ⟨gb, 1, none⟩ = some (.int .i64 b2) := KB.out.cell 1
  have cC0 : w9.cell? ⟨gc, 0, none⟩ = some (.int .i64 c1) := KC.out.cell 0
  have cC1 : w9.cell? ⟨gc, 1, none⟩ = some (.int .i64 c2) := KC.out.cell 1
  have cD0 : w9.cell? ⟨gd, 0, none⟩ = some (.int .i64 d1) := KD.out.cell 0
  have cD1 : w9.cell? ⟨gd, 1, none⟩ = some (.int .i64 d2) := KD.out.cell 1
  go_wp2_with fail
  clear cA0 cA1 cB0 cB1 cC0 cC1 cD0 cD1
  refine (circ_is Oa.out Ob.out Oc.out Od.out Z1.out HN.out _).mono ?_
  rintro e w10 ⟨rfl, hX⟩
  replace HX := Lib.hid (HX.out.trans hX)
  replace KA := Lib.hid (KA.out.ext hX)
  replace KB := Lib.hid (KB.out.ext hX)
  replace KC := Lib.hid (KC.out.ext hX)
  replace KD := Lib.hid (KD.out.ext hX)
  clear hX
  have cA0 : w10.cell? ⟨ga, 0, none⟩ = some (.int .i64 a1) := KA.out.cell 0
  have cA1 : w10.cell? ⟨ga, 1, none⟩ = some (.int .i64 a2) := KA.out.cell 1
  have cB0 : w10.cell? ⟨gb, 0, none⟩ = some (.int .i64 b1) := KB.out.cell 0
  have cB1 : w10.cell? ⟨gb, 1, none⟩ = some (.int .i64 b2) := KB.out.cell 1
  have cC0 : w10.cell? ⟨gc, 0, none⟩ = some (.int .i64 c1) := KC.out.cell 0
  have cC1 : w10.cell? ⟨gc, 1, none⟩ = some (.int .i64 c2) := KC.out.cell 1
  have cD0 : w10.cell? ⟨gd, 0, none⟩ = some (.int .i64 d1) := KD.out.cell 0
  have cD1 : w10.cell? ⟨gd, 1, none⟩ = some (.int .i64 d2) := KD.out.cell 1
  go_wp2_with fail
  clear cA0 cA1 cB0 cB1 cC0 cC1 cD0 cD1
  refine (circ_is Oc.out Oa.out Ob.out Od.out Z2.out HM.out _).mono ?_
  rintro e w11 ⟨rfl, hX⟩
  replace HX := Lib.hid (HX.out.trans hX)
  replace KA := Lib.hid (KA.out.ext hX)
  replace KB := Lib.hid (KB.out.ext hX)
  replace KC := Lib.hid (KC.out.ext hX)
  replace KD := Lib.hid (KD.out.ext hX)
  clear hX
  have cA0 : w11.cell? ⟨ga, 0, none⟩ = some (.int .i64 a1) := KA.out.cell 0
  have cA1 : w11.cell? ⟨ga, 1, none⟩ = some (.int .i64 a2) := KA.out.cell 1
  have cB0 : w11.cell? ⟨gb, 0, none⟩ = some (.int .i64 b1) := KB.out.cell 0
  have cB1 : w11.cell? ⟨gb, 1, none⟩ = some (.int .i64 b2) := KB.out.cell 1
  have cC0 : w11.cell? ⟨gc, 0, none⟩ = some (.int .i64 c1) := KC.out.cell 0
  have cC1 : w11.cell? ⟨gc, 1, none⟩ = some (.int .i64 c2) := KC.out.cell 1
  have cD0 : w11.cell? ⟨gd, 0, none⟩ = some (.int .i64 d1) := KD.out.cell 0
  have cD1 : w11.cell? ⟨gd, 1, none⟩ = some (.int .i64 d2) := KD.out.cell 1
  go_wp2_with fail
  clear cA0 cA1 cB0 cB1 cC0 cC1 cD0 cD1
  refine (circ_is Ob.out Oa.out Oc.out Od.out Z3.out HK.out _).mono ?_
  rintro e w12 ⟨rfl, hX⟩
  replace HX := Lib.hid (HX.out.trans hX)
  replace KA := Lib.hid (KA.out.ext hX)
  replace KB := Lib.hid (KB.out.ext hX)
  replace KC := Lib.hid (KC.out.ext hX)
  replace KD := Lib.hid (KD.out.ext hX)
  clear hX
  have cA0 : w12.cell? ⟨ga, 0, none⟩ = some (.int .i64 a1) := KA.out.cell 0
  have cA1 : w12.cell? ⟨ga, 1, none⟩ = some (.int .i64 a2) := KA.out.cell 1
  have cB0 : w12.cell? ⟨gb, 0, none⟩ = some (.int .i64 b1) := KB.out.cell 0
  have cB1 : w12.cell? ⟨gb, 1, none⟩ = some (.int .i64 b2) := KB.out.cell 1
  have cC0 : w12.cell? ⟨gc, 0, none⟩ = some (.int .i64 c1) := KC.out.cell 0
  have cC1 : w12.cell? ⟨gc, 1, none⟩ = some (.int .i64 c2) := KC.out.cell 1
  have cD0 : w12.cell? ⟨gd, 0, none⟩ = some (.int .i64 d1) := KD.out.cell 0
  have cD1 : w12.cell? ⟨gd, 1, none⟩ = some (.int .i64 d2) := KD.out.cell 1
  go_wp2_with fail
  clear cA0 cA1 cB0 cB1 cC0 cC1 cD0 cD1
  refine (turn_is Ob.out Oa.out Od.out HW.out _).mono ?_
  rintro e w13 ⟨rfl, hX⟩
  replace HX := Lib.hid (HX.out.trans hX)
  replace KA := Lib.hid (KA.out.ext hX)
  replace KB := Lib.hid (KB.out.ext hX)
  replace KC := Lib.hid (KC.out.ext hX)
  replace KD := Lib.hid (KD.out.ext hX)
  clear hX
  go_wp2_with fail
  refine (first_any _).mono ?_
  rintro e w14 ⟨rfl, hX⟩
  replace HX := Lib.hid (HX.out.trans hX)
  replace KA := Lib.hid (KA.out.ext hX)
  replace KB := Lib.hid (KB.out.ext hX)
  replace KC := Lib.hid (KC.out.ext hX)
  replace KD := Lib.hid (KD.out.ext hX)
  clear hX
  go_wp2
  go_ret
  exact ⟨rfl, HX.out⟩

set_option maxRecDepth 100000 in
set_option maxHeartbeats 2000000 in
theorem planes_two (a1 a2 b1 b2 c1 c2 d1 d2 : Int) (w : World) (ha : okP (a1, a2) = true) (hb : okP (b1, b2) = true) (hc : okP (c1, c2) = true) (hd : okP (d1, d2) = true) (hz : crossI (a1, a2) (b1, b2) (c1, c2) ≠ 0) (t : Int) (ht : sgI (crossI (a1, a2) (b1, b2) (c1, c2)) = t) (n : Int) (hn : circI (a1, a2) (b1, b2) (c1, c2) (d1, d2) = n) (x : Int) (hx : sgI (crossI (b1, b2) (a1, a2) (d1, d2)) = x) (ht' : t = 1) (hx' : x ≠ 1) :
    Calls Try.prog 10 #[.agg #[.int .i64 a1, .int .i64 a2, .int .i64 b1, .int .i64 b2, .int .i64 c1, .int .i64 c2, .int .i64 d1, .int .i64 d2]] w (fun e w' => e = .returned (.bool true) ∧ Ext w w') := by
  have Oa := Lib.hid ha
  clear ha
  have Ob := Lib.hid hb
  clear hb
  have Oc := Lib.hid hc
  clear hc
  have Od := Lib.hid hd
  clear hd
  have HT := Lib.hid ht
  have HU : Hid (sgI (crossI (b1, b2) (a1, a2) (c1, c2)) = -t) := by
    show _ = _
    rw [cross_swap, sgI_neg, ht]
  have HO : Hid (sgI (crossI (b1, b2) (c1, c2) (a1, a2)) = t) := by
    show _ = _
    rw [cross_cyc, ht]
  obtain ⟨ht1, ht2⟩ := sgI_in (crossI (a1, a2) (b1, b2) (c1, c2))
  rw [ht] at ht1 ht2
  have HN := Lib.hid hn
  have HM : Hid (circI (c1, c2) (a1, a2) (b1, b2) (d1, d2) = n) := by
    show _ = _
    unfold circI at hn ⊢
    rw [← cross_cyc, det_cyc]; exact hn
  have HK : Hid (circI (b1, b2) (a1, a2) (c1, c2) (d1, d2) = n) := by
    show _ = _
    unfold circI at hn ⊢
    rw [cross_swap, sgI_neg, det_swap, sgI_neg, Int.neg_mul_neg]; exact hn
  have Z1 := Lib.hid hz
  have Z2 : Hid (crossI (c1, c2) (a1, a2) (b1, b2) ≠ 0) := by
    show _ ≠ _
    rw [← cross_cyc]; exact hz
  have Z3 : Hid (crossI (b1, b2) (a1, a2) (c1, c2) ≠ 0) := by
    show _ ≠ _
    rw [cross_swap]; exact fun h => hz (by omega)
  have ht0 : (t == 0) = false := by
    rw [← ht]; simp only [beq_eq_false_iff_ne, ne_eq]; exact fun h => hz (sgI_zero.1 h)
  have HW := Lib.hid hx
  have hx3 : (x != 1) = true := by simpa using hx'
  clear hz hx hn ht hx'
  subst ht'
  have hXe : Ext w (w.alloc (.cells #[.int .i64 a1, .int .i64 a2, .int .i64 b1, .int .i64 b2, .int .i64 c1, .int .i64 c2, .int .i64 d1, .int .i64 d2] 72)) := ((Ext.refl w).alloc _)
  have kV : Blk (w.alloc (.cells #[.int .i64 a1, .int .i64 a2, .int .i64 b1, .int .i64 b2, .int .i64 c1, .int .i64 c2, .int .i64 d1, .int .i64 d2] 72)) w.heap.size 72 #[.int .i64 a1, .int .i64 a2, .int .i64 b1, .int .i64 b2, .int .i64 c1, .int .i64 c2, .int .i64 d1, .int .i64 d2] := Blk.at_ (by simp)
  go_enter Try.func10, Try.ntmps10
  go_wp2_with fail
  generalize (w.alloc (.cells #[.int .i64 a1, .int .i64 a2, .int .i64 b1, .int .i64 b2, .int .i64 c1, .int .i64 c2, .int .i64 d1, .int .i64 d2] 72)) = w1 at hXe kV ⊢
  have HX := Lib.hid hXe
  clear hXe
  have KV := Lib.hid kV
  clear kV
  have lV := KV.out.lt
  refine open_ExactPlanes w.heap.size a1 a2 b1 b2 c1 c2 d1 d2 w1 (KV.out.cell 0) (KV.out.cell 1) (KV.out.cell 2) (KV.out.cell 3) (KV.out.cell 4) (KV.out.cell 5) (KV.out.cell 6) (KV.out.cell 7) _ _ (by simp) rfl ?_
  rintro xv0 xv1 xv2 xv3 xv4 xv5 xv6 xv7 xv8 xv9 xv10 xv11 xv12 xv13 xv14 xv15 w2 rfl rfl rfl rfl rfl rfl rfl rfl ⟨ga, rfl, hga, hBa⟩ ⟨gb, rfl, hgb, hBb⟩ ⟨gc, rfl, hgc, hBc⟩ ⟨gd, rfl, hgd, hBd⟩ n0 n1 n2 n3 n4 n5 hXW
  simp only [rops, Try.f10, regOf, Option.bind_some, Nat.reduceBEq, if_true, if_false, Bool.false_eq_true, Option.getD_some, List.drop_succ_cons, List.drop_zero]
  simp only [Act.put, List.setIfInBounds_toArray, List.set_cons_succ, List.set_cons_zero]
  replace HX := Lib.hid (HX.out.trans hXW)
  replace KV := Lib.hid (KV.out.ext hXW)
  clear hXW
  clear KV
  clear n0 n1 n2 n3 n4 n5
  have KA := Lib.hid hBa
  clear hBa
  have KB := Lib.hid hBb
  clear hBb
  have KC := Lib.hid hBc
  clear hBc
  have KD := Lib.hid hBd
  clear hBd
  have cA0 : w2.cell? ⟨ga, 0, none⟩ = some (.int .i64 a1) := KA.out.cell 0
  have cA1 : w2.cell? ⟨ga, 1, none⟩ = some (.int .i64 a2) := KA.out.cell 1
  have cB0 : w2.cell? ⟨gb, 0, none⟩ = some (.int .i64 b1) := KB.out.cell 0
  have cB1 : w2.cell? ⟨gb, 1, none⟩ = some (.int .i64 b2) := KB.out.cell 1
  have cC0 : w2.cell? ⟨gc, 0, none⟩ = some (.int .i64 c1) := KC.out.cell 0
  have cC1 : w2.cell? ⟨gc, 1, none⟩ = some (.int .i64 c2) := KC.out.cell 1
  have cD0 : w2.cell? ⟨gd, 0, none⟩ = some (.int .i64 d1) := KD.out.cell 0
  have cD1 : w2.cell? ⟨gd, 1, none⟩ = some (.int .i64 d2) := KD.out.cell 1
  go_wp2_with fail
  clear cA0 cA1 cB0 cB1 cC0 cC1 cD0 cD1
  refine (lvalid_is Oa.out _).mono ?_
  rintro e w3 ⟨rfl, hX⟩
  replace HX := Lib.hid (HX.out.trans hX)
  replace KA := Lib.hid (KA.out.ext hX)
  replace KB := Lib.hid (KB.out.ext hX)
  replace KC := Lib.hid (KC.out.ext hX)
  replace KD := Lib.hid (KD.out.ext hX)
  clear hX
  have cA0 : w3.cell? ⟨ga, 0, none⟩ = some (.int .i64 a1) := KA.out.cell 0
  have cA1 : w3.cell? ⟨ga, 1, none⟩ = some (.int .i64 a2) := KA.out.cell 1
  have cB0 : w3.cell? ⟨gb, 0, none⟩ = some (.int .i64 b1) := KB.out.cell 0
  have cB1 : w3.cell? ⟨gb, 1, none⟩ = some (.int .i64 b2) := KB.out.cell 1
  have cC0 : w3.cell? ⟨gc, 0, none⟩ = some (.int .i64 c1) := KC.out.cell 0
  have cC1 : w3.cell? ⟨gc, 1, none⟩ = some (.int .i64 c2) := KC.out.cell 1
  have cD0 : w3.cell? ⟨gd, 0, none⟩ = some (.int .i64 d1) := KD.out.cell 0
  have cD1 : w3.cell? ⟨gd, 1, none⟩ = some (.int .i64 d2) := KD.out.cell 1
  go_wp2_with fail
  clear cA0 cA1 cB0 cB1 cC0 cC1 cD0 cD1
  refine (lvalid_is Ob.out _).mono ?_
  rintro e w4 ⟨rfl, hX⟩
  replace HX := Lib.hid (HX.out.trans hX)
  replace KA := Lib.hid (KA.out.ext hX)
  replace KB := Lib.hid (KB.out.ext hX)
  replace KC := Lib.hid (KC.out.ext hX)
  replace KD := Lib.hid (KD.out.ext hX)
  clear hX
  have cA0 : w4.cell? ⟨ga, 0, none⟩ = some (.int .i64 a1) := KA.out.cell 0
  have cA1 : w4.cell? ⟨ga, 1, none⟩ = some (.int .i64 a2) := KA.out.cell 1
  have cB0 : w4.cell? ⟨gb, 0, none⟩ = some (.int .i64 b1) := KB.out.cell 0
  have cB1 : w4.cell? ⟨gb, 1, none⟩ = some (.int .i64 b2) := KB.out.cell 1
  have cC0 : w4.cell? ⟨gc, 0, none⟩ = some (.int .i64 c1) := KC.out.cell 0
  have cC1 : w4.cell? ⟨gc, 1, none⟩ = some (.int .i64 c2) := KC.out.cell 1
  have cD0 : w4.cell? ⟨gd, 0, none⟩ = some (.int .i64 d1) := KD.out.cell 0
  have cD1 : w4.cell? ⟨gd, 1, none⟩ = some (.int .i64 d2) := KD.out.cell 1
  go_wp2_with fail
  clear cA0 cA1 cB0 cB1 cC0 cC1 cD0 cD1
  refine (lvalid_is Oc.out _).mono ?_
  rintro e w5 ⟨rfl, hX⟩
  replace HX := Lib.hid (HX.out.trans hX)
  replace KA := Lib.hid (KA.out.ext hX)
  replace KB := Lib.hid (KB.out.ext hX)
  replace KC := Lib.hid (KC.out.ext hX)
  replace KD := Lib.hid (KD.out.ext hX)
  clear hX
  have cA0 : w5.cell? ⟨ga, 0, none⟩ = some (.int .i64 a1) := KA.out.cell 0
  have cA1 : w5.cell? ⟨ga, 1, none⟩ = some (.int .i64 a2) := KA.out.cell 1
  have cB0 : w5.cell? ⟨gb, 0, none⟩ = some (.int .i64 b1) := KB.out.cell 0
  have cB1 : w5.cell? ⟨gb, 1, none⟩ = some (.int .i64 b2) := KB.out.cell 1
  have cC0 : w5.cell? ⟨gc, 0, none⟩ = some (.int .i64 c1) := KC.out.cell 0
  have cC1 : w5.cell? ⟨gc, 1, none⟩ = some (.int .i64 c2) := KC.out.cell 1
  have cD0 : w5.cell? ⟨gd, 0, none⟩ = some (.int .i64 d1) := KD.out.cell 0
  have cD1 : w5.cell? ⟨gd, 1, none⟩ = some (.int .i64 d2) := KD.out.cell 1
  go_wp2_with fail
  clear cA0 cA1 cB0 cB1 cC0 cC1 cD0 cD1
  refine (lvalid_is Od.out _).mono ?_
  rintro e w6 ⟨rfl, hX⟩
  replace HX := Lib.hid (HX.out.trans hX)
  replace KA := Lib.hid (KA.out.ext hX)
  replace KB := Lib.hid (KB.out.ext hX)
  replace KC := Lib.hid (KC.out.ext hX)
  replace KD := Lib.hid (KD.out.ext hX)
  clear hX
  have cA0 : w6.cell? ⟨ga, 0, none⟩ = some (.int .i64 a1) := KA.out.cell 0
  have cA1 : w6.cell? ⟨ga, 1, none⟩ = some (.int .i64 a2) := KA.out.cell 1
  have cB0 : w6.cell? ⟨gb, 0, none⟩ = some (.int .i64 b1) := KB.out.cell 0
  have cB1 : w6.cell? ⟨gb, 1, none⟩ = some (.int .i64 b2) := KB.out.cell 1
  have cC0 : w6.cell? ⟨gc, 0, none⟩ = some (.int .i64 c1) := KC.out.cell 0
  have cC1 : w6.cell? ⟨gc, 1, none⟩ = some (.int .i64 c2) := KC.out.cell 1
  have cD0 : w6.cell? ⟨gd, 0, none⟩ = some (.int .i64 d1) := KD.out.cell 0
  have cD1 : w6.cell? ⟨gd, 1, none⟩ = some (.int .i64 d2) := KD.out.cell 1
  go_wp2_with fail
  clear cA0 cA1 cB0 cB1 cC0 cC1 cD0 cD1
  refine (turn_is Oa.out Ob.out Oc.out HT.out _).mono ?_
  rintro e w7 ⟨rfl, hX⟩
  replace HX := Lib.hid (HX.out.trans hX)
  replace KA := Lib.hid (KA.out.ext hX)
  replace KB := Lib.hid (KB.out.ext hX)
  replace KC := Lib.hid (KC.out.ext hX)
  replace KD := Lib.hid (KD.out.ext hX)
  clear hX
  have cA0 : w7.cell? ⟨ga, 0, none⟩ = some (.int .i64 a1) := KA.out.cell 0
  have cA1 : w7.cell? ⟨ga, 1, none⟩ = some (.int .i64 a2) := KA.out.cell 1
  have cB0 : w7.cell? ⟨gb, 0, none⟩ = some (.int .i64 b1) := KB.out.cell 0
  have cB1 : w7.cell? ⟨gb, 1, none⟩ = some (.int .i64 b2) := KB.out.cell 1
  have cC0 : w7.cell? ⟨gc, 0, none⟩ = some (.int .i64 c1) := KC.out.cell 0
  have cC1 : w7.cell? ⟨gc, 1, none⟩ = some (.int .i64 c2) := KC.out.cell 1
  have cD0 : w7.cell? ⟨gd, 0, none⟩ = some (.int .i64 d1) := KD.out.cell 0
  have cD1 : w7.cell? ⟨gd, 1, none⟩ = some (.int .i64 d2) := KD.out.cell 1
  go_wp2_with fail
  clear cA0 cA1 cB0 cB1 cC0 cC1 cD0 cD1
  refine (turn_is Ob.out Oa.out Oc.out HU.out _).mono ?_
  rintro e w8 ⟨rfl, hX⟩
  replace HX := Lib.hid (HX.out.trans hX)
  replace KA := Lib.hid (KA.out.ext hX)
  replace KB := Lib.hid (KB.out.ext hX)
  replace KC := Lib.hid (KC.out.ext hX)
  replace KD := Lib.hid (KD.out.ext hX)
  clear hX
  have cA0 : w8.cell? ⟨ga, 0, none⟩ = some (.int .i64 a1) := KA.out.cell 0
  have cA1 : w8.cell? ⟨ga, 1, none⟩ = some (.int .i64 a2) := KA.out.cell 1
  have cB0 : w8.cell? ⟨gb, 0, none⟩ = some (.int .i64 b1) := KB.out.cell 0
  have cB1 : w8.cell? ⟨gb, 1, none⟩ = some (.int .i64 b2) := KB.out.cell 1
  have cC0 : w8.cell? ⟨gc, 0, none⟩ = some (.int .i64 c1) := KC.out.cell 0
  have cC1 : w8.cell? ⟨gc, 1, none⟩ = some (.int .i64 c2) := KC.out.cell 1
  have cD0 : w8.cell? ⟨gd, 0, none⟩ = some (.int .i64 d1) := KD.out.cell 0
  have cD1 : w8.cell? ⟨gd, 1, none⟩ = some (.int .i64 d2) := KD.out.cell 1
  go_wp2_with fail
  clear cA0 cA1 cB0 cB1 cC0 cC1 cD0 cD1
  refine (turn_is Ob.out Oc.out Oa.out HO.out _).mono ?_
  rintro e w9 ⟨rfl, hX⟩
  replace HX := Lib.hid (HX.out.trans hX)
  replace KA := Lib.hid (KA.out.ext hX)
  replace KB := Lib.hid (KB.out.ext hX)
  replace KC := Lib.hid (KC.out.ext hX)
  replace KD := Lib.hid (KD.out.ext hX)
  clear hX
  have cA0 : w9.cell? ⟨ga, 0, none⟩ = some (.int .i64 a1) := KA.out.cell 0
  have cA1 : w9.cell? ⟨ga, 1, none⟩ = some (.int .i64 a2) := KA.out.cell 1
  have cB0 : w9.cell? ⟨gb, 0, none⟩ = some (.int .i64 b1) := KB.out.cell 0
  have cB1 : w9.cell? ⟨gb, 1, none⟩ = some (.int .i64 b2) := KB.out.cell 1
  have cC0 : w9.cell? ⟨gc, 0, none⟩ = some (.int .i64 c1) := KC.out.cell 0
  have cC1 : w9.cell? ⟨gc, 1, none⟩ = some (.int .i64 c2) := KC.out.cell 1
  have cD0 : w9.cell? ⟨gd, 0, none⟩ = some (.int .i64 d1) := KD.out.cell 0
  have cD1 : w9.cell? ⟨gd, 1, none⟩ = some (.int .i64 d2) := KD.out.cell 1
  go_wp2_with fail
  clear cA0 cA1 cB0 cB1 cC0 cC1 cD0 cD1
  refine (circ_is Oa.out Ob.out Oc.out Od.out Z1.out HN.out _).mono ?_
  rintro e w10 ⟨rfl, hX⟩
  replace HX := Lib.hid (HX.out.trans hX)
  replace KA := Lib.hid (KA.out.ext hX)
  replace KB := Lib.hid (KB.out.ext hX)
  replace KC := Lib.hid (KC.out.ext hX)
  replace KD := Lib.hid (KD.out.ext hX)
  clear hX
  have cA0 : w10.cell? ⟨ga, 0, none⟩ = some (.int .i64 a1) := KA.out.cell 0
  have cA1 : w10.cell? ⟨ga, 1, none⟩ = some (.int .i64 a2) := KA.out.cell 1
  have cB0 : w10.cell? ⟨gb, 0, none⟩ = some (.int .i64 b1) := KB.out.cell 0
  have cB1 : w10.cell? ⟨gb, 1, none⟩ = some (.int .i64 b2) := KB.out.cell 1
  have cC0 : w10.cell? ⟨gc, 0, none⟩ = some (.int .i64 c1) := KC.out.cell 0
  have cC1 : w10.cell? ⟨gc, 1, none⟩ = some (.int .i64 c2) := KC.out.cell 1
  have cD0 : w10.cell? ⟨gd, 0, none⟩ = some (.int .i64 d1) := KD.out.cell 0
  have cD1 : w10.cell? ⟨gd, 1, none⟩ = some (.int .i64 d2) := KD.out.cell 1
  go_wp2_with fail
  clear cA0 cA1 cB0 cB1 cC0 cC1 cD0 cD1
  refine (circ_is Oc.out Oa.out Ob.out Od.out Z2.out HM.out _).mono ?_
  rintro e w11 ⟨rfl, hX⟩
  replace HX := Lib.hid (HX.out.trans hX)
  replace KA := Lib.hid (KA.out.ext hX)
  replace KB := Lib.hid (KB.out.ext hX)
  replace KC := Lib.hid (KC.out.ext hX)
  replace KD := Lib.hid (KD.out.ext hX)
  clear hX
  have cA0 : w11.cell? ⟨ga, 0, none⟩ = some (.int .i64 a1) := KA.out.cell 0
  have cA1 : w11.cell? ⟨ga, 1, none⟩ = some (.int .i64 a2) := KA.out.cell 1
  have cB0 : w11.cell? ⟨gb, 0, none⟩ = some (.int .i64 b1) := KB.out.cell 0
  have cB1 : w11.cell? ⟨gb, 1, none⟩ = some (.int .i64 b2) := KB.out.cell 1
  have cC0 : w11.cell? ⟨gc, 0, none⟩ = some (.int .i64 c1) := KC.out.cell 0
  have cC1 : w11.cell? ⟨gc, 1, none⟩ = some (.int .i64 c2) := KC.out.cell 1
  have cD0 : w11.cell? ⟨gd, 0, none⟩ = some (.int .i64 d1) := KD.out.cell 0
  have cD1 : w11.cell? ⟨gd, 1, none⟩ = some (.int .i64 d2) := KD.out.cell 1
  go_wp2_with fail
  clear cA0 cA1 cB0 cB1 cC0 cC1 cD0 cD1
  refine (circ_is Ob.out Oa.out Oc.out Od.out Z3.out HK.out _).mono ?_
  rintro e w12 ⟨rfl, hX⟩
  replace HX := Lib.hid (HX.out.trans hX)
  replace KA := Lib.hid (KA.out.ext hX)
  replace KB := Lib.hid (KB.out.ext hX)
  replace KC := Lib.hid (KC.out.ext hX)
  replace KD := Lib.hid (KD.out.ext hX)
  clear hX
  have cA0 : w12.cell? ⟨ga, 0, none⟩ = some (.int .i64 a1) := KA.out.cell 0
  have cA1 : w12.cell? ⟨ga, 1, none⟩ = some (.int .i64 a2) := KA.out.cell 1
  have cB0 : w12.cell? ⟨gb, 0, none⟩ = some (.int .i64 b1) := KB.out.cell 0
  have cB1 : w12.cell? ⟨gb, 1, none⟩ = some (.int .i64 b2) := KB.out.cell 1
  have cC0 : w12.cell? ⟨gc, 0, none⟩ = some (.int .i64 c1) := KC.out.cell 0
  have cC1 : w12.cell? ⟨gc, 1, none⟩ = some (.int .i64 c2) := KC.out.cell 1
  have cD0 : w12.cell? ⟨gd, 0, none⟩ = some (.int .i64 d1) := KD.out.cell 0
  have cD1 : w12.cell? ⟨gd, 1, none⟩ = some (.int .i64 d2) := KD.out.cell 1
  go_wp2_with fail
  clear cA0 cA1 cB0 cB1 cC0 cC1 cD0 cD1
  refine (turn_is Ob.out Oa.out Od.out HW.out _).mono ?_
  rintro e w13 ⟨rfl, hX⟩
  replace HX := Lib.hid (HX.out.trans hX)
  replace KA := Lib.hid (KA.out.ext hX)
  replace KB := Lib.hid (KB.out.ext hX)
  replace KC := Lib.hid (KC.out.ext hX)
  replace KD := Lib.hid (KD.out.ext hX)
  clear hX
  go_wp2_with fail
  refine (first_any _).mono ?_
  rintro e w14 ⟨rfl, hX⟩
  replace HX := Lib.hid (HX.out.trans hX)
  replace KA := Lib.hid (KA.out.ext hX)
  replace KB := Lib.hid (KB.out.ext hX)
  replace KC := Lib.hid (KC.out.ext hX)
  replace KD := Lib.hid (KD.out.ext hX)
  clear hX
  go_wp2
  go_ret
  exact ⟨rfl, HX.out⟩

set_option maxRecDepth 100000 in
set_option maxHeartbeats 2000000 in
theorem planes_all (a1 a2 b1 b2 c1 c2 d1 d2 : Int) (w : World) (ha : okP (a1, a2) = true) (hb : okP (b1, b2) = true) (hc : okP (c1, c2) = true) (hd : okP (d1, d2) = true) (hz : crossI (a1, a2) (b1, b2) (c1, c2) ≠ 0) (t : Int) (ht : sgI (crossI (a1, a2) (b1, b2) (c1, c2)) = t) (n : Int) (hn : circI (a1, a2) (b1, b2) (c1, c2) (d1, d2) = n) (x : Int) (hx : sgI (crossI (b1, b2) (a1, a2) (d1, d2)) = x) (ht' : t = 1) (hx' : x = 1) :
    Calls Try.prog 10 #[.agg #[.int .i64 a1, .int .i64 a2, .int .i64 b1, .int .i64 b2, .int .i64 c1, .int .i64 c2, .int .i64 d1, .int .i64 d2]] w (fun e w' => e = .returned (.bool true) ∧ Ext w w') := by
  have Oa := Lib.hid ha
  clear ha
  have Ob := Lib.hid hb
  clear hb
  have Oc := Lib.hid hc
  clear hc
  have Od := Lib.hid hd
  clear hd
  have HT := Lib.hid ht
  have HU : Hid (sgI (crossI (b1, b2) (a1, a2) (c1, c2)) = -t) := by
    show _ = _
    rw [cross_swap, sgI_neg, ht]
  have HO : Hid (sgI (crossI (b1, b2) (c1, c2) (a1, a2)) = t) := by
    show _ = _
    rw [cross_cyc, ht]
  obtain ⟨ht1, ht2⟩ := sgI_in (crossI (a1, a2) (b1, b2) (c1, c2))
  rw [ht] at ht1 ht2
  have HN := Lib.hid hn
  have HM : Hid (circI (c1, c2) (a1, a2) (b1, b2) (d1, d2) = n) := by
    show _ = _
    unfold circI at hn ⊢
    rw [← cross_cyc, det_cyc]; exact hn
  have HK : Hid (circI (b1, b2) (a1, a2) (c1, c2) (d1, d2) = n) := by
    show _ = _
    unfold circI at hn ⊢
    rw [cross_swap, sgI_neg, det_swap, sgI_neg, Int.neg_mul_neg]; exact hn
  have Z1 := Lib.hid hz
  have Z2 : Hid (crossI (c1, c2) (a1, a2) (b1, b2) ≠ 0) := by
    show _ ≠ _
    rw [← cross_cyc]; exact hz
  have Z3 : Hid (crossI (b1, b2) (a1, a2) (c1, c2) ≠ 0) := by
    show _ ≠ _
    rw [cross_swap]; exact fun h => hz (by omega)
  have ht0 : (t == 0) = false := by
    rw [← ht]; simp only [beq_eq_false_iff_ne, ne_eq]; exact fun h => hz (sgI_zero.1 h)
  have HW := Lib.hid hx
  have HV : Hid (circI (b1, b2) (a1, a2) (d1, d2) (c1, c2) = n) := by
    show _ = _
    unfold circI at hn ⊢
    rw [det_far, hx, hx']
    rw [ht, ht'] at hn; exact hn
  have Z4 : Hid (crossI (b1, b2) (a1, a2) (d1, d2) ≠ 0) := by
    show _ ≠ _
    intro h
    rw [h, hx'] at hx; revert hx; decide
  clear hz hx hn ht
  subst ht' hx'
  have hXe : Ext w (w.alloc (.cells #[.int .i64 a1, .int .i64 a2, .int .i64 b1, .int .i64 b2, .int .i64 c1, .int .i64 c2, .int .i64 d1, .int .i64 d2] 72)) := ((Ext.refl w).alloc _)
  have kV : Blk (w.alloc (.cells #[.int .i64 a1, .int .i64 a2, .int .i64 b1, .int .i64 b2, .int .i64 c1, .int .i64 c2, .int .i64 d1, .int .i64 d2] 72)) w.heap.size 72 #[.int .i64 a1, .int .i64 a2, .int .i64 b1, .int .i64 b2, .int .i64 c1, .int .i64 c2, .int .i64 d1, .int .i64 d2] := Blk.at_ (by simp)
  go_enter Try.func10, Try.ntmps10
  go_wp2_with fail
  generalize (w.alloc (.cells #[.int .i64 a1, .int .i64 a2, .int .i64 b1, .int .i64 b2, .int .i64 c1, .int .i64 c2, .int .i64 d1, .int .i64 d2] 72)) = w1 at hXe kV ⊢
  have HX := Lib.hid hXe
  clear hXe
  have KV := Lib.hid kV
  clear kV
  have lV := KV.out.lt
  refine open_ExactPlanes w.heap.size a1 a2 b1 b2 c1 c2 d1 d2 w1 (KV.out.cell 0) (KV.out.cell 1) (KV.out.cell 2) (KV.out.cell 3) (KV.out.cell 4) (KV.out.cell 5) (KV.out.cell 6) (KV.out.cell 7) _ _ (by simp) rfl ?_
  rintro xv0 xv1 xv2 xv3 xv4 xv5 xv6 xv7 xv8 xv9 xv10 xv11 xv12 xv13 xv14 xv15 w2 rfl rfl rfl rfl rfl rfl rfl rfl ⟨ga, rfl, hga, hBa⟩ ⟨gb, rfl, hgb, hBb⟩ ⟨gc, rfl, hgc, hBc⟩ ⟨gd, rfl, hgd, hBd⟩ n0 n1 n2 n3 n4 n5 hXW
  simp only [rops, Try.f10, regOf, Option.bind_some, Nat.reduceBEq, if_true, if_false, Bool.false_eq_true, Option.getD_some, List.drop_succ_cons, List.drop_zero]
  simp only [Act.put, List.setIfInBounds_toArray, List.set_cons_succ, List.set_cons_zero]
  replace HX := Lib.hid (HX.out.trans hXW)
  replace KV := Lib.hid (KV.out.ext hXW)
  clear hXW
  clear KV
  clear n0 n1 n2 n3 n4 n5
  have KA := Lib.hid hBa
  clear hBa
  have KB := Lib.hid hBb
  clear hBb
  have KC := Lib.hid hBc
  clear hBc
  have KD := Lib.hid hBd
  clear hBd
  have cA0 : w2.cell? ⟨ga, 0, none⟩ = some (.int .i64 a1) := KA.out.cell 0
  have cA1 : w2.cell? ⟨ga, 1, none⟩ = some (.int .i64 a2) := KA.out.cell 1
  have cB0 : w2.cell? ⟨gb, 0, none⟩ = some (.int .i64 b1) := KB.out.cell 0
  have cB1 : w2.cell? ⟨gb, 1, none⟩ = some (.int .i64 b2) := KB.out.cell 1
  have cC0 : w2.cell? ⟨gc, 0, none⟩ = some (.int .i64 c1) := KC.out.cell 0
  have cC1 : w2.cell? ⟨gc, 1, none⟩ = some (.int .i64 c2) := KC.out.cell 1
  have cD0 : w2.cell? ⟨gd, 0, none⟩ = some (.int .i64 d1) := KD.out.cell 0
  have cD1 : w2.cell? ⟨gd, 1, none⟩ = some (.int .i64 d2) := KD.out.cell 1
  go_wp2_with fail
  clear cA0 cA1 cB0 cB1 cC0 cC1 cD0 cD1
  refine (lvalid_is Oa.out _).mono ?_
  rintro e w3 ⟨rfl, hX⟩
  replace HX := Lib.hid (HX.out.trans hX)
  replace KA := Lib.hid (KA.out.ext hX)
  replace KB := Lib.hid (KB.out.ext hX)
  replace KC := Lib.hid (KC.out.ext hX)
  replace KD := Lib.hid (KD.out.ext hX)
  clear hX
  have cA0 : w3.cell? ⟨ga, 0, none⟩ = some (.int .i64 a1) := KA.out.cell 0
  have cA1 : w3.cell? ⟨ga, 1, none⟩ = some (.int .i64 a2) := KA.out.cell 1
  have cB0 : w3.cell? ⟨gb, 0, none⟩ = some (.int .i64 b1) := KB.out.cell 0
  have cB1 : w3.cell? ⟨gb, 1, none⟩ = some (.int .i64 b2) := KB.out.cell 1
  have cC0 : w3.cell? ⟨gc, 0, none⟩ = some (.int .i64 c1) := KC.out.cell 0
  have cC1 : w3.cell? ⟨gc, 1, none⟩ = some (.int .i64 c2) := KC.out.cell 1
  have cD0 : w3.cell? ⟨gd, 0, none⟩ = some (.int .i64 d1) := KD.out.cell 0
  have cD1 : w3.cell? ⟨gd, 1, none⟩ = some (.int .i64 d2) := KD.out.cell 1
  go_wp2_with fail
  clear cA0 cA1 cB0 cB1 cC0 cC1 cD0 cD1
  refine (lvalid_is Ob.out _).mono ?_
  rintro e w4 ⟨rfl, hX⟩
  replace HX := Lib.hid (HX.out.trans hX)
  replace KA := Lib.hid (KA.out.ext hX)
  replace KB := Lib.hid (KB.out.ext hX)
  replace KC := Lib.hid (KC.out.ext hX)
  replace KD := Lib.hid (KD.out.ext hX)
  clear hX
  have cA0 : w4.cell? ⟨ga, 0, none⟩ = some (.int .i64 a1) := KA.out.cell 0
  have cA1 : w4.cell? ⟨ga, 1, none⟩ = some (.int .i64 a2) := KA.out.cell 1
  have cB0 : w4.cell? ⟨gb, 0, none⟩ = some (.int .i64 b1) := KB.out.cell 0
  have cB1 : w4.cell? ⟨gb, 1, none⟩ = some (.int .i64 b2) := KB.out.cell 1
  have cC0 : w4.cell? ⟨gc, 0, none⟩ = some (.int .i64 c1) := KC.out.cell 0
  have cC1 : w4.cell? ⟨gc, 1, none⟩ = some (.int .i64 c2) := KC.out.cell 1
  have cD0 : w4.cell? ⟨gd, 0, none⟩ = some (.int .i64 d1) := KD.out.cell 0
  have cD1 : w4.cell? ⟨gd, 1, none⟩ = some (.int .i64 d2) := KD.out.cell 1
  go_wp2_with fail
  clear cA0 cA1 cB0 cB1 cC0 cC1 cD0 cD1
  refine (lvalid_is Oc.out _).mono ?_
  rintro e w5 ⟨rfl, hX⟩
  replace HX := Lib.hid (HX.out.trans hX)
  replace KA := Lib.hid (KA.out.ext hX)
  replace KB := Lib.hid (KB.out.ext hX)
  replace KC := Lib.hid (KC.out.ext hX)
  replace KD := Lib.hid (KD.out.ext hX)
  clear hX
  have cA0 : w5.cell? ⟨ga, 0, none⟩ = some (.int .i64 a1) := KA.out.cell 0
  have cA1 : w5.cell? ⟨ga, 1, none⟩ = some (.int .i64 a2) := KA.out.cell 1
  have cB0 : w5.cell? ⟨gb, 0, none⟩ = some (.int .i64 b1) := KB.out.cell 0
  have cB1 : w5.cell? ⟨gb, 1, none⟩ = some (.int .i64 b2) := KB.out.cell 1
  have cC0 : w5.cell? ⟨gc, 0, none⟩ = some (.int .i64 c1) := KC.out.cell 0
  have cC1 : w5.cell? ⟨gc, 1, none⟩ = some (.int .i64 c2) := KC.out.cell 1
  have cD0 : w5.cell? ⟨gd, 0, none⟩ = some (.int .i64 d1) := KD.out.cell 0
  have cD1 : w5.cell? ⟨gd, 1, none⟩ = some (.int .i64 d2) := KD.out.cell 1
  go_wp2_with fail
  clear cA0 cA1 cB0 cB1 cC0 cC1 cD0 cD1
  refine (lvalid_is Od.out _).mono ?_
  rintro e w6 ⟨rfl, hX⟩
  replace HX := Lib.hid (HX.out.trans hX)
  replace KA := Lib.hid (KA.out.ext hX)
  replace KB := Lib.hid (KB.out.ext hX)
  replace KC := Lib.hid (KC.out.ext hX)
  replace KD := Lib.hid (KD.out.ext hX)
  clear hX
  have cA0 : w6.cell? ⟨ga, 0, none⟩ = some (.int .i64 a1) := KA.out.cell 0
  have cA1 : w6.cell? ⟨ga, 1, none⟩ = some (.int .i64 a2) := KA.out.cell 1
  have cB0 : w6.cell? ⟨gb, 0, none⟩ = some (.int .i64 b1) := KB.out.cell 0
  have cB1 : w6.cell? ⟨gb, 1, none⟩ = some (.int .i64 b2) := KB.out.cell 1
  have cC0 : w6.cell? ⟨gc, 0, none⟩ = some (.int .i64 c1) := KC.out.cell 0
  have cC1 : w6.cell? ⟨gc, 1, none⟩ = some (.int .i64 c2) := KC.out.cell 1
  have cD0 : w6.cell? ⟨gd, 0, none⟩ = some (.int .i64 d1) := KD.out.cell 0
  have cD1 : w6.cell? ⟨gd, 1, none⟩ = some (.int .i64 d2) := KD.out.cell 1
  go_wp2_with fail
  clear cA0 cA1 cB0 cB1 cC0 cC1 cD0 cD1
  refine (turn_is Oa.out Ob.out Oc.out HT.out _).mono ?_
  rintro e w7 ⟨rfl, hX⟩
  replace HX := Lib.hid (HX.out.trans hX)
  replace KA := Lib.hid (KA.out.ext hX)
  replace KB := Lib.hid (KB.out.ext hX)
  replace KC := Lib.hid (KC.out.ext hX)
  replace KD := Lib.hid (KD.out.ext hX)
  clear hX
  have cA0 : w7.cell? ⟨ga, 0, none⟩ = some (.int .i64 a1) := KA.out.cell 0
  have cA1 : w7.cell? ⟨ga, 1, none⟩ = some (.int .i64 a2) := KA.out.cell 1
  have cB0 : w7.cell? ⟨gb, 0, none⟩ = some (.int .i64 b1) := KB.out.cell 0
  have cB1 : w7.cell? ⟨gb, 1, none⟩ = some (.int .i64 b2) := KB.out.cell 1
  have cC0 : w7.cell? ⟨gc, 0, none⟩ = some (.int .i64 c1) := KC.out.cell 0
  have cC1 : w7.cell? ⟨gc, 1, none⟩ = some (.int .i64 c2) := KC.out.cell 1
  have cD0 : w7.cell? ⟨gd, 0, none⟩ = some (.int .i64 d1) := KD.out.cell 0
  have cD1 : w7.cell? ⟨gd, 1, none⟩ = some (.int .i64 d2) := KD.out.cell 1
  go_wp2_with fail
  clear cA0 cA1 cB0 cB1 cC0 cC1 cD0 cD1
  refine (turn_is Ob.out Oa.out Oc.out HU.out _).mono ?_
  rintro e w8 ⟨rfl, hX⟩
  replace HX := Lib.hid (HX.out.trans hX)
  replace KA := Lib.hid (KA.out.ext hX)
  replace KB := Lib.hid (KB.out.ext hX)
  replace KC := Lib.hid (KC.out.ext hX)
  replace KD := Lib.hid (KD.out.ext hX)
  clear hX
  have cA0 : w8.cell? ⟨ga, 0, none⟩ = some (.int .i64 a1) := KA.out.cell 0
  have cA1 : w8.cell? ⟨ga, 1, none⟩ = some (.int .i64 a2) := KA.out.cell 1
  have cB0 : w8.cell? ⟨gb, 0, none⟩ = some (.int .i64 b1) := KB.out.cell 0
  have cB1 : w8.cell? ⟨gb, 1, none⟩ = some (.int .i64 b2) := KB.out.cell 1
  have cC0 : w8.cell? ⟨gc, 0, none⟩ = some (.int .i64 c1) := KC.out.cell 0
  have cC1 : w8.cell? ⟨gc, 1, none⟩ = some (.int .i64 c2) := KC.out.cell 1
  have cD0 : w8.cell? ⟨gd, 0, none⟩ = some (.int .i64 d1) := KD.out.cell 0
  have cD1 : w8.cell? ⟨gd, 1, none⟩ = some (.int .i64 d2) := KD.out.cell 1
  go_wp2_with fail
  clear cA0 cA1 cB0 cB1 cC0 cC1 cD0 cD1
  refine (turn_is Ob.out Oc.out Oa.out HO.out _).mono ?_
  rintro e w9 ⟨rfl, hX⟩
  replace HX := Lib.hid (HX.out.trans hX)
  replace KA := Lib.hid (KA.out.ext hX)
  replace KB := Lib.hid (KB.out.ext hX)
  replace KC := Lib.hid (KC.out.ext hX)
  replace KD := Lib.hid (KD.out.ext hX)
  clear hX
  have cA0 : w9.cell? ⟨ga, 0, none⟩ = some (.int .i64 a1) := KA.out.cell 0
  have cA1 : w9.cell? ⟨ga, 1, none⟩ = some (.int .i64 a2) := KA.out.cell 1
  have cB0 : w9.cell? ⟨gb, 0, none⟩ = some (.int .i64 b1) := KB.out.cell 0
  have cB1 : w9.cell? ⟨gb, 1, none⟩ = some (.int .i64 b2) := KB.out.cell 1
  have cC0 : w9.cell? ⟨gc, 0, none⟩ = some (.int .i64 c1) := KC.out.cell 0
  have cC1 : w9.cell? ⟨gc, 1, none⟩ = some (.int .i64 c2) := KC.out.cell 1
  have cD0 : w9.cell? ⟨gd, 0, none⟩ = some (.int .i64 d1) := KD.out.cell 0
  have cD1 : w9.cell? ⟨gd, 1, none⟩ = some (.int .i64 d2) := KD.out.cell 1
  go_wp2_with fail
  clear cA0 cA1 cB0 cB1 cC0 cC1 cD0 cD1
  refine (circ_is Oa.out Ob.out Oc.out Od.out Z1.out HN.out _).mono ?_
  rintro e w10 ⟨rfl, hX⟩
  replace HX := Lib.hid (HX.out.trans hX)
  replace KA := Lib.hid (KA.out.ext hX)
  replace KB := Lib.hid (KB.out.ext hX)
  replace KC := Lib.hid (KC.out.ext hX)
  replace KD := Lib.hid (KD.out.ext hX)
  clear hX
  have cA0 : w10.cell? ⟨ga, 0, none⟩ = some (.int .i64 a1) := KA.out.cell 0
  have cA1 : w10.cell? ⟨ga, 1, none⟩ = some (.int .i64 a2) := KA.out.cell 1
  have cB0 : w10.cell? ⟨gb, 0, none⟩ = some (.int .i64 b1) := KB.out.cell 0
  have cB1 : w10.cell? ⟨gb, 1, none⟩ = some (.int .i64 b2) := KB.out.cell 1
  have cC0 : w10.cell? ⟨gc, 0, none⟩ = some (.int .i64 c1) := KC.out.cell 0
  have cC1 : w10.cell? ⟨gc, 1, none⟩ = some (.int .i64 c2) := KC.out.cell 1
  have cD0 : w10.cell? ⟨gd, 0, none⟩ = some (.int .i64 d1) := KD.out.cell 0
  have cD1 : w10.cell? ⟨gd, 1, none⟩ = some (.int .i64 d2) := KD.out.cell 1
  go_wp2_with fail
  clear cA0 cA1 cB0 cB1 cC0 cC1 cD0 cD1
  refine (circ_is Oc.out Oa.out Ob.out Od.out Z2.out HM.out _).mono ?_
  rintro e w11 ⟨rfl, hX⟩
  replace HX := Lib.hid (HX.out.trans hX)
  replace KA := Lib.hid (KA.out.ext hX)
  replace KB := Lib.hid (KB.out.ext hX)
  replace KC := Lib.hid (KC.out.ext hX)
  replace KD := Lib.hid (KD.out.ext hX)
  clear hX
  have cA0 : w11.cell? ⟨ga, 0, none⟩ = some (.int .i64 a1) := KA.out.cell 0
  have cA1 : w11.cell? ⟨ga, 1, none⟩ = some (.int .i64 a2) := KA.out.cell 1
  have cB0 : w11.cell? ⟨gb, 0, none⟩ = some (.int .i64 b1) := KB.out.cell 0
  have cB1 : w11.cell? ⟨gb, 1, none⟩ = some (.int .i64 b2) := KB.out.cell 1
  have cC0 : w11.cell? ⟨gc, 0, none⟩ = some (.int .i64 c1) := KC.out.cell 0
  have cC1 : w11.cell? ⟨gc, 1, none⟩ = some (.int .i64 c2) := KC.out.cell 1
  have cD0 : w11.cell? ⟨gd, 0, none⟩ = some (.int .i64 d1) := KD.out.cell 0
  have cD1 : w11.cell? ⟨gd, 1, none⟩ = some (.int .i64 d2) := KD.out.cell 1
  go_wp2_with fail
  clear cA0 cA1 cB0 cB1 cC0 cC1 cD0 cD1
  refine (circ_is Ob.out Oa.out Oc.out Od.out Z3.out HK.out _).mono ?_
  rintro e w12 ⟨rfl, hX⟩
  replace HX := Lib.hid (HX.out.trans hX)
  replace KA := Lib.hid (KA.out.ext hX)
  replace KB := Lib.hid (KB.out.ext hX)
  replace KC := Lib.hid (KC.out.ext hX)
  replace KD := Lib.hid (KD.out.ext hX)
  clear hX
  have cA0 : w12.cell? ⟨ga, 0, none⟩ = some (.int .i64 a1) := KA.out.cell 0
  have cA1 : w12.cell? ⟨ga, 1, none⟩ = some (.int .i64 a2) := KA.out.cell 1
  have cB0 : w12.cell? ⟨gb, 0, none⟩ = some (.int .i64 b1) := KB.out.cell 0
  have cB1 : w12.cell? ⟨gb, 1, none⟩ = some (.int .i64 b2) := KB.out.cell 1
  have cC0 : w12.cell? ⟨gc, 0, none⟩ = some (.int .i64 c1) := KC.out.cell 0
  have cC1 : w12.cell? ⟨gc, 1, none⟩ = some (.int .i64 c2) := KC.out.cell 1
  have cD0 : w12.cell? ⟨gd, 0, none⟩ = some (.int .i64 d1) := KD.out.cell 0
  have cD1 : w12.cell? ⟨gd, 1, none⟩ = some (.int .i64 d2) := KD.out.cell 1
  go_wp2_with fail
  clear cA0 cA1 cB0 cB1 cC0 cC1 cD0 cD1
  refine (turn_is Ob.out Oa.out Od.out HW.out _).mono ?_
  rintro e w13 ⟨rfl, hX⟩
  replace HX := Lib.hid (HX.out.trans hX)
  replace KA := Lib.hid (KA.out.ext hX)
  replace KB := Lib.hid (KB.out.ext hX)
  replace KC := Lib.hid (KC.out.ext hX)
  replace KD := Lib.hid (KD.out.ext hX)
  clear hX
  have cA0 : w13.cell? ⟨ga, 0, none⟩ = some (.int .i64 a1) := KA.out.cell 0
  have cA1 : w13.cell? ⟨ga, 1, none⟩ = some (.int .i64 a2) := KA.out.cell 1
  have cB0 : w13.cell? ⟨gb, 0, none⟩ = some (.int .i64 b1) := KB.out.cell 0
  have cB1 : w13.cell? ⟨gb, 1, none⟩ = some (.int .i64 b2) := KB.out.cell 1
  have cC0 : w13.cell? ⟨gc, 0, none⟩ = some (.int .i64 c1) := KC.out.cell 0
  have cC1 : w13.cell? ⟨gc, 1, none⟩ = some (.int .i64 c2) := KC.out.cell 1
  have cD0 : w13.cell? ⟨gd, 0, none⟩ = some (.int .i64 d1) := KD.out.cell 0
  have cD1 : w13.cell? ⟨gd, 1, none⟩ = some (.int .i64 d2) := KD.out.cell 1
  go_wp2_with fail
  clear cA0 cA1 cB0 cB1 cC0 cC1 cD0 cD1
  refine (circ_is Ob.out Oa.out Od.out Oc.out Z4.out HV.out _).mono ?_
  rintro e w14 ⟨rfl, hX⟩
  replace HX := Lib.hid (HX.out.trans hX)
  replace KA := Lib.hid (KA.out.ext hX)
  replace KB := Lib.hid (KB.out.ext hX)
  replace KC := Lib.hid (KC.out.ext hX)
  replace KD := Lib.hid (KD.out.ext hX)
  clear hX
  go_wp2_with fail
  refine (first_any _).mono ?_
  rintro e w15 ⟨rfl, hX⟩
  replace HX := Lib.hid (HX.out.trans hX)
  replace KA := Lib.hid (KA.out.ext hX)
  replace KB := Lib.hid (KB.out.ext hX)
  replace KC := Lib.hid (KC.out.ext hX)
  replace KD := Lib.hid (KD.out.ext hX)
  clear hX
  go_wp2
  go_ret
  exact ⟨rfl, HX.out⟩

theorem planes_any (a1 a2 b1 b2 c1 c2 d1 d2 : Int) (w : World) : Calls Try.prog 10 #[.agg #[.int .i64 a1, .int .i64 a2, .int .i64 b1, .int .i64 b2, .int .i64 c1, .int .i64 c2, .int .i64 d1, .int .i64 d2]] w fun e w' => e = .returned (.bool true) ∧ Ext w w' := by
  rcases hA : okP (a1, a2) with _ | _
  · exact planes_bad0 a1 a2 b1 b2 c1 c2 d1 d2 w hA
  rcases hB : okP (b1, b2) with _ | _
  · exact planes_bad1 a1 a2 b1 b2 c1 c2 d1 d2 w hA hB
  rcases hC : okP (c1, c2) with _ | _
  · exact planes_bad2 a1 a2 b1 b2 c1 c2 d1 d2 w hA hB hC
  rcases hD : okP (d1, d2) with _ | _
  · exact planes_bad3 a1 a2 b1 b2 c1 c2 d1 d2 w hA hB hC hD
  by_cases hz : crossI (a1, a2) (b1, b2) (c1, c2) = 0
  · exact planes_flat a1 a2 b1 b2 c1 c2 d1 d2 w hA hB hC hD hz
  by_cases ht : sgI (crossI (a1, a2) (b1, b2) (c1, c2)) = 1
  · by_cases hx : sgI (crossI (b1, b2) (a1, a2) (d1, d2)) = 1
    · exact planes_all a1 a2 b1 b2 c1 c2 d1 d2 w hA hB hC hD hz _ rfl _ rfl _ rfl ht hx
    · exact planes_two a1 a2 b1 b2 c1 c2 d1 d2 w hA hB hC hD hz _ rfl _ rfl _ rfl ht hx
  · exact planes_one a1 a2 b1 b2 c1 c2 d1 d2 w hA hB hC hD hz _ rfl _ rfl _ rfl ht
theorem exactPlanes_walk (v : Value) (f : Int × Int × Int × Int × Int × Int × Int × Int) (w : World) (h : FourV_ w v f) : Calls Try.prog 10 #[v] w fun e w' => e = .returned (.bool true) ∧ Ext w w' := by
  obtain ⟨rfl, _⟩ := h
  exact planes_any _ _ _ _ _ _ _ _ w
end Go.Proofs.Yteoijnaljkagfaa
