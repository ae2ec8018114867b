/- Lemmas of the proof that follows (Circles, part 8): walks of functions by contract, and plain lemmas. Conditions: none. -/
import Derived.Test.YteoijnaljkagfaaCirclesG
namespace Go.Proofs.Yteoijnaljkagfaa
open Go.RowKit

set_option maxRecDepth 100000 in
set_option maxHeartbeats 2000000 in
theorem circ_place (a1 a2 b1 b2 c1 c2 d1 d2 : Int) (w : World) (h : okPs [(a1, a2), (b1, b2), (c1, c2), (d1, d2)] = false) :
    Calls Try.prog 46 #[.agg #[.int .i64 a1, .int .i64 a2], .agg #[.int .i64 b1, .int .i64 b2], .agg #[.int .i64 c1, .int .i64 c2], .agg #[.int .i64 d1, .int .i64 d2]] w (fun e w' => e = .returned (.tuple #[.int .i64 (0), .int .i64 11]) ∧ Ext w w') := by
  have HB := Lib.hid h
  clear h
  have hXe : Ext w (((((w.alloc (.cells #[.int .i64 a1, .int .i64 a2] 23)).alloc (.cells #[.int .i64 b1, .int .i64 b2] 23)).alloc (.cells #[.int .i64 c1, .int .i64 c2] 23)).alloc (.cells #[.int .i64 d1, .int .i64 d2] 23)).alloc (.cells #[.int .i64 a1, .int .i64 a2, .int .i64 b1, .int .i64 b2, .int .i64 c1, .int .i64 c2, .int .i64 d1, .int .i64 d2] 23)) := ((((((Ext.refl w).alloc _).alloc _).alloc _).alloc _).alloc _)
  have kA : Blk (((((w.alloc (.cells #[.int .i64 a1, .int .i64 a2] 23)).alloc (.cells #[.int .i64 b1, .int .i64 b2] 23)).alloc (.cells #[.int .i64 c1, .int .i64 c2] 23)).alloc (.cells #[.int .i64 d1, .int .i64 d2] 23)).alloc (.cells #[.int .i64 a1, .int .i64 a2, .int .i64 b1, .int .i64 b2, .int .i64 c1, .int .i64 c2, .int .i64 d1, .int .i64 d2] 23)) w.heap.size 23 #[.int .i64 a1, .int .i64 a2] := Blk.alloc (Blk.alloc (Blk.alloc (Blk.alloc (Blk.at_ (by simp)) _) _) _) _
  have kB : Blk (((((w.alloc (.cells #[.int .i64 a1, .int .i64 a2] 23)).alloc (.cells #[.int .i64 b1, .int .i64 b2] 23)).alloc (.cells #[.int .i64 c1, .int .i64 c2] 23)).alloc (.cells #[.int .i64 d1, .int .i64 d2] 23)).alloc (.cells #[.int .i64 a1, .int .i64 a2, .int .i64 b1, .int .i64 b2, .int .i64 c1, .int .i64 c2, .int .i64 d1, .int .i64 d2] 23)) (w.heap.size + 1) 23 #[.int .i64 b1, .int .i64 b2] := Blk.alloc (Blk.alloc (Blk.alloc (Blk.at_ (by simp)) _) _) _
  have kC : Blk (((((w.alloc (.cells #[.int .i64 a1, .int .i64 a2] 23)).alloc (.cells #[.int .i64 b1, .int .i64 b2] 23)).alloc (.cells #[.int .i64 c1, .int .i64 c2] 23)).alloc (.cells #[.int .i64 d1, .int .i64 d2] 23)).alloc (.cells #[.int .i64 a1, .int .i64 a2, .int .i64 b1, .int .i64 b2, .int .i64 c1, .int .i64 c2, .int .i64 d1, .int .i64 d2] 23)) (w.heap.size + 2) 23 #[.int .i64 c1, .int .i64 c2] := Blk.alloc (Blk.alloc (Blk.at_ (by simp)) _) _
  have kD : Blk (((((w.alloc (.cells #[.int .i64 a1, .int .i64 a2] 23)).alloc (.cells #[.int .i64 b1, .int .i64 b2] 23)).alloc (.cells #[.int .i64 c1, .int .i64 c2] 23)).alloc (.cells #[.int .i64 d1, .int .i64 d2] 23)).alloc (.cells #[.int .i64 a1, .int .i64 a2, .int .i64 b1, .int .i64 b2, .int .i64 c1, .int .i64 c2, .int .i64 d1, .int .i64 d2] 23)) (w.heap.size + 3) 23 #[.int .i64 d1, .int .i64 d2] := Blk.alloc (Blk.at_ (by simp)) _
  have kP : Blk (((((w.alloc (.cells #[.int .i64 a1, .int .i64 a2] 23)).alloc (.cells #[.int .i64 b1, .int .i64 b2] 23)).alloc (.cells #[.int .i64 c1, .int .i64 c2] 23)).alloc (.cells #[.int .i64 d1, .int .i64 d2] 23)).alloc (.cells #[.int .i64 a1, .int .i64 a2, .int .i64 b1, .int .i64 b2, .int .i64 c1, .int .i64 c2, .int .i64 d1, .int .i64 d2] 23)) (w.heap.size + 4) 23 #[.int .i64 a1, .int .i64 a2, .int .i64 b1, .int .i64 b2, .int .i64 c1, .int .i64 c2, .int .i64 d1, .int .i64 d2] := Blk.at_ (by simp)
  go_enter Try.func46, Try.ntmps46
  go_wp2_with fail
  generalize (((((w.alloc (.cells #[.int .i64 a1, .int .i64 a2] 23)).alloc (.cells #[.int .i64 b1, .int .i64 b2] 23)).alloc (.cells #[.int .i64 c1, .int .i64 c2] 23)).alloc (.cells #[.int .i64 d1, .int .i64 d2] 23)).alloc (.cells #[.int .i64 a1, .int .i64 a2, .int .i64 b1, .int .i64 b2, .int .i64 c1, .int .i64 c2, .int .i64 d1, .int .i64 d2] 23)) = w1 at hXe kA kB kC kD kP ⊢
  have HX := Lib.hid hXe
  clear hXe
  have KA := Lib.hid kA
  clear kA
  have KB := Lib.hid kB
  clear kB
  have KC := Lib.hid kC
  clear kC
  have KD := Lib.hid kD
  clear kD
  have KP := Lib.hid kP
  clear kP
  refine (inside_any _ 4 [(a1, a2), (b1, b2), (c1, c2), (d1, d2)] _ rfl (by omega) (pts4 KP.out)).mono ?_
  rw [HB.out]
  rintro e w2 ⟨rfl, hX⟩
  replace HX := Lib.hid (HX.out.trans hX)
  replace KA := Lib.hid (KA.out.ext hX)
  replace KB := Lib.hid (KB.out.ext hX)
  replace KC := Lib.hid (KC.out.ext hX)
  replace KD := Lib.hid (KD.out.ext hX)
  replace KP := Lib.hid (KP.out.ext hX)
  clear hX
  go_wp2
  go_ret2
  exact ⟨rfl, HX.out⟩

set_option maxRecDepth 100000 in
set_option maxHeartbeats 2000000 in
theorem circ_flat (a1 a2 b1 b2 c1 c2 d1 d2 : Int) (w : World) (h : okPs [(a1, a2), (b1, b2), (c1, c2), (d1, d2)] = true) (hz : crossI (a1, a2) (b1, b2) (c1, c2) = 0) :
    Calls Try.prog 46 #[.agg #[.int .i64 a1, .int .i64 a2], .agg #[.int .i64 b1, .int .i64 b2], .agg #[.int .i64 c1, .int .i64 c2], .agg #[.int .i64 d1, .int .i64 d2]] w (fun e w' => e = .returned (.tuple #[.int .i64 (0), .int .i64 12]) ∧ Ext w w') := by
  obtain ⟨oa, ob, oc, od⟩ := (okPs4 _ _ _ _).1 h
  have HB := Lib.hid h
  clear h
  have Oa := Lib.hid oa
  have Ob := Lib.hid ob
  have Oc := Lib.hid oc
  have Od := Lib.hid od
  clear oa ob oc od
  have HT : Hid (sgI (crossI (a1, a2) (b1, b2) (c1, c2)) = 0) := by show _ = _; rw [hz]; rfl
  clear hz
  have hXe : Ext w (((((w.alloc (.cells #[.int .i64 a1, .int .i64 a2] 23)).alloc (.cells #[.int .i64 b1, .int .i64 b2] 23)).alloc (.cells #[.int .i64 c1, .int .i64 c2] 23)).alloc (.cells #[.int .i64 d1, .int .i64 d2] 23)).alloc (.cells #[.int .i64 a1, .int .i64 a2, .int .i64 b1, .int .i64 b2, .int .i64 c1, .int .i64 c2, .int .i64 d1, .int .i64 d2] 23)) := ((((((Ext.refl w).alloc _).alloc _).alloc _).alloc _).alloc _)
  have kA : Blk (((((w.alloc (.cells #[.int .i64 a1, .int .i64 a2] 23)).alloc (.cells #[.int .i64 b1, .int .i64 b2] 23)).alloc (.cells #[.int .i64 c1, .int .i64 c2] 23)).alloc (.cells #[.int .i64 d1, .int .i64 d2] 23)).alloc (.cells #[.int .i64 a1, .int .i64 a2, .int .i64 b1, .int .i64 b2, .int .i64 c1, .int .i64 c2, .int .i64 d1, .int .i64 d2] 23)) w.heap.size 23 #[.int .i64 a1, .int .i64 a2] := Blk.alloc (Blk.alloc (Blk.alloc (Blk.alloc (Blk.at_ (by simp)) _) _) _) _
  have kB : Blk (((((w.alloc (.cells #[.int .i64 a1, .int .i64 a2] 23)).alloc (.cells #[.int .i64 b1, .int .i64 b2] 23)).alloc (.cells #[.int .i64 c1, .int .i64 c2] 23)).alloc (.cells #[.int .i64 d1, .int .i64 d2] 23)).alloc (.cells #[.int .i64 a1, .int .i64 a2, .int .i64 b1, .int .i64 b2, .int .i64 c1, .int .i64 c2, .int .i64 d1, .int .i64 d2] 23)) (w.heap.size + 1) 23 #[.int .i64 b1, .int .i64 b2] := Blk.alloc (Blk.alloc (Blk.alloc (Blk.at_ (by simp)) _) _) _
  have kC : Blk (((((w.alloc (.cells #[.int .i64 a1, .int .i64 a2] 23)).alloc (.cells #[.int .i64 b1, .int .i64 b2] 23)).alloc (.cells #[.int .i64 c1, .int .i64 c2] 23)).alloc (.cells #[.int .i64 d1, .int .i64 d2] 23)).alloc (.cells #[.int .i64 a1, .int .i64 a2, .int .i64 b1, .int .i64 b2, .int .i64 c1, .int .i64 c2, .int .i64 d1, .int .i64 d2] 23)) (w.heap.size + 2) 23 #[.int .i64 c1, .int .i64 c2] := Blk.alloc (Blk.alloc (Blk.at_ (by simp)) _) _
  have kD : Blk (((((w.alloc (.cells #[.int .i64 a1, .int .i64 a2] 23)).alloc (.cells #[.int .i64 b1, .int .i64 b2] 23)).alloc (.cells #[.int .i64 c1, .int .i64 c2] 23)).alloc (.cells #[.int .i64 d1, .int .i64 d2] 23)).alloc (.cells #[.int .i64 a1, .int .i64 a2, .int .i64 b1, .int .i64 b2, .int .i64 c1, .int .i64 c2, .int .i64 d1, .int .i64 d2] 23)) (w.heap.size + 3) 23 #[.int .i64 d1, .int .i64 d2] := Blk.alloc (Blk.at_ (by simp)) _
  have kP : Blk (((((w.alloc (.cells #[.int .i64 a1, .int .i64 a2] 23)).alloc (.cells #[.int .i64 b1, .int .i64 b2] 23)).alloc (.cells #[.int .i64 c1, .int .i64 c2] 23)).alloc (.cells #[.int .i64 d1, .int .i64 d2] 23)).alloc (.cells #[.int .i64 a1, .int .i64 a2, .int .i64 b1, .int .i64 b2, .int .i64 c1, .int .i64 c2, .int .i64 d1, .int .i64 d2] 23)) (w.heap.size + 4) 23 #[.int .i64 a1, .int .i64 a2, .int .i64 b1, .int .i64 b2, .int .i64 c1, .int .i64 c2, .int .i64 d1, .int .i64 d2] := Blk.at_ (by simp)
  go_enter Try.func46, Try.ntmps46
  go_wp2_with fail
  generalize (((((w.alloc (.cells #[.int .i64 a1, .int .i64 a2] 23)).alloc (.cells #[.int .i64 b1, .int .i64 b2] 23)).alloc (.cells #[.int .i64 c1, .int .i64 c2] 23)).alloc (.cells #[.int .i64 d1, .int .i64 d2] 23)).alloc (.cells #[.int .i64 a1, .int .i64 a2, .int .i64 b1, .int .i64 b2, .int .i64 c1, .int .i64 c2, .int .i64 d1, .int .i64 d2] 23)) = w1 at hXe kA kB kC kD kP ⊢
  have HX := Lib.hid hXe
  clear hXe
  have KA := Lib.hid kA
  clear kA
  have KB := Lib.hid kB
  clear kB
  have KC := Lib.hid kC
  clear kC
  have KD := Lib.hid kD
  clear kD
  have KP := Lib.hid kP
  clear kP
  refine (inside_any _ 4 [(a1, a2), (b1, b2), (c1, c2), (d1, d2)] _ rfl (by omega) (pts4 KP.out)).mono ?_
  rw [HB.out]
  rintro e w2 ⟨rfl, hX⟩
  replace HX := Lib.hid (HX.out.trans hX)
  replace KA := Lib.hid (KA.out.ext hX)
  replace KB := Lib.hid (KB.out.ext hX)
  replace KC := Lib.hid (KC.out.ext hX)
  replace KD := Lib.hid (KD.out.ext hX)
  replace KP := Lib.hid (KP.out.ext hX)
  clear hX
  have cA0 : w2.cell? ⟨w.heap.size, 0, none⟩ = some (.int .i64 a1) := KA.out.cell 0
  have cA1 : w2.cell? ⟨w.heap.size, 1, none⟩ = some (.int .i64 a2) := KA.out.cell 1
  have cB0 : w2.cell? ⟨(w.heap.size + 1), 0, none⟩ = some (.int .i64 b1) := KB.out.cell 0
  have cB1 : w2.cell? ⟨(w.heap.size + 1), 1, none⟩ = some (.int .i64 b2) := KB.out.cell 1
  have cC0 : w2.cell? ⟨(w.heap.size + 2), 0, none⟩ = some (.int .i64 c1) := KC.out.cell 0
  have cC1 : w2.cell? ⟨(w.heap.size + 2), 1, none⟩ = some (.int .i64 c2) := KC.out.cell 1
  clear KP
  go_wp2_with fail
  clear cA0 cA1 cB0 cB1 cC0 cC1
  refine (cross_any _ _ _ _ _ _ _ Oa.out Ob.out Oc.out).mono ?_
  rintro e w3 ⟨rfl, hX⟩
  replace HX := Lib.hid (HX.out.trans hX)
  replace KA := Lib.hid (KA.out.ext hX)
  replace KB := Lib.hid (KB.out.ext hX)
  replace KC := Lib.hid (KC.out.ext hX)
  replace KD := Lib.hid (KD.out.ext hX)
  clear hX
  go_wp2_with fail
  refine (isign_any _ _).mono ?_
  rw [HT.out]
  rintro e _ ⟨rfl, rfl⟩
  go_wp2
  go_ret2
  exact ⟨rfl, HX.out⟩

set_option maxRecDepth 100000 in
set_option maxHeartbeats 2000000 in
theorem circ_ok (a1 a2 b1 b2 c1 c2 d1 d2 : Int) (w : World) (h : okPs [(a1, a2), (b1, b2), (c1, c2), (d1, d2)] = true) (hz : crossI (a1, a2) (b1, b2) (c1, c2) ≠ 0) :
    Calls Try.prog 46 #[.agg #[.int .i64 a1, .int .i64 a2], .agg #[.int .i64 b1, .int .i64 b2], .agg #[.int .i64 c1, .int .i64 c2], .agg #[.int .i64 d1, .int .i64 d2]] w (fun e w' => e = .returned (.tuple #[.int .i64 (circI (a1, a2) (b1, b2) (c1, c2) (d1, d2)), .int .i64 0]) ∧ Ext w w') := by
  obtain ⟨oa, ob, oc, od⟩ := (okPs4 _ _ _ _).1 h
  have HB := Lib.hid h
  clear h
  have Oa := Lib.hid oa
  have Ob := Lib.hid ob
  have Oc := Lib.hid oc
  have Od := Lib.hid od
  clear oa ob oc od
  obtain ⟨t, ht⟩ : ∃ t, sgI (crossI (a1, a2) (b1, b2) (c1, c2)) = t := ⟨_, rfl⟩
  have ht0 : (t == 0) = false := by
    rw [← ht]
    unfold sgI
    by_cases h1 : crossI (a1, a2) (b1, b2) (c1, c2) < 0
    · simp [h1]
    · have h2 : 0 < crossI (a1, a2) (b1, b2) (c1, c2) := by omega
      simp [h1, h2]
  have ht1 : -1 ≤ t ∧ t ≤ 1 := by
    rw [← ht]
    unfold sgI
    split
    · omega
    · split <;> omega
  obtain ⟨ht1, ht2⟩ := ht1
  have HT := Lib.hid ht
  have HD := Lib.hid (detI_rat (a1, a2) (b1, b2) (c1, c2) (d1, d2))
  clear ht hz
  have hXe : Ext w (((((w.alloc (.cells #[.int .i64 a1, .int .i64 a2] 23)).alloc (.cells #[.int .i64 b1, .int .i64 b2] 23)).alloc (.cells #[.int .i64 c1, .int .i64 c2] 23)).alloc (.cells #[.int .i64 d1, .int .i64 d2] 23)).alloc (.cells #[.int .i64 a1, .int .i64 a2, .int .i64 b1, .int .i64 b2, .int .i64 c1, .int .i64 c2, .int .i64 d1, .int .i64 d2] 23)) := ((((((Ext.refl w).alloc _).alloc _).alloc _).alloc _).alloc _)
  have kA : Blk (((((w.alloc (.cells #[.int .i64 a1, .int .i64 a2] 23)).alloc (.cells #[.int .i64 b1, .int .i64 b2] 23)).alloc (.cells #[.int .i64 c1, .int .i64 c2] 23)).alloc (.cells #[.int .i64 d1, .int .i64 d2] 23)).alloc (.cells #[.int .i64 a1, .int .i64 a2, .int .i64 b1, .int .i64 b2, .int .i64 c1, .int .i64 c2, .int .i64 d1, .int .i64 d2] 23)) w.heap.size 23 #[.int .i64 a1, .int .i64 a2] := Blk.alloc (Blk.alloc (Blk.alloc (Blk.alloc (Blk.at_ (by simp)) _) _) _) _
  have kB : Blk (((((w.alloc (.cells #[.int .i64 a1, .int .i64 a2] 23)).alloc (.cells #[.int .i64 b1, .int .i64 b2] 23)).alloc (.cells #[.int .i64 c1, .int .i64 c2] 23)).alloc (.cells #[.int .i64 d1, .int .i64 d2] 23)).alloc (.cells #[.int .i64 a1, .int .i64 a2, .int .i64 b1, .int .i64 b2, .int .i64 c1, .int .i64 c2, .int .i64 d1, .int .i64 d2] 23)) (w.heap.size + 1) 23 #[.int .i64 b1, .int .i64 b2] := Blk.alloc (Blk.alloc (Blk.alloc (Blk.at_ (by simp)) _) _) _
  have kC : Blk (((((w.alloc (.cells #[.int .i64 a1, .int .i64 a2] 23)).alloc (.cells #[.int .i64 b1, .int .i64 b2] 23)).alloc (.cells #[.int .i64 c1, .int .i64 c2] 23)).alloc (.cells #[.int .i64 d1, .int .i64 d2] 23)).alloc (.cells #[.int .i64 a1, .int .i64 a2, .int .i64 b1, .int .i64 b2, .int .i64 c1, .int .i64 c2, .int .i64 d1, .int .i64 d2] 23)) (w.heap.size + 2) 23 #[.int .i64 c1, .int .i64 c2] := Blk.alloc (Blk.alloc (Blk.at_ (by simp)) _) _
  have kD : Blk (((((w.alloc (.cells #[.int .i64 a1, .int .i64 a2] 23)).alloc (.cells #[.int .i64 b1, .int .i64 b2] 23)).alloc (.cells #[.int .i64 c1, .int .i64 c2] 23)).alloc (.cells #[.int .i64 d1, .int .i64 d2] 23)).alloc (.cells #[.int .i64 a1, .int .i64 a2, .int .i64 b1, .int .i64 b2, .int .i64 c1, .int .i64 c2, .int .i64 d1, .int .i64 d2] 23)) (w.heap.size + 3) 23 #[.int .i64 d1, .int .i64 d2] := Blk.alloc (Blk.at_ (by simp)) _
  have kP : Blk (((((w.alloc (.cells #[.int .i64 a1, .int .i64 a2] 23)).alloc (.cells #[.int .i64 b1, .int .i64 b2] 23)).alloc (.cells #[.int .i64 c1, .int .i64 c2] 23)).alloc (.cells #[.int .i64 d1, .int .i64 d2] 23)).alloc (.cells #[.int .i64 a1, .int .i64 a2, .int .i64 b1, .int .i64 b2, .int .i64 c1, .int .i64 c2, .int .i64 d1, .int .i64 d2] 23)) (w.heap.size + 4) 23 #[.int .i64 a1, .int .i64 a2, .int .i64 b1, .int .i64 b2, .int .i64 c1, .int .i64 c2, .int .i64 d1, .int .i64 d2] := Blk.at_ (by simp)
  go_enter Try.func46, Try.ntmps46
  go_wp2_with fail
  generalize (((((w.alloc (.cells #[.int .i64 a1, .int .i64 a2] 23)).alloc (.cells #[.int .i64 b1, .int .i64 b2] 23)).alloc (.cells #[.int .i64 c1, .int .i64 c2] 23)).alloc (.cells #[.int .i64 d1, .int .i64 d2] 23)).alloc (.cells #[.int .i64 a1, .int .i64 a2, .int .i64 b1, .int .i64 b2, .int .i64 c1, .int .i64 c2, .int .i64 d1, .int .i64 d2] 23)) = w1 at hXe kA kB kC kD kP ⊢
  have HX := Lib.hid hXe
  clear hXe
  have KA := Lib.hid kA
  clear kA
  have KB := Lib.hid kB
  clear kB
  have KC := Lib.hid kC
  clear kC
  have KD := Lib.hid kD
  clear kD
  have KP := Lib.hid kP
  clear kP
  refine (inside_any _ 4 [(a1, a2), (b1, b2), (c1, c2), (d1, d2)] _ rfl (by omega) (pts4 KP.out)).mono ?_
  rw [HB.out]
  rintro e w2 ⟨rfl, hX⟩
  replace HX := Lib.hid (HX.out.trans hX)
  replace KA := Lib.hid (KA.out.ext hX)
  replace KB := Lib.hid (KB.out.ext hX)
  replace KC := Lib.hid (KC.out.ext hX)
  replace KD := Lib.hid (KD.out.ext hX)
  replace KP := Lib.hid (KP.out.ext hX)
  clear hX
  have cA0 : w2.cell? ⟨w.heap.size, 0, none⟩ = some (.int .i64 a1) := KA.out.cell 0
  have cA1 : w2.cell? ⟨w.heap.size, 1, none⟩ = some (.int .i64 a2) := KA.out.cell 1
  have cB0 : w2.cell? ⟨(w.heap.size + 1), 0, none⟩ = some (.int .i64 b1) := KB.out.cell 0
  have cB1 : w2.cell? ⟨(w.heap.size + 1), 1, none⟩ = some (.int .i64 b2) := KB.out.cell 1
  have cC0 : w2.cell? ⟨(w.heap.size + 2), 0, none⟩ = some (.int .i64 c1) := KC.out.cell 0
  have cC1 : w2.cell? ⟨(w.heap.size + 2), 1, none⟩ = some (.int .i64 c2) := KC.out.cell 1
  clear KP
  go_wp2_with fail
  clear cA0 cA1 cB0 cB1 cC0 cC1
  refine (cross_any _ _ _ _ _ _ _ Oa.out Ob.out Oc.out).mono ?_
  rintro e w3 ⟨rfl, hX⟩
  replace HX := Lib.hid (HX.out.trans hX)
  replace KA := Lib.hid (KA.out.ext hX)
  replace KB := Lib.hid (KB.out.ext hX)
  replace KC := Lib.hid (KC.out.ext hX)
  replace KD := Lib.hid (KD.out.ext hX)
  clear hX
  go_wp2_with fail
  refine (isign_any _ _).mono ?_
  rw [HT.out]
  rintro e _ ⟨rfl, rfl⟩
  have la := KA.out.lt
  have lb := KB.out.lt
  have lc := KC.out.lt
  have ld := KD.out.lt
  go_upto_region 6 with (fail)
  refine circ_r6 w.heap.size (w.heap.size + 1) (w.heap.size + 2) (w.heap.size + 3) a1 a2 b1 b2 c1 c2 d1 d2 w3 (KA.out.cell 0) (KA.out.cell 1) Oa.out (KB.out.cell 0) (KB.out.cell 1) Ob.out (KC.out.cell 0) (KC.out.cell 1) Oc.out (KD.out.cell 0) (KD.out.cell 1) Od.out _ _ (by simp) rfl rfl rfl rfl ?_
  rintro xv0 xv1 xv2 xv3 xv4 xv5 xv6 xv7 xv8 xv9 xv10 w4 rfl rfl rfl _ rfl rfl rfl rfl _ hq ⟨gz, rfl, hgz, hBz⟩ hXW
  simp only [rops, Try.f46, regOf, Option.bind_some, Nat.reduceBEq, if_true, if_false, Bool.false_eq_true, Option.getD_some, List.drop_succ_cons, List.drop_zero]
  simp only [Act.put, List.setIfInBounds_toArray, List.set_cons_succ, List.set_cons_zero]
  replace HX := Lib.hid (HX.out.trans hXW)
  replace KA := Lib.hid (KA.out.ext hXW)
  replace KB := Lib.hid (KB.out.ext hXW)
  replace KC := Lib.hid (KC.out.ext hXW)
  replace KD := Lib.hid (KD.out.ext hXW)
  clear hXW
  obtain ⟨s0, A0, l0, n0, B0, m0, k0, rfl⟩ := hq.open
  have KZ := Lib.hid hBz
  clear hBz
  have hgw : w.heap.size ≤ gz := by omega
  have HQ := Lib.hid hq
  clear hq
  have cA0 : w4.cell? ⟨w.heap.size, 0, none⟩ = some (.int .i64 a1) := KA.out.cell 0
  have cA1 : w4.cell? ⟨w.heap.size, 1, none⟩ = some (.int .i64 a2) := KA.out.cell 1
  have cB0 : w4.cell? ⟨(w.heap.size + 1), 0, none⟩ = some (.int .i64 b1) := KB.out.cell 0
  have cB1 : w4.cell? ⟨(w.heap.size + 1), 1, none⟩ = some (.int .i64 b2) := KB.out.cell 1
  have cC0 : w4.cell? ⟨(w.heap.size + 2), 0, none⟩ = some (.int .i64 c1) := KC.out.cell 0
  have cC1 : w4.cell? ⟨(w.heap.size + 2), 1, none⟩ = some (.int .i64 c2) := KC.out.cell 1
  have cD0 : w4.cell? ⟨(w.heap.size + 3), 0, none⟩ = some (.int .i64 d1) := KD.out.cell 0
  have cD1 : w4.cell? ⟨(w.heap.size + 3), 1, none⟩ = some (.int .i64 d2) := KD.out.cell 1
  have cZ0 : w4.cell? ⟨gz, 0, none⟩ = some (.bool false) := KZ.out.cell 0
  have fZ0 : w4.frozen? ⟨gz, 0, none⟩ = false := KZ.out.free 0
  have cZ1 : w4.cell? ⟨gz, 1, none⟩ = some (.slice none 0 0) := KZ.out.cell 1
  have fZ1 : w4.frozen? ⟨gz, 1, none⟩ = false := KZ.out.free 1
  have cZ2 : w4.cell? ⟨gz, 2, none⟩ = some (.slice none 0 0) := KZ.out.cell 2
  have fZ2 : w4.frozen? ⟨gz, 2, none⟩ = false := KZ.out.free 2
  go_upto_region 7 with (fail)
  clear cA0 cA1 cB0 cB1 cC0 cC1 cD0 cD1 cZ0 fZ0 cZ1 fZ1 cZ2 fZ2
  have hXs : Ext w (((w4.setCell ⟨gz, 0, none⟩ (.bool s0)).setCell ⟨gz, 1, none⟩ (.slice A0 l0 n0)).setCell ⟨gz, 2, none⟩ (.slice B0 m0 k0)) := Ext.boxed HX.out hgw _ _ _
  have kA : Blk (((w4.setCell ⟨gz, 0, none⟩ (.bool s0)).setCell ⟨gz, 1, none⟩ (.slice A0 l0 n0)).setCell ⟨gz, 2, none⟩ (.slice B0 m0 k0)) w.heap.size 23 #[.int .i64 a1, .int .i64 a2] := ((KA.out.far (show w.heap.size ≠ gz by omega) _).far (show w.heap.size ≠ gz by omega) _).far (show w.heap.size ≠ gz by omega) _
  have kB : Blk (((w4.setCell ⟨gz, 0, none⟩ (.bool s0)).setCell ⟨gz, 1, none⟩ (.slice A0 l0 n0)).setCell ⟨gz, 2, none⟩ (.slice B0 m0 k0)) (w.heap.size + 1) 23 #[.int .i64 b1, .int .i64 b2] := ((KB.out.far (show (w.heap.size + 1) ≠ gz by omega) _).far (show (w.heap.size + 1) ≠ gz by omega) _).far (show (w.heap.size + 1) ≠ gz by omega) _
  have kC : Blk (((w4.setCell ⟨gz, 0, none⟩ (.bool s0)).setCell ⟨gz, 1, none⟩ (.slice A0 l0 n0)).setCell ⟨gz, 2, none⟩ (.slice B0 m0 k0)) (w.heap.size + 2) 23 #[.int .i64 c1, .int .i64 c2] := ((KC.out.far (show (w.heap.size + 2) ≠ gz by omega) _).far (show (w.heap.size + 2) ≠ gz by omega) _).far (show (w.heap.size + 2) ≠ gz by omega) _
  have kD : Blk (((w4.setCell ⟨gz, 0, none⟩ (.bool s0)).setCell ⟨gz, 1, none⟩ (.slice A0 l0 n0)).setCell ⟨gz, 2, none⟩ (.slice B0 m0 k0)) (w.heap.size + 3) 23 #[.int .i64 d1, .int .i64 d2] := ((KD.out.far (show (w.heap.size + 3) ≠ gz by omega) _).far (show (w.heap.size + 3) ≠ gz by omega) _).far (show (w.heap.size + 3) ≠ gz by omega) _
  have kZ : Blk (((w4.setCell ⟨gz, 0, none⟩ (.bool s0)).setCell ⟨gz, 1, none⟩ (.slice A0 l0 n0)).setCell ⟨gz, 2, none⟩ (.slice B0 m0 k0)) gz 96 #[.bool s0, .slice A0 l0 n0, .slice B0 m0 k0] := ((KZ.out.set 0 _).set 1 _).set 2 _
  have hq := HQ.out.boxed (NoInts.three KZ.out) s0 A0 B0 l0 n0 m0 k0
  generalize (((w4.setCell ⟨gz, 0, none⟩ (.bool s0)).setCell ⟨gz, 1, none⟩ (.slice A0 l0 n0)).setCell ⟨gz, 2, none⟩ (.slice B0 m0 k0)) = w5 at hXs kA kB kC kD kZ hq ⊢
  clear HX HQ KZ KA KB KC KD
  have HX := Lib.hid hXs
  have KZ := Lib.hid kZ
  have HQ := Lib.hid hq
  clear hXs kZ hq
  have KA := Lib.hid kA
  clear kA
  have KB := Lib.hid kB
  clear kB
  have KC := Lib.hid kC
  clear kC
  have KD := Lib.hid kD
  clear kD
  refine circ_r7 gz s0 A0 B0 l0 n0 m0 k0 _ w.heap.size (w.heap.size + 1) (w.heap.size + 2) (w.heap.size + 3) a1 a2 b1 b2 c1 c2 d1 d2 w5 (KZ.out.cell 0) (KZ.out.cell 1) (KZ.out.cell 2) HQ.out (KA.out.cell 0) (KA.out.cell 1) Oa.out (KB.out.cell 0) (KB.out.cell 1) Ob.out (KC.out.cell 0) (KC.out.cell 1) Oc.out (KD.out.cell 0) (KD.out.cell 1) Od.out _ _ (by simp) rfl rfl rfl rfl rfl ?_
  rintro xv0 xv1 xv2 xv3 xv4 xv5 xv6 xv7 xv8 xv9 xv10 xv11 w6 rfl rfl rfl rfl _ rfl rfl rfl rfl _ _ hq hXW
  simp only [rops, Try.f46, regOf, Option.bind_some, Nat.reduceBEq, if_true, if_false, Bool.false_eq_true, Option.getD_some, List.drop_succ_cons, List.drop_zero]
  simp only [Act.put, List.setIfInBounds_toArray, List.set_cons_succ, List.set_cons_zero]
  replace HX := Lib.hid (HX.out.trans hXW)
  replace KA := Lib.hid (KA.out.ext hXW)
  replace KB := Lib.hid (KB.out.ext hXW)
  replace KC := Lib.hid (KC.out.ext hXW)
  replace KD := Lib.hid (KD.out.ext hXW)
  replace KZ := Lib.hid (KZ.out.ext hXW)
  clear hXW
  obtain ⟨s1, A1, l1, n1, B1, m1, k1, rfl⟩ := hq.open
  clear HQ
  have HQ := Lib.hid hq
  clear hq
  have cA0 : w6.cell? ⟨w.heap.size, 0, none⟩ = some (.int .i64 a1) := KA.out.cell 0
  have cA1 : w6.cell? ⟨w.heap.size, 1, none⟩ = some (.int .i64 a2) := KA.out.cell 1
  have cB0 : w6.cell? ⟨(w.heap.size + 1), 0, none⟩ = some (.int .i64 b1) := KB.out.cell 0
  have cB1 : w6.cell? ⟨(w.heap.size + 1), 1, none⟩ = some (.int .i64 b2) := KB.out.cell 1
  have cC0 : w6.cell? ⟨(w.heap.size + 2), 0, none⟩ = some (.int .i64 c1) := KC.out.cell 0
  have cC1 : w6.cell? ⟨(w.heap.size + 2), 1, none⟩ = some (.int .i64 c2) := KC.out.cell 1
  have cD0 : w6.cell? ⟨(w.heap.size + 3), 0, none⟩ = some (.int .i64 d1) := KD.out.cell 0
  have cD1 : w6.cell? ⟨(w.heap.size + 3), 1, none⟩ = some (.int .i64 d2) := KD.out.cell 1
  have cZ0 : w6.cell? ⟨gz, 0, none⟩ = some (.bool s0) := KZ.out.cell 0
  have fZ0 : w6.frozen? ⟨gz, 0, none⟩ = false := KZ.out.free 0
  have cZ1 : w6.cell? ⟨gz, 1, none⟩ = some (.slice A0 l0 n0) := KZ.out.cell 1
  have fZ1 : w6.frozen? ⟨gz, 1, none⟩ = false := KZ.out.free 1
  have cZ2 : w6.cell? ⟨gz, 2, none⟩ = some (.slice B0 m0 k0) := KZ.out.cell 2
  have fZ2 : w6.frozen? ⟨gz, 2, none⟩ = false := KZ.out.free 2
  go_upto_region 8 with (fail)
  clear cA0 cA1 cB0 cB1 cC0 cC1 cD0 cD1 cZ0 fZ0 cZ1 fZ1 cZ2 fZ2
  have hXs : Ext w (((w6.setCell ⟨gz, 0, none⟩ (.bool s1)).setCell ⟨gz, 1, none⟩ (.slice A1 l1 n1)).setCell ⟨gz, 2, none⟩ (.slice B1 m1 k1)) := Ext.boxed HX.out hgw _ _ _
  have kA : Blk (((w6.setCell ⟨gz, 0, none⟩ (.bool s1)).setCell ⟨gz, 1, none⟩ (.slice A1 l1 n1)).setCell ⟨gz, 2, none⟩ (.slice B1 m1 k1)) w.heap.size 23 #[.int .i64 a1, .int .i64 a2] := ((KA.out.far (show w.heap.size ≠ gz by omega) _).far (show w.heap.size ≠ gz by omega) _).far (show w.heap.size ≠ gz by omega) _
  have kB : Blk (((w6.setCell ⟨gz, 0, none⟩ (.bool s1)).setCell ⟨gz, 1, none⟩ (.slice A1 l1 n1)).setCell ⟨gz, 2, none⟩ (.slice B1 m1 k1)) (w.heap.size + 1) 23 #[.int .i64 b1, .int .i64 b2] := ((KB.out.far (show (w.heap.size + 1) ≠ gz by omega) _).far (show (w.heap.size + 1) ≠ gz by omega) _).far (show (w.heap.size + 1) ≠ gz by omega) _
  have kC : Blk (((w6.setCell ⟨gz, 0, none⟩ (.bool s1)).setCell ⟨gz, 1, none⟩ (.slice A1 l1 n1)).setCell ⟨gz, 2, none⟩ (.slice B1 m1 k1)) (w.heap.size + 2) 23 #[.int .i64 c1, .int .i64 c2] := ((KC.out.far (show (w.heap.size + 2) ≠ gz by omega) _).far (show (w.heap.size + 2) ≠ gz by omega) _).far (show (w.heap.size + 2) ≠ gz by omega) _
  have kD : Blk (((w6.setCell ⟨gz, 0, none⟩ (.bool s1)).setCell ⟨gz, 1, none⟩ (.slice A1 l1 n1)).setCell ⟨gz, 2, none⟩ (.slice B1 m1 k1)) (w.heap.size + 3) 23 #[.int .i64 d1, .int .i64 d2] := ((KD.out.far (show (w.heap.size + 3) ≠ gz by omega) _).far (show (w.heap.size + 3) ≠ gz by omega) _).far (show (w.heap.size + 3) ≠ gz by omega) _
  have kZ : Blk (((w6.setCell ⟨gz, 0, none⟩ (.bool s1)).setCell ⟨gz, 1, none⟩ (.slice A1 l1 n1)).setCell ⟨gz, 2, none⟩ (.slice B1 m1 k1)) gz 96 #[.bool s1, .slice A1 l1 n1, .slice B1 m1 k1] := ((KZ.out.set 0 _).set 1 _).set 2 _
  have hq := HQ.out.boxed (NoInts.three KZ.out) s1 A1 B1 l1 n1 m1 k1
  generalize (((w6.setCell ⟨gz, 0, none⟩ (.bool s1)).setCell ⟨gz, 1, none⟩ (.slice A1 l1 n1)).setCell ⟨gz, 2, none⟩ (.slice B1 m1 k1)) = w7 at hXs kA kB kC kD kZ hq ⊢
  clear HX HQ KZ KA KB KC KD
  have HX := Lib.hid hXs
  have KZ := Lib.hid kZ
  have HQ := Lib.hid hq
  clear hXs kZ hq
  have KA := Lib.hid kA
  clear kA
  have KB := Lib.hid kB
  clear kB
  have KC := Lib.hid kC
  clear kC
  have KD := Lib.hid kD
  clear kD
  refine circ_r8 gz s1 A1 B1 l1 n1 m1 k1 _ w.heap.size (w.heap.size + 1) (w.heap.size + 2) (w.heap.size + 3) a1 a2 b1 b2 c1 c2 d1 d2 w7 (KZ.out.cell 0) (KZ.out.cell 1) (KZ.out.cell 2) HQ.out (KA.out.cell 0) (KA.out.cell 1) Oa.out (KB.out.cell 0) (KB.out.cell 1) Ob.out (KC.out.cell 0) (KC.out.cell 1) Oc.out (KD.out.cell 0) (KD.out.cell 1) Od.out _ _ (by simp) rfl rfl rfl rfl rfl ?_
  rintro xv0 xv1 xv2 xv3 xv4 xv5 xv6 xv7 xv8 xv9 xv10 xv11 w8 rfl rfl rfl rfl _ rfl rfl rfl rfl _ _ hq hXW
  simp only [rops, Try.f46, regOf, Option.bind_some, Nat.reduceBEq, if_true, if_false, Bool.false_eq_true, Option.getD_some, List.drop_succ_cons, List.drop_zero]
  simp only [Act.put, List.setIfInBounds_toArray, List.set_cons_succ, List.set_cons_zero]
  replace HX := Lib.hid (HX.out.trans hXW)
  replace KA := Lib.hid (KA.out.ext hXW)
  replace KB := Lib.hid (KB.out.ext hXW)
  replace KC := Lib.hid (KC.out.ext hXW)
  replace KD := Lib.hid (KD.out.ext hXW)
  replace KZ := Lib.hid (KZ.out.ext hXW)
  clear hXW
  obtain ⟨s2, A2, l2, n2, B2, m2, k2, rfl⟩ := hq.open
  clear HQ
  have HQ := Lib.hid hq
  clear hq
  have cA0 : w8.cell? ⟨w.heap.size, 0, none⟩ = some (.int .i64 a1) := KA.out.cell 0
  have cA1 : w8.cell? ⟨w.heap.size, 1, none⟩ = some (.int .i64 a2) := KA.out.cell 1
  have cB0 : w8.cell? ⟨(w.heap.size + 1), 0, none⟩ = some (.int .i64 b1) := KB.out.cell 0
  have cB1 : w8.cell? ⟨(w.heap.size + 1), 1, none⟩ = some (.int .i64 b2) := KB.out.cell 1
  have cC0 : w8.cell? ⟨(w.heap.size + 2), 0, none⟩ = some (.int .i64 c1) := KC.out.cell 0
  have cC1 : w8.cell? ⟨(w.heap.size + 2), 1, none⟩ = some (.int .i64 c2) := KC.out.cell 1
  have cD0 : w8.cell? ⟨(w.heap.size + 3), 0, none⟩ = some (.int .i64 d1) := KD.out.cell 0
  have cD1 : w8.cell? ⟨(w.heap.size + 3), 1, none⟩ = some (.int .i64 d2) := KD.out.cell 1
  have cZ0 : w8.cell? ⟨gz, 0, none⟩ = some (.bool s1) := KZ.out.cell 0
  have fZ0 : w8.frozen? ⟨gz, 0, none⟩ = false := KZ.out.free 0
  have cZ1 : w8.cell? ⟨gz, 1, none⟩ = some (.slice A1 l1 n1) := KZ.out.cell 1
  have fZ1 : w8.frozen? ⟨gz, 1, none⟩ = false := KZ.out.free 1
  have cZ2 : w8.cell? ⟨gz, 2, none⟩ = some (.slice B1 m1 k1) := KZ.out.cell 2
  have fZ2 : w8.frozen? ⟨gz, 2, none⟩ = false := KZ.out.free 2
  go_upto_region 9 with (fail)
  clear cA0 cA1 cB0 cB1 cC0 cC1 cD0 cD1 cZ0 fZ0 cZ1 fZ1 cZ2 fZ2
  have hXs : Ext w (((w8.setCell ⟨gz, 0, none⟩ (.bool s2)).setCell ⟨gz, 1, none⟩ (.slice A2 l2 n2)).setCell ⟨gz, 2, none⟩ (.slice B2 m2 k2)) := Ext.boxed HX.out hgw _ _ _
  have kA : Blk (((w8.setCell ⟨gz, 0, none⟩ (.bool s2)).setCell ⟨gz, 1, none⟩ (.slice A2 l2 n2)).setCell ⟨gz, 2, none⟩ (.slice B2 m2 k2)) w.heap.size 23 #[.int .i64 a1, .int .i64 a2] := ((KA.out.far (show w.heap.size ≠ gz by omega) _).far (show w.heap.size ≠ gz by omega) _).far (show w.heap.size ≠ gz by omega) _
  have kB : Blk (((w8.setCell ⟨gz, 0, none⟩ (.bool s2)).setCell ⟨gz, 1, none⟩ (.slice A2 l2 n2)).setCell ⟨gz, 2, none⟩ (.slice B2 m2 k2)) (w.heap.size + 1) 23 #[.int .i64 b1, .int .i64 b2] := ((KB.out.far (show (w.heap.size + 1) ≠ gz by omega) _).far (show (w.heap.size + 1) ≠ gz by omega) _).far (show (w.heap.size + 1) ≠ gz by omega) _
  have kC : Blk (((w8.setCell ⟨gz, 0, none⟩ (.bool s2)).setCell ⟨gz, 1, none⟩ (.slice A2 l2 n2)).setCell ⟨gz, 2, none⟩ (.slice B2 m2 k2)) (w.heap.size + 2) 23 #[.int .i64 c1, .int .i64 c2] := ((KC.out.far (show (w.heap.size + 2) ≠ gz by omega) _).far (show (w.heap.size + 2) ≠ gz by omega) _).far (show (w.heap.size + 2) ≠ gz by omega) _
  have kD : Blk (((w8.setCell ⟨gz, 0, none⟩ (.bool s2)).setCell ⟨gz, 1, none⟩ (.slice A2 l2 n2)).setCell ⟨gz, 2, none⟩ (.slice B2 m2 k2)) (w.heap.size + 3) 23 #[.int .i64 d1, .int .i64 d2] := ((KD.out.far (show (w.heap.size + 3) ≠ gz by omega) _).far (show (w.heap.size + 3) ≠ gz by omega) _).far (show (w.heap.size + 3) ≠ gz by omega) _
  have kZ : Blk (((w8.setCell ⟨gz, 0, none⟩ (.bool s2)).setCell ⟨gz, 1, none⟩ (.slice A2 l2 n2)).setCell ⟨gz, 2, none⟩ (.slice B2 m2 k2)) gz 96 #[.bool s2, .slice A2 l2 n2, .slice B2 m2 k2] := ((KZ.out.set 0 _).set 1 _).set 2 _
  have hq := HQ.out.boxed (NoInts.three KZ.out) s2 A2 B2 l2 n2 m2 k2
  generalize (((w8.setCell ⟨gz, 0, none⟩ (.bool s2)).setCell ⟨gz, 1, none⟩ (.slice A2 l2 n2)).setCell ⟨gz, 2, none⟩ (.slice B2 m2 k2)) = w9 at hXs kA kB kC kD kZ hq ⊢
  clear HX HQ KZ KA KB KC KD
  have HX := Lib.hid hXs
  have KZ := Lib.hid kZ
  have HQ := Lib.hid hq
  clear hXs kZ hq
  have KA := Lib.hid kA
  clear kA
  have KB := Lib.hid kB
  clear kB
  have KC := Lib.hid kC
  clear kC
  have KD := Lib.hid kD
  clear kD
  have cA0 : w9.cell? ⟨w.heap.size, 0, none⟩ = some (.int .i64 a1) := KA.out.cell 0
  have cA1 : w9.cell? ⟨w.heap.size, 1, none⟩ = some (.int .i64 a2) := KA.out.cell 1
  have cB0 : w9.cell? ⟨(w.heap.size + 1), 0, none⟩ = some (.int .i64 b1) := KB.out.cell 0
  have cB1 : w9.cell? ⟨(w.heap.size + 1), 1, none⟩ = some (.int .i64 b2) := KB.out.cell 1
  have cC0 : w9.cell? ⟨(w.heap.size + 2), 0, none⟩ = some (.int .i64 c1) := KC.out.cell 0
  have cC1 : w9.cell? ⟨(w.heap.size + 2), 1, none⟩ = some (.int .i64 c2) := KC.out.cell 1
  have cD0 : w9.cell? ⟨(w.heap.size + 3), 0, none⟩ = some (.int .i64 d1) := KD.out.cell 0
  have cD1 : w9.cell? ⟨(w.heap.size + 3), 1, none⟩ = some (.int .i64 d2) := KD.out.cell 1
  have cZ0 : w9.cell? ⟨gz, 0, none⟩ = some (.bool s2) := KZ.out.cell 0
  have cZ1 : w9.cell? ⟨gz, 1, none⟩ = some (.slice A2 l2 n2) := KZ.out.cell 1
  have cZ2 : w9.cell? ⟨gz, 2, none⟩ = some (.slice B2 m2 k2) := KZ.out.cell 2
  go_wp2_with fail
  clear cA0 cA1 cB0 cB1 cC0 cC1 cD0 cD1 cZ0 cZ1 cZ2
  refine (signX HQ.out).mono ?_
  rw [HD.out, sgnQ_int]
  rintro e w10 ⟨rfl, hX⟩
  replace HX := Lib.hid (HX.out.trans hX)
  replace KA := Lib.hid (KA.out.ext hX)
  replace KB := Lib.hid (KB.out.ext hX)
  replace KC := Lib.hid (KC.out.ext hX)
  replace KD := Lib.hid (KD.out.ext hX)
  replace KZ := Lib.hid (KZ.out.ext hX)
  clear hX
  generalize hs : sgI (detI (a1, a2) (b1, b2) (c1, c2) (d1, d2)) = sd
  have hs1 : -1 ≤ sd ∧ sd ≤ 1 := by
    rw [← hs]
    unfold sgI
    split
    · omega
    · split <;> omega
  obtain ⟨hs1, hs2⟩ := hs1
  have HS := Lib.hid hs
  clear hs
  obtain ⟨hm1, hm2⟩ := mul_in ⟨ht1, ht2⟩ ⟨hs1, hs2⟩
  rw [show (1 : Int) * 1 = 1 from rfl] at hm1 hm2
  go_wp2
  go_ret2
  exact ⟨ret_ii (by unfold circI; rw [HT.out, HS.out]) rfl, HX.out⟩

end Go.Proofs.Yteoijnaljkagfaa
namespace Go.Proofs.Yteoijnaljkagfaa

theorem sgI_neg (n : Int) : sgI (-n) = -sgI n := by
  unfold sgI
  by_cases h1 : n < 0
  · have : ¬ -n < 0 := by omega
    have h2 : 0 < -n := by omega
    simp [h1, this]; omega
  · by_cases h2 : 0 < n
    · have : -n < 0 := by omega
      simp [h1, h2]
    · have : n = 0 := by omega
      subst this; decide
theorem sgI_in (n : Int) : -1 ≤ sgI n ∧ sgI n ≤ 1 := by
  unfold sgI
  split
  · omega
  · split <;> omega
section
variable (a1 a2 b1 b2 c1 c2 d1 d2 : Int)
end
end Go.Proofs.Yteoijnaljkagfaa
