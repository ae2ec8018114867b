/- ExactMeets: its walk. -/
import Derived.Test.YteoijnaljkagfaaL4
import Derived.Test.YteoijnaljkagfaaOpenX
namespace Go.Proofs.Yteoijnaljkagfaa
open Go.RowKit

theorem in_yes (x l h : Int) (w : World) (h1 : l ≤ x) (h2 : x ≤ h) : Calls Try.prog 45 #[.int .i64 x, .agg #[.int .i64 l, .int .i64 h]] w fun e w' => e = .returned (.bool true) ∧ Ext w w' := by
  have := in_any x l h w
  rwa [show decide (l ≤ x ∧ x ≤ h) = true by simp [h1, h2]] at this
theorem in_no (x l h : Int) (w : World) (h1 : ¬ (l ≤ x ∧ x ≤ h)) : Calls Try.prog 45 #[.int .i64 x, .agg #[.int .i64 l, .int .i64 h]] w fun e w' => e = .returned (.bool false) ∧ Ext w w' := by
  have := in_any x l h w
  rwa [show decide (l ≤ x ∧ x ≤ h) = false by simp only [decide_eq_false_iff_not]; exact h1] at this
theorem good_is {x y : Int} {b : Bool} (h : okS x y = b) (w : World) : Calls Try.prog 41 #[.agg #[.int .i64 x, .int .i64 y]] w fun e w' => e = .returned (.bool b) ∧ Ext w w' := by
  have := good_any x y w
  rwa [h] at this

set_option maxRecDepth 100000 in
set_option maxHeartbeats 2000000 in
theorem meets_a (a b c d : Int) (w : World) (ha : okS a b = false) :
    Calls Try.prog 8 #[.agg #[.int .i64 (a), .int .i64 (b)], .agg #[.int .i64 (c), .int .i64 (d)]] w (fun e w' => e = .returned (.bool true) ∧ Ext w w') := by
  have HA := Lib.hid ha
  clear ha
  have hXe : Ext w ((w.alloc (.cells #[.int .i64 a, .int .i64 b] 62)).alloc (.cells #[.int .i64 c, .int .i64 d] 62)) := (((Ext.refl w).alloc _).alloc _)
  have kA : Blk ((w.alloc (.cells #[.int .i64 a, .int .i64 b] 62)).alloc (.cells #[.int .i64 c, .int .i64 d] 62)) w.heap.size 62 #[.int .i64 a, .int .i64 b] := Blk.alloc (Blk.at_ (by simp)) _
  have kB : Blk ((w.alloc (.cells #[.int .i64 a, .int .i64 b] 62)).alloc (.cells #[.int .i64 c, .int .i64 d] 62)) (w.heap.size + 1) 62 #[.int .i64 c, .int .i64 d] := Blk.at_ (by simp)
  go_enter Try.func8, Try.ntmps8
  go_wp2_with fail
  generalize ((w.alloc (.cells #[.int .i64 a, .int .i64 b] 62)).alloc (.cells #[.int .i64 c, .int .i64 d] 62)) = w1 at hXe kA kB ⊢
  have HX := Lib.hid hXe
  clear hXe
  have KA := Lib.hid kA
  clear kA
  have KB := Lib.hid kB
  clear kB
  refine (good_is HA.out _).mono ?_
  rintro e w2 ⟨rfl, hX⟩
  replace HX := Lib.hid (HX.out.trans hX)
  replace KA := Lib.hid (KA.out.ext hX)
  replace KB := Lib.hid (KB.out.ext hX)
  clear hX
  go_wp2_with fail
  refine (first_any _).mono ?_
  rintro e w3 ⟨rfl, hX⟩
  replace HX := Lib.hid (HX.out.trans hX)
  replace KA := Lib.hid (KA.out.ext hX)
  replace KB := Lib.hid (KB.out.ext hX)
  clear hX
  go_wp2
  go_ret
  exact ⟨rfl, HX.out⟩

set_option maxRecDepth 100000 in
set_option maxHeartbeats 2000000 in
theorem meets_b (a b c d : Int) (w : World) (ha : okS a b = true) (hb : okS c d = false) :
    Calls Try.prog 8 #[.agg #[.int .i64 (a), .int .i64 (b)], .agg #[.int .i64 (c), .int .i64 (d)]] w (fun e w' => e = .returned (.bool true) ∧ Ext w w') := by
  have HA := Lib.hid ha
  have HB := Lib.hid hb
  clear ha hb
  have hXe : Ext w ((w.alloc (.cells #[.int .i64 a, .int .i64 b] 62)).alloc (.cells #[.int .i64 c, .int .i64 d] 62)) := (((Ext.refl w).alloc _).alloc _)
  have kA : Blk ((w.alloc (.cells #[.int .i64 a, .int .i64 b] 62)).alloc (.cells #[.int .i64 c, .int .i64 d] 62)) w.heap.size 62 #[.int .i64 a, .int .i64 b] := Blk.alloc (Blk.at_ (by simp)) _
  have kB : Blk ((w.alloc (.cells #[.int .i64 a, .int .i64 b] 62)).alloc (.cells #[.int .i64 c, .int .i64 d] 62)) (w.heap.size + 1) 62 #[.int .i64 c, .int .i64 d] := Blk.at_ (by simp)
  go_enter Try.func8, Try.ntmps8
  go_wp2_with fail
  generalize ((w.alloc (.cells #[.int .i64 a, .int .i64 b] 62)).alloc (.cells #[.int .i64 c, .int .i64 d] 62)) = w1 at hXe kA kB ⊢
  have HX := Lib.hid hXe
  clear hXe
  have KA := Lib.hid kA
  clear kA
  have KB := Lib.hid kB
  clear kB
  refine (good_is HA.out _).mono ?_
  rintro e w2 ⟨rfl, hX⟩
  replace HX := Lib.hid (HX.out.trans hX)
  replace KA := Lib.hid (KA.out.ext hX)
  replace KB := Lib.hid (KB.out.ext hX)
  clear hX
  have cA0 : w2.cell? ⟨w.heap.size, 0, none⟩ = some (.int .i64 a) := KA.out.cell 0
  have cA1 : w2.cell? ⟨w.heap.size, 1, none⟩ = some (.int .i64 b) := KA.out.cell 1
  have cB0 : w2.cell? ⟨(w.heap.size + 1), 0, none⟩ = some (.int .i64 c) := KB.out.cell 0
  have cB1 : w2.cell? ⟨(w.heap.size + 1), 1, none⟩ = some (.int .i64 d) := KB.out.cell 1
  go_wp2_with fail
  clear cA0 cA1 cB0 cB1
  refine (good_is HB.out _).mono ?_
  rintro e w3 ⟨rfl, hX⟩
  replace HX := Lib.hid (HX.out.trans hX)
  replace KA := Lib.hid (KA.out.ext hX)
  replace KB := Lib.hid (KB.out.ext hX)
  clear hX
  go_wp2_with fail
  refine (first_any _).mono ?_
  rintro e w4 ⟨rfl, hX⟩
  replace HX := Lib.hid (HX.out.trans hX)
  replace KA := Lib.hid (KA.out.ext hX)
  replace KB := Lib.hid (KB.out.ext hX)
  clear hX
  go_wp2
  go_ret
  exact ⟨rfl, HX.out⟩

set_option maxRecDepth 100000 in
set_option maxHeartbeats 2000000 in
theorem meets_ok (a b c d : Int) (w : World) (ha : okS a b = true) (hb : okS c d = true) (hm : max a c ≤ min b d) :
    Calls Try.prog 8 #[.agg #[.int .i64 (a), .int .i64 (b)], .agg #[.int .i64 (c), .int .i64 (d)]] w (fun e w' => e = .returned (.bool true) ∧ Ext w w') := by
  obtain ⟨a0, a1, a2⟩ := okS_in ha
  obtain ⟨c0, c1, c2⟩ := okS_in hb
  have HA := Lib.hid ha
  have HB := Lib.hid hb
  clear ha hb
  have hXe : Ext w ((w.alloc (.cells #[.int .i64 a, .int .i64 b] 62)).alloc (.cells #[.int .i64 c, .int .i64 d] 62)) := (((Ext.refl w).alloc _).alloc _)
  have kA : Blk ((w.alloc (.cells #[.int .i64 a, .int .i64 b] 62)).alloc (.cells #[.int .i64 c, .int .i64 d] 62)) w.heap.size 62 #[.int .i64 a, .int .i64 b] := Blk.alloc (Blk.at_ (by simp)) _
  have kB : Blk ((w.alloc (.cells #[.int .i64 a, .int .i64 b] 62)).alloc (.cells #[.int .i64 c, .int .i64 d] 62)) (w.heap.size + 1) 62 #[.int .i64 c, .int .i64 d] := Blk.at_ (by simp)
  go_enter Try.func8, Try.ntmps8
  go_wp2_with fail
  generalize ((w.alloc (.cells #[.int .i64 a, .int .i64 b] 62)).alloc (.cells #[.int .i64 c, .int .i64 d] 62)) = w1 at hXe kA kB ⊢
  have HX := Lib.hid hXe
  clear hXe
  have KA := Lib.hid kA
  clear kA
  have KB := Lib.hid kB
  clear kB
  refine (good_is HA.out _).mono ?_
  rintro e w2 ⟨rfl, hX⟩
  replace HX := Lib.hid (HX.out.trans hX)
  replace KA := Lib.hid (KA.out.ext hX)
  replace KB := Lib.hid (KB.out.ext hX)
  clear hX
  have cA0 : w2.cell? ⟨w.heap.size, 0, none⟩ = some (.int .i64 a) := KA.out.cell 0
  have cA1 : w2.cell? ⟨w.heap.size, 1, none⟩ = some (.int .i64 b) := KA.out.cell 1
  have cB0 : w2.cell? ⟨(w.heap.size + 1), 0, none⟩ = some (.int .i64 c) := KB.out.cell 0
  have cB1 : w2.cell? ⟨(w.heap.size + 1), 1, none⟩ = some (.int .i64 d) := KB.out.cell 1
  go_wp2_with fail
  clear cA0 cA1 cB0 cB1
  refine (good_is HB.out _).mono ?_
  rintro e w3 ⟨rfl, hX⟩
  replace HX := Lib.hid (HX.out.trans hX)
  replace KA := Lib.hid (KA.out.ext hX)
  replace KB := Lib.hid (KB.out.ext hX)
  clear hX
  have cA0 : w3.cell? ⟨w.heap.size, 0, none⟩ = some (.int .i64 a) := KA.out.cell 0
  have cA1 : w3.cell? ⟨w.heap.size, 1, none⟩ = some (.int .i64 b) := KA.out.cell 1
  have cB0 : w3.cell? ⟨(w.heap.size + 1), 0, none⟩ = some (.int .i64 c) := KB.out.cell 0
  have cB1 : w3.cell? ⟨(w.heap.size + 1), 1, none⟩ = some (.int .i64 d) := KB.out.cell 1
  go_wp2_with fail
  clear cA0 cA1 cB0 cB1
  refine (ehull_ok a b c d _ HA.out HB.out).mono ?_
  rintro e w4 ⟨rfl, hX⟩
  replace HX := Lib.hid (HX.out.trans hX)
  replace KA := Lib.hid (KA.out.ext hX)
  replace KB := Lib.hid (KB.out.ext hX)
  clear hX
  have cA0 : w4.cell? ⟨w.heap.size, 0, none⟩ = some (.int .i64 a) := KA.out.cell 0
  have cA1 : w4.cell? ⟨w.heap.size, 1, none⟩ = some (.int .i64 b) := KA.out.cell 1
  have cB0 : w4.cell? ⟨(w.heap.size + 1), 0, none⟩ = some (.int .i64 c) := KB.out.cell 0
  have cB1 : w4.cell? ⟨(w.heap.size + 1), 1, none⟩ = some (.int .i64 d) := KB.out.cell 1
  go_upto_region 4 with (fail)
  clear cA0 cA1 cB0 cB1
  have hXa : Ext w4 (w4.alloc (.cells #[.int .i64 (min a c), .int .i64 (max b d)] 62)) := (Ext.refl _).alloc _
  have kH := Blk.new w4 62 #[.int .i64 (min a c), .int .i64 (max b d)]
  have zA := KA.out.lt
  have zB := KB.out.lt
  replace HX := Lib.hid (HX.out.trans hXa)
  replace KA := Lib.hid (KA.out.ext hXa)
  replace KB := Lib.hid (KB.out.ext hXa)
  generalize (w4.alloc (.cells #[.int .i64 (min a c), .int .i64 (max b d)] 62)) = w5 at HX KA KB kH ⊢
  have KH := Lib.hid kH
  clear kH hXa
  have cA0 : w5.cell? ⟨w.heap.size, 0, none⟩ = some (.int .i64 a) := KA.out.cell 0
  have cA1 : w5.cell? ⟨w.heap.size, 1, none⟩ = some (.int .i64 b) := KA.out.cell 1
  have cB0 : w5.cell? ⟨(w.heap.size + 1), 0, none⟩ = some (.int .i64 c) := KB.out.cell 0
  have cB1 : w5.cell? ⟨(w.heap.size + 1), 1, none⟩ = some (.int .i64 d) := KB.out.cell 1
  have cH0 : w5.cell? ⟨w4.heap.size, 0, none⟩ = some (.int .i64 (min a c)) := KH.out.cell 0
  have cH1 : w5.cell? ⟨w4.heap.size, 1, none⟩ = some (.int .i64 (max b d)) := KH.out.cell 1
  go_wp2_with fail
  clear cA0 cA1 cB0 cB1 cH0 cH1
  refine (emeet_ok a b c d _ HA.out HB.out hm).mono ?_
  rintro e w6 ⟨rfl, hX⟩
  replace HX := Lib.hid (HX.out.trans hX)
  replace KA := Lib.hid (KA.out.ext hX)
  replace KB := Lib.hid (KB.out.ext hX)
  replace KH := Lib.hid (KH.out.ext hX)
  clear hX
  have cA0 : w6.cell? ⟨w.heap.size, 0, none⟩ = some (.int .i64 a) := KA.out.cell 0
  have cA1 : w6.cell? ⟨w.heap.size, 1, none⟩ = some (.int .i64 b) := KA.out.cell 1
  have cB0 : w6.cell? ⟨(w.heap.size + 1), 0, none⟩ = some (.int .i64 c) := KB.out.cell 0
  have cB1 : w6.cell? ⟨(w.heap.size + 1), 1, none⟩ = some (.int .i64 d) := KB.out.cell 1
  have cH0 : w6.cell? ⟨w4.heap.size, 0, none⟩ = some (.int .i64 (min a c)) := KH.out.cell 0
  have cH1 : w6.cell? ⟨w4.heap.size, 1, none⟩ = some (.int .i64 (max b d)) := KH.out.cell 1
  go_upto_region 5 with (fail)
  clear cA0 cA1 cB0 cB1 cH0 cH1
  have hXa : Ext w6 (w6.alloc (.cells #[.int .i64 (max a c), .int .i64 (min b d)] 62)) := (Ext.refl _).alloc _
  have kM := Blk.new w6 62 #[.int .i64 (max a c), .int .i64 (min b d)]
  have zA := KA.out.lt
  have zB := KB.out.lt
  have zH := KH.out.lt
  replace HX := Lib.hid (HX.out.trans hXa)
  replace KA := Lib.hid (KA.out.ext hXa)
  replace KB := Lib.hid (KB.out.ext hXa)
  replace KH := Lib.hid (KH.out.ext hXa)
  generalize (w6.alloc (.cells #[.int .i64 (max a c), .int .i64 (min b d)] 62)) = w7 at HX KA KB KH kM ⊢
  have KM := Lib.hid kM
  clear kM hXa
  have cA0 : w7.cell? ⟨w.heap.size, 0, none⟩ = some (.int .i64 a) := KA.out.cell 0
  have cA1 : w7.cell? ⟨w.heap.size, 1, none⟩ = some (.int .i64 b) := KA.out.cell 1
  have cB0 : w7.cell? ⟨(w.heap.size + 1), 0, none⟩ = some (.int .i64 c) := KB.out.cell 0
  have cB1 : w7.cell? ⟨(w.heap.size + 1), 1, none⟩ = some (.int .i64 d) := KB.out.cell 1
  have cH0 : w7.cell? ⟨w4.heap.size, 0, none⟩ = some (.int .i64 (min a c)) := KH.out.cell 0
  have cH1 : w7.cell? ⟨w4.heap.size, 1, none⟩ = some (.int .i64 (max b d)) := KH.out.cell 1
  have cM0 : w7.cell? ⟨w6.heap.size, 0, none⟩ = some (.int .i64 (max a c)) := KM.out.cell 0
  have cM1 : w7.cell? ⟨w6.heap.size, 1, none⟩ = some (.int .i64 (min b d)) := KM.out.cell 1
  go_wp2_with fail
  clear cA0 cA1 cB0 cB1 cH0 cH1 cM0 cM1
  refine (egap_ok a b c d _ HA.out HB.out).mono ?_
  rintro e w8 ⟨rfl, hX⟩
  replace HX := Lib.hid (HX.out.trans hX)
  replace KA := Lib.hid (KA.out.ext hX)
  replace KB := Lib.hid (KB.out.ext hX)
  replace KH := Lib.hid (KH.out.ext hX)
  replace KM := Lib.hid (KM.out.ext hX)
  clear hX
  have cA0 : w8.cell? ⟨w.heap.size, 0, none⟩ = some (.int .i64 a) := KA.out.cell 0
  have cA1 : w8.cell? ⟨w.heap.size, 1, none⟩ = some (.int .i64 b) := KA.out.cell 1
  have cB0 : w8.cell? ⟨(w.heap.size + 1), 0, none⟩ = some (.int .i64 c) := KB.out.cell 0
  have cB1 : w8.cell? ⟨(w.heap.size + 1), 1, none⟩ = some (.int .i64 d) := KB.out.cell 1
  have cH0 : w8.cell? ⟨w4.heap.size, 0, none⟩ = some (.int .i64 (min a c)) := KH.out.cell 0
  have cH1 : w8.cell? ⟨w4.heap.size, 1, none⟩ = some (.int .i64 (max b d)) := KH.out.cell 1
  have cM0 : w8.cell? ⟨w6.heap.size, 0, none⟩ = some (.int .i64 (max a c)) := KM.out.cell 0
  have cM1 : w8.cell? ⟨w6.heap.size, 1, none⟩ = some (.int .i64 (min b d)) := KM.out.cell 1
  go_wp2_with fail
  clear cA0 cA1 cB0 cB1 cH0 cH1 cM0 cM1
  refine (in_yes _ _ _ _ (by omega) (by omega)).mono ?_
  rintro e w9 ⟨rfl, hX⟩
  replace HX := Lib.hid (HX.out.trans hX)
  replace KA := Lib.hid (KA.out.ext hX)
  replace KB := Lib.hid (KB.out.ext hX)
  replace KH := Lib.hid (KH.out.ext hX)
  replace KM := Lib.hid (KM.out.ext hX)
  clear hX
  have cA0 : w9.cell? ⟨w.heap.size, 0, none⟩ = some (.int .i64 a) := KA.out.cell 0
  have cA1 : w9.cell? ⟨w.heap.size, 1, none⟩ = some (.int .i64 b) := KA.out.cell 1
  have cB0 : w9.cell? ⟨(w.heap.size + 1), 0, none⟩ = some (.int .i64 c) := KB.out.cell 0
  have cB1 : w9.cell? ⟨(w.heap.size + 1), 1, none⟩ = some (.int .i64 d) := KB.out.cell 1
  have cH0 : w9.cell? ⟨w4.heap.size, 0, none⟩ = some (.int .i64 (min a c)) := KH.out.cell 0
  have cH1 : w9.cell? ⟨w4.heap.size, 1, none⟩ = some (.int .i64 (max b d)) := KH.out.cell 1
  have cM0 : w9.cell? ⟨w6.heap.size, 0, none⟩ = some (.int .i64 (max a c)) := KM.out.cell 0
  have cM1 : w9.cell? ⟨w6.heap.size, 1, none⟩ = some (.int .i64 (min b d)) := KM.out.cell 1
  go_wp2_with fail
  clear cA0 cA1 cB0 cB1 cH0 cH1 cM0 cM1
  refine (in_yes _ _ _ _ (by omega) (by omega)).mono ?_
  rintro e w10 ⟨rfl, hX⟩
  replace HX := Lib.hid (HX.out.trans hX)
  replace KA := Lib.hid (KA.out.ext hX)
  replace KB := Lib.hid (KB.out.ext hX)
  replace KH := Lib.hid (KH.out.ext hX)
  replace KM := Lib.hid (KM.out.ext hX)
  clear hX
  have cA0 : w10.cell? ⟨w.heap.size, 0, none⟩ = some (.int .i64 a) := KA.out.cell 0
  have cA1 : w10.cell? ⟨w.heap.size, 1, none⟩ = some (.int .i64 b) := KA.out.cell 1
  have cB0 : w10.cell? ⟨(w.heap.size + 1), 0, none⟩ = some (.int .i64 c) := KB.out.cell 0
  have cB1 : w10.cell? ⟨(w.heap.size + 1), 1, none⟩ = some (.int .i64 d) := KB.out.cell 1
  have cH0 : w10.cell? ⟨w4.heap.size, 0, none⟩ = some (.int .i64 (min a c)) := KH.out.cell 0
  have cH1 : w10.cell? ⟨w4.heap.size, 1, none⟩ = some (.int .i64 (max b d)) := KH.out.cell 1
  have cM0 : w10.cell? ⟨w6.heap.size, 0, none⟩ = some (.int .i64 (max a c)) := KM.out.cell 0
  have cM1 : w10.cell? ⟨w6.heap.size, 1, none⟩ = some (.int .i64 (min b d)) := KM.out.cell 1
  go_wp2_with fail
  clear cA0 cA1 cB0 cB1 cH0 cH1 cM0 cM1
  refine (in_yes _ _ _ _ (by omega) (by omega)).mono ?_
  rintro e w11 ⟨rfl, hX⟩
  replace HX := Lib.hid (HX.out.trans hX)
  replace KA := Lib.hid (KA.out.ext hX)
  replace KB := Lib.hid (KB.out.ext hX)
  replace KH := Lib.hid (KH.out.ext hX)
  replace KM := Lib.hid (KM.out.ext hX)
  clear hX
  have cA0 : w11.cell? ⟨w.heap.size, 0, none⟩ = some (.int .i64 a) := KA.out.cell 0
  have cA1 : w11.cell? ⟨w.heap.size, 1, none⟩ = some (.int .i64 b) := KA.out.cell 1
  have cB0 : w11.cell? ⟨(w.heap.size + 1), 0, none⟩ = some (.int .i64 c) := KB.out.cell 0
  have cB1 : w11.cell? ⟨(w.heap.size + 1), 1, none⟩ = some (.int .i64 d) := KB.out.cell 1
  have cH0 : w11.cell? ⟨w4.heap.size, 0, none⟩ = some (.int .i64 (min a c)) := KH.out.cell 0
  have cH1 : w11.cell? ⟨w4.heap.size, 1, none⟩ = some (.int .i64 (max b d)) := KH.out.cell 1
  have cM0 : w11.cell? ⟨w6.heap.size, 0, none⟩ = some (.int .i64 (max a c)) := KM.out.cell 0
  have cM1 : w11.cell? ⟨w6.heap.size, 1, none⟩ = some (.int .i64 (min b d)) := KM.out.cell 1
  go_wp2_with fail
  clear cA0 cA1 cB0 cB1 cH0 cH1 cM0 cM1
  refine (in_yes _ _ _ _ (by omega) (by omega)).mono ?_
  rintro e w12 ⟨rfl, hX⟩
  replace HX := Lib.hid (HX.out.trans hX)
  replace KA := Lib.hid (KA.out.ext hX)
  replace KB := Lib.hid (KB.out.ext hX)
  replace KH := Lib.hid (KH.out.ext hX)
  replace KM := Lib.hid (KM.out.ext hX)
  clear hX
  have cA0 : w12.cell? ⟨w.heap.size, 0, none⟩ = some (.int .i64 a) := KA.out.cell 0
  have cA1 : w12.cell? ⟨w.heap.size, 1, none⟩ = some (.int .i64 b) := KA.out.cell 1
  have cB0 : w12.cell? ⟨(w.heap.size + 1), 0, none⟩ = some (.int .i64 c) := KB.out.cell 0
  have cB1 : w12.cell? ⟨(w.heap.size + 1), 1, none⟩ = some (.int .i64 d) := KB.out.cell 1
  have cH0 : w12.cell? ⟨w4.heap.size, 0, none⟩ = some (.int .i64 (min a c)) := KH.out.cell 0
  have cH1 : w12.cell? ⟨w4.heap.size, 1, none⟩ = some (.int .i64 (max b d)) := KH.out.cell 1
  have cM0 : w12.cell? ⟨w6.heap.size, 0, none⟩ = some (.int .i64 (max a c)) := KM.out.cell 0
  have cM1 : w12.cell? ⟨w6.heap.size, 1, none⟩ = some (.int .i64 (min b d)) := KM.out.cell 1
  go_wp2_with fail
  clear cA0 cA1 cB0 cB1 cH0 cH1 cM0 cM1
  refine (in_yes _ _ _ _ (by omega) (by omega)).mono ?_
  rintro e w13 ⟨rfl, hX⟩
  replace HX := Lib.hid (HX.out.trans hX)
  replace KA := Lib.hid (KA.out.ext hX)
  replace KB := Lib.hid (KB.out.ext hX)
  replace KH := Lib.hid (KH.out.ext hX)
  replace KM := Lib.hid (KM.out.ext hX)
  clear hX
  have cA0 : w13.cell? ⟨w.heap.size, 0, none⟩ = some (.int .i64 a) := KA.out.cell 0
  have cA1 : w13.cell? ⟨w.heap.size, 1, none⟩ = some (.int .i64 b) := KA.out.cell 1
  have cB0 : w13.cell? ⟨(w.heap.size + 1), 0, none⟩ = some (.int .i64 c) := KB.out.cell 0
  have cB1 : w13.cell? ⟨(w.heap.size + 1), 1, none⟩ = some (.int .i64 d) := KB.out.cell 1
  have cH0 : w13.cell? ⟨w4.heap.size, 0, none⟩ = some (.int .i64 (min a c)) := KH.out.cell 0
  have cH1 : w13.cell? ⟨w4.heap.size, 1, none⟩ = some (.int .i64 (max b d)) := KH.out.cell 1
  have cM0 : w13.cell? ⟨w6.heap.size, 0, none⟩ = some (.int .i64 (max a c)) := KM.out.cell 0
  have cM1 : w13.cell? ⟨w6.heap.size, 1, none⟩ = some (.int .i64 (min b d)) := KM.out.cell 1
  go_wp2_with fail
  clear cA0 cA1 cB0 cB1 cH0 cH1 cM0 cM1
  refine (in_yes _ _ _ _ (by omega) (by omega)).mono ?_
  rintro e w14 ⟨rfl, hX⟩
  replace HX := Lib.hid (HX.out.trans hX)
  replace KA := Lib.hid (KA.out.ext hX)
  replace KB := Lib.hid (KB.out.ext hX)
  replace KH := Lib.hid (KH.out.ext hX)
  replace KM := Lib.hid (KM.out.ext hX)
  clear hX
  have cA0 : w14.cell? ⟨w.heap.size, 0, none⟩ = some (.int .i64 a) := KA.out.cell 0
  have cA1 : w14.cell? ⟨w.heap.size, 1, none⟩ = some (.int .i64 b) := KA.out.cell 1
  have cB0 : w14.cell? ⟨(w.heap.size + 1), 0, none⟩ = some (.int .i64 c) := KB.out.cell 0
  have cB1 : w14.cell? ⟨(w.heap.size + 1), 1, none⟩ = some (.int .i64 d) := KB.out.cell 1
  have cH0 : w14.cell? ⟨w4.heap.size, 0, none⟩ = some (.int .i64 (min a c)) := KH.out.cell 0
  have cH1 : w14.cell? ⟨w4.heap.size, 1, none⟩ = some (.int .i64 (max b d)) := KH.out.cell 1
  have cM0 : w14.cell? ⟨w6.heap.size, 0, none⟩ = some (.int .i64 (max a c)) := KM.out.cell 0
  have cM1 : w14.cell? ⟨w6.heap.size, 1, none⟩ = some (.int .i64 (min b d)) := KM.out.cell 1
  go_wp2_with fail
  clear cA0 cA1 cB0 cB1 cH0 cH1 cM0 cM1
  refine (in_yes _ _ _ _ (by omega) (by omega)).mono ?_
  rintro e w15 ⟨rfl, hX⟩
  replace HX := Lib.hid (HX.out.trans hX)
  replace KA := Lib.hid (KA.out.ext hX)
  replace KB := Lib.hid (KB.out.ext hX)
  replace KH := Lib.hid (KH.out.ext hX)
  replace KM := Lib.hid (KM.out.ext hX)
  clear hX
  have cA0 : w15.cell? ⟨w.heap.size, 0, none⟩ = some (.int .i64 a) := KA.out.cell 0
  have cA1 : w15.cell? ⟨w.heap.size, 1, none⟩ = some (.int .i64 b) := KA.out.cell 1
  have cB0 : w15.cell? ⟨(w.heap.size + 1), 0, none⟩ = some (.int .i64 c) := KB.out.cell 0
  have cB1 : w15.cell? ⟨(w.heap.size + 1), 1, none⟩ = some (.int .i64 d) := KB.out.cell 1
  have cH0 : w15.cell? ⟨w4.heap.size, 0, none⟩ = some (.int .i64 (min a c)) := KH.out.cell 0
  have cH1 : w15.cell? ⟨w4.heap.size, 1, none⟩ = some (.int .i64 (max b d)) := KH.out.cell 1
  have cM0 : w15.cell? ⟨w6.heap.size, 0, none⟩ = some (.int .i64 (max a c)) := KM.out.cell 0
  have cM1 : w15.cell? ⟨w6.heap.size, 1, none⟩ = some (.int .i64 (min b d)) := KM.out.cell 1
  go_wp2_with fail
  clear cA0 cA1 cB0 cB1 cH0 cH1 cM0 cM1
  refine (in_yes _ _ _ _ (by omega) (by omega)).mono ?_
  rintro e w16 ⟨rfl, hX⟩
  replace HX := Lib.hid (HX.out.trans hX)
  replace KA := Lib.hid (KA.out.ext hX)
  replace KB := Lib.hid (KB.out.ext hX)
  replace KH := Lib.hid (KH.out.ext hX)
  replace KM := Lib.hid (KM.out.ext hX)
  clear hX
  have cA0 : w16.cell? ⟨w.heap.size, 0, none⟩ = some (.int .i64 a) := KA.out.cell 0
  have cA1 : w16.cell? ⟨w.heap.size, 1, none⟩ = some (.int .i64 b) := KA.out.cell 1
  have cB0 : w16.cell? ⟨(w.heap.size + 1), 0, none⟩ = some (.int .i64 c) := KB.out.cell 0
  have cB1 : w16.cell? ⟨(w.heap.size + 1), 1, none⟩ = some (.int .i64 d) := KB.out.cell 1
  have cH0 : w16.cell? ⟨w4.heap.size, 0, none⟩ = some (.int .i64 (min a c)) := KH.out.cell 0
  have cH1 : w16.cell? ⟨w4.heap.size, 1, none⟩ = some (.int .i64 (max b d)) := KH.out.cell 1
  have cM0 : w16.cell? ⟨w6.heap.size, 0, none⟩ = some (.int .i64 (max a c)) := KM.out.cell 0
  have cM1 : w16.cell? ⟨w6.heap.size, 1, none⟩ = some (.int .i64 (min b d)) := KM.out.cell 1
  go_wp2_with fail
  clear cA0 cA1 cB0 cB1 cH0 cH1 cM0 cM1
  refine (first_any _).mono ?_
  rintro e w17 ⟨rfl, hX⟩
  replace HX := Lib.hid (HX.out.trans hX)
  replace KA := Lib.hid (KA.out.ext hX)
  replace KB := Lib.hid (KB.out.ext hX)
  replace KH := Lib.hid (KH.out.ext hX)
  replace KM := Lib.hid (KM.out.ext hX)
  clear hX
  go_wp2
  go_ret
  exact ⟨rfl, HX.out⟩

set_option maxRecDepth 100000 in
set_option maxHeartbeats 2000000 in
theorem meets_no (a b c d : Int) (w : World) (ha : okS a b = true) (hb : okS c d = true) (hm : min b d < max a c) :
    Calls Try.prog 8 #[.agg #[.int .i64 (a), .int .i64 (b)], .agg #[.int .i64 (c), .int .i64 (d)]] w (fun e w' => e = .returned (.bool true) ∧ Ext w w') := by
  obtain ⟨a0, a1, a2⟩ := okS_in ha
  obtain ⟨c0, c1, c2⟩ := okS_in hb
  have HA := Lib.hid ha
  have HB := Lib.hid hb
  clear ha hb
  have hXe : Ext w ((w.alloc (.cells #[.int .i64 a, .int .i64 b] 62)).alloc (.cells #[.int .i64 c, .int .i64 d] 62)) := (((Ext.refl w).alloc _).alloc _)
  have kA : Blk ((w.alloc (.cells #[.int .i64 a, .int .i64 b] 62)).alloc (.cells #[.int .i64 c, .int .i64 d] 62)) w.heap.size 62 #[.int .i64 a, .int .i64 b] := Blk.alloc (Blk.at_ (by simp)) _
  have kB : Blk ((w.alloc (.cells #[.int .i64 a, .int .i64 b] 62)).alloc (.cells #[.int .i64 c, .int .i64 d] 62)) (w.heap.size + 1) 62 #[.int .i64 c, .int .i64 d] := Blk.at_ (by simp)
  go_enter Try.func8, Try.ntmps8
  go_wp2_with fail
  generalize ((w.alloc (.cells #[.int .i64 a, .int .i64 b] 62)).alloc (.cells #[.int .i64 c, .int .i64 d] 62)) = w1 at hXe kA kB ⊢
  have HX := Lib.hid hXe
  clear hXe
  have KA := Lib.hid kA
  clear kA
  have KB := Lib.hid kB
  clear kB
  refine (good_is HA.out _).mono ?_
  rintro e w2 ⟨rfl, hX⟩
  replace HX := Lib.hid (HX.out.trans hX)
  replace KA := Lib.hid (KA.out.ext hX)
  replace KB := Lib.hid (KB.out.ext hX)
  clear hX
  have cA0 : w2.cell? ⟨w.heap.size, 0, none⟩ = some (.int .i64 a) := KA.out.cell 0
  have cA1 : w2.cell? ⟨w.heap.size, 1, none⟩ = some (.int .i64 b) := KA.out.cell 1
  have cB0 : w2.cell? ⟨(w.heap.size + 1), 0, none⟩ = some (.int .i64 c) := KB.out.cell 0
  have cB1 : w2.cell? ⟨(w.heap.size + 1), 1, none⟩ = some (.int .i64 d) := KB.out.cell 1
  go_wp2_with fail
  clear cA0 cA1 cB0 cB1
  refine (good_is HB.out _).mono ?_
  rintro e w3 ⟨rfl, hX⟩
  replace HX := Lib.hid (HX.out.trans hX)
  replace KA := Lib.hid (KA.out.ext hX)
  replace KB := Lib.hid (KB.out.ext hX)
  clear hX
  have cA0 : w3.cell? ⟨w.heap.size, 0, none⟩ = some (.int .i64 a) := KA.out.cell 0
  have cA1 : w3.cell? ⟨w.heap.size, 1, none⟩ = some (.int .i64 b) := KA.out.cell 1
  have cB0 : w3.cell? ⟨(w.heap.size + 1), 0, none⟩ = some (.int .i64 c) := KB.out.cell 0
  have cB1 : w3.cell? ⟨(w.heap.size + 1), 1, none⟩ = some (.int .i64 d) := KB.out.cell 1
  go_wp2_with fail
  clear cA0 cA1 cB0 cB1
  refine (ehull_ok a b c d _ HA.out HB.out).mono ?_
  rintro e w4 ⟨rfl, hX⟩
  replace HX := Lib.hid (HX.out.trans hX)
  replace KA := Lib.hid (KA.out.ext hX)
  replace KB := Lib.hid (KB.out.ext hX)
  clear hX
  have cA0 : w4.cell? ⟨w.heap.size, 0, none⟩ = some (.int .i64 a) := KA.out.cell 0
  have cA1 : w4.cell? ⟨w.heap.size, 1, none⟩ = some (.int .i64 b) := KA.out.cell 1
  have cB0 : w4.cell? ⟨(w.heap.size + 1), 0, none⟩ = some (.int .i64 c) := KB.out.cell 0
  have cB1 : w4.cell? ⟨(w.heap.size + 1), 1, none⟩ = some (.int .i64 d) := KB.out.cell 1
  go_upto_region 4 with (fail)
  clear cA0 cA1 cB0 cB1
  have hXa : Ext w4 (w4.alloc (.cells #[.int .i64 (min a c), .int .i64 (max b d)] 62)) := (Ext.refl _).alloc _
  have kH := Blk.new w4 62 #[.int .i64 (min a c), .int .i64 (max b d)]
  have zA := KA.out.lt
  have zB := KB.out.lt
  replace HX := Lib.hid (HX.out.trans hXa)
  replace KA := Lib.hid (KA.out.ext hXa)
  replace KB := Lib.hid (KB.out.ext hXa)
  generalize (w4.alloc (.cells #[.int .i64 (min a c), .int .i64 (max b d)] 62)) = w5 at HX KA KB kH ⊢
  have KH := Lib.hid kH
  clear kH hXa
  have cA0 : w5.cell? ⟨w.heap.size, 0, none⟩ = some (.int .i64 a) := KA.out.cell 0
  have cA1 : w5.cell? ⟨w.heap.size, 1, none⟩ = some (.int .i64 b) := KA.out.cell 1
  have cB0 : w5.cell? ⟨(w.heap.size + 1), 0, none⟩ = some (.int .i64 c) := KB.out.cell 0
  have cB1 : w5.cell? ⟨(w.heap.size + 1), 1, none⟩ = some (.int .i64 d) := KB.out.cell 1
  have cH0 : w5.cell? ⟨w4.heap.size, 0, none⟩ = some (.int .i64 (min a c)) := KH.out.cell 0
  have cH1 : w5.cell? ⟨w4.heap.size, 1, none⟩ = some (.int .i64 (max b d)) := KH.out.cell 1
  go_wp2_with fail
  clear cA0 cA1 cB0 cB1 cH0 cH1
  refine (emeet_no a b c d _ HA.out HB.out hm).mono ?_
  rintro e w6 ⟨rfl, hX⟩
  replace HX := Lib.hid (HX.out.trans hX)
  replace KA := Lib.hid (KA.out.ext hX)
  replace KB := Lib.hid (KB.out.ext hX)
  replace KH := Lib.hid (KH.out.ext hX)
  clear hX
  have cA0 : w6.cell? ⟨w.heap.size, 0, none⟩ = some (.int .i64 a) := KA.out.cell 0
  have cA1 : w6.cell? ⟨w.heap.size, 1, none⟩ = some (.int .i64 b) := KA.out.cell 1
  have cB0 : w6.cell? ⟨(w.heap.size + 1), 0, none⟩ = some (.int .i64 c) := KB.out.cell 0
  have cB1 : w6.cell? ⟨(w.heap.size + 1), 1, none⟩ = some (.int .i64 d) := KB.out.cell 1
  have cH0 : w6.cell? ⟨w4.heap.size, 0, none⟩ = some (.int .i64 (min a c)) := KH.out.cell 0
  have cH1 : w6.cell? ⟨w4.heap.size, 1, none⟩ = some (.int .i64 (max b d)) := KH.out.cell 1
  go_upto_region 5 with (fail)
  clear cA0 cA1 cB0 cB1 cH0 cH1
  have hXa : Ext w6 (w6.alloc (.cells #[.int .i64 0, .int .i64 0] 62)) := (Ext.refl _).alloc _
  have kM := Blk.new w6 62 #[.int .i64 0, .int .i64 0]
  have zA := KA.out.lt
  have zB := KB.out.lt
  have zH := KH.out.lt
  replace HX := Lib.hid (HX.out.trans hXa)
  replace KA := Lib.hid (KA.out.ext hXa)
  replace KB := Lib.hid (KB.out.ext hXa)
  replace KH := Lib.hid (KH.out.ext hXa)
  generalize (w6.alloc (.cells #[.int .i64 0, .int .i64 0] 62)) = w7 at HX KA KB KH kM ⊢
  have KM := Lib.hid kM
  clear kM hXa
  have cA0 : w7.cell? ⟨w.heap.size, 0, none⟩ = some (.int .i64 a) := KA.out.cell 0
  have cA1 : w7.cell? ⟨w.heap.size, 1, none⟩ = some (.int .i64 b) := KA.out.cell 1
  have cB0 : w7.cell? ⟨(w.heap.size + 1), 0, none⟩ = some (.int .i64 c) := KB.out.cell 0
  have cB1 : w7.cell? ⟨(w.heap.size + 1), 1, none⟩ = some (.int .i64 d) := KB.out.cell 1
  have cH0 : w7.cell? ⟨w4.heap.size, 0, none⟩ = some (.int .i64 (min a c)) := KH.out.cell 0
  have cH1 : w7.cell? ⟨w4.heap.size, 1, none⟩ = some (.int .i64 (max b d)) := KH.out.cell 1
  have cM0 : w7.cell? ⟨w6.heap.size, 0, none⟩ = some (.int .i64 0) := KM.out.cell 0
  have cM1 : w7.cell? ⟨w6.heap.size, 1, none⟩ = some (.int .i64 0) := KM.out.cell 1
  go_wp2_with fail
  clear cA0 cA1 cB0 cB1 cH0 cH1 cM0 cM1
  refine (egap_ok a b c d _ HA.out HB.out).mono ?_
  rintro e w8 ⟨rfl, hX⟩
  replace HX := Lib.hid (HX.out.trans hX)
  replace KA := Lib.hid (KA.out.ext hX)
  replace KB := Lib.hid (KB.out.ext hX)
  replace KH := Lib.hid (KH.out.ext hX)
  replace KM := Lib.hid (KM.out.ext hX)
  clear hX
  have cA0 : w8.cell? ⟨w.heap.size, 0, none⟩ = some (.int .i64 a) := KA.out.cell 0
  have cA1 : w8.cell? ⟨w.heap.size, 1, none⟩ = some (.int .i64 b) := KA.out.cell 1
  have cB0 : w8.cell? ⟨(w.heap.size + 1), 0, none⟩ = some (.int .i64 c) := KB.out.cell 0
  have cB1 : w8.cell? ⟨(w.heap.size + 1), 1, none⟩ = some (.int .i64 d) := KB.out.cell 1
  have cH0 : w8.cell? ⟨w4.heap.size, 0, none⟩ = some (.int .i64 (min a c)) := KH.out.cell 0
  have cH1 : w8.cell? ⟨w4.heap.size, 1, none⟩ = some (.int .i64 (max b d)) := KH.out.cell 1
  have cM0 : w8.cell? ⟨w6.heap.size, 0, none⟩ = some (.int .i64 0) := KM.out.cell 0
  have cM1 : w8.cell? ⟨w6.heap.size, 1, none⟩ = some (.int .i64 0) := KM.out.cell 1
  go_wp2_with fail
  clear cA0 cA1 cB0 cB1 cH0 cH1 cM0 cM1
  refine (in_yes _ _ _ _ (by omega) (by omega)).mono ?_
  rintro e w9 ⟨rfl, hX⟩
  replace HX := Lib.hid (HX.out.trans hX)
  replace KA := Lib.hid (KA.out.ext hX)
  replace KB := Lib.hid (KB.out.ext hX)
  replace KH := Lib.hid (KH.out.ext hX)
  replace KM := Lib.hid (KM.out.ext hX)
  clear hX
  have cA0 : w9.cell? ⟨w.heap.size, 0, none⟩ = some (.int .i64 a) := KA.out.cell 0
  have cA1 : w9.cell? ⟨w.heap.size, 1, none⟩ = some (.int .i64 b) := KA.out.cell 1
  have cB0 : w9.cell? ⟨(w.heap.size + 1), 0, none⟩ = some (.int .i64 c) := KB.out.cell 0
  have cB1 : w9.cell? ⟨(w.heap.size + 1), 1, none⟩ = some (.int .i64 d) := KB.out.cell 1
  have cH0 : w9.cell? ⟨w4.heap.size, 0, none⟩ = some (.int .i64 (min a c)) := KH.out.cell 0
  have cH1 : w9.cell? ⟨w4.heap.size, 1, none⟩ = some (.int .i64 (max b d)) := KH.out.cell 1
  have cM0 : w9.cell? ⟨w6.heap.size, 0, none⟩ = some (.int .i64 0) := KM.out.cell 0
  have cM1 : w9.cell? ⟨w6.heap.size, 1, none⟩ = some (.int .i64 0) := KM.out.cell 1
  go_wp2_with fail
  clear cA0 cA1 cB0 cB1 cH0 cH1 cM0 cM1
  refine (in_yes _ _ _ _ (by omega) (by omega)).mono ?_
  rintro e w10 ⟨rfl, hX⟩
  replace HX := Lib.hid (HX.out.trans hX)
  replace KA := Lib.hid (KA.out.ext hX)
  replace KB := Lib.hid (KB.out.ext hX)
  replace KH := Lib.hid (KH.out.ext hX)
  replace KM := Lib.hid (KM.out.ext hX)
  clear hX
  have cA0 : w10.cell? ⟨w.heap.size, 0, none⟩ = some (.int .i64 a) := KA.out.cell 0
  have cA1 : w10.cell? ⟨w.heap.size, 1, none⟩ = some (.int .i64 b) := KA.out.cell 1
  have cB0 : w10.cell? ⟨(w.heap.size + 1), 0, none⟩ = some (.int .i64 c) := KB.out.cell 0
  have cB1 : w10.cell? ⟨(w.heap.size + 1), 1, none⟩ = some (.int .i64 d) := KB.out.cell 1
  have cH0 : w10.cell? ⟨w4.heap.size, 0, none⟩ = some (.int .i64 (min a c)) := KH.out.cell 0
  have cH1 : w10.cell? ⟨w4.heap.size, 1, none⟩ = some (.int .i64 (max b d)) := KH.out.cell 1
  have cM0 : w10.cell? ⟨w6.heap.size, 0, none⟩ = some (.int .i64 0) := KM.out.cell 0
  have cM1 : w10.cell? ⟨w6.heap.size, 1, none⟩ = some (.int .i64 0) := KM.out.cell 1
  go_wp2_with fail
  clear cA0 cA1 cB0 cB1 cH0 cH1 cM0 cM1
  refine (in_yes _ _ _ _ (by omega) (by omega)).mono ?_
  rintro e w11 ⟨rfl, hX⟩
  replace HX := Lib.hid (HX.out.trans hX)
  replace KA := Lib.hid (KA.out.ext hX)
  replace KB := Lib.hid (KB.out.ext hX)
  replace KH := Lib.hid (KH.out.ext hX)
  replace KM := Lib.hid (KM.out.ext hX)
  clear hX
  have cA0 : w11.cell? ⟨w.heap.size, 0, none⟩ = some (.int .i64 a) := KA.out.cell 0
  have cA1 : w11.cell? ⟨w.heap.size, 1, none⟩ = some (.int .i64 b) := KA.out.cell 1
  have cB0 : w11.cell? ⟨(w.heap.size + 1), 0, none⟩ = some (.int .i64 c) := KB.out.cell 0
  have cB1 : w11.cell? ⟨(w.heap.size + 1), 1, none⟩ = some (.int .i64 d) := KB.out.cell 1
  have cH0 : w11.cell? ⟨w4.heap.size, 0, none⟩ = some (.int .i64 (min a c)) := KH.out.cell 0
  have cH1 : w11.cell? ⟨w4.heap.size, 1, none⟩ = some (.int .i64 (max b d)) := KH.out.cell 1
  have cM0 : w11.cell? ⟨w6.heap.size, 0, none⟩ = some (.int .i64 0) := KM.out.cell 0
  have cM1 : w11.cell? ⟨w6.heap.size, 1, none⟩ = some (.int .i64 0) := KM.out.cell 1
  go_wp2_with fail
  clear cA0 cA1 cB0 cB1 cH0 cH1 cM0 cM1
  refine (in_yes _ _ _ _ (by omega) (by omega)).mono ?_
  rintro e w12 ⟨rfl, hX⟩
  replace HX := Lib.hid (HX.out.trans hX)
  replace KA := Lib.hid (KA.out.ext hX)
  replace KB := Lib.hid (KB.out.ext hX)
  replace KH := Lib.hid (KH.out.ext hX)
  replace KM := Lib.hid (KM.out.ext hX)
  clear hX
  have cA0 : w12.cell? ⟨w.heap.size, 0, none⟩ = some (.int .i64 a) := KA.out.cell 0
  have cA1 : w12.cell? ⟨w.heap.size, 1, none⟩ = some (.int .i64 b) := KA.out.cell 1
  have cB0 : w12.cell? ⟨(w.heap.size + 1), 0, none⟩ = some (.int .i64 c) := KB.out.cell 0
  have cB1 : w12.cell? ⟨(w.heap.size + 1), 1, none⟩ = some (.int .i64 d) := KB.out.cell 1
  have cH0 : w12.cell? ⟨w4.heap.size, 0, none⟩ = some (.int .i64 (min a c)) := KH.out.cell 0
  have cH1 : w12.cell? ⟨w4.heap.size, 1, none⟩ = some (.int .i64 (max b d)) := KH.out.cell 1
  have cM0 : w12.cell? ⟨w6.heap.size, 0, none⟩ = some (.int .i64 0) := KM.out.cell 0
  have cM1 : w12.cell? ⟨w6.heap.size, 1, none⟩ = some (.int .i64 0) := KM.out.cell 1
  go_wp2_with fail
  clear cA0 cA1 cB0 cB1 cH0 cH1 cM0 cM1
  refine (first_any _).mono ?_
  rintro e w13 ⟨rfl, hX⟩
  replace HX := Lib.hid (HX.out.trans hX)
  replace KA := Lib.hid (KA.out.ext hX)
  replace KB := Lib.hid (KB.out.ext hX)
  replace KH := Lib.hid (KH.out.ext hX)
  replace KM := Lib.hid (KM.out.ext hX)
  clear hX
  go_wp2
  go_ret
  exact ⟨rfl, HX.out⟩

theorem exactMeets_walk (va : Value) (a : Int × Int) (vb : Value) (b : Int × Int) (w : World) (ha : Two64 va a) (hb : Two64 vb b) :
    Calls Try.prog 8 #[va, vb] w fun e w' => e = .returned (.bool true) ∧ Ext w w' := by
  obtain ⟨a1, a2⟩ := a
  obtain ⟨b1, b2⟩ := b
  obtain ⟨rfl, _⟩ := ha
  obtain ⟨rfl, _⟩ := hb
  rcases hA : okS a1 a2 with _ | _
  · exact meets_a a1 a2 b1 b2 w hA
  · rcases hB : okS b1 b2 with _ | _
    · exact meets_b a1 a2 b1 b2 w hA hB
    · by_cases hm : max a1 b1 ≤ min a2 b2
      · exact meets_ok a1 a2 b1 b2 w hA hB hm
      · exact meets_no a1 a2 b1 b2 w hA hB (by omega)
end Go.Proofs.Yteoijnaljkagfaa
