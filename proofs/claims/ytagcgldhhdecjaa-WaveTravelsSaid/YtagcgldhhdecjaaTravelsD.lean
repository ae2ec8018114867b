/- Lemmas of the proof that follows (Travels, part 4): walks of functions by contract, and plain lemmas. Conditions: none. -/
import Derived.Test.YtagcgldhhdecjaaTravelsC
namespace Go.Proofs.Ytagcgldhhdecjaa
open Go.RowKit

def RetRg (w : World) (R : (Int × Int) × Int) (e : Ending) (w' : World) : Prop := e = .returned (.tuple #[.agg #[.int .i64 R.1.1, .int .i64 R.1.2], .int .i64 R.2]) ∧ Ext w w'
theorem over_is {y1 y2 z1 z2 : Int} (h : okS y1 y2 = true) (e1 : y1 / 256 = z1) (e2 : -((-y2) / 256) = z2) (w : World) : Calls Try.prog 69 #[.agg #[.int .i64 y1, .int .i64 y2], .int .i64 256] w (fun e w' => e = .returned (.tuple #[.agg #[.int .i64 z1, .int .i64 z2], .int .i64 0]) ∧ Ext w w') := by
  subst e1 e2; exact eover_ok y1 y2 256 w h (by omega) (by omega)
theorem plus_is {a b c d x y : Int} (hab : okS a b = true) (hcd : okS c d = true) (h0 : -1152921504606846976 ≤ a + c) (h1 : b + d ≤ 1152921504606846976) (e1 : a + c = x) (e2 : b + d = y) (w : World) : Calls Try.prog 70 #[.agg #[.int .i64 a, .int .i64 b], .agg #[.int .i64 c, .int .i64 d]] w (fun e w' => e = .returned (.tuple #[.agg #[.int .i64 x, .int .i64 y], .int .i64 0]) ∧ Ext w w') := by
  subst e1 e2; exact eplus_ok a b c d w hab hcd h0 h1
theorem evalid_is {x y : Int} {b : Bool} (h : decide (okR x y) = b) (w : World) : Calls Try.prog 68 #[.agg #[.int .i64 x, .int .i64 y]] w fun e w' => e = .returned (.bool b) ∧ Ext w w' := by
  rw [← h, ← okS_iff]; exact valid_any x y w
theorem okS_mk {a b : Int} (h0 : -1152921504606846976 ≤ a) (h1 : a ≤ b) (h2 : b ≤ 1152921504606846976) : okS a b = true := by rw [okS_iff]; exact decide_eq_true ⟨h0, h1, h2⟩

set_option maxRecDepth 100000 in
set_option maxHeartbeats 4000000 in
theorem rangeP_det (a b lv dr st de : Int) (w : World) (hd : ¬ DetOk ⟨lv, dr, st, de⟩) :
    Calls Try.prog 45 #[.agg #[.int .i64 a, .int .i64 b], .agg #[.int .i64 lv, .int .i64 dr, .int .i64 st, .int .i64 de]] w (RetRg w (rangeF a b ⟨lv, dr, st, de⟩)) := by
  have HR : Hid (rangeF a b ⟨lv, dr, st, de⟩ = ((0, 0), 31)) := Lib.hid (by unfold rangeF; rw [if_pos hd])
  have QD : Hid (decide (DetOk ⟨lv, dr, st, de⟩) = false) := Lib.hid (decide_eq_false hd)
  clear hd
  have hXe : Ext w (((w.alloc (.cells #[.int .i64 a, .int .i64 b] 44)).alloc (.cells #[.int .i64 lv, .int .i64 dr, .int .i64 st, .int .i64 de] 33)).alloc (.cells #[.int .i64 0, .int .i64 0] 44)) := ((((Ext.refl w).alloc _).alloc _).alloc _)
  have kT : Blk (((w.alloc (.cells #[.int .i64 a, .int .i64 b] 44)).alloc (.cells #[.int .i64 lv, .int .i64 dr, .int .i64 st, .int .i64 de] 33)).alloc (.cells #[.int .i64 0, .int .i64 0] 44)) w.heap.size 44 #[.int .i64 a, .int .i64 b] := Blk.alloc (Blk.alloc (Blk.at_ (by simp)) _) _
  have kD : Blk (((w.alloc (.cells #[.int .i64 a, .int .i64 b] 44)).alloc (.cells #[.int .i64 lv, .int .i64 dr, .int .i64 st, .int .i64 de] 33)).alloc (.cells #[.int .i64 0, .int .i64 0] 44)) (w.heap.size + 1) 33 #[.int .i64 lv, .int .i64 dr, .int .i64 st, .int .i64 de] := Blk.alloc (Blk.at_ (by simp)) _
  have kR : Blk (((w.alloc (.cells #[.int .i64 a, .int .i64 b] 44)).alloc (.cells #[.int .i64 lv, .int .i64 dr, .int .i64 st, .int .i64 de] 33)).alloc (.cells #[.int .i64 0, .int .i64 0] 44)) (w.heap.size + 2) 44 #[.int .i64 0, .int .i64 0] := Blk.at_ (by simp)
  go_enter Try.func45, Try.ntmps45
  go_wp2_with fail
  generalize (((w.alloc (.cells #[.int .i64 a, .int .i64 b] 44)).alloc (.cells #[.int .i64 lv, .int .i64 dr, .int .i64 st, .int .i64 de] 33)).alloc (.cells #[.int .i64 0, .int .i64 0] 44)) = w1 at hXe kT kD kR ⊢
  have HX := Lib.hid hXe
  clear hXe
  have KT := Lib.hid kT
  clear kT
  have KD := Lib.hid kD
  clear kD
  have KR := Lib.hid kR
  clear kR
  have cD0 : w1.cell? ⟨(w.heap.size + 1), 0, none⟩ = some (.int .i64 lv) := KD.out.cell 0
  have cD1 : w1.cell? ⟨(w.heap.size + 1), 1, none⟩ = some (.int .i64 dr) := KD.out.cell 1
  have cD2 : w1.cell? ⟨(w.heap.size + 1), 2, none⟩ = some (.int .i64 st) := KD.out.cell 2
  have cD3 : w1.cell? ⟨(w.heap.size + 1), 3, none⟩ = some (.int .i64 de) := KD.out.cell 3
  go_wp2_with fail
  clear cD0 cD1 cD2 cD3
  refine (det_any ⟨lv, dr, st, de⟩ _).mono ?_
  rw [QD.out]
  rintro e w2 ⟨rfl, hX⟩
  replace hX : Ext w1 w2 := by with_reducible exact hX
  replace HX := Lib.hid (HX.out.trans hX)
  replace KT := Lib.hid (KT.out.ext hX)
  replace KD := Lib.hid (KD.out.ext hX)
  replace KR := Lib.hid (KR.out.ext hX)
  clear hX
  have cR0 : w2.cell? ⟨(w.heap.size + 2), 0, none⟩ = some (.int .i64 0) := KR.out.cell 0
  have fR0 : w2.frozen? ⟨(w.heap.size + 2), 0, none⟩ = false := KR.out.free 0
  have cR1 : w2.cell? ⟨(w.heap.size + 2), 1, none⟩ = some (.int .i64 0) := KR.out.cell 1
  have fR1 : w2.frozen? ⟨(w.heap.size + 2), 1, none⟩ = false := KR.out.free 1
  go_wp2
  refine bodyPost_ret (v := .tuple #[.agg #[.int .i64 0, .int .i64 0], .int .i64 31]) (by simp [results, Try.results45, go_sem, *]) rfl ?_
  exact ⟨by rw [HR.out], HX.out.two (by omega) _ _⟩

set_option maxRecDepth 100000 in
set_option maxHeartbeats 4000000 in
theorem rangeP_val (a b lv dr st de : Int) (w : World) (hd : DetOk ⟨lv, dr, st, de⟩) (ho : ¬ okR a b) :
    Calls Try.prog 45 #[.agg #[.int .i64 a, .int .i64 b], .agg #[.int .i64 lv, .int .i64 dr, .int .i64 st, .int .i64 de]] w (RetRg w (rangeF a b ⟨lv, dr, st, de⟩)) := by
  have HR : Hid (rangeF a b ⟨lv, dr, st, de⟩ = ((0, 0), 2)) := Lib.hid (by unfold rangeF; rw [if_neg (fun h => h hd), if_pos ho])
  have QD : Hid (decide (DetOk ⟨lv, dr, st, de⟩) = true) := Lib.hid (decide_eq_true hd)
  have HDT := Lib.hid hd
  have QV : Hid (decide (okR a b) = false) := Lib.hid (decide_eq_false ho)
  clear hd ho
  have hXe : Ext w (((w.alloc (.cells #[.int .i64 a, .int .i64 b] 44)).alloc (.cells #[.int .i64 lv, .int .i64 dr, .int .i64 st, .int .i64 de] 33)).alloc (.cells #[.int .i64 0, .int .i64 0] 44)) := ((((Ext.refl w).alloc _).alloc _).alloc _)
  have kT : Blk (((w.alloc (.cells #[.int .i64 a, .int .i64 b] 44)).alloc (.cells #[.int .i64 lv, .int .i64 dr, .int .i64 st, .int .i64 de] 33)).alloc (.cells #[.int .i64 0, .int .i64 0] 44)) w.heap.size 44 #[.int .i64 a, .int .i64 b] := Blk.alloc (Blk.alloc (Blk.at_ (by simp)) _) _
  have kD : Blk (((w.alloc (.cells #[.int .i64 a, .int .i64 b] 44)).alloc (.cells #[.int .i64 lv, .int .i64 dr, .int .i64 st, .int .i64 de] 33)).alloc (.cells #[.int .i64 0, .int .i64 0] 44)) (w.heap.size + 1) 33 #[.int .i64 lv, .int .i64 dr, .int .i64 st, .int .i64 de] := Blk.alloc (Blk.at_ (by simp)) _
  have kR : Blk (((w.alloc (.cells #[.int .i64 a, .int .i64 b] 44)).alloc (.cells #[.int .i64 lv, .int .i64 dr, .int .i64 st, .int .i64 de] 33)).alloc (.cells #[.int .i64 0, .int .i64 0] 44)) (w.heap.size + 2) 44 #[.int .i64 0, .int .i64 0] := Blk.at_ (by simp)
  go_enter Try.func45, Try.ntmps45
  go_wp2_with fail
  generalize (((w.alloc (.cells #[.int .i64 a, .int .i64 b] 44)).alloc (.cells #[.int .i64 lv, .int .i64 dr, .int .i64 st, .int .i64 de] 33)).alloc (.cells #[.int .i64 0, .int .i64 0] 44)) = w1 at hXe kT kD kR ⊢
  have HX := Lib.hid hXe
  clear hXe
  have KT := Lib.hid kT
  clear kT
  have KD := Lib.hid kD
  clear kD
  have KR := Lib.hid kR
  clear kR
  have cD0 : w1.cell? ⟨(w.heap.size + 1), 0, none⟩ = some (.int .i64 lv) := KD.out.cell 0
  have cD1 : w1.cell? ⟨(w.heap.size + 1), 1, none⟩ = some (.int .i64 dr) := KD.out.cell 1
  have cD2 : w1.cell? ⟨(w.heap.size + 1), 2, none⟩ = some (.int .i64 st) := KD.out.cell 2
  have cD3 : w1.cell? ⟨(w.heap.size + 1), 3, none⟩ = some (.int .i64 de) := KD.out.cell 3
  go_wp2_with fail
  clear cD0 cD1 cD2 cD3
  refine (det_any ⟨lv, dr, st, de⟩ _).mono ?_
  rw [QD.out]
  rintro e w2 ⟨rfl, hX⟩
  replace hX : Ext w1 w2 := by with_reducible exact hX
  replace HX := Lib.hid (HX.out.trans hX)
  replace KT := Lib.hid (KT.out.ext hX)
  replace KD := Lib.hid (KD.out.ext hX)
  replace KR := Lib.hid (KR.out.ext hX)
  clear hX
  have cT0 : w2.cell? ⟨w.heap.size, 0, none⟩ = some (.int .i64 a) := KT.out.cell 0
  have cT1 : w2.cell? ⟨w.heap.size, 1, none⟩ = some (.int .i64 b) := KT.out.cell 1
  go_wp2_with fail
  clear cT0 cT1
  refine (evalid_is QV.out _).mono ?_
  rintro e w3 ⟨rfl, hX⟩
  replace hX : Ext w2 w3 := by with_reducible exact hX
  replace HX := Lib.hid (HX.out.trans hX)
  replace KT := Lib.hid (KT.out.ext hX)
  replace KD := Lib.hid (KD.out.ext hX)
  replace KR := Lib.hid (KR.out.ext hX)
  clear hX
  have cR0 : w3.cell? ⟨(w.heap.size + 2), 0, none⟩ = some (.int .i64 0) := KR.out.cell 0
  have fR0 : w3.frozen? ⟨(w.heap.size + 2), 0, none⟩ = false := KR.out.free 0
  have cR1 : w3.cell? ⟨(w.heap.size + 2), 1, none⟩ = some (.int .i64 0) := KR.out.cell 1
  have fR1 : w3.frozen? ⟨(w.heap.size + 2), 1, none⟩ = false := KR.out.free 1
  go_wp2
  refine bodyPost_ret (v := .tuple #[.agg #[.int .i64 0, .int .i64 0], .int .i64 2]) (by simp [results, Try.results45, go_sem, *]) rfl ?_
  exact ⟨by rw [HR.out], HX.out.two (by omega) _ _⟩

set_option maxRecDepth 100000 in
set_option maxHeartbeats 4000000 in
theorem rangeP_far1 (a b lv dr st de : Int) (w : World) (hd : DetOk ⟨lv, dr, st, de⟩) (ho : okR a b) (h1 : a < -1099511627776) :
    Calls Try.prog 45 #[.agg #[.int .i64 a, .int .i64 b], .agg #[.int .i64 lv, .int .i64 dr, .int .i64 st, .int .i64 de]] w (RetRg w (rangeF a b ⟨lv, dr, st, de⟩)) := by
  have HR : Hid (rangeF a b ⟨lv, dr, st, de⟩ = ((0, 0), 33)) := Lib.hid (by unfold rangeF; rw [if_neg (fun h => h hd), if_neg (fun h => h ho), if_pos (.inl h1)])
  have QD : Hid (decide (DetOk ⟨lv, dr, st, de⟩) = true) := Lib.hid (decide_eq_true hd)
  have HDT := Lib.hid hd
  have QV : Hid (decide (okR a b) = true) := Lib.hid (decide_eq_true ho)
  have HOK := Lib.hid ho
  clear hd ho
  have hXe : Ext w (((w.alloc (.cells #[.int .i64 a, .int .i64 b] 44)).alloc (.cells #[.int .i64 lv, .int .i64 dr, .int .i64 st, .int .i64 de] 33)).alloc (.cells #[.int .i64 0, .int .i64 0] 44)) := ((((Ext.refl w).alloc _).alloc _).alloc _)
  have kT : Blk (((w.alloc (.cells #[.int .i64 a, .int .i64 b] 44)).alloc (.cells #[.int .i64 lv, .int .i64 dr, .int .i64 st, .int .i64 de] 33)).alloc (.cells #[.int .i64 0, .int .i64 0] 44)) w.heap.size 44 #[.int .i64 a, .int .i64 b] := Blk.alloc (Blk.alloc (Blk.at_ (by simp)) _) _
  have kD : Blk (((w.alloc (.cells #[.int .i64 a, .int .i64 b] 44)).alloc (.cells #[.int .i64 lv, .int .i64 dr, .int .i64 st, .int .i64 de] 33)).alloc (.cells #[.int .i64 0, .int .i64 0] 44)) (w.heap.size + 1) 33 #[.int .i64 lv, .int .i64 dr, .int .i64 st, .int .i64 de] := Blk.alloc (Blk.at_ (by simp)) _
  have kR : Blk (((w.alloc (.cells #[.int .i64 a, .int .i64 b] 44)).alloc (.cells #[.int .i64 lv, .int .i64 dr, .int .i64 st, .int .i64 de] 33)).alloc (.cells #[.int .i64 0, .int .i64 0] 44)) (w.heap.size + 2) 44 #[.int .i64 0, .int .i64 0] := Blk.at_ (by simp)
  go_enter Try.func45, Try.ntmps45
  go_wp2_with fail
  generalize (((w.alloc (.cells #[.int .i64 a, .int .i64 b] 44)).alloc (.cells #[.int .i64 lv, .int .i64 dr, .int .i64 st, .int .i64 de] 33)).alloc (.cells #[.int .i64 0, .int .i64 0] 44)) = w1 at hXe kT kD kR ⊢
  have HX := Lib.hid hXe
  clear hXe
  have KT := Lib.hid kT
  clear kT
  have KD := Lib.hid kD
  clear kD
  have KR := Lib.hid kR
  clear kR
  have cD0 : w1.cell? ⟨(w.heap.size + 1), 0, none⟩ = some (.int .i64 lv) := KD.out.cell 0
  have cD1 : w1.cell? ⟨(w.heap.size + 1), 1, none⟩ = some (.int .i64 dr) := KD.out.cell 1
  have cD2 : w1.cell? ⟨(w.heap.size + 1), 2, none⟩ = some (.int .i64 st) := KD.out.cell 2
  have cD3 : w1.cell? ⟨(w.heap.size + 1), 3, none⟩ = some (.int .i64 de) := KD.out.cell 3
  go_wp2_with fail
  clear cD0 cD1 cD2 cD3
  refine (det_any ⟨lv, dr, st, de⟩ _).mono ?_
  rw [QD.out]
  rintro e w2 ⟨rfl, hX⟩
  replace hX : Ext w1 w2 := by with_reducible exact hX
  replace HX := Lib.hid (HX.out.trans hX)
  replace KT := Lib.hid (KT.out.ext hX)
  replace KD := Lib.hid (KD.out.ext hX)
  replace KR := Lib.hid (KR.out.ext hX)
  clear hX
  have cT0 : w2.cell? ⟨w.heap.size, 0, none⟩ = some (.int .i64 a) := KT.out.cell 0
  have cT1 : w2.cell? ⟨w.heap.size, 1, none⟩ = some (.int .i64 b) := KT.out.cell 1
  go_wp2_with fail
  clear cT0 cT1
  refine (evalid_is QV.out _).mono ?_
  rintro e w3 ⟨rfl, hX⟩
  replace hX : Ext w2 w3 := by with_reducible exact hX
  replace HX := Lib.hid (HX.out.trans hX)
  replace KT := Lib.hid (KT.out.ext hX)
  replace KD := Lib.hid (KD.out.ext hX)
  replace KR := Lib.hid (KR.out.ext hX)
  clear hX
  have cT0 : w3.cell? ⟨w.heap.size, 0, none⟩ = some (.int .i64 a) := KT.out.cell 0
  have cT1 : w3.cell? ⟨w.heap.size, 1, none⟩ = some (.int .i64 b) := KT.out.cell 1
  have cR0 : w3.cell? ⟨(w.heap.size + 2), 0, none⟩ = some (.int .i64 0) := KR.out.cell 0
  have fR0 : w3.frozen? ⟨(w.heap.size + 2), 0, none⟩ = false := KR.out.free 0
  have cR1 : w3.cell? ⟨(w.heap.size + 2), 1, none⟩ = some (.int .i64 0) := KR.out.cell 1
  have fR1 : w3.frozen? ⟨(w.heap.size + 2), 1, none⟩ = false := KR.out.free 1
  go_wp2
  refine bodyPost_ret (v := .tuple #[.agg #[.int .i64 0, .int .i64 0], .int .i64 33]) (by simp [results, Try.results45, go_sem, *]) rfl ?_
  exact ⟨by rw [HR.out], HX.out.two (by omega) _ _⟩

set_option maxRecDepth 100000 in
set_option maxHeartbeats 4000000 in
theorem rangeP_far2 (a b lv dr st de : Int) (w : World) (hd : DetOk ⟨lv, dr, st, de⟩) (ho : okR a b) (h1 : ¬ a < -1099511627776) (h2 : 1099511627776 < b) :
    Calls Try.prog 45 #[.agg #[.int .i64 a, .int .i64 b], .agg #[.int .i64 lv, .int .i64 dr, .int .i64 st, .int .i64 de]] w (RetRg w (rangeF a b ⟨lv, dr, st, de⟩)) := by
  have HR : Hid (rangeF a b ⟨lv, dr, st, de⟩ = ((0, 0), 33)) := Lib.hid (by unfold rangeF; rw [if_neg (fun h => h hd), if_neg (fun h => h ho), if_pos (.inr h2)])
  have QD : Hid (decide (DetOk ⟨lv, dr, st, de⟩) = true) := Lib.hid (decide_eq_true hd)
  have HDT := Lib.hid hd
  have QV : Hid (decide (okR a b) = true) := Lib.hid (decide_eq_true ho)
  have HOK := Lib.hid ho
  clear hd ho
  have hXe : Ext w (((w.alloc (.cells #[.int .i64 a, .int .i64 b] 44)).alloc (.cells #[.int .i64 lv, .int .i64 dr, .int .i64 st, .int .i64 de] 33)).alloc (.cells #[.int .i64 0, .int .i64 0] 44)) := ((((Ext.refl w).alloc _).alloc _).alloc _)
  have kT : Blk (((w.alloc (.cells #[.int .i64 a, .int .i64 b] 44)).alloc (.cells #[.int .i64 lv, .int .i64 dr, .int .i64 st, .int .i64 de] 33)).alloc (.cells #[.int .i64 0, .int .i64 0] 44)) w.heap.size 44 #[.int .i64 a, .int .i64 b] := Blk.alloc (Blk.alloc (Blk.at_ (by simp)) _) _
  have kD : Blk (((w.alloc (.cells #[.int .i64 a, .int .i64 b] 44)).alloc (.cells #[.int .i64 lv, .int .i64 dr, .int .i64 st, .int .i64 de] 33)).alloc (.cells #[.int .i64 0, .int .i64 0] 44)) (w.heap.size + 1) 33 #[.int .i64 lv, .int .i64 dr, .int .i64 st, .int .i64 de] := Blk.alloc (Blk.at_ (by simp)) _
  have kR : Blk (((w.alloc (.cells #[.int .i64 a, .int .i64 b] 44)).alloc (.cells #[.int .i64 lv, .int .i64 dr, .int .i64 st, .int .i64 de] 33)).alloc (.cells #[.int .i64 0, .int .i64 0] 44)) (w.heap.size + 2) 44 #[.int .i64 0, .int .i64 0] := Blk.at_ (by simp)
  go_enter Try.func45, Try.ntmps45
  go_wp2_with fail
  generalize (((w.alloc (.cells #[.int .i64 a, .int .i64 b] 44)).alloc (.cells #[.int .i64 lv, .int .i64 dr, .int .i64 st, .int .i64 de] 33)).alloc (.cells #[.int .i64 0, .int .i64 0] 44)) = w1 at hXe kT kD kR ⊢
  have HX := Lib.hid hXe
  clear hXe
  have KT := Lib.hid kT
  clear kT
  have KD := Lib.hid kD
  clear kD
  have KR := Lib.hid kR
  clear kR
  have cD0 : w1.cell? ⟨(w.heap.size + 1), 0, none⟩ = some (.int .i64 lv) := KD.out.cell 0
  have cD1 : w1.cell? ⟨(w.heap.size + 1), 1, none⟩ = some (.int .i64 dr) := KD.out.cell 1
  have cD2 : w1.cell? ⟨(w.heap.size + 1), 2, none⟩ = some (.int .i64 st) := KD.out.cell 2
  have cD3 : w1.cell? ⟨(w.heap.size + 1), 3, none⟩ = some (.int .i64 de) := KD.out.cell 3
  go_wp2_with fail
  clear cD0 cD1 cD2 cD3
  refine (det_any ⟨lv, dr, st, de⟩ _).mono ?_
  rw [QD.out]
  rintro e w2 ⟨rfl, hX⟩
  replace hX : Ext w1 w2 := by with_reducible exact hX
  replace HX := Lib.hid (HX.out.trans hX)
  replace KT := Lib.hid (KT.out.ext hX)
  replace KD := Lib.hid (KD.out.ext hX)
  replace KR := Lib.hid (KR.out.ext hX)
  clear hX
  have cT0 : w2.cell? ⟨w.heap.size, 0, none⟩ = some (.int .i64 a) := KT.out.cell 0
  have cT1 : w2.cell? ⟨w.heap.size, 1, none⟩ = some (.int .i64 b) := KT.out.cell 1
  go_wp2_with fail
  clear cT0 cT1
  refine (evalid_is QV.out _).mono ?_
  rintro e w3 ⟨rfl, hX⟩
  replace hX : Ext w2 w3 := by with_reducible exact hX
  replace HX := Lib.hid (HX.out.trans hX)
  replace KT := Lib.hid (KT.out.ext hX)
  replace KD := Lib.hid (KD.out.ext hX)
  replace KR := Lib.hid (KR.out.ext hX)
  clear hX
  have cT0 : w3.cell? ⟨w.heap.size, 0, none⟩ = some (.int .i64 a) := KT.out.cell 0
  have cT1 : w3.cell? ⟨w.heap.size, 1, none⟩ = some (.int .i64 b) := KT.out.cell 1
  have cR0 : w3.cell? ⟨(w.heap.size + 2), 0, none⟩ = some (.int .i64 0) := KR.out.cell 0
  have fR0 : w3.frozen? ⟨(w.heap.size + 2), 0, none⟩ = false := KR.out.free 0
  have cR1 : w3.cell? ⟨(w.heap.size + 2), 1, none⟩ = some (.int .i64 0) := KR.out.cell 1
  have fR1 : w3.frozen? ⟨(w.heap.size + 2), 1, none⟩ = false := KR.out.free 1
  go_wp2
  refine bodyPost_ret (v := .tuple #[.agg #[.int .i64 0, .int .i64 0], .int .i64 33]) (by simp [results, Try.results45, go_sem, *]) rfl ?_
  exact ⟨by rw [HR.out], HX.out.two (by omega) _ _⟩

set_option maxRecDepth 100000 in
set_option maxHeartbeats 4000000 in
theorem rangeP_ok (a b lv dr st de : Int) (w : World) (hd : DetOk ⟨lv, dr, st, de⟩) (ho : okR a b) (h1 : ¬ a < -1099511627776) (h2 : ¬ 1099511627776 < b) :
    Calls Try.prog 45 #[.agg #[.int .i64 a, .int .i64 b], .agg #[.int .i64 lv, .int .i64 dr, .int .i64 st, .int .i64 de]] w (RetRg w (rangeF a b ⟨lv, dr, st, de⟩)) := by
  have QD : Hid (decide (DetOk ⟨lv, dr, st, de⟩) = true) := Lib.hid (decide_eq_true hd)
  have HDT := Lib.hid hd
  have QV : Hid (decide (okR a b) = true) := Lib.hid (decide_eq_true ho)
  have HOK := Lib.hid ho
  have ho1 : a ≤ b := ho.2.1
  have hs1 : 1 ≤ st := hd.2.2.2.2.1
  have hs2 : st ≤ 10000 := hd.2.2.2.2.2.1
  have hd1 : -1048576 ≤ de := hd.2.2.2.2.2.2.1
  have hd2 : de ≤ 1048576 := hd.2.2.2.2.2.2.2
  have m1 := Int.mul_le_mul_of_nonneg_left ho1 (show 0 ≤ st by omega)
  have m2 := Int.mul_le_mul_of_nonneg_left (show -1099511627776 ≤ a by omega) (show 0 ≤ st by omega)
  have m3 := Int.mul_le_mul_of_nonneg_left (show b ≤ 1099511627776 by omega) (show 0 ≤ st by omega)
  have hr : rangeF a b ⟨lv, dr, st, de⟩ = if st * a / 256 + de < 0 ∨ 4194304 < -((-(st * b)) / 256) + de then ((0, 0), 33) else ((st * a / 256 + de, -((-(st * b)) / 256) + de), 0) := by
    unfold rangeF rngLo rngHi
    rw [if_neg (fun h => h hd), if_neg (fun h => h ho), if_neg (by omega)]
  obtain ⟨y1, hy1⟩ : ∃ z, st * a = z := ⟨_, rfl⟩
  obtain ⟨y2, hy2⟩ : ∃ z, st * b = z := ⟨_, rfl⟩
  have qw1 : IntKind.i64.wrap (st * a) = y1 := (IntWalk.i64_in _ (by omega)).trans hy1
  have qw2 : IntKind.i64.wrap (st * b) = y2 := (IntWalk.i64_in _ (by omega)).trans hy2
  rw [hy1, hy2] at m1
  rw [hy1] at m2
  rw [hy2] at m3
  rw [hy1, hy2] at hr
  obtain ⟨z1, hz1⟩ : ∃ z, y1 / 256 = z := ⟨_, rfl⟩
  obtain ⟨z2, hz2⟩ : ∃ z, -((-y2) / 256) = z := ⟨_, rfl⟩
  rw [hz1, hz2] at hr
  obtain ⟨x1, hx1⟩ : ∃ z, z1 + de = z := ⟨_, rfl⟩
  obtain ⟨x2, hx2⟩ : ∃ z, z2 + de = z := ⟨_, rfl⟩
  rw [hx1, hx2] at hr
  have k1 : okS y1 y2 = true := okS_mk (by omega) (by omega) (by omega)
  have k2 : okS z1 z2 = true := okS_mk (by omega) (by omega) (by omega)
  have k3 : okS de de = true := okS_mk (by omega) (by omega) (by omega)
  have k4 : -1152921504606846976 ≤ z1 + de := by omega
  have k5 : z2 + de ≤ 1152921504606846976 := by omega
  have HOV := Lib.hid (over_is k1 hz1 hz2)
  have HPL := Lib.hid (plus_is k2 k3 k4 k5 hx1 hx2)
  clear k1 k2 k3 k4 k5 hx1 hx2 hz1 hz2 hy1 hy2 m1 m2 m3 hs1 hs2 hd1 hd2 ho1 hd ho
  have HRR := Lib.hid hr
  clear hr
  have hXe : Ext w (((w.alloc (.cells #[.int .i64 a, .int .i64 b] 44)).alloc (.cells #[.int .i64 lv, .int .i64 dr, .int .i64 st, .int .i64 de] 33)).alloc (.cells #[.int .i64 0, .int .i64 0] 44)) := ((((Ext.refl w).alloc _).alloc _).alloc _)
  have kT : Blk (((w.alloc (.cells #[.int .i64 a, .int .i64 b] 44)).alloc (.cells #[.int .i64 lv, .int .i64 dr, .int .i64 st, .int .i64 de] 33)).alloc (.cells #[.int .i64 0, .int .i64 0] 44)) w.heap.size 44 #[.int .i64 a, .int .i64 b] := Blk.alloc (Blk.alloc (Blk.at_ (by simp)) _) _
  have kD : Blk (((w.alloc (.cells #[.int .i64 a, .int .i64 b] 44)).alloc (.cells #[.int .i64 lv, .int .i64 dr, .int .i64 st, .int .i64 de] 33)).alloc (.cells #[.int .i64 0, .int .i64 0] 44)) (w.heap.size + 1) 33 #[.int .i64 lv, .int .i64 dr, .int .i64 st, .int .i64 de] := Blk.alloc (Blk.at_ (by simp)) _
  have kR : Blk (((w.alloc (.cells #[.int .i64 a, .int .i64 b] 44)).alloc (.cells #[.int .i64 lv, .int .i64 dr, .int .i64 st, .int .i64 de] 33)).alloc (.cells #[.int .i64 0, .int .i64 0] 44)) (w.heap.size + 2) 44 #[.int .i64 0, .int .i64 0] := Blk.at_ (by simp)
  go_enter Try.func45, Try.ntmps45
  go_wp2_with fail
  generalize (((w.alloc (.cells #[.int .i64 a, .int .i64 b] 44)).alloc (.cells #[.int .i64 lv, .int .i64 dr, .int .i64 st, .int .i64 de] 33)).alloc (.cells #[.int .i64 0, .int .i64 0] 44)) = w1 at hXe kT kD kR ⊢
  have HX := Lib.hid hXe
  clear hXe
  have KT := Lib.hid kT
  clear kT
  have KD := Lib.hid kD
  clear kD
  have KR := Lib.hid kR
  clear kR
  have cD0 : w1.cell? ⟨(w.heap.size + 1), 0, none⟩ = some (.int .i64 lv) := KD.out.cell 0
  have cD1 : w1.cell? ⟨(w.heap.size + 1), 1, none⟩ = some (.int .i64 dr) := KD.out.cell 1
  have cD2 : w1.cell? ⟨(w.heap.size + 1), 2, none⟩ = some (.int .i64 st) := KD.out.cell 2
  have cD3 : w1.cell? ⟨(w.heap.size + 1), 3, none⟩ = some (.int .i64 de) := KD.out.cell 3
  go_wp2_with fail
  clear cD0 cD1 cD2 cD3
  refine (det_any ⟨lv, dr, st, de⟩ _).mono ?_
  rw [QD.out]
  rintro e w2 ⟨rfl, hX⟩
  replace hX : Ext w1 w2 := by with_reducible exact hX
  replace HX := Lib.hid (HX.out.trans hX)
  replace KT := Lib.hid (KT.out.ext hX)
  replace KD := Lib.hid (KD.out.ext hX)
  replace KR := Lib.hid (KR.out.ext hX)
  clear hX
  have cT0 : w2.cell? ⟨w.heap.size, 0, none⟩ = some (.int .i64 a) := KT.out.cell 0
  have cT1 : w2.cell? ⟨w.heap.size, 1, none⟩ = some (.int .i64 b) := KT.out.cell 1
  go_wp2_with fail
  clear cT0 cT1
  refine (evalid_is QV.out _).mono ?_
  rintro e w3 ⟨rfl, hX⟩
  replace hX : Ext w2 w3 := by with_reducible exact hX
  replace HX := Lib.hid (HX.out.trans hX)
  replace KT := Lib.hid (KT.out.ext hX)
  replace KD := Lib.hid (KD.out.ext hX)
  replace KR := Lib.hid (KR.out.ext hX)
  clear hX
  have cT0 : w3.cell? ⟨w.heap.size, 0, none⟩ = some (.int .i64 a) := KT.out.cell 0
  have cT1 : w3.cell? ⟨w.heap.size, 1, none⟩ = some (.int .i64 b) := KT.out.cell 1
  have cD0 : w3.cell? ⟨(w.heap.size + 1), 0, none⟩ = some (.int .i64 lv) := KD.out.cell 0
  have cD1 : w3.cell? ⟨(w.heap.size + 1), 1, none⟩ = some (.int .i64 dr) := KD.out.cell 1
  have cD2 : w3.cell? ⟨(w.heap.size + 1), 2, none⟩ = some (.int .i64 st) := KD.out.cell 2
  have cD3 : w3.cell? ⟨(w.heap.size + 1), 3, none⟩ = some (.int .i64 de) := KD.out.cell 3
  go_wp2_with fail
  clear cT0 cT1 cD0 cD1 cD2 cD3
  refine (HOV.out _).mono ?_
  rintro e w4 ⟨rfl, hX⟩
  replace hX : Ext w3 w4 := by with_reducible exact hX
  replace HX := Lib.hid (HX.out.trans hX)
  replace KT := Lib.hid (KT.out.ext hX)
  replace KD := Lib.hid (KD.out.ext hX)
  replace KR := Lib.hid (KR.out.ext hX)
  clear hX
  go_upto_region 8 with (fail)
  have hXa : Ext w4 (w4.alloc (.cells #[.int .i64 z1, .int .i64 z2] 44)) := (Ext.refl _).alloc _
  have kS := Blk.new w4 44 #[.int .i64 z1, .int .i64 z2]
  have zT := KT.out.lt
  have zD := KD.out.lt
  have zR := KR.out.lt
  have zg := HX.out.size
  replace HX := Lib.hid (HX.out.trans hXa)
  replace KT := Lib.hid (KT.out.ext hXa)
  replace KD := Lib.hid (KD.out.ext hXa)
  replace KR := Lib.hid (KR.out.ext hXa)
  generalize (w4.alloc (.cells #[.int .i64 z1, .int .i64 z2] 44)) = w5 at HX KT KD KR kS ⊢
  have KS := Lib.hid kS
  clear kS hXa
  have cD0 : w5.cell? ⟨(w.heap.size + 1), 0, none⟩ = some (.int .i64 lv) := KD.out.cell 0
  have cD1 : w5.cell? ⟨(w.heap.size + 1), 1, none⟩ = some (.int .i64 dr) := KD.out.cell 1
  have cD2 : w5.cell? ⟨(w.heap.size + 1), 2, none⟩ = some (.int .i64 st) := KD.out.cell 2
  have cD3 : w5.cell? ⟨(w.heap.size + 1), 3, none⟩ = some (.int .i64 de) := KD.out.cell 3
  have cS0 : w5.cell? ⟨w4.heap.size, 0, none⟩ = some (.int .i64 z1) := KS.out.cell 0
  have fS0 : w5.frozen? ⟨w4.heap.size, 0, none⟩ = false := KS.out.free 0
  have cS1 : w5.cell? ⟨w4.heap.size, 1, none⟩ = some (.int .i64 z2) := KS.out.cell 1
  have fS1 : w5.frozen? ⟨w4.heap.size, 1, none⟩ = false := KS.out.free 1
  go_wp2_with fail
  clear cD0 cD1 cD2 cD3 cS0 fS0 cS1 fS1
  refine (HPL.out _).mono ?_
  rintro e w6 ⟨rfl, hX⟩
  replace hX : Ext w5 w6 := by with_reducible exact hX
  replace HX := Lib.hid (HX.out.trans hX)
  replace KT := Lib.hid (KT.out.ext hX)
  replace KD := Lib.hid (KD.out.ext hX)
  replace KR := Lib.hid (KR.out.ext hX)
  replace KS := Lib.hid (KS.out.ext hX)
  clear hX
  have zS := HX.out.size
  have zz := KS.out.lt
  have cS0 : w6.cell? ⟨w4.heap.size, 0, none⟩ = some (.int .i64 z1) := KS.out.cell 0
  have fS0 : w6.frozen? ⟨w4.heap.size, 0, none⟩ = false := KS.out.free 0
  have cS1 : w6.cell? ⟨w4.heap.size, 1, none⟩ = some (.int .i64 z2) := KS.out.cell 1
  have fS1 : w6.frozen? ⟨w4.heap.size, 1, none⟩ = false := KS.out.free 1
  go_upto_region 9 with (fail)
  clear cS0 fS0 cS1 fS1
  have hXs : Ext w ((w6.setCell ⟨w4.heap.size, 0, none⟩ (.int .i64 x1)).setCell ⟨w4.heap.size, 1, none⟩ (.int .i64 x2)) := ((HX.out.setCell (show w.heap.size ≤ w4.heap.size by omega) _).setCell (show w.heap.size ≤ w4.heap.size by omega) _)
  have kT : Blk ((w6.setCell ⟨w4.heap.size, 0, none⟩ (.int .i64 x1)).setCell ⟨w4.heap.size, 1, none⟩ (.int .i64 x2)) w.heap.size 44 #[.int .i64 a, .int .i64 b] := (Blk.far (Blk.far KT.out (show w.heap.size ≠ w4.heap.size by omega) _) (show w.heap.size ≠ w4.heap.size by omega) _)
  have kD : Blk ((w6.setCell ⟨w4.heap.size, 0, none⟩ (.int .i64 x1)).setCell ⟨w4.heap.size, 1, none⟩ (.int .i64 x2)) (w.heap.size + 1) 33 #[.int .i64 lv, .int .i64 dr, .int .i64 st, .int .i64 de] := (Blk.far (Blk.far KD.out (show (w.heap.size + 1) ≠ w4.heap.size by omega) _) (show (w.heap.size + 1) ≠ w4.heap.size by omega) _)
  have kR : Blk ((w6.setCell ⟨w4.heap.size, 0, none⟩ (.int .i64 x1)).setCell ⟨w4.heap.size, 1, none⟩ (.int .i64 x2)) (w.heap.size + 2) 44 #[.int .i64 0, .int .i64 0] := (Blk.far (Blk.far KR.out (show (w.heap.size + 2) ≠ w4.heap.size by omega) _) (show (w.heap.size + 2) ≠ w4.heap.size by omega) _)
  have kS : Blk ((w6.setCell ⟨w4.heap.size, 0, none⟩ (.int .i64 x1)).setCell ⟨w4.heap.size, 1, none⟩ (.int .i64 x2)) w4.heap.size 44 #[.int .i64 x1, .int .i64 x2] := (Blk.set (Blk.set KS.out 0 _) 1 _)
  generalize ((w6.setCell ⟨w4.heap.size, 0, none⟩ (.int .i64 x1)).setCell ⟨w4.heap.size, 1, none⟩ (.int .i64 x2)) = w7 at hXs kT kD kR kS ⊢
  clear HX KT KD KR KS
  have HX := Lib.hid hXs
  clear hXs
  have KT := Lib.hid kT
  clear kT
  have KD := Lib.hid kD
  clear kD
  have KR := Lib.hid kR
  clear kR
  have KS := Lib.hid kS
  clear kS
  have cR0 : w7.cell? ⟨(w.heap.size + 2), 0, none⟩ = some (.int .i64 0) := KR.out.cell 0
  have fR0 : w7.frozen? ⟨(w.heap.size + 2), 0, none⟩ = false := KR.out.free 0
  have cR1 : w7.cell? ⟨(w.heap.size + 2), 1, none⟩ = some (.int .i64 0) := KR.out.cell 1
  have fR1 : w7.frozen? ⟨(w.heap.size + 2), 1, none⟩ = false := KR.out.free 1
  have cS0 : w7.cell? ⟨w4.heap.size, 0, none⟩ = some (.int .i64 x1) := KS.out.cell 0
  have cS1 : w7.cell? ⟨w4.heap.size, 1, none⟩ = some (.int .i64 x2) := KS.out.cell 1
  by_cases hp : x1 < 0
  · have HR : Hid (rangeF a b ⟨lv, dr, st, de⟩ = ((0, 0), 33)) := Lib.hid (by rw [HRR.out, if_pos (.inl hp)])
    go_wp2
    refine bodyPost_ret (v := .tuple #[.agg #[.int .i64 0, .int .i64 0], .int .i64 33]) (by simp [results, Try.results45, go_sem, *]) rfl ?_
    exact ⟨by rw [HR.out], HX.out.two (by omega) _ _⟩
  by_cases hq : 4194304 < x2
  · have HR : Hid (rangeF a b ⟨lv, dr, st, de⟩ = ((0, 0), 33)) := Lib.hid (by rw [HRR.out, if_pos (.inr hq)])
    go_wp2
    refine bodyPost_ret (v := .tuple #[.agg #[.int .i64 0, .int .i64 0], .int .i64 33]) (by simp [results, Try.results45, go_sem, *]) rfl ?_
    exact ⟨by rw [HR.out], HX.out.two (by omega) _ _⟩
  have HR : Hid (rangeF a b ⟨lv, dr, st, de⟩ = ((x1, x2), 0)) := Lib.hid (by rw [HRR.out, if_neg (by omega)])
  go_wp2
  refine bodyPost_ret (v := .tuple #[.agg #[.int .i64 x1, .int .i64 x2], .int .i64 0]) (by simp [results, Try.results45, go_sem, *]) rfl ?_
  exact ⟨by rw [HR.out], HX.out.two (by omega) _ _⟩

theorem rangeP_any (a b : Int) (d : Det) (w : World) : Calls Try.prog 45 #[.agg #[.int .i64 a, .int .i64 b], .agg #[.int .i64 d.level, .int .i64 d.drop, .int .i64 d.step, .int .i64 d.delay]] w (RetRg w (rangeF a b d)) := by
  obtain ⟨lv, dr, st, de⟩ := d
  by_cases hd : DetOk ⟨lv, dr, st, de⟩
  · by_cases ho : okR a b
    · by_cases h1 : a < -1099511627776
      · exact rangeP_far1 a b lv dr st de w hd ho h1
      by_cases h2 : 1099511627776 < b
      · exact rangeP_far2 a b lv dr st de w hd ho h1 h2
      exact rangeP_ok a b lv dr st de w hd ho h1 h2
    · exact rangeP_val a b lv dr st de w hd ho
  · exact rangeP_det a b lv dr st de w hd

end Go.Proofs.Ytagcgldhhdecjaa
namespace Go.Proofs.Ytagcgldhhdecjaa
open Go.RowKit

def Ret.cells (r : Ret) : List Value := [.int .i64 r.num, .int .i64 r.of, .int .i64 r.lo, .int .i64 r.hi, .int .i64 r.top, .int .i64 r.energy]
/-- Returns as cells. -/
def rtV (rs : List Ret) : List Value := rs.flatMap Ret.cells
theorem rtV_len (rs : List Ret) : (rtV rs).length = rs.length * 6 := by
  induction rs with
  | nil => rfl
  | cons r rs ih => unfold rtV at ih ⊢; rw [List.flatMap_cons, List.length_append, ih]; simp [Ret.cells]; omega
theorem rtV_snoc (rs : List Ret) (r : Ret) : rtV (rs ++ [r]) = rtV rs ++ r.cells := by simp [rtV]
theorem rtV_get {rs : List Ret} {j : Nat} {r : Ret} (h : rs[j]? = some r) : ∀ i u, r.cells[i]? = some u → (rtV rs)[j * 6 + i]? = some u := by
  induction rs generalizing j with
  | nil => simp at h
  | cons x rs ih =>
    intro i u hi
    have e1 : rtV (x :: rs) = x.cells ++ rtV rs := rfl
    have hl : x.cells.length = 6 := rfl
    rw [e1]
    cases j with
    | zero =>
      simp at h; subst h
      have : i < 6 := by have := (List.getElem?_eq_some_iff.1 hi).1; simpa [Ret.cells] using this
      rw [List.getElem?_append_left (by omega)]
      simpa using hi
    | succ j =>
      rw [List.getElem?_append_right (by omega), hl, show (j + 1) * 6 + i - 6 = j * 6 + i by omega]
      exact ih (by simpa using h) i u hi
/-- A slice of returns reads as rs. -/
def RtR (w : World) (A : Option Addr) (n : Nat) (rs : List Ret) : Prop := rs.length = n ∧ At w A (rtV rs)
theorem RtR.ext {w w' : World} {A : Option Addr} {n : Nat} {rs : List Ret} (h : RtR w A n rs) (he : Ext w w') : RtR w' A n rs := ⟨h.1, h.2.ext he⟩
theorem RtR.get {w : World} {A : Option Addr} {n : Nat} {rs : List Ret} (h : RtR w A n rs) {j : Nat} (hj : j < n) : ∃ b off r, A = some ⟨b, off, none⟩ ∧ rs[j]? = some r ∧ ∀ i u, r.cells[i]? = some u → w.cell? ⟨b, off + j * 6 + i, none⟩ = some u := by
  obtain ⟨h1, h2⟩ := h
  have hr : rs[j]? = some rs[j] := List.getElem?_eq_getElem (by omega)
  have g0 := rtV_get hr 0 _ rfl
  obtain ⟨b, off, hA, hc⟩ := h2 (by intro e; rw [e] at g0; simp at g0)
  exact ⟨b, off, _, hA, hr, fun i u hi => by rw [Nat.add_assoc]; exact hc _ _ (rtV_get hr i u hi)⟩
end Go.Proofs.Ytagcgldhhdecjaa
namespace Go.Proofs.Ytagcgldhhdecjaa
open Go.RowKit

def WithE (n : Nat) (e : Ech) : Prop := 0 ≤ e.frm ∧ e.frm < n ∧ e.frm < e.til ∧ e.til ≤ n
instance (n : Nat) (e : Ech) : Decidable (WithE n e) := inferInstanceAs (Decidable (_ ∧ _))
end Go.Proofs.Ytagcgldhhdecjaa
namespace Go.Proofs.Ytagcgldhhdecjaa
open Go.RowKit

theorem elR : Elem Try.prog 58 62 6 48 (.agg #[.int .i64 0, .int .i64 0, .int .i64 0, .int .i64 0, .int .i64 0, .int .i64 0]) := Elem.mk' (by kernel_rfl) (by kernel_rfl) rfl (by decide)
/-- Returns in memory. -/
def RtL (base : Nat) (w : World) (v : Value) (rs : List Ret) : Prop := w.ownsRow base 62 6 v rs.length (rtV rs)
theorem RtL.ext {base : Nat} {w w' : World} {v : Value} {rs : List Ret} (h : RtL base w v rs) (he : Ext w w') : RtL base w' v rs := World.ownsRow.ext' h he
theorem RtL.nil (base : Nat) (w : World) : RtL base w (.slice none 0 0) [] := World.ownsRow_nil _ _ _ _
def RetRt (w : World) (r : List Ret × Int) (e : Ending) (w' : World) : Prop := ∃ v, e = .returned (.tuple #[v, .int .i64 r.2]) ∧ RtL w.heap.size w' v r.1 ∧ Ext w w'
def retO (p : Pul) (d : Det) : List Ret × Int := if ¬ PulOk p then ([], 30) else if ¬ DetOk d then ([], 31) else (retsF p.smp d, 0)
theorem echoesF_ok {l : List Int} {d : Det} (hd : DetOk d) (hs : Smp l) : echoesF l d = ((allE l d).take 15, 0) := by
  unfold echoesF
  rw [if_neg (fun h => h hd)]
  by_cases hl : l = []
  · subst hl
    rw [if_pos rfl]
    rfl
  · rw [if_neg hl, if_neg (fun h => h hs)]
theorem rtV_append (a b : List Ret) : rtV (a ++ b) = rtV a ++ rtV b := by simp [rtV]
theorem rtV_setOf {rs : List Ret} {k m : Nat} (hk : k < rs.length) : (rtV ((rs.take k).map (Ret.setOf m) ++ rs.drop k)).set (k * 6 + 1) (.int .i64 (m : Int)) = rtV ((rs.take (k + 1)).map (Ret.setOf m) ++ rs.drop (k + 1)) := by
  have e1 : rs.drop k = rs[k] :: rs.drop (k + 1) := List.drop_eq_getElem_cons hk
  have e2 : (rs.take (k + 1)).map (Ret.setOf m) = (rs.take k).map (Ret.setOf m) ++ [(rs[k]).setOf m] := by
    rw [List.take_add_one, List.getElem?_eq_getElem hk, List.map_append]
    rfl
  rw [e1, e2, List.append_assoc, rtV_append, rtV_append]
  have hl : (rtV ((rs.take k).map (Ret.setOf m))).length = k * 6 := by rw [rtV_len, List.length_map, List.length_take, Nat.min_eq_left (by omega)]
  rw [List.set_append_right _ _ (by omega), hl, show k * 6 + 1 - k * 6 = 1 by omega]
  rfl
theorem oneR_at {l : List Int} {d : Det} {n : Int} {e : Ech} {lo hi te a b re : Int} (h1 : timeF l e = ((lo, hi), te)) (h2 : rangeF lo hi d = ((a, b), re)) : oneR l d n e = if te ≠ 0 then none else if re ≠ 0 then none else some ⟨n, 0, a, b, e.top, (energyF l e).1⟩ := by
  unfold oneR
  rw [h1]
  simp only
  rw [h2]
theorem retO_head {p : Pul} {d : Det} : (¬ PulOk p → retO p d = ([], 30)) ∧ (PulOk p → ¬ DetOk d → retO p d = ([], 31)) ∧ (PulOk p → DetOk d → retO p d = (retsF p.smp d, 0)) := by
  unfold retO
  refine ⟨fun h => if_pos h, fun h h' => ?_, fun h h' => ?_⟩
  · rw [if_neg (fun k => k h), if_pos h']
  · rw [if_neg (fun k => k h), if_neg (fun k => k h')]

set_option maxRecDepth 100000 in
set_option maxHeartbeats 8000000 in
theorem returnsP_bad (A : Option Addr) (n c : Nat) (tm x0 x1 x2 x3 : Int) (l : List Int) (lv dr st de : Int) (w : World) (hp : ¬ PulOk ⟨tm, x0, x1, x2, x3, l⟩) (h : Ints .i64 w A n l) (hcap : n ≤ c ∧ c ≤ 9223372036854775807) :
    Calls Try.prog 52 #[.agg #[.int .i64 tm, .int .i64 x0, .int .i64 x1, .int .i64 x2, .int .i64 x3, .slice A n c], .agg #[.int .i64 lv, .int .i64 dr, .int .i64 st, .int .i64 de]] w (RetRt w (retO ⟨tm, x0, x1, x2, x3, l⟩ ⟨lv, dr, st, de⟩)) := by
  have QP : Hid (decide (PulOk ⟨tm, x0, x1, x2, x3, l⟩) = false) := Lib.hid (decide_eq_false hp)
  have HB : Hid (retO ⟨tm, x0, x1, x2, x3, l⟩ ⟨lv, dr, st, de⟩ = ([], 30)) := Lib.hid (retO_head.1 hp)
  clear hp
  have H := Lib.hid h
  have HC := Lib.hid hcap
  clear h hcap
  have hXe : Ext w ((w.alloc (.cells #[.int .i64 tm, .int .i64 x0, .int .i64 x1, .int .i64 x2, .int .i64 x3, .slice A n c] 71)).alloc (.cells #[.int .i64 lv, .int .i64 dr, .int .i64 st, .int .i64 de] 33)) := (((Ext.refl w).alloc _).alloc _)
  have kP : Blk ((w.alloc (.cells #[.int .i64 tm, .int .i64 x0, .int .i64 x1, .int .i64 x2, .int .i64 x3, .slice A n c] 71)).alloc (.cells #[.int .i64 lv, .int .i64 dr, .int .i64 st, .int .i64 de] 33)) w.heap.size 71 #[.int .i64 tm, .int .i64 x0, .int .i64 x1, .int .i64 x2, .int .i64 x3, .slice A n c] := Blk.alloc (Blk.at_ (by simp)) _
  have kD : Blk ((w.alloc (.cells #[.int .i64 tm, .int .i64 x0, .int .i64 x1, .int .i64 x2, .int .i64 x3, .slice A n c] 71)).alloc (.cells #[.int .i64 lv, .int .i64 dr, .int .i64 st, .int .i64 de] 33)) (w.heap.size + 1) 33 #[.int .i64 lv, .int .i64 dr, .int .i64 st, .int .i64 de] := Blk.at_ (by simp)
  go_enter Try.func52, Try.ntmps52
  go_wp2_with fail
  generalize ((w.alloc (.cells #[.int .i64 tm, .int .i64 x0, .int .i64 x1, .int .i64 x2, .int .i64 x3, .slice A n c] 71)).alloc (.cells #[.int .i64 lv, .int .i64 dr, .int .i64 st, .int .i64 de] 33)) = w1 at hXe kP kD ⊢
  have HX := Lib.hid hXe
  clear hXe
  have KP := Lib.hid kP
  clear kP
  have KD := Lib.hid kD
  clear kD
  have cP0 : w1.cell? ⟨w.heap.size, 0, none⟩ = some (.int .i64 tm) := KP.out.cell 0
  have cP1 : w1.cell? ⟨w.heap.size, 1, none⟩ = some (.int .i64 x0) := KP.out.cell 1
  have cP2 : w1.cell? ⟨w.heap.size, 2, none⟩ = some (.int .i64 x1) := KP.out.cell 2
  have cP3 : w1.cell? ⟨w.heap.size, 3, none⟩ = some (.int .i64 x2) := KP.out.cell 3
  have cP4 : w1.cell? ⟨w.heap.size, 4, none⟩ = some (.int .i64 x3) := KP.out.cell 4
  have cP5 : w1.cell? ⟨w.heap.size, 5, none⟩ = some (.slice A n c) := KP.out.cell 5
  clear cP0 cP1 cP2 cP3 cP4 cP5
  refine (validP_any ⟨tm, x0, x1, x2, x3, l⟩ A n c _ (H.out.ext HX.out)).mono ?_
  rw [QP.out]
  rintro e w2 ⟨rfl, hX⟩
  replace hX : Ext w1 w2 := by with_reducible exact hX
  replace HX := Lib.hid (HX.out.trans hX)
  replace KP := Lib.hid (KP.out.ext hX)
  replace KD := Lib.hid (KD.out.ext hX)
  clear hX
  go_wp2
  go_ret2
  exact ⟨_, by rw [HB.out]; rfl, by rw [HB.out]; exact RtL.nil _ _, HX.out⟩

set_option maxRecDepth 100000 in
set_option maxHeartbeats 8000000 in
theorem returnsP_det (A : Option Addr) (n c : Nat) (tm x0 x1 x2 x3 : Int) (l : List Int) (lv dr st de : Int) (w : World) (hp : PulOk ⟨tm, x0, x1, x2, x3, l⟩) (hd : ¬ DetOk ⟨lv, dr, st, de⟩) (h : Ints .i64 w A n l) (hcap : n ≤ c ∧ c ≤ 9223372036854775807) :
    Calls Try.prog 52 #[.agg #[.int .i64 tm, .int .i64 x0, .int .i64 x1, .int .i64 x2, .int .i64 x3, .slice A n c], .agg #[.int .i64 lv, .int .i64 dr, .int .i64 st, .int .i64 de]] w (RetRt w (retO ⟨tm, x0, x1, x2, x3, l⟩ ⟨lv, dr, st, de⟩)) := by
  have QP : Hid (decide (PulOk ⟨tm, x0, x1, x2, x3, l⟩) = true) := Lib.hid (decide_eq_true hp)
  have QD : Hid (decide (DetOk ⟨lv, dr, st, de⟩) = false) := Lib.hid (decide_eq_false hd)
  have HB : Hid (retO ⟨tm, x0, x1, x2, x3, l⟩ ⟨lv, dr, st, de⟩ = ([], 31)) := Lib.hid (retO_head.2.1 hp hd)
  have HE : Hid (echoesF l ⟨lv, dr, st, de⟩ = ([], 31)) := Lib.hid (by unfold echoesF; rw [if_pos hd])
  clear hp hd
  have H := Lib.hid h
  have HC := Lib.hid hcap
  clear h hcap
  have hXe : Ext w ((w.alloc (.cells #[.int .i64 tm, .int .i64 x0, .int .i64 x1, .int .i64 x2, .int .i64 x3, .slice A n c] 71)).alloc (.cells #[.int .i64 lv, .int .i64 dr, .int .i64 st, .int .i64 de] 33)) := (((Ext.refl w).alloc _).alloc _)
  have kP : Blk ((w.alloc (.cells #[.int .i64 tm, .int .i64 x0, .int .i64 x1, .int .i64 x2, .int .i64 x3, .slice A n c] 71)).alloc (.cells #[.int .i64 lv, .int .i64 dr, .int .i64 st, .int .i64 de] 33)) w.heap.size 71 #[.int .i64 tm, .int .i64 x0, .int .i64 x1, .int .i64 x2, .int .i64 x3, .slice A n c] := Blk.alloc (Blk.at_ (by simp)) _
  have kD : Blk ((w.alloc (.cells #[.int .i64 tm, .int .i64 x0, .int .i64 x1, .int .i64 x2, .int .i64 x3, .slice A n c] 71)).alloc (.cells #[.int .i64 lv, .int .i64 dr, .int .i64 st, .int .i64 de] 33)) (w.heap.size + 1) 33 #[.int .i64 lv, .int .i64 dr, .int .i64 st, .int .i64 de] := Blk.at_ (by simp)
  go_enter Try.func52, Try.ntmps52
  go_wp2_with fail
  generalize ((w.alloc (.cells #[.int .i64 tm, .int .i64 x0, .int .i64 x1, .int .i64 x2, .int .i64 x3, .slice A n c] 71)).alloc (.cells #[.int .i64 lv, .int .i64 dr, .int .i64 st, .int .i64 de] 33)) = w1 at hXe kP kD ⊢
  have HX := Lib.hid hXe
  clear hXe
  have KP := Lib.hid kP
  clear kP
  have KD := Lib.hid kD
  clear kD
  have cP0 : w1.cell? ⟨w.heap.size, 0, none⟩ = some (.int .i64 tm) := KP.out.cell 0
  have cP1 : w1.cell? ⟨w.heap.size, 1, none⟩ = some (.int .i64 x0) := KP.out.cell 1
  have cP2 : w1.cell? ⟨w.heap.size, 2, none⟩ = some (.int .i64 x1) := KP.out.cell 2
  have cP3 : w1.cell? ⟨w.heap.size, 3, none⟩ = some (.int .i64 x2) := KP.out.cell 3
  have cP4 : w1.cell? ⟨w.heap.size, 4, none⟩ = some (.int .i64 x3) := KP.out.cell 4
  have cP5 : w1.cell? ⟨w.heap.size, 5, none⟩ = some (.slice A n c) := KP.out.cell 5
  clear cP0 cP1 cP2 cP3 cP4 cP5
  refine (validP_any ⟨tm, x0, x1, x2, x3, l⟩ A n c _ (H.out.ext HX.out)).mono ?_
  rw [QP.out]
  rintro e w2 ⟨rfl, hX⟩
  replace hX : Ext w1 w2 := by with_reducible exact hX
  replace HX := Lib.hid (HX.out.trans hX)
  replace KP := Lib.hid (KP.out.ext hX)
  replace KD := Lib.hid (KD.out.ext hX)
  clear hX
  have cP0 : w2.cell? ⟨w.heap.size, 0, none⟩ = some (.int .i64 tm) := KP.out.cell 0
  have cP1 : w2.cell? ⟨w.heap.size, 1, none⟩ = some (.int .i64 x0) := KP.out.cell 1
  have cP2 : w2.cell? ⟨w.heap.size, 2, none⟩ = some (.int .i64 x1) := KP.out.cell 2
  have cP3 : w2.cell? ⟨w.heap.size, 3, none⟩ = some (.int .i64 x2) := KP.out.cell 3
  have cP4 : w2.cell? ⟨w.heap.size, 4, none⟩ = some (.int .i64 x3) := KP.out.cell 4
  have cP5 : w2.cell? ⟨w.heap.size, 5, none⟩ = some (.slice A n c) := KP.out.cell 5
  have cD0 : w2.cell? ⟨(w.heap.size + 1), 0, none⟩ = some (.int .i64 lv) := KD.out.cell 0
  have cD1 : w2.cell? ⟨(w.heap.size + 1), 1, none⟩ = some (.int .i64 dr) := KD.out.cell 1
  have cD2 : w2.cell? ⟨(w.heap.size + 1), 2, none⟩ = some (.int .i64 st) := KD.out.cell 2
  have cD3 : w2.cell? ⟨(w.heap.size + 1), 3, none⟩ = some (.int .i64 de) := KD.out.cell 3
  go_wp2_with fail
  clear cP0 cP1 cP2 cP3 cP4 cP5 cD0 cD1 cD2 cD3
  refine (echoes_any A n c l ⟨lv, dr, st, de⟩ _ (H.out.ext HX.out)).mono ?_
  rw [HE.out]
  rintro e w3 ⟨v9, rfl, _, hX⟩
  replace hX : Ext w2 w3 := by with_reducible exact hX
  replace HX := Lib.hid (HX.out.trans hX)
  replace KP := Lib.hid (KP.out.ext hX)
  replace KD := Lib.hid (KD.out.ext hX)
  clear hX
  go_wp2
  go_ret2
  exact ⟨_, by rw [HB.out]; rfl, by rw [HB.out]; exact RtL.nil _ _, HX.out⟩

set_option maxRecDepth 100000 in
set_option maxHeartbeats 8000000 in
theorem returnsP_ok (A : Option Addr) (n c : Nat) (tm x0 x1 x2 x3 : Int) (l : List Int) (lv dr st de : Int) (w : World) (hp : PulOk ⟨tm, x0, x1, x2, x3, l⟩) (hd : DetOk ⟨lv, dr, st, de⟩) (h : Ints .i64 w A n l) (hcap : n ≤ c ∧ c ≤ 9223372036854775807) :
    Calls Try.prog 52 #[.agg #[.int .i64 tm, .int .i64 x0, .int .i64 x1, .int .i64 x2, .int .i64 x3, .slice A n c], .agg #[.int .i64 lv, .int .i64 dr, .int .i64 st, .int .i64 de]] w (RetRt w (retO ⟨tm, x0, x1, x2, x3, l⟩ ⟨lv, dr, st, de⟩)) := by
  have QP : Hid (decide (PulOk ⟨tm, x0, x1, x2, x3, l⟩) = true) := Lib.hid (decide_eq_true hp)
  have QD : Hid (decide (DetOk ⟨lv, dr, st, de⟩) = true) := Lib.hid (decide_eq_true hd)
  have HB : Hid (retO ⟨tm, x0, x1, x2, x3, l⟩ ⟨lv, dr, st, de⟩ = ((retsN l ⟨lv, dr, st, de⟩ 0 ((allE l ⟨lv, dr, st, de⟩).take 15)).map (Ret.setOf (retsN l ⟨lv, dr, st, de⟩ 0 ((allE l ⟨lv, dr, st, de⟩).take 15)).length), 0)) := Lib.hid (retO_head.2.2 hp hd)
  have HE : Hid (echoesF l ⟨lv, dr, st, de⟩ = ((allE l ⟨lv, dr, st, de⟩).take 15, 0)) := Lib.hid (echoesF_ok hd hp.2.2.2.1)
  have hN15 : ((allE l ⟨lv, dr, st, de⟩).take 15).length ≤ 15 := List.length_take_le _ _
  generalize (allE l ⟨lv, dr, st, de⟩).take 15 = es at HB HE hN15
  obtain ⟨N, hN⟩ : ∃ N, es.length = N := ⟨_, rfl⟩
  rw [hN] at hN15
  have HN := Lib.hid hN
  clear hp hd hN
  have H := Lib.hid h
  have HC := Lib.hid hcap
  clear h hcap
  have hXe : Ext w ((w.alloc (.cells #[.int .i64 tm, .int .i64 x0, .int .i64 x1, .int .i64 x2, .int .i64 x3, .slice A n c] 71)).alloc (.cells #[.int .i64 lv, .int .i64 dr, .int .i64 st, .int .i64 de] 33)) := (((Ext.refl w).alloc _).alloc _)
  have kP : Blk ((w.alloc (.cells #[.int .i64 tm, .int .i64 x0, .int .i64 x1, .int .i64 x2, .int .i64 x3, .slice A n c] 71)).alloc (.cells #[.int .i64 lv, .int .i64 dr, .int .i64 st, .int .i64 de] 33)) w.heap.size 71 #[.int .i64 tm, .int .i64 x0, .int .i64 x1, .int .i64 x2, .int .i64 x3, .slice A n c] := Blk.alloc (Blk.at_ (by simp)) _
  have kD : Blk ((w.alloc (.cells #[.int .i64 tm, .int .i64 x0, .int .i64 x1, .int .i64 x2, .int .i64 x3, .slice A n c] 71)).alloc (.cells #[.int .i64 lv, .int .i64 dr, .int .i64 st, .int .i64 de] 33)) (w.heap.size + 1) 33 #[.int .i64 lv, .int .i64 dr, .int .i64 st, .int .i64 de] := Blk.at_ (by simp)
  go_enter Try.func52, Try.ntmps52
  go_wp2_with fail
  generalize ((w.alloc (.cells #[.int .i64 tm, .int .i64 x0, .int .i64 x1, .int .i64 x2, .int .i64 x3, .slice A n c] 71)).alloc (.cells #[.int .i64 lv, .int .i64 dr, .int .i64 st, .int .i64 de] 33)) = w1 at hXe kP kD ⊢
  have HX := Lib.hid hXe
  clear hXe
  have KP := Lib.hid kP
  clear kP
  have KD := Lib.hid kD
  clear kD
  have cP0 : w1.cell? ⟨w.heap.size, 0, none⟩ = some (.int .i64 tm) := KP.out.cell 0
  have cP1 : w1.cell? ⟨w.heap.size, 1, none⟩ = some (.int .i64 x0) := KP.out.cell 1
  have cP2 : w1.cell? ⟨w.heap.size, 2, none⟩ = some (.int .i64 x1) := KP.out.cell 2
  have cP3 : w1.cell? ⟨w.heap.size, 3, none⟩ = some (.int .i64 x2) := KP.out.cell 3
  have cP4 : w1.cell? ⟨w.heap.size, 4, none⟩ = some (.int .i64 x3) := KP.out.cell 4
  have cP5 : w1.cell? ⟨w.heap.size, 5, none⟩ = some (.slice A n c) := KP.out.cell 5
  clear cP0 cP1 cP2 cP3 cP4 cP5
  refine (validP_any ⟨tm, x0, x1, x2, x3, l⟩ A n c _ (H.out.ext HX.out)).mono ?_
  rw [QP.out]
  rintro e w2 ⟨rfl, hX⟩
  replace hX : Ext w1 w2 := by with_reducible exact hX
  replace HX := Lib.hid (HX.out.trans hX)
  replace KP := Lib.hid (KP.out.ext hX)
  replace KD := Lib.hid (KD.out.ext hX)
  clear hX
  have cP0 : w2.cell? ⟨w.heap.size, 0, none⟩ = some (.int .i64 tm) := KP.out.cell 0
  have cP1 : w2.cell? ⟨w.heap.size, 1, none⟩ = some (.int .i64 x0) := KP.out.cell 1
  have cP2 : w2.cell? ⟨w.heap.size, 2, none⟩ = some (.int .i64 x1) := KP.out.cell 2
  have cP3 : w2.cell? ⟨w.heap.size, 3, none⟩ = some (.int .i64 x2) := KP.out.cell 3
  have cP4 : w2.cell? ⟨w.heap.size, 4, none⟩ = some (.int .i64 x3) := KP.out.cell 4
  have cP5 : w2.cell? ⟨w.heap.size, 5, none⟩ = some (.slice A n c) := KP.out.cell 5
  have cD0 : w2.cell? ⟨(w.heap.size + 1), 0, none⟩ = some (.int .i64 lv) := KD.out.cell 0
  have cD1 : w2.cell? ⟨(w.heap.size + 1), 1, none⟩ = some (.int .i64 dr) := KD.out.cell 1
  have cD2 : w2.cell? ⟨(w.heap.size + 1), 2, none⟩ = some (.int .i64 st) := KD.out.cell 2
  have cD3 : w2.cell? ⟨(w.heap.size + 1), 3, none⟩ = some (.int .i64 de) := KD.out.cell 3
  go_wp2_with fail
  clear cP0 cP1 cP2 cP3 cP4 cP5 cD0 cD1 cD2 cD3
  refine (echoes_any A n c l ⟨lv, dr, st, de⟩ _ (H.out.ext HX.out)).mono ?_
  rw [HE.out]
  rintro e w3 ⟨v9, rfl, hE, hX⟩
  replace hX : Ext w2 w3 := by with_reducible exact hX
  replace HX := Lib.hid (HX.out.trans hX)
  replace KP := Lib.hid (KP.out.ext hX)
  replace KD := Lib.hid (KD.out.ext hX)
  clear hX
  simp only at hE
  obtain ⟨Ae, ce, rfl⟩ := own_slice hE
  rw [HN.out] at hE ⊢
  have HEC := Lib.hid hE
  clear hE
  generalize w2.heap.size = B at HEC
  go_wp2_with fail
  go_loopg [8, 32] N (fun f ov iv wr => ∃ (k : Nat) (rs : List Ret), f = N - k ∧ k ≤ N ∧ rs.length ≤ k ∧ iv = .int .i64 (k : Int) ∧ Hid (retsN l ⟨lv, dr, st, de⟩ 0 (es.take k) = rs) ∧ Hid (RtL w.heap.size wr ov rs) ∧ Hid (EcL B wr (.slice Ae N ce) es) ∧ Hid (Blk wr w.heap.size 71 #[.int .i64 tm, .int .i64 x0, .int .i64 x1, .int .i64 x2, .int .i64 x3, .slice A n c]) ∧ Hid (Blk wr (w.heap.size + 1) 33 #[.int .i64 lv, .int .i64 dr, .int .i64 st, .int .i64 de]) ∧ Hid (Ext w wr))
  case atStart => exact ⟨0, [], rfl, by omega, by simp, rfl, Lib.hid rfl, Lib.hid (RtL.nil _ _), HEC, KP, KD, HX⟩
  case round =>
    clear HEC KP KD HX
    obtain ⟨k, rs, rfl, hk, hrl, rfl, HRS, HO, HEC, KP, KD, HX⟩ := hrel
    obtain ⟨A1, c1, hso⟩ := own_slice HO.out
    subst hso
    obtain ⟨oz, hoz⟩ : ∃ oz, rs.length = oz := ⟨_, rfl⟩
    have HOZ := Lib.hid hoz
    rw [hoz] at hrl HO ⊢
    clear hoz
    by_cases hlt : k < N
    · have q1 : decide (k < N) = true := decide_eq_true hlt
      obtain ⟨ge, ce', x, hve, hr, hc⟩ := HEC.out.get (by rw [HN.out]; exact hlt)
      injection hve with hve hve2 hve3
      subst hve
      clear hve2 hve3
      have hsn := retsN_snoc l ⟨lv, dr, st, de⟩ 0 (es.take k) x
      rw [HRS.out, Nat.zero_add, HOZ.out] at hsn
      have hone : ∀ lo hi te a b re, timeF l x = ((lo, hi), te) → rangeF lo hi ⟨lv, dr, st, de⟩ = ((a, b), re) → retsN l ⟨lv, dr, st, de⟩ 0 (es.take (k + 1)) = rs ++ (if te ≠ 0 then none else if re ≠ 0 then none else some (⟨(oz : Int) + 1, 0, a, b, x.top, (energyF l x).1⟩ : Ret)).toList := fun lo hi te a b re h1 h2 => by
        rw [List.take_add_one, hr, Option.toList_some, hsn, oneR_at h1 h2]
      obtain ⟨y0, y1, y2, y3, y4⟩ := x
      obtain ⟨⟨⟨lo, hi⟩, te⟩, hT⟩ : ∃ r, timeF l ⟨y0, y1, y2, y3, y4⟩ = r := ⟨_, rfl⟩
      obtain ⟨⟨⟨a, b⟩, re⟩, hR⟩ : ∃ r, rangeF lo hi ⟨lv, dr, st, de⟩ = r := ⟨_, rfl⟩
      obtain ⟨⟨en, ee⟩, hG⟩ : ∃ r, energyF l ⟨y0, y1, y2, y3, y4⟩ = r := ⟨_, rfl⟩
      have hone2 := hone lo hi te a b re hT hR
      rw [hG] at hone2
      simp only at hone2
      have HT := Lib.hid hT
      have HR := Lib.hid hR
      have HG := Lib.hid hG
      have HRK := Lib.hid hr
      have HONE := Lib.hid hone2
      have a0 := hc 0 _ rfl
      have a1 := hc 1 _ rfl
      have a2 := hc 2 _ rfl
      have a3 := hc 3 _ rfl
      have a4 := hc 4 _ rfl
      simp only [Nat.add_zero] at a0
      simp only at a0 a1 a2 a3 a4
      clear hc hr hsn hone hT hR hG hone2
      go_upto_region 10 with (fail)
      clear a0 a1 a2 a3 a4
      have hXa : Ext wr (wr.alloc (.cells #[.int .i64 y0, .int .i64 y1, .int .i64 y2, .int .i64 y3, .int .i64 y4] 42)) := (Ext.refl _).alloc _
      have kX := Blk.new wr 42 #[.int .i64 y0, .int .i64 y1, .int .i64 y2, .int .i64 y3, .int .i64 y4]
      have zP := KP.out.lt
      have zD := KD.out.lt
      have zg := HX.out.size
      replace HX := Lib.hid (HX.out.trans hXa)
      replace HEC := Lib.hid (HEC.out.ext hXa)
      replace HO := Lib.hid (HO.out.ext hXa)
      replace KP := Lib.hid (KP.out.ext hXa)
      replace KD := Lib.hid (KD.out.ext hXa)
      generalize (wr.alloc (.cells #[.int .i64 y0, .int .i64 y1, .int .i64 y2, .int .i64 y3, .int .i64 y4] 42)) = w4 at HX HEC HO KP KD kX ⊢
      have KX := Lib.hid kX
      clear kX hXa
      have cP0 : w4.cell? ⟨w.heap.size, 0, none⟩ = some (.int .i64 tm) := KP.out.cell 0
      have cP1 : w4.cell? ⟨w.heap.size, 1, none⟩ = some (.int .i64 x0) := KP.out.cell 1
      have cP2 : w4.cell? ⟨w.heap.size, 2, none⟩ = some (.int .i64 x1) := KP.out.cell 2
      have cP3 : w4.cell? ⟨w.heap.size, 3, none⟩ = some (.int .i64 x2) := KP.out.cell 3
      have cP4 : w4.cell? ⟨w.heap.size, 4, none⟩ = some (.int .i64 x3) := KP.out.cell 4
      have cP5 : w4.cell? ⟨w.heap.size, 5, none⟩ = some (.slice A n c) := KP.out.cell 5
      have cX0 : w4.cell? ⟨wr.heap.size, 0, none⟩ = some (.int .i64 y0) := KX.out.cell 0
      have cX1 : w4.cell? ⟨wr.heap.size, 1, none⟩ = some (.int .i64 y1) := KX.out.cell 1
      have cX2 : w4.cell? ⟨wr.heap.size, 2, none⟩ = some (.int .i64 y2) := KX.out.cell 2
      have cX3 : w4.cell? ⟨wr.heap.size, 3, none⟩ = some (.int .i64 y3) := KX.out.cell 3
      have cX4 : w4.cell? ⟨wr.heap.size, 4, none⟩ = some (.int .i64 y4) := KX.out.cell 4
      go_wp2_with fail
      clear cP0 cP1 cP2 cP3 cP4 cP5 cX0 cX1 cX2 cX3 cX4
      refine (time_any A n c l y0 y1 y2 y3 y4 _ (H.out.ext HX.out)).mono ?_
      rw [HT.out]
      rintro e w5 ⟨rfl, hX⟩
      replace hX : Ext w4 w5 := by with_reducible exact hX
      replace HX := Lib.hid (HX.out.trans hX)
      replace HEC := Lib.hid (HEC.out.ext hX)
      replace HO := Lib.hid (HO.out.ext hX)
      replace KP := Lib.hid (KP.out.ext hX)
      replace KD := Lib.hid (KD.out.ext hX)
      replace KX := Lib.hid (KX.out.ext hX)
      clear hX
      go_upto_region 11 with (fail)
      have hXa : Ext w5 (w5.alloc (.cells #[.int .i64 lo, .int .i64 hi] 44)) := (Ext.refl _).alloc _
      have kS := Blk.new w5 44 #[.int .i64 lo, .int .i64 hi]
      have zP := KP.out.lt
      have zD := KD.out.lt
      have zX := KX.out.lt
      have zg := HX.out.size
      replace HX := Lib.hid (HX.out.trans hXa)
      replace HEC := Lib.hid (HEC.out.ext hXa)
      replace HO := Lib.hid (HO.out.ext hXa)
      replace KP := Lib.hid (KP.out.ext hXa)
      replace KD := Lib.hid (KD.out.ext hXa)
      replace KX := Lib.hid (KX.out.ext hXa)
      generalize (w5.alloc (.cells #[.int .i64 lo, .int .i64 hi] 44)) = w6 at HX HEC HO KP KD KX kS ⊢
      have KS := Lib.hid kS
      clear kS hXa
      by_cases hte : ¬ te = 0
      · have gte : (te != 0) = true := by simpa using hte
        have HteN := Lib.hid hte
        clear hte
        go_wp2_with fail
        go_roundg (N - (k + 1))
        case rel => exact ⟨k + 1, rs, rfl, by omega, by rw [HOZ.out]; omega, by go_num, Lib.hid (by rw [HONE.out, if_pos HteN.out]; simp), HO, HEC, KP, KD, HX⟩
        case measure => omega
      obtain rfl : te = 0 := Decidable.not_not.1 hte
      clear hte
      have cD0 : w6.cell? ⟨(w.heap.size + 1), 0, none⟩ = some (.int .i64 lv) := KD.out.cell 0
      have cD1 : w6.cell? ⟨(w.heap.size + 1), 1, none⟩ = some (.int .i64 dr) := KD.out.cell 1
      have cD2 : w6.cell? ⟨(w.heap.size + 1), 2, none⟩ = some (.int .i64 st) := KD.out.cell 2
      have cD3 : w6.cell? ⟨(w.heap.size + 1), 3, none⟩ = some (.int .i64 de) := KD.out.cell 3
      have cS0 : w6.cell? ⟨w5.heap.size, 0, none⟩ = some (.int .i64 lo) := KS.out.cell 0
      have cS1 : w6.cell? ⟨w5.heap.size, 1, none⟩ = some (.int .i64 hi) := KS.out.cell 1
      go_wp2_with fail
      clear cD0 cD1 cD2 cD3 cS0 cS1
      refine (rangeP_any lo hi ⟨lv, dr, st, de⟩ _).mono ?_
      rw [HR.out]
      rintro e w7 ⟨rfl, hX⟩
      replace hX : Ext w6 w7 := by with_reducible exact hX
      replace HX := Lib.hid (HX.out.trans hX)
      replace HEC := Lib.hid (HEC.out.ext hX)
      replace HO := Lib.hid (HO.out.ext hX)
      replace KP := Lib.hid (KP.out.ext hX)
      replace KD := Lib.hid (KD.out.ext hX)
      replace KX := Lib.hid (KX.out.ext hX)
      replace KS := Lib.hid (KS.out.ext hX)
      clear hX
      go_upto_region 13 with (fail)
      have hXa : Ext w7 (w7.alloc (.cells #[.int .i64 a, .int .i64 b] 44)) := (Ext.refl _).alloc _
      have kR := Blk.new w7 44 #[.int .i64 a, .int .i64 b]
      have zP := KP.out.lt
      have zD := KD.out.lt
      have zX := KX.out.lt
      have zS := KS.out.lt
      have zg := HX.out.size
      replace HX := Lib.hid (HX.out.trans hXa)
      replace HEC := Lib.hid (HEC.out.ext hXa)
      replace HO := Lib.hid (HO.out.ext hXa)
      replace KP := Lib.hid (KP.out.ext hXa)
      replace KD := Lib.hid (KD.out.ext hXa)
      replace KX := Lib.hid (KX.out.ext hXa)
      replace KS := Lib.hid (KS.out.ext hXa)
      generalize (w7.alloc (.cells #[.int .i64 a, .int .i64 b] 44)) = w8 at HX HEC HO KP KD KX KS kR ⊢
      have KR := Lib.hid kR
      clear kR hXa
      by_cases hre : ¬ re = 0
      · have gre : (re != 0) = true := by simpa using hre
        have HreN := Lib.hid hre
        clear hre
        go_wp2_with fail
        go_roundg (N - (k + 1))
        case rel => exact ⟨k + 1, rs, rfl, by omega, by rw [HOZ.out]; omega, by go_num, Lib.hid (by rw [HONE.out, if_neg (by simp), if_pos HreN.out]; simp), HO, HEC, KP, KD, HX⟩
        case measure => omega
      obtain rfl : re = 0 := Decidable.not_not.1 hre
      clear hre
      have cP0 : w8.cell? ⟨w.heap.size, 0, none⟩ = some (.int .i64 tm) := KP.out.cell 0
      have cP1 : w8.cell? ⟨w.heap.size, 1, none⟩ = some (.int .i64 x0) := KP.out.cell 1
      have cP2 : w8.cell? ⟨w.heap.size, 2, none⟩ = some (.int .i64 x1) := KP.out.cell 2
      have cP3 : w8.cell? ⟨w.heap.size, 3, none⟩ = some (.int .i64 x2) := KP.out.cell 3
      have cP4 : w8.cell? ⟨w.heap.size, 4, none⟩ = some (.int .i64 x3) := KP.out.cell 4
      have cP5 : w8.cell? ⟨w.heap.size, 5, none⟩ = some (.slice A n c) := KP.out.cell 5
      have cX0 : w8.cell? ⟨wr.heap.size, 0, none⟩ = some (.int .i64 y0) := KX.out.cell 0
      have cX1 : w8.cell? ⟨wr.heap.size, 1, none⟩ = some (.int .i64 y1) := KX.out.cell 1
      have cX2 : w8.cell? ⟨wr.heap.size, 2, none⟩ = some (.int .i64 y2) := KX.out.cell 2
      have cX3 : w8.cell? ⟨wr.heap.size, 3, none⟩ = some (.int .i64 y3) := KX.out.cell 3
      have cX4 : w8.cell? ⟨wr.heap.size, 4, none⟩ = some (.int .i64 y4) := KX.out.cell 4
      go_wp2_with fail
      clear cP0 cP1 cP2 cP3 cP4 cP5 cX0 cX1 cX2 cX3 cX4
      refine (energy_any A n c l y0 y1 y2 y3 y4 _ (H.out.ext HX.out) HC.out).mono ?_
      rw [HG.out]
      rintro e w9 ⟨rfl, hX⟩
      replace hX : Ext w8 w9 := by with_reducible exact hX
      replace HX := Lib.hid (HX.out.trans hX)
      replace HEC := Lib.hid (HEC.out.ext hX)
      replace HO := Lib.hid (HO.out.ext hX)
      replace KP := Lib.hid (KP.out.ext hX)
      replace KD := Lib.hid (KD.out.ext hX)
      replace KX := Lib.hid (KX.out.ext hX)
      replace KS := Lib.hid (KS.out.ext hX)
      replace KR := Lib.hid (KR.out.ext hX)
      clear hX
      have cX0 : w9.cell? ⟨wr.heap.size, 0, none⟩ = some (.int .i64 y0) := KX.out.cell 0
      have cX1 : w9.cell? ⟨wr.heap.size, 1, none⟩ = some (.int .i64 y1) := KX.out.cell 1
      have cX2 : w9.cell? ⟨wr.heap.size, 2, none⟩ = some (.int .i64 y2) := KX.out.cell 2
      have cX3 : w9.cell? ⟨wr.heap.size, 3, none⟩ = some (.int .i64 y3) := KX.out.cell 3
      have cX4 : w9.cell? ⟨wr.heap.size, 4, none⟩ = some (.int .i64 y4) := KX.out.cell 4
      have cR0 : w9.cell? ⟨w7.heap.size, 0, none⟩ = some (.int .i64 a) := KR.out.cell 0
      have cR1 : w9.cell? ⟨w7.heap.size, 1, none⟩ = some (.int .i64 b) := KR.out.cell 1
      have hown : w9.ownsRow w.heap.size 62 6 (.slice A1 oz c1) oz (rtV rs) := by
        have h1 := HO.out
        unfold RtL at h1
        rw [HOZ.out] at h1
        exact h1
      have hsz := HX.out.size
      go_wp2_with (at_builtin; refine wpList_app _ elR rfl _ _ rfl w.heap.size (.slice A1 oz c1) oz (rtV rs) rfl (hown.alloc _) _ 1 1 [.int .i64 ((oz : Int) + 1), .int .i64 0, .int .i64 a, .int .i64 b, .int .i64 y4, .int .i64 en] rfl rfl (At.new' _ [_, _, _, _, _, _] _ rfl) (by simp [Value.oneCell']) (by omega) (by unfold maxLen; omega) (by simp; omega) ?_; intro v5 w5 hown5 hgr5 _; have HX5 := Lib.hid (HX.out.push hown hgr5); have HK5 := Lib.hid (Keeps.of_grown (L := (Value.slice A1 oz c1).ownBlock.toList) hgr5 (fun k hk => by rw [hk]; simp)); have HOW5 := Lib.hid hown5; clear hown5 hgr5)
      have hal := (Ext.refl w9).alloc (.cells #[.int .i64 ((oz : Int) + 1), .int .i64 0, .int .i64 a, .int .i64 b, .int .i64 y4, .int .i64 en] 62)
      have hno : ∀ tb, 62 ≠ tb → ∀ k ∈ (Value.slice A1 oz c1).ownBlock.toList, NoRow tb (w9.alloc (.cells #[.int .i64 ((oz : Int) + 1), .int .i64 0, .int .i64 a, .int .i64 b, .int .i64 y4, .int .i64 en] 62)) k := fun tb h k hk => NoRow.of_own (hown.alloc _) (by simpa using hk) h
      go_roundg (N - (k + 1))
      case rel =>
        refine ⟨k + 1, rs ++ [⟨(oz : Int) + 1, 0, a, b, y4, en⟩], rfl, by omega, by rw [List.length_append, HOZ.out]; simp; omega, by go_num, Lib.hid (by rw [HONE.out, if_neg (by simp), if_neg (by simp)]; rfl), Lib.hid ?_, Lib.hid (row_away (HEC.out.ext hal) HK5.out (hno _ (by decide))), Lib.hid (blk_away (KP.out.ext hal) HK5.out (hno _ (by decide))), Lib.hid (blk_away (KD.out.ext hal) HK5.out (hno _ (by decide))), HX5⟩
        unfold RtL
        rw [rtV_snoc, List.length_append, HOZ.out]
        exact HOW5.out
      case measure => omega
    · obtain rfl : k = N := by omega
      have HRA : Hid (retsN l ⟨lv, dr, st, de⟩ 0 es = rs) := Lib.hid (by have h1 := HRS.out; rwa [List.take_of_length_le (Nat.le_of_eq HN.out)] at h1)
      rw [HRA.out, HOZ.out] at HB
      clear HRS HEC KP KD
      go_wp2_with fail
      go_loopg [74] oz (fun f iv wr => ∃ k : Nat, f = oz - k ∧ k ≤ oz ∧ iv = .int .i64 (k : Int) ∧ Hid (wr.ownsRow w.heap.size 62 6 (.slice A1 oz c1) oz (rtV ((rs.take k).map (Ret.setOf oz) ++ rs.drop k))) ∧ Hid (Ext w wr))
      case atStart => exact ⟨0, rfl, by omega, rfl, Lib.hid (by have h1 := HO.out; unfold RtL at h1; rw [HOZ.out] at h1; simpa using h1), HX⟩
      case round =>
        clear HO HX
        obtain ⟨j, rfl, hj, rfl, HO, HX⟩ := hrel
        by_cases hjl : j < oz
        · have hown := HO.out
          obtain ⟨g, hge, hg1, hg2⟩ := own_at0 hown (by omega)
          subst hge
          obtain ⟨cur, hB, _⟩ := own_cells hown
          have hfr := hB.free (j * 6 + 1)
          have hcel := hown.cellAt (j * 6 + 1) (by omega)
          have hset := ownsRow_set (i := j * 6 + 1) (u := .int .i64 (oz : Int)) hown
          rw [rtV_setOf (by rw [HOZ.out]; exact hjl)] at hset
          have HSET := Lib.hid hset
          obtain ⟨uo, huo⟩ : ∃ u, (rtV ((rs.take j).map (Ret.setOf oz) ++ rs.drop j))[j * 6 + 1]? = some u := by
            rw [List.getElem?_eq_getElem (by rw [rtV_len]; simp; rw [HOZ.out]; omega)]
            exact ⟨_, rfl⟩
          rw [huo] at hcel
          clear hown hB hset huo
          go_wp2_with fail
          go_roundg (oz - (j + 1))
          case rel => exact ⟨j + 1, rfl, by omega, by go_num, HSET, Lib.hid (HX.out.setCell hg1 _)⟩
          case measure => omega
        · obtain rfl : j = oz := by omega
          have HF : Hid ((rs.take j).map (Ret.setOf j) ++ rs.drop j = rs.map (Ret.setOf j)) := Lib.hid (by rw [List.take_of_length_le (Nat.le_of_eq HOZ.out), List.drop_eq_nil_of_le (Nat.le_of_eq HOZ.out), List.append_nil])
          have hfin : RtL w.heap.size wr (.slice A1 j c1) (rs.map (Ret.setOf j)) := by
            unfold RtL
            rw [← HF.out, List.length_append, List.length_map, List.length_take, List.length_drop, HOZ.out, show min j j + (j - j) = j by omega]
            exact HO.out
          have HFIN := Lib.hid hfin
          clear hfin HO
          go_wp2
          go_ret2
          exact ⟨_, by rw [HB.out]; rfl, by rw [HB.out]; exact HFIN.out, HX.out⟩

theorem returnsP_any (p : Pul) (A : Option Addr) (n c : Nat) (d : Det) (w : World) (h : Ints .i64 w A n p.smp) (hcap : n ≤ c ∧ c ≤ 9223372036854775807) :
    Calls Try.prog 52 #[p.val A n c, .agg #[.int .i64 d.level, .int .i64 d.drop, .int .i64 d.step, .int .i64 d.delay]] w (RetRt w (retO p d)) := by
  obtain ⟨tm, x0, x1, x2, x3, l⟩ := p
  obtain ⟨lv, dr, st, de⟩ := d
  by_cases hp : PulOk ⟨tm, x0, x1, x2, x3, l⟩
  · by_cases hd : DetOk ⟨lv, dr, st, de⟩
    · exact returnsP_ok A n c tm x0 x1 x2 x3 l lv dr st de w hp hd h hcap
    · exact returnsP_det A n c tm x0 x1 x2 x3 l lv dr st de w hp hd h hcap
  · exact returnsP_bad A n c tm x0 x1 x2 x3 l lv dr st de w hp h hcap

end Go.Proofs.Ytagcgldhhdecjaa
