/- Walks: Canon, Neg, Sign, Floor, Ceil, Text, FromInt and Ratio of package exact (program). -/
import Derived.Test.YteoijnaljkagfaaE5
namespace Go.Proofs.Yteoijnaljkagfaa
open Go.RowKit

theorem SmallR.fit {neg : Bool} {xs ys : List Int} (h : SmallR xs ys) : FitQ (ratOf neg xs ys) 256 := fit_red (wD_pos ys) h.1.fit h.den.fit
theorem FitQW.of {q : Rat} (h : FitQ q 256) : FitQW q := ⟨⟨h.1⟩, ⟨h.2⟩⟩
theorem fitQ_neg {q : Rat} {L : Nat} (h : FitQ q L) : FitQ (-q) L := by
  unfold FitQ at *
  rw [Rat.neg_num, Rat.neg_den, Int.natAbs_neg]; exact h
/-- The zero value, as a result with an error. -/
def zeroR : Value := .agg #[.bool false, .slice none 0 0, .slice none 0 0]
/-- A pair of a value and an error. -/
def RetE (w : World) (v : Value) (n : Int) (e : Ending) (w' : World) : Prop := e = .returned (.tuple #[v, .int .i64 n]) ∧ Ext w w'

set_option maxRecDepth 100000 in
set_option maxHeartbeats 2000000 in
theorem ecanon_no (v : Value) (neg : Bool) (xs ys : List Int) (w : World) (h : RatV w v neg xs ys) (hs : ¬ SmallR xs ys) :
    Calls Try.prog 34 #[v] w (RetE w (zeroR) 1) := by
  have HR := Lib.hid h
  have HS := Lib.hid hs
  clear hs
  obtain ⟨A, l, c, B, m, k, rfl, _⟩ := h
  have hXw : Ext w (((w.alloc (.cells #[.bool neg, .slice A l c, .slice B m k] 33)).alloc (.cells #[.bool false, .slice none 0 0, .slice none 0 0] 33)).alloc (.cells #[.bool neg, .slice A l c, .slice B m k] 33)) := ((((Ext.refl w).alloc _).alloc _).alloc _)
  have hB1 : Blk (((w.alloc (.cells #[.bool neg, .slice A l c, .slice B m k] 33)).alloc (.cells #[.bool false, .slice none 0 0, .slice none 0 0] 33)).alloc (.cells #[.bool neg, .slice A l c, .slice B m k] 33)) w.heap.size 33 #[.bool neg, .slice A l c, .slice B m k] := ((Blk.new w _ _).alloc _).alloc _
  have hBR : Blk (((w.alloc (.cells #[.bool neg, .slice A l c, .slice B m k] 33)).alloc (.cells #[.bool false, .slice none 0 0, .slice none 0 0] 33)).alloc (.cells #[.bool neg, .slice A l c, .slice B m k] 33)) (w.heap.size + 1) 33 #[.bool false, .slice none 0 0, .slice none 0 0] := by
    have := (Blk.new (w.alloc (.cells #[.bool neg, .slice A l c, .slice B m k] 33)) 33 #[.bool false, .slice none 0 0, .slice none 0 0]).alloc (.cells #[.bool neg, .slice A l c, .slice B m k] 33)
    simpa using this
  have hB2 : Blk (((w.alloc (.cells #[.bool neg, .slice A l c, .slice B m k] 33)).alloc (.cells #[.bool false, .slice none 0 0, .slice none 0 0] 33)).alloc (.cells #[.bool neg, .slice A l c, .slice B m k] 33)) (w.heap.size + 2) 33 #[.bool neg, .slice A l c, .slice B m k] := by
    have := Blk.new ((w.alloc (.cells #[.bool neg, .slice A l c, .slice B m k] 33)).alloc (.cells #[.bool false, .slice none 0 0, .slice none 0 0] 33)) 33 #[.bool neg, .slice A l c, .slice B m k]
    simpa using this
  go_enter Try.func34, Try.ntmps34
  go_wp2_with fail
  generalize (((w.alloc (.cells #[.bool neg, .slice A l c, .slice B m k] 33)).alloc (.cells #[.bool false, .slice none 0 0, .slice none 0 0] 33)).alloc (.cells #[.bool neg, .slice A l c, .slice B m k] 33)) = w1 at hXw hB1 hB2 hBR ⊢
  refine (anyLarge_one true _ _ neg A B l c m k xs ys _ hB2 (HR.out.ext hXw) (by simp [HS.out])).mono ?_
  rintro e w2 ⟨rfl, hX2⟩
  obtain ⟨x0, x1, x2, _, _, _⟩ := (hB1.ext hX2).three
  have HBR := Lib.hid (hBR.ext hX2)
  obtain ⟨r0, r1, r2, g0, g1, g2⟩ := HBR.out.three
  have hlt := hBR.lt
  clear hBR
  have HX2 := Lib.hid (hXw.trans hX2)
  have HX12 := Lib.hid hX2
  clear hXw hB1 hB2 hX2
  go_wp2
  refine bodyPost_ret (v := .tuple #[zeroR, .int .i64 1]) (by simp [results, zeroR, Try.results34, go_sem, *]) rfl ?_
  exact ⟨rfl, Ext.boxed HX2.out (by omega) _ _ _⟩

set_option maxRecDepth 100000 in
set_option maxHeartbeats 2000000 in
theorem eneg_no (v : Value) (neg : Bool) (xs ys : List Int) (w : World) (h : RatV w v neg xs ys) (hs : ¬ SmallR xs ys) :
    Calls Try.prog 35 #[v] w (RetE w (zeroR) 1) := by
  have HR := Lib.hid h
  have HS := Lib.hid hs
  clear hs
  obtain ⟨A, l, c, B, m, k, rfl, _⟩ := h
  have hXw : Ext w (((w.alloc (.cells #[.bool neg, .slice A l c, .slice B m k] 33)).alloc (.cells #[.bool false, .slice none 0 0, .slice none 0 0] 33)).alloc (.cells #[.bool neg, .slice A l c, .slice B m k] 33)) := ((((Ext.refl w).alloc _).alloc _).alloc _)
  have hB1 : Blk (((w.alloc (.cells #[.bool neg, .slice A l c, .slice B m k] 33)).alloc (.cells #[.bool false, .slice none 0 0, .slice none 0 0] 33)).alloc (.cells #[.bool neg, .slice A l c, .slice B m k] 33)) w.heap.size 33 #[.bool neg, .slice A l c, .slice B m k] := ((Blk.new w _ _).alloc _).alloc _
  have hBR : Blk (((w.alloc (.cells #[.bool neg, .slice A l c, .slice B m k] 33)).alloc (.cells #[.bool false, .slice none 0 0, .slice none 0 0] 33)).alloc (.cells #[.bool neg, .slice A l c, .slice B m k] 33)) (w.heap.size + 1) 33 #[.bool false, .slice none 0 0, .slice none 0 0] := by
    have := (Blk.new (w.alloc (.cells #[.bool neg, .slice A l c, .slice B m k] 33)) 33 #[.bool false, .slice none 0 0, .slice none 0 0]).alloc (.cells #[.bool neg, .slice A l c, .slice B m k] 33)
    simpa using this
  have hB2 : Blk (((w.alloc (.cells #[.bool neg, .slice A l c, .slice B m k] 33)).alloc (.cells #[.bool false, .slice none 0 0, .slice none 0 0] 33)).alloc (.cells #[.bool neg, .slice A l c, .slice B m k] 33)) (w.heap.size + 2) 33 #[.bool neg, .slice A l c, .slice B m k] := by
    have := Blk.new ((w.alloc (.cells #[.bool neg, .slice A l c, .slice B m k] 33)).alloc (.cells #[.bool false, .slice none 0 0, .slice none 0 0] 33)) 33 #[.bool neg, .slice A l c, .slice B m k]
    simpa using this
  go_enter Try.func35, Try.ntmps35
  go_wp2_with fail
  generalize (((w.alloc (.cells #[.bool neg, .slice A l c, .slice B m k] 33)).alloc (.cells #[.bool false, .slice none 0 0, .slice none 0 0] 33)).alloc (.cells #[.bool neg, .slice A l c, .slice B m k] 33)) = w1 at hXw hB1 hB2 hBR ⊢
  refine (anyLarge_one true _ _ neg A B l c m k xs ys _ hB2 (HR.out.ext hXw) (by simp [HS.out])).mono ?_
  rintro e w2 ⟨rfl, hX2⟩
  obtain ⟨x0, x1, x2, _, _, _⟩ := (hB1.ext hX2).three
  have HBR := Lib.hid (hBR.ext hX2)
  obtain ⟨r0, r1, r2, g0, g1, g2⟩ := HBR.out.three
  have hlt := hBR.lt
  clear hBR
  have HX2 := Lib.hid (hXw.trans hX2)
  have HX12 := Lib.hid hX2
  clear hXw hB1 hB2 hX2
  go_wp2
  refine bodyPost_ret (v := .tuple #[zeroR, .int .i64 1]) (by simp [results, zeroR, Try.results35, go_sem, *]) rfl ?_
  exact ⟨rfl, Ext.boxed HX2.out (by omega) _ _ _⟩

set_option maxRecDepth 100000 in
set_option maxHeartbeats 2000000 in
theorem esign_no (v : Value) (neg : Bool) (xs ys : List Int) (w : World) (h : RatV w v neg xs ys) (hs : ¬ SmallR xs ys) :
    Calls Try.prog 36 #[v] w (RetE w (.int .i64 0) 1) := by
  have HR := Lib.hid h
  have HS := Lib.hid hs
  clear hs
  obtain ⟨A, l, c, B, m, k, rfl, _⟩ := h
  have hXw : Ext w ((w.alloc (.cells #[.bool neg, .slice A l c, .slice B m k] 33)).alloc (.cells #[.bool neg, .slice A l c, .slice B m k] 33)) := (((Ext.refl w).alloc _).alloc _)
  have hB1 : Blk ((w.alloc (.cells #[.bool neg, .slice A l c, .slice B m k] 33)).alloc (.cells #[.bool neg, .slice A l c, .slice B m k] 33)) w.heap.size 33 #[.bool neg, .slice A l c, .slice B m k] := (Blk.new w _ _).alloc _
  have hB2 : Blk ((w.alloc (.cells #[.bool neg, .slice A l c, .slice B m k] 33)).alloc (.cells #[.bool neg, .slice A l c, .slice B m k] 33)) (w.heap.size + 1) 33 #[.bool neg, .slice A l c, .slice B m k] := by
    have := Blk.new (w.alloc (.cells #[.bool neg, .slice A l c, .slice B m k] 33)) 33 #[.bool neg, .slice A l c, .slice B m k]
    simpa using this
  go_enter Try.func36, Try.ntmps36
  go_wp2_with fail
  generalize ((w.alloc (.cells #[.bool neg, .slice A l c, .slice B m k] 33)).alloc (.cells #[.bool neg, .slice A l c, .slice B m k] 33)) = w1 at hXw hB1 hB2 ⊢
  refine (anyLarge_one true _ _ neg A B l c m k xs ys _ hB2 (HR.out.ext hXw) (by simp [HS.out])).mono ?_
  rintro e w2 ⟨rfl, hX2⟩
  obtain ⟨x0, x1, x2, _, _, _⟩ := (hB1.ext hX2).three
  have HX2 := Lib.hid (hXw.trans hX2)
  have HX12 := Lib.hid hX2
  clear hXw hB1 hB2 hX2
  go_wp2
  go_ret2
  exact ⟨rfl, HX2.out⟩

set_option maxRecDepth 100000 in
set_option maxHeartbeats 2000000 in
theorem efloor_no (v : Value) (neg : Bool) (xs ys : List Int) (w : World) (h : RatV w v neg xs ys) (hs : ¬ SmallR xs ys) :
    Calls Try.prog 28 #[v] w (RetE w (.int .i64 0) 1) := by
  have HR := Lib.hid h
  have HS := Lib.hid hs
  clear hs
  obtain ⟨A, l, c, B, m, k, rfl, _⟩ := h
  have hXw : Ext w ((w.alloc (.cells #[.bool neg, .slice A l c, .slice B m k] 33)).alloc (.cells #[.bool neg, .slice A l c, .slice B m k] 33)) := (((Ext.refl w).alloc _).alloc _)
  have hB1 : Blk ((w.alloc (.cells #[.bool neg, .slice A l c, .slice B m k] 33)).alloc (.cells #[.bool neg, .slice A l c, .slice B m k] 33)) w.heap.size 33 #[.bool neg, .slice A l c, .slice B m k] := (Blk.new w _ _).alloc _
  have hB2 : Blk ((w.alloc (.cells #[.bool neg, .slice A l c, .slice B m k] 33)).alloc (.cells #[.bool neg, .slice A l c, .slice B m k] 33)) (w.heap.size + 1) 33 #[.bool neg, .slice A l c, .slice B m k] := by
    have := Blk.new (w.alloc (.cells #[.bool neg, .slice A l c, .slice B m k] 33)) 33 #[.bool neg, .slice A l c, .slice B m k]
    simpa using this
  go_enter Try.func28, Try.ntmps28
  go_wp2_with fail
  generalize ((w.alloc (.cells #[.bool neg, .slice A l c, .slice B m k] 33)).alloc (.cells #[.bool neg, .slice A l c, .slice B m k] 33)) = w1 at hXw hB1 hB2 ⊢
  refine (anyLarge_one true _ _ neg A B l c m k xs ys _ hB2 (HR.out.ext hXw) (by simp [HS.out])).mono ?_
  rintro e w2 ⟨rfl, hX2⟩
  obtain ⟨x0, x1, x2, _, _, _⟩ := (hB1.ext hX2).three
  have HX2 := Lib.hid (hXw.trans hX2)
  have HX12 := Lib.hid hX2
  clear hXw hB1 hB2 hX2
  go_wp2
  go_ret2
  exact ⟨rfl, HX2.out⟩

set_option maxRecDepth 100000 in
set_option maxHeartbeats 2000000 in
theorem eceil_no (v : Value) (neg : Bool) (xs ys : List Int) (w : World) (h : RatV w v neg xs ys) (hs : ¬ SmallR xs ys) :
    Calls Try.prog 29 #[v] w (RetE w (.int .i64 0) 1) := by
  have HR := Lib.hid h
  have HS := Lib.hid hs
  clear hs
  obtain ⟨A, l, c, B, m, k, rfl, _⟩ := h
  have hXw : Ext w ((w.alloc (.cells #[.bool neg, .slice A l c, .slice B m k] 33)).alloc (.cells #[.bool neg, .slice A l c, .slice B m k] 33)) := (((Ext.refl w).alloc _).alloc _)
  have hB1 : Blk ((w.alloc (.cells #[.bool neg, .slice A l c, .slice B m k] 33)).alloc (.cells #[.bool neg, .slice A l c, .slice B m k] 33)) w.heap.size 33 #[.bool neg, .slice A l c, .slice B m k] := (Blk.new w _ _).alloc _
  have hB2 : Blk ((w.alloc (.cells #[.bool neg, .slice A l c, .slice B m k] 33)).alloc (.cells #[.bool neg, .slice A l c, .slice B m k] 33)) (w.heap.size + 1) 33 #[.bool neg, .slice A l c, .slice B m k] := by
    have := Blk.new (w.alloc (.cells #[.bool neg, .slice A l c, .slice B m k] 33)) 33 #[.bool neg, .slice A l c, .slice B m k]
    simpa using this
  go_enter Try.func29, Try.ntmps29
  go_wp2_with fail
  generalize ((w.alloc (.cells #[.bool neg, .slice A l c, .slice B m k] 33)).alloc (.cells #[.bool neg, .slice A l c, .slice B m k] 33)) = w1 at hXw hB1 hB2 ⊢
  refine (anyLarge_one true _ _ neg A B l c m k xs ys _ hB2 (HR.out.ext hXw) (by simp [HS.out])).mono ?_
  rintro e w2 ⟨rfl, hX2⟩
  obtain ⟨x0, x1, x2, _, _, _⟩ := (hB1.ext hX2).three
  have HX2 := Lib.hid (hXw.trans hX2)
  have HX12 := Lib.hid hX2
  clear hXw hB1 hB2 hX2
  go_wp2
  go_ret2
  exact ⟨rfl, HX2.out⟩

set_option maxRecDepth 100000 in
set_option maxHeartbeats 2000000 in
theorem etext_no (v : Value) (neg : Bool) (xs ys : List Int) (w : World) (h : RatV w v neg xs ys) (hs : ¬ SmallR xs ys) :
    Calls Try.prog 37 #[v] w (RetE w (.string ⟨#[]⟩) 1) := by
  have HR := Lib.hid h
  have HS := Lib.hid hs
  clear hs
  obtain ⟨A, l, c, B, m, k, rfl, _⟩ := h
  have hXw : Ext w ((w.alloc (.cells #[.bool neg, .slice A l c, .slice B m k] 33)).alloc (.cells #[.bool neg, .slice A l c, .slice B m k] 33)) := (((Ext.refl w).alloc _).alloc _)
  have hB1 : Blk ((w.alloc (.cells #[.bool neg, .slice A l c, .slice B m k] 33)).alloc (.cells #[.bool neg, .slice A l c, .slice B m k] 33)) w.heap.size 33 #[.bool neg, .slice A l c, .slice B m k] := (Blk.new w _ _).alloc _
  have hB2 : Blk ((w.alloc (.cells #[.bool neg, .slice A l c, .slice B m k] 33)).alloc (.cells #[.bool neg, .slice A l c, .slice B m k] 33)) (w.heap.size + 1) 33 #[.bool neg, .slice A l c, .slice B m k] := by
    have := Blk.new (w.alloc (.cells #[.bool neg, .slice A l c, .slice B m k] 33)) 33 #[.bool neg, .slice A l c, .slice B m k]
    simpa using this
  go_enter Try.func37, Try.ntmps37
  go_wp2_with fail
  generalize ((w.alloc (.cells #[.bool neg, .slice A l c, .slice B m k] 33)).alloc (.cells #[.bool neg, .slice A l c, .slice B m k] 33)) = w1 at hXw hB1 hB2 ⊢
  refine (anyLarge_one true _ _ neg A B l c m k xs ys _ hB2 (HR.out.ext hXw) (by simp [HS.out])).mono ?_
  rintro e w2 ⟨rfl, hX2⟩
  obtain ⟨x0, x1, x2, _, _, _⟩ := (hB1.ext hX2).three
  have HX2 := Lib.hid (hXw.trans hX2)
  have HX12 := Lib.hid hX2
  clear hXw hB1 hB2 hX2
  go_wp2
  go_ret2
  exact ⟨rfl, HX2.out⟩

set_option maxRecDepth 100000 in
set_option maxHeartbeats 2000000 in
theorem esign_ok (v : Value) (neg : Bool) (xs ys : List Int) (w : World) (h : RatV w v neg xs ys) (hs : SmallR xs ys) :
    Calls Try.prog 36 #[v] w (RetE w (.int .i64 (sgnQ (ratOf neg xs ys))) 0) := by
  have HR := Lib.hid h
  have HS := Lib.hid hs
  clear hs
  obtain ⟨A, l, c, B, m, k, rfl, _⟩ := h
  have hXw : Ext w ((w.alloc (.cells #[.bool neg, .slice A l c, .slice B m k] 33)).alloc (.cells #[.bool neg, .slice A l c, .slice B m k] 33)) := (((Ext.refl w).alloc _).alloc _)
  have hB1 : Blk ((w.alloc (.cells #[.bool neg, .slice A l c, .slice B m k] 33)).alloc (.cells #[.bool neg, .slice A l c, .slice B m k] 33)) w.heap.size 33 #[.bool neg, .slice A l c, .slice B m k] := (Blk.new w _ _).alloc _
  have hB2 : Blk ((w.alloc (.cells #[.bool neg, .slice A l c, .slice B m k] 33)).alloc (.cells #[.bool neg, .slice A l c, .slice B m k] 33)) (w.heap.size + 1) 33 #[.bool neg, .slice A l c, .slice B m k] := by
    have := Blk.new (w.alloc (.cells #[.bool neg, .slice A l c, .slice B m k] 33)) 33 #[.bool neg, .slice A l c, .slice B m k]
    simpa using this
  go_enter Try.func36, Try.ntmps36
  go_wp2_with fail
  generalize ((w.alloc (.cells #[.bool neg, .slice A l c, .slice B m k] 33)).alloc (.cells #[.bool neg, .slice A l c, .slice B m k] 33)) = w1 at hXw hB1 hB2 ⊢
  refine (anyLarge_one false _ _ neg A B l c m k xs ys _ hB2 (HR.out.ext hXw) (by simp [HS.out])).mono ?_
  rintro e w2 ⟨rfl, hX2⟩
  obtain ⟨x0, x1, x2, _, _, _⟩ := (hB1.ext hX2).three
  have HX2 := Lib.hid (hXw.trans hX2)
  have HX12 := Lib.hid hX2
  clear hXw hB1 hB2 hX2
  go_wp2_with fail
  refine (of_any _ neg xs ys 256 _ (HR.out.ext HX2.out) HS.out.1.fit HS.out.den.fit (by omega)).mono ?_
  rintro e w3 ⟨v3, rfl, hv3, hX3⟩
  obtain ⟨A3, l3, c3, B3, m3, k3, rfl, _⟩ := NumV.open hv3
  have HV3 := Lib.hid (NumQ.numx hv3 HS.out.fit)
  have HQ3 := Lib.hid hv3
  have HX3 := Lib.hid (HX2.out.trans hX3)
  clear hX3 hv3 x0 x1 x2
  go_wp2_with fail
  refine (signX HV3.out).mono ?_
  rintro e w4 ⟨rfl, hX4⟩
  have HX4 := Lib.hid (HX3.out.trans hX4)
  clear hX4
  go_wp2
  go_ret2
  exact ⟨rfl, HX4.out⟩

set_option maxRecDepth 100000 in
set_option maxHeartbeats 2000000 in
theorem etext_ok (v : Value) (neg : Bool) (xs ys : List Int) (w : World) (h : RatV w v neg xs ys) (hs : SmallR xs ys) :
    Calls Try.prog 37 #[v] w (fun e w' => ∃ b, e = .returned (.tuple #[.string b, .int .i64 0]) ∧ TextB (decide ((ratOf neg xs ys).num < 0)) (ratOf neg xs ys).num.natAbs (ratOf neg xs ys).den b ∧ Ext w w') := by
  have HR := Lib.hid h
  have HS := Lib.hid hs
  clear hs
  obtain ⟨A, l, c, B, m, k, rfl, _⟩ := h
  have hXw : Ext w ((w.alloc (.cells #[.bool neg, .slice A l c, .slice B m k] 33)).alloc (.cells #[.bool neg, .slice A l c, .slice B m k] 33)) := (((Ext.refl w).alloc _).alloc _)
  have hB1 : Blk ((w.alloc (.cells #[.bool neg, .slice A l c, .slice B m k] 33)).alloc (.cells #[.bool neg, .slice A l c, .slice B m k] 33)) w.heap.size 33 #[.bool neg, .slice A l c, .slice B m k] := (Blk.new w _ _).alloc _
  have hB2 : Blk ((w.alloc (.cells #[.bool neg, .slice A l c, .slice B m k] 33)).alloc (.cells #[.bool neg, .slice A l c, .slice B m k] 33)) (w.heap.size + 1) 33 #[.bool neg, .slice A l c, .slice B m k] := by
    have := Blk.new (w.alloc (.cells #[.bool neg, .slice A l c, .slice B m k] 33)) 33 #[.bool neg, .slice A l c, .slice B m k]
    simpa using this
  go_enter Try.func37, Try.ntmps37
  go_wp2_with fail
  generalize ((w.alloc (.cells #[.bool neg, .slice A l c, .slice B m k] 33)).alloc (.cells #[.bool neg, .slice A l c, .slice B m k] 33)) = w1 at hXw hB1 hB2 ⊢
  refine (anyLarge_one false _ _ neg A B l c m k xs ys _ hB2 (HR.out.ext hXw) (by simp [HS.out])).mono ?_
  rintro e w2 ⟨rfl, hX2⟩
  obtain ⟨x0, x1, x2, _, _, _⟩ := (hB1.ext hX2).three
  have HX2 := Lib.hid (hXw.trans hX2)
  have HX12 := Lib.hid hX2
  clear hXw hB1 hB2 hX2
  go_wp2_with fail
  refine (of_any _ neg xs ys 256 _ (HR.out.ext HX2.out) HS.out.1.fit HS.out.den.fit (by omega)).mono ?_
  rintro e w3 ⟨v3, rfl, hv3, hX3⟩
  obtain ⟨A3, l3, c3, B3, m3, k3, rfl, _⟩ := NumV.open hv3
  have HV3 := Lib.hid (NumQ.numx hv3 HS.out.fit)
  have HQ3 := Lib.hid hv3
  have HX3 := Lib.hid (HX2.out.trans hX3)
  clear hX3 hv3 x0 x1 x2
  go_wp2_with fail
  refine (rtext_any _ _ _ _ 256 _ HQ3.out (ratOf neg xs ys).den_pos HS.out.fit.1 HS.out.fit.2 (by omega)).mono ?_
  rintro e w4 ⟨b, rfl, hb, hX4⟩
  have HX4 := Lib.hid (HX3.out.trans hX4)
  have HB := Lib.hid hb
  clear hX4 hb
  go_wp2
  go_ret2
  exact ⟨_, rfl, HB.out, HX4.out⟩

set_option maxRecDepth 100000 in
set_option maxHeartbeats 2000000 in
theorem efloor_ok (v : Value) (neg : Bool) (xs ys : List Int) (w : World) (h : RatV w v neg xs ys) (hs : SmallR xs ys) (h0 : -1152921504606846976 ≤ (ratOf neg xs ys).floor) (h1 : (ratOf neg xs ys).floor ≤ 1152921504606846976) :
    Calls Try.prog 28 #[v] w (RetE w (.int .i64 (ratOf neg xs ys).floor) 0) := by
  have HR := Lib.hid h
  have HS := Lib.hid hs
  clear hs
  obtain ⟨A, l, c, B, m, k, rfl, _⟩ := h
  have hXw : Ext w ((w.alloc (.cells #[.bool neg, .slice A l c, .slice B m k] 33)).alloc (.cells #[.bool neg, .slice A l c, .slice B m k] 33)) := (((Ext.refl w).alloc _).alloc _)
  have hB1 : Blk ((w.alloc (.cells #[.bool neg, .slice A l c, .slice B m k] 33)).alloc (.cells #[.bool neg, .slice A l c, .slice B m k] 33)) w.heap.size 33 #[.bool neg, .slice A l c, .slice B m k] := (Blk.new w _ _).alloc _
  have hB2 : Blk ((w.alloc (.cells #[.bool neg, .slice A l c, .slice B m k] 33)).alloc (.cells #[.bool neg, .slice A l c, .slice B m k] 33)) (w.heap.size + 1) 33 #[.bool neg, .slice A l c, .slice B m k] := by
    have := Blk.new (w.alloc (.cells #[.bool neg, .slice A l c, .slice B m k] 33)) 33 #[.bool neg, .slice A l c, .slice B m k]
    simpa using this
  go_enter Try.func28, Try.ntmps28
  go_wp2_with fail
  generalize ((w.alloc (.cells #[.bool neg, .slice A l c, .slice B m k] 33)).alloc (.cells #[.bool neg, .slice A l c, .slice B m k] 33)) = w1 at hXw hB1 hB2 ⊢
  refine (anyLarge_one false _ _ neg A B l c m k xs ys _ hB2 (HR.out.ext hXw) (by simp [HS.out])).mono ?_
  rintro e w2 ⟨rfl, hX2⟩
  obtain ⟨x0, x1, x2, _, _, _⟩ := (hB1.ext hX2).three
  have HX2 := Lib.hid (hXw.trans hX2)
  have HX12 := Lib.hid hX2
  clear hXw hB1 hB2 hX2
  go_wp2_with fail
  refine (of_any _ neg xs ys 256 _ (HR.out.ext HX2.out) HS.out.1.fit HS.out.den.fit (by omega)).mono ?_
  rintro e w3 ⟨v3, rfl, hv3, hX3⟩
  obtain ⟨A3, l3, c3, B3, m3, k3, rfl, _⟩ := NumV.open hv3
  have HV3 := Lib.hid (NumQ.numx hv3 HS.out.fit)
  have HQ3 := Lib.hid hv3
  have HX3 := Lib.hid (HX2.out.trans hX3)
  clear hX3 hv3 x0 x1 x2
  go_wp2_with fail
  have HV4 := HV3
  have HX4 := HX3
  refine (xfloor_ok _ _ 256 _ HV4.out (by omega) h0 h1).mono ?_
  rintro e w5 ⟨rfl, hX5⟩
  have HX5 := Lib.hid (HX4.out.trans hX5)
  clear hX5
  generalize hf : (ratOf neg xs ys).floor = f at h0 h1 ⊢
  have HF := Lib.hid hf
  clear hf
  go_wp2
  go_ret2
  exact ⟨by rw [HF.out]; rfl, HX5.out⟩

set_option maxRecDepth 100000 in
set_option maxHeartbeats 2000000 in
theorem efloor_out (v : Value) (neg : Bool) (xs ys : List Int) (w : World) (h : RatV w v neg xs ys) (hs : SmallR xs ys) (h0 : (ratOf neg xs ys).floor < -1152921504606846976 ∨ 1152921504606846976 < (ratOf neg xs ys).floor) :
    Calls Try.prog 28 #[v] w (RetE w (.int .i64 0) 3) := by
  have HR := Lib.hid h
  have HS := Lib.hid hs
  clear hs
  obtain ⟨A, l, c, B, m, k, rfl, _⟩ := h
  have hXw : Ext w ((w.alloc (.cells #[.bool neg, .slice A l c, .slice B m k] 33)).alloc (.cells #[.bool neg, .slice A l c, .slice B m k] 33)) := (((Ext.refl w).alloc _).alloc _)
  have hB1 : Blk ((w.alloc (.cells #[.bool neg, .slice A l c, .slice B m k] 33)).alloc (.cells #[.bool neg, .slice A l c, .slice B m k] 33)) w.heap.size 33 #[.bool neg, .slice A l c, .slice B m k] := (Blk.new w _ _).alloc _
  have hB2 : Blk ((w.alloc (.cells #[.bool neg, .slice A l c, .slice B m k] 33)).alloc (.cells #[.bool neg, .slice A l c, .slice B m k] 33)) (w.heap.size + 1) 33 #[.bool neg, .slice A l c, .slice B m k] := by
    have := Blk.new (w.alloc (.cells #[.bool neg, .slice A l c, .slice B m k] 33)) 33 #[.bool neg, .slice A l c, .slice B m k]
    simpa using this
  go_enter Try.func28, Try.ntmps28
  go_wp2_with fail
  generalize ((w.alloc (.cells #[.bool neg, .slice A l c, .slice B m k] 33)).alloc (.cells #[.bool neg, .slice A l c, .slice B m k] 33)) = w1 at hXw hB1 hB2 ⊢
  refine (anyLarge_one false _ _ neg A B l c m k xs ys _ hB2 (HR.out.ext hXw) (by simp [HS.out])).mono ?_
  rintro e w2 ⟨rfl, hX2⟩
  obtain ⟨x0, x1, x2, _, _, _⟩ := (hB1.ext hX2).three
  have HX2 := Lib.hid (hXw.trans hX2)
  have HX12 := Lib.hid hX2
  clear hXw hB1 hB2 hX2
  go_wp2_with fail
  refine (of_any _ neg xs ys 256 _ (HR.out.ext HX2.out) HS.out.1.fit HS.out.den.fit (by omega)).mono ?_
  rintro e w3 ⟨v3, rfl, hv3, hX3⟩
  obtain ⟨A3, l3, c3, B3, m3, k3, rfl, _⟩ := NumV.open hv3
  have HV3 := Lib.hid (NumQ.numx hv3 HS.out.fit)
  have HQ3 := Lib.hid hv3
  have HX3 := Lib.hid (HX2.out.trans hX3)
  clear hX3 hv3 x0 x1 x2
  go_wp2_with fail
  have HV4 := HV3
  have HX4 := HX3
  refine (xfloor_no _ _ 256 _ HV4.out (by omega) h0).mono ?_
  rintro e w5 ⟨rfl, hX5⟩
  have HX5 := Lib.hid (HX4.out.trans hX5)
  clear hX5
  clear h0
  go_wp2
  go_ret2
  exact ⟨rfl, HX5.out⟩

set_option maxRecDepth 100000 in
set_option maxHeartbeats 2000000 in
theorem eceil_ok (v : Value) (neg : Bool) (xs ys : List Int) (w : World) (h : RatV w v neg xs ys) (hs : SmallR xs ys) (h0 : -1152921504606846976 ≤ (-(ratOf neg xs ys)).floor) (h1 : (-(ratOf neg xs ys)).floor ≤ 1152921504606846976) :
    Calls Try.prog 29 #[v] w (RetE w (.int .i64 (-(-(ratOf neg xs ys)).floor)) 0) := by
  have HR := Lib.hid h
  have HS := Lib.hid hs
  clear hs
  obtain ⟨A, l, c, B, m, k, rfl, _⟩ := h
  have hXw : Ext w ((w.alloc (.cells #[.bool neg, .slice A l c, .slice B m k] 33)).alloc (.cells #[.bool neg, .slice A l c, .slice B m k] 33)) := (((Ext.refl w).alloc _).alloc _)
  have hB1 : Blk ((w.alloc (.cells #[.bool neg, .slice A l c, .slice B m k] 33)).alloc (.cells #[.bool neg, .slice A l c, .slice B m k] 33)) w.heap.size 33 #[.bool neg, .slice A l c, .slice B m k] := (Blk.new w _ _).alloc _
  have hB2 : Blk ((w.alloc (.cells #[.bool neg, .slice A l c, .slice B m k] 33)).alloc (.cells #[.bool neg, .slice A l c, .slice B m k] 33)) (w.heap.size + 1) 33 #[.bool neg, .slice A l c, .slice B m k] := by
    have := Blk.new (w.alloc (.cells #[.bool neg, .slice A l c, .slice B m k] 33)) 33 #[.bool neg, .slice A l c, .slice B m k]
    simpa using this
  go_enter Try.func29, Try.ntmps29
  go_wp2_with fail
  generalize ((w.alloc (.cells #[.bool neg, .slice A l c, .slice B m k] 33)).alloc (.cells #[.bool neg, .slice A l c, .slice B m k] 33)) = w1 at hXw hB1 hB2 ⊢
  refine (anyLarge_one false _ _ neg A B l c m k xs ys _ hB2 (HR.out.ext hXw) (by simp [HS.out])).mono ?_
  rintro e w2 ⟨rfl, hX2⟩
  obtain ⟨x0, x1, x2, _, _, _⟩ := (hB1.ext hX2).three
  have HX2 := Lib.hid (hXw.trans hX2)
  have HX12 := Lib.hid hX2
  clear hXw hB1 hB2 hX2
  go_wp2_with fail
  refine (of_any _ neg xs ys 256 _ (HR.out.ext HX2.out) HS.out.1.fit HS.out.den.fit (by omega)).mono ?_
  rintro e w3 ⟨v3, rfl, hv3, hX3⟩
  obtain ⟨A3, l3, c3, B3, m3, k3, rfl, _⟩ := NumV.open hv3
  have HV3 := Lib.hid (NumQ.numx hv3 HS.out.fit)
  have HQ3 := Lib.hid hv3
  have HX3 := Lib.hid (HX2.out.trans hX3)
  clear hX3 hv3 x0 x1 x2
  go_wp2_with fail
  refine (negX HV3.out).mono ?_
  rintro e w4 ⟨v4, rfl, hv4, hX4⟩
  obtain ⟨s4, A4, l4, c4, B4, m4, k4, rfl⟩ := hv4.open
  have HV4 := Lib.hid hv4
  have HX4 := Lib.hid (HX3.out.trans hX4)
  clear hX4 hv4
  go_wp2_with fail
  refine (xfloor_ok _ _ 256 _ HV4.out (by omega) h0 h1).mono ?_
  rintro e w5 ⟨rfl, hX5⟩
  have HX5 := Lib.hid (HX4.out.trans hX5)
  clear hX5
  generalize hf : (-(ratOf neg xs ys)).floor = f at h0 h1 ⊢
  have HF := Lib.hid hf
  clear hf
  go_wp2
  go_ret2
  exact ⟨by rw [HF.out]; rfl, HX5.out⟩

set_option maxRecDepth 100000 in
set_option maxHeartbeats 2000000 in
theorem eceil_out (v : Value) (neg : Bool) (xs ys : List Int) (w : World) (h : RatV w v neg xs ys) (hs : SmallR xs ys) (h0 : (-(ratOf neg xs ys)).floor < -1152921504606846976 ∨ 1152921504606846976 < (-(ratOf neg xs ys)).floor) :
    Calls Try.prog 29 #[v] w (RetE w (.int .i64 0) 3) := by
  have HR := Lib.hid h
  have HS := Lib.hid hs
  clear hs
  obtain ⟨A, l, c, B, m, k, rfl, _⟩ := h
  have hXw : Ext w ((w.alloc (.cells #[.bool neg, .slice A l c, .slice B m k] 33)).alloc (.cells #[.bool neg, .slice A l c, .slice B m k] 33)) := (((Ext.refl w).alloc _).alloc _)
  have hB1 : Blk ((w.alloc (.cells #[.bool neg, .slice A l c, .slice B m k] 33)).alloc (.cells #[.bool neg, .slice A l c, .slice B m k] 33)) w.heap.size 33 #[.bool neg, .slice A l c, .slice B m k] := (Blk.new w _ _).alloc _
  have hB2 : Blk ((w.alloc (.cells #[.bool neg, .slice A l c, .slice B m k] 33)).alloc (.cells #[.bool neg, .slice A l c, .slice B m k] 33)) (w.heap.size + 1) 33 #[.bool neg, .slice A l c, .slice B m k] := by
    have := Blk.new (w.alloc (.cells #[.bool neg, .slice A l c, .slice B m k] 33)) 33 #[.bool neg, .slice A l c, .slice B m k]
    simpa using this
  go_enter Try.func29, Try.ntmps29
  go_wp2_with fail
  generalize ((w.alloc (.cells #[.bool neg, .slice A l c, .slice B m k] 33)).alloc (.cells #[.bool neg, .slice A l c, .slice B m k] 33)) = w1 at hXw hB1 hB2 ⊢
  refine (anyLarge_one false _ _ neg A B l c m k xs ys _ hB2 (HR.out.ext hXw) (by simp [HS.out])).mono ?_
  rintro e w2 ⟨rfl, hX2⟩
  obtain ⟨x0, x1, x2, _, _, _⟩ := (hB1.ext hX2).three
  have HX2 := Lib.hid (hXw.trans hX2)
  have HX12 := Lib.hid hX2
  clear hXw hB1 hB2 hX2
  go_wp2_with fail
  refine (of_any _ neg xs ys 256 _ (HR.out.ext HX2.out) HS.out.1.fit HS.out.den.fit (by omega)).mono ?_
  rintro e w3 ⟨v3, rfl, hv3, hX3⟩
  obtain ⟨A3, l3, c3, B3, m3, k3, rfl, _⟩ := NumV.open hv3
  have HV3 := Lib.hid (NumQ.numx hv3 HS.out.fit)
  have HQ3 := Lib.hid hv3
  have HX3 := Lib.hid (HX2.out.trans hX3)
  clear hX3 hv3 x0 x1 x2
  go_wp2_with fail
  refine (negX HV3.out).mono ?_
  rintro e w4 ⟨v4, rfl, hv4, hX4⟩
  obtain ⟨s4, A4, l4, c4, B4, m4, k4, rfl⟩ := hv4.open
  have HV4 := Lib.hid hv4
  have HX4 := Lib.hid (HX3.out.trans hX4)
  clear hX4 hv4
  go_wp2_with fail
  refine (xfloor_no _ _ 256 _ HV4.out (by omega) h0).mono ?_
  rintro e w5 ⟨rfl, hX5⟩
  have HX5 := Lib.hid (HX4.out.trans hX5)
  clear hX5
  clear h0
  go_wp2
  go_ret2
  exact ⟨rfl, HX5.out⟩

set_option maxRecDepth 100000 in
set_option maxHeartbeats 2000000 in
theorem ecanon_ok (v : Value) (neg : Bool) (xs ys : List Int) (w : World) (h : RatV w v neg xs ys) (hs : SmallR xs ys) :
    Calls Try.prog 34 #[v] w (RetC w (ratOf neg xs ys)) := by
  have HR := Lib.hid h
  have HS := Lib.hid hs
  clear hs
  obtain ⟨A, l, c, B, m, k, rfl, _⟩ := h
  have hXw : Ext w (((w.alloc (.cells #[.bool neg, .slice A l c, .slice B m k] 33)).alloc (.cells #[.bool false, .slice none 0 0, .slice none 0 0] 33)).alloc (.cells #[.bool neg, .slice A l c, .slice B m k] 33)) := ((((Ext.refl w).alloc _).alloc _).alloc _)
  have hB1 : Blk (((w.alloc (.cells #[.bool neg, .slice A l c, .slice B m k] 33)).alloc (.cells #[.bool false, .slice none 0 0, .slice none 0 0] 33)).alloc (.cells #[.bool neg, .slice A l c, .slice B m k] 33)) w.heap.size 33 #[.bool neg, .slice A l c, .slice B m k] := ((Blk.new w _ _).alloc _).alloc _
  have hBR : Blk (((w.alloc (.cells #[.bool neg, .slice A l c, .slice B m k] 33)).alloc (.cells #[.bool false, .slice none 0 0, .slice none 0 0] 33)).alloc (.cells #[.bool neg, .slice A l c, .slice B m k] 33)) (w.heap.size + 1) 33 #[.bool false, .slice none 0 0, .slice none 0 0] := by
    have := (Blk.new (w.alloc (.cells #[.bool neg, .slice A l c, .slice B m k] 33)) 33 #[.bool false, .slice none 0 0, .slice none 0 0]).alloc (.cells #[.bool neg, .slice A l c, .slice B m k] 33)
    simpa using this
  have hB2 : Blk (((w.alloc (.cells #[.bool neg, .slice A l c, .slice B m k] 33)).alloc (.cells #[.bool false, .slice none 0 0, .slice none 0 0] 33)).alloc (.cells #[.bool neg, .slice A l c, .slice B m k] 33)) (w.heap.size + 2) 33 #[.bool neg, .slice A l c, .slice B m k] := by
    have := Blk.new ((w.alloc (.cells #[.bool neg, .slice A l c, .slice B m k] 33)).alloc (.cells #[.bool false, .slice none 0 0, .slice none 0 0] 33)) 33 #[.bool neg, .slice A l c, .slice B m k]
    simpa using this
  go_enter Try.func34, Try.ntmps34
  go_wp2_with fail
  generalize (((w.alloc (.cells #[.bool neg, .slice A l c, .slice B m k] 33)).alloc (.cells #[.bool false, .slice none 0 0, .slice none 0 0] 33)).alloc (.cells #[.bool neg, .slice A l c, .slice B m k] 33)) = w1 at hXw hB1 hB2 hBR ⊢
  refine (anyLarge_one false _ _ neg A B l c m k xs ys _ hB2 (HR.out.ext hXw) (by simp [HS.out])).mono ?_
  rintro e w2 ⟨rfl, hX2⟩
  obtain ⟨x0, x1, x2, _, _, _⟩ := (hB1.ext hX2).three
  have HBR := Lib.hid (hBR.ext hX2)
  obtain ⟨r0, r1, r2, g0, g1, g2⟩ := HBR.out.three
  have hlt := hBR.lt
  clear hBR
  have HX2 := Lib.hid (hXw.trans hX2)
  have HX12 := Lib.hid hX2
  clear hXw hB1 hB2 hX2
  go_wp2_with fail
  refine (of_any _ neg xs ys 256 _ (HR.out.ext HX2.out) HS.out.1.fit HS.out.den.fit (by omega)).mono ?_
  rintro e w3 ⟨v3, rfl, hv3, hX3⟩
  obtain ⟨A3, l3, c3, B3, m3, k3, rfl, _⟩ := NumV.open hv3
  have HV3 := Lib.hid (NumQ.numx hv3 HS.out.fit)
  have HQ3 := Lib.hid hv3
  have HX3 := Lib.hid (HX2.out.trans hX3)
  have HBR3 := Lib.hid (HBR.out.ext hX3)
  clear HBR r0 r1 r2 g0 g1 g2
  clear hX3 hv3 x0 x1 x2
  go_wp2_with fail
  refine (done_ok _ _ 256 _ HV3.out (by omega) (FitQW.of HS.out.fit)).mono ?_
  rintro e w4 ⟨v4, rfl, hRC, hX4⟩
  have HX9 := Lib.hid (HX3.out.trans hX4)
  have HBR9 := Lib.hid (HBR3.out.ext hX4)
  clear hX4 HBR3
  obtain ⟨xs', ys', hRV, hRx, hRy⟩ := hRC
  obtain ⟨A', l', c', B', m', k', rfl, hI1, hI2, hI3, hI4, hI5, hI6⟩ := hRV
  obtain ⟨r0, r1, r2, g0, g1, g2⟩ := HBR9.out.three
  have H1 := Lib.hid hI1
  have H4 := Lib.hid hI4
  have HRX := Lib.hid hRx
  have HRY := Lib.hid hRy
  generalize hsg : decide ((ratOf neg xs ys).num < 0) = sg
  have HSG := Lib.hid hsg
  clear hI1 hI4 hRx hRy hsg
  go_wp2
  refine bodyPost_ret (v := .tuple #[.agg #[.bool sg, .slice A' l' c', .slice B' m' k'], .int .i64 0]) (by simp [results, Try.results34, go_sem, *]) rfl ?_
  have hNR := NoInts.three HBR9.out
  refine ⟨_, rfl, ⟨xs', ys', ⟨_, _, _, _, _, _, by rw [HSG.out], ?_, hI2, hI3, ?_, hI5, hI6⟩, HRX.out, HRY.out⟩, Ext.boxed HX9.out (by omega) _ _ _⟩
  · exact ((H1.out.past hNR.cell 0 _).past (hNR.set 0 (noInt_bool _)).cell 1 _).past ((hNR.set 0 (noInt_bool _)).set 1 (noInt_slice _ _ _)).cell 2 _
  · exact ((H4.out.past hNR.cell 0 _).past (hNR.set 0 (noInt_bool _)).cell 1 _).past ((hNR.set 0 (noInt_bool _)).set 1 (noInt_slice _ _ _)).cell 2 _

set_option maxRecDepth 100000 in
set_option maxHeartbeats 2000000 in
theorem eneg_ok (v : Value) (neg : Bool) (xs ys : List Int) (w : World) (h : RatV w v neg xs ys) (hs : SmallR xs ys) :
    Calls Try.prog 35 #[v] w (RetC w (-(ratOf neg xs ys))) := by
  have HR := Lib.hid h
  have HS := Lib.hid hs
  clear hs
  obtain ⟨A, l, c, B, m, k, rfl, _⟩ := h
  have hXw : Ext w (((w.alloc (.cells #[.bool neg, .slice A l c, .slice B m k] 33)).alloc (.cells #[.bool false, .slice none 0 0, .slice none 0 0] 33)).alloc (.cells #[.bool neg, .slice A l c, .slice B m k] 33)) := ((((Ext.refl w).alloc _).alloc _).alloc _)
  have hB1 : Blk (((w.alloc (.cells #[.bool neg, .slice A l c, .slice B m k] 33)).alloc (.cells #[.bool false, .slice none 0 0, .slice none 0 0] 33)).alloc (.cells #[.bool neg, .slice A l c, .slice B m k] 33)) w.heap.size 33 #[.bool neg, .slice A l c, .slice B m k] := ((Blk.new w _ _).alloc _).alloc _
  have hBR : Blk (((w.alloc (.cells #[.bool neg, .slice A l c, .slice B m k] 33)).alloc (.cells #[.bool false, .slice none 0 0, .slice none 0 0] 33)).alloc (.cells #[.bool neg, .slice A l c, .slice B m k] 33)) (w.heap.size + 1) 33 #[.bool false, .slice none 0 0, .slice none 0 0] := by
    have := (Blk.new (w.alloc (.cells #[.bool neg, .slice A l c, .slice B m k] 33)) 33 #[.bool false, .slice none 0 0, .slice none 0 0]).alloc (.cells #[.bool neg, .slice A l c, .slice B m k] 33)
    simpa using this
  have hB2 : Blk (((w.alloc (.cells #[.bool neg, .slice A l c, .slice B m k] 33)).alloc (.cells #[.bool false, .slice none 0 0, .slice none 0 0] 33)).alloc (.cells #[.bool neg, .slice A l c, .slice B m k] 33)) (w.heap.size + 2) 33 #[.bool neg, .slice A l c, .slice B m k] := by
    have := Blk.new ((w.alloc (.cells #[.bool neg, .slice A l c, .slice B m k] 33)).alloc (.cells #[.bool false, .slice none 0 0, .slice none 0 0] 33)) 33 #[.bool neg, .slice A l c, .slice B m k]
    simpa using this
  go_enter Try.func35, Try.ntmps35
  go_wp2_with fail
  generalize (((w.alloc (.cells #[.bool neg, .slice A l c, .slice B m k] 33)).alloc (.cells #[.bool false, .slice none 0 0, .slice none 0 0] 33)).alloc (.cells #[.bool neg, .slice A l c, .slice B m k] 33)) = w1 at hXw hB1 hB2 hBR ⊢
  refine (anyLarge_one false _ _ neg A B l c m k xs ys _ hB2 (HR.out.ext hXw) (by simp [HS.out])).mono ?_
  rintro e w2 ⟨rfl, hX2⟩
  obtain ⟨x0, x1, x2, _, _, _⟩ := (hB1.ext hX2).three
  have HBR := Lib.hid (hBR.ext hX2)
  obtain ⟨r0, r1, r2, g0, g1, g2⟩ := HBR.out.three
  have hlt := hBR.lt
  clear hBR
  have HX2 := Lib.hid (hXw.trans hX2)
  have HX12 := Lib.hid hX2
  clear hXw hB1 hB2 hX2
  go_wp2_with fail
  refine (of_any _ neg xs ys 256 _ (HR.out.ext HX2.out) HS.out.1.fit HS.out.den.fit (by omega)).mono ?_
  rintro e w3 ⟨v3, rfl, hv3, hX3⟩
  obtain ⟨A3, l3, c3, B3, m3, k3, rfl, _⟩ := NumV.open hv3
  have HV3 := Lib.hid (NumQ.numx hv3 HS.out.fit)
  have HQ3 := Lib.hid hv3
  have HX3 := Lib.hid (HX2.out.trans hX3)
  have HBR3 := Lib.hid (HBR.out.ext hX3)
  clear HBR r0 r1 r2 g0 g1 g2
  clear hX3 hv3 x0 x1 x2
  go_wp2_with fail
  refine (negX HV3.out).mono ?_
  rintro e w4 ⟨v4, rfl, hv4, hX4⟩
  obtain ⟨s4, A4, l4, c4, B4, m4, k4, rfl⟩ := hv4.open
  have HV4 := Lib.hid hv4
  have HX4 := Lib.hid (HX3.out.trans hX4)
  have HBR4 := Lib.hid (HBR3.out.ext hX4)
  clear hX4 hv4 HBR3
  go_wp2_with fail
  refine (done_ok _ _ 256 _ HV4.out (by omega) (FitQW.of (fitQ_neg HS.out.fit))).mono ?_
  rintro e w5 ⟨v5, rfl, hRC, hX5⟩
  have HX9 := Lib.hid (HX4.out.trans hX5)
  have HBR9 := Lib.hid (HBR4.out.ext hX5)
  clear hX5 HBR4
  obtain ⟨xs', ys', hRV, hRx, hRy⟩ := hRC
  obtain ⟨A', l', c', B', m', k', rfl, hI1, hI2, hI3, hI4, hI5, hI6⟩ := hRV
  obtain ⟨r0, r1, r2, g0, g1, g2⟩ := HBR9.out.three
  have H1 := Lib.hid hI1
  have H4 := Lib.hid hI4
  have HRX := Lib.hid hRx
  have HRY := Lib.hid hRy
  generalize hsg : decide ((-(ratOf neg xs ys)).num < 0) = sg
  have HSG := Lib.hid hsg
  clear hI1 hI4 hRx hRy hsg
  go_wp2
  refine bodyPost_ret (v := .tuple #[.agg #[.bool sg, .slice A' l' c', .slice B' m' k'], .int .i64 0]) (by simp [results, Try.results35, go_sem, *]) rfl ?_
  have hNR := NoInts.three HBR9.out
  refine ⟨_, rfl, ⟨xs', ys', ⟨_, _, _, _, _, _, by rw [HSG.out], ?_, hI2, hI3, ?_, hI5, hI6⟩, HRX.out, HRY.out⟩, Ext.boxed HX9.out (by omega) _ _ _⟩
  · exact ((H1.out.past hNR.cell 0 _).past (hNR.set 0 (noInt_bool _)).cell 1 _).past ((hNR.set 0 (noInt_bool _)).set 1 (noInt_slice _ _ _)).cell 2 _
  · exact ((H4.out.past hNR.cell 0 _).past (hNR.set 0 (noInt_bool _)).cell 1 _).past ((hNR.set 0 (noInt_bool _)).set 1 (noInt_slice _ _ _)).cell 2 _

end Go.Proofs.Yteoijnaljkagfaa
