/- Lemmas of the proof that follows (Canon, part 6): walks of functions by contract, and plain lemmas. Conditions: none. -/
import Derived.Test.YteoijnaljkagfaaCanonE
namespace Go.Proofs.Yteoijnaljkagfaa
open Go.RowKit

theorem SmallR.fit {neg : Bool} {xs ys : List Int} (h : SmallR xs ys) : FitQ (ratOf neg xs ys) 256 := fit_red (wD_pos ys) h.1.fit h.den.fit
theorem FitQW.of {q : Rat} (h : FitQ q 256) : FitQW q := ⟨⟨h.1⟩, ⟨h.2⟩⟩
theorem fitQ_neg {q : Rat} {L : Nat} (h : FitQ q L) : FitQ (-q) L := by
  unfold FitQ at *
  rw [Rat.neg_num, Rat.neg_den, Int.natAbs_neg]; exact h
/-- The zero value, as a result with an error. -/
def zeroR : Value := .agg #[.bool false, .slice none 0 0, .slice none 0 0]
/-- A pair of a value and an error. -/
def RetE (w : World) (v : Value) (n : Int) (e : Ending) (w' : World) : Prop := e = .returned (.tuple #[v, .int .i64 n]) ∧ Ext w w'

set_option maxRecDepth 100000 in
set_option maxHeartbeats 2000000 in
theorem ecanon_no (v : Value) (neg : Bool) (xs ys : List Int) (w : World) (h : RatV w v neg xs ys) (hs : ¬ SmallR xs ys) :
    Calls Try.prog 34 #[v] w (RetE w (zeroR) 1) := by
  have HR := Lib.hid h
  have HS := Lib.hid hs
  clear hs
  obtain ⟨A, l, c, B, m, k, rfl, _⟩ := h
  have hXw : Ext w (((w.alloc (.cells #[.bool neg, .slice A l c, .slice B m k] 33)).alloc (.cells #[.bool false, .slice none 0 0, .slice none 0 0] 33)).alloc (.cells #[.bool neg, .slice A l c, .slice B m k] 33)) := ((((Ext.refl w).alloc _).alloc _).alloc _)
  have hB1 : Blk (((w.alloc (.cells #[.bool neg, .slice A l c, .slice B m k] 33)).alloc (.cells #[.bool false, .slice none 0 0, .slice none 0 0] 33)).alloc (.cells #[.bool neg, .slice A l c, .slice B m k] 33)) w.heap.size 33 #[.bool neg, .slice A l c, .slice B m k] := ((Blk.new w _ _).alloc _).alloc _
  have hBR : Blk (((w.alloc (.cells #[.bool neg, .slice A l c, .slice B m k] 33)).alloc (.cells #[.bool false, .slice none 0 0, .slice none 0 0] 33)).alloc (.cells #[.bool neg, .slice A l c, .slice B m k] 33)) (w.heap.size + 1) 33 #[.bool false, .slice none 0 0, .slice none 0 0] := by
    have := (Blk.new (w.alloc (.cells #[.bool neg, .slice A l c, .slice B m k] 33)) 33 #[.bool false, .slice none 0 0, .slice none 0 0]).alloc (.cells #[.bool neg, .slice A l c, .slice B m k] 33)
    simpa using this
  have hB2 : Blk (((w.alloc (.cells #[.bool neg, .slice A l c, .slice B m k] 33)).alloc (.cells #[.bool false, .slice none 0 0, .slice none 0 0] 33)).alloc (.cells #[.bool neg, .slice A l c, .slice B m k] 33)) (w.heap.size + 2) 33 #[.bool neg, .slice A l c, .slice B m k] := by
    have := Blk.new ((w.alloc (.cells #[.bool neg, .slice A l c, .slice B m k] 33)).alloc (.cells #[.bool false, .slice none 0 0, .slice none 0 0] 33)) 33 #[.bool neg, .slice A l c, .slice B m k]
    simpa using this
  go_enter Try.func34, Try.ntmps34
  go_wp2_with fail
  generalize (((w.alloc (.cells #[.bool neg, .slice A l c, .slice B m k] 33)).alloc (.cells #[.bool false, .slice none 0 0, .slice none 0 0] 33)).alloc (.cells #[.bool neg, .slice A l c, .slice B m k] 33)) = w1 at hXw hB1 hB2 hBR ⊢
  refine (anyLarge_one true _ _ neg A B l c m k xs ys _ hB2 (HR.out.ext hXw) (by simp [HS.out])).mono ?_
  rintro e w2 ⟨rfl, hX2⟩
  obtain ⟨x0, x1, x2, _, _, _⟩ := (hB1.ext hX2).three
  have HBR := Lib.hid (hBR.ext hX2)
  obtain ⟨r0, r1, r2, g0, g1, g2⟩ := HBR.out.three
  have hlt := hBR.lt
  clear hBR
  have HX2 := Lib.hid (hXw.trans hX2)
  have HX12 := Lib.hid hX2
  clear hXw hB1 hB2 hX2
  go_wp2
  refine bodyPost_ret (v := .tuple #[zeroR, .int .i64 1]) (by simp [results, zeroR, Try.results34, go_sem, *]) rfl ?_
  exact ⟨rfl, Ext.boxed HX2.out (by omega) _ _ _⟩

set_option maxRecDepth 100000 in
set_option maxHeartbeats 2000000 in
theorem eneg_no (v : Value) (neg : Bool) (xs ys : List Int) (w : World) (h : RatV w v neg xs ys) (hs : ¬ SmallR xs ys) :
    Calls Try.prog 35 #[v] w (RetE w (zeroR) 1) := by
  have HR := Lib.hid h
  have HS := Lib.hid hs
  clear hs
  obtain ⟨A, l, c, B, m, k, rfl, _⟩ := h
  have hXw : Ext w (((w.alloc (.cells #[.bool neg, .slice A l c, .slice B m k] 33)).alloc (.cells #[.bool false, .slice none 0 0, .slice none 0 0] 33)).alloc (.cells #[.bool neg, .slice A l c, .slice B m k] 33)) := ((((Ext.refl w).alloc _).alloc _).alloc _)
  have hB1 : Blk (((w.alloc (.cells #[.bool neg, .slice A l c, .slice B m k] 33)).alloc (.cells #[.bool false, .slice none 0 0, .slice none 0 0] 33)).alloc (.cells #[.bool neg, .slice A l c, .slice B m k] 33)) w.heap.size 33 #[.bool neg, .slice A l c, .slice B m k] := ((Blk.new w _ _).alloc _).alloc _
  have hBR : Blk (((w.alloc (.cells #[.bool neg, .slice A l c, .slice B m k] 33)).alloc (.cells #[.bool false, .slice none 0 0, .slice none 0 0] 33)).alloc (.cells #[.bool neg, .slice A l c, .slice B m k] 33)) (w.heap.size + 1) 33 #[.bool false, .slice none 0 0, .slice none 0 0] := by
    have := (Blk.new (w.alloc (.cells #[.bool neg, .slice A l c, .slice B m k] 33)) 33 #[.bool false, .slice none 0 0, .slice none 0 0]).alloc (.cells #[.bool neg, .slice A l c, .slice B m k] 33)
    simpa using this
  have hB2 : Blk (((w.alloc (.cells #[.bool neg, .slice A l c, .slice B m k] 33)).alloc (.cells #[.bool false, .slice none 0 0, .slice none 0 0] 33)).alloc (.cells #[.bool neg, .slice A l c, .slice B m k] 33)) (w.heap.size + 2) 33 #[.bool neg, .slice A l c, .slice B m k] := by
    have := Blk.new ((w.alloc (.cells #[.bool neg, .slice A l c, .slice B m k] 33)).alloc (.cells #[.bool false, .slice none 0 0, .slice none 0 0] 33)) 33 #[.bool neg, .slice A l c, .slice B m k]
    simpa using this
  go_enter Try.func35, Try.ntmps35
  go_wp2_with fail
  generalize (((w.alloc (.cells #[.bool neg, .slice A l c, .slice B m k] 33)).alloc (.cells #[.bool false, .slice none 0 0, .slice none 0 0] 33)).alloc (.cells #[.bool neg, .slice A l c, .slice B m k] 33)) = w1 at hXw hB1 hB2 hBR ⊢
  refine (anyLarge_one true _ _ neg A B l c m k xs ys _ hB2 (HR.out.ext hXw) (by simp [HS.out])).mono ?_
  rintro e w2 ⟨rfl, hX2⟩
  obtain ⟨x0, x1, x2, _, _, _⟩ := (hB1.ext hX2).three
  have HBR := Lib.hid (hBR.ext hX2)
  obtain ⟨r0, r1, r2, g0, g1, g2⟩ := HBR.out.three
  have hlt := hBR.lt
  clear hBR
  have HX2 := Lib.hid (hXw.trans hX2)
  have HX12 := Lib.hid hX2
  clear hXw hB1 hB2 hX2
  go_wp2
  refine bodyPost_ret (v := .tuple #[zeroR, .int .i64 1]) (by simp [results, zeroR, Try.results35, go_sem, *]) rfl ?_
  exact ⟨rfl, Ext.boxed HX2.out (by omega) _ _ _⟩

set_option maxRecDepth 100000 in
set_option maxHeartbeats 2000000 in
theorem esign_no (v : Value) (neg : Bool) (xs ys : List Int) (w : World) (h : RatV w v neg xs ys) (hs : ¬ SmallR xs ys) :
    Calls Try.prog 36 #[v] w (RetE w (.int .i64 0) 1) := by
  have HR := Lib.hid h
  have HS := Lib.hid hs
  clear hs
  obtain ⟨A, l, c, B, m, k, rfl, _⟩ := h
  have hXw : Ext w ((w.alloc (.cells #[.bool neg, .slice A l c, .slice B m k] 33)).alloc (.cells #[.bool neg, .slice A l c, .slice B m k] 33)) := (((Ext.refl w).alloc _).alloc _)
  have hB1 : Blk ((w.alloc (.cells #[.bool neg, .slice A l c, .slice B m k] 33)).alloc (.cells #[.bool neg, .slice A l c, .slice B m k] 33)) w.heap.size 33 #[.bool neg, .slice A l c, .slice B m k] := (Blk.new w _ _).alloc _
  have hB2 : Blk ((w.alloc (.cells #[.bool neg, .slice A l c, .slice B m k] 33)).alloc (.cells #[.bool neg, .slice A l c, .slice B m k] 33)) (w.heap.size + 1) 33 #[.bool neg, .slice A l c, .slice B m k] := by
    have := Blk.new (w.alloc (.cells #[.bool neg, .slice A l c, .slice B m k] 33)) 33 #[.bool neg, .slice A l c, .slice B m k]
    simpa using this
  go_enter Try.func36, Try.ntmps36
  go_wp2_with fail
  generalize ((w.alloc (.cells #[.bool neg, .slice A l c, .slice B m k] 33)).alloc (.cells #[.bool neg, .slice A l c, .slice B m k] 33)) = w1 at hXw hB1 hB2 ⊢
  refine (anyLarge_one true _ _ neg A B l c m k xs ys _ hB2 (HR.out.ext hXw) (by simp [HS.out])).mono ?_
  rintro e w2 ⟨rfl, hX2⟩
  obtain ⟨x0, x1, x2, _, _, _⟩ := (hB1.ext hX2).three
  have HX2 := Lib.hid (hXw.trans hX2)
  have HX12 := Lib.hid hX2
  clear hXw hB1 hB2 hX2
  go_wp2
  go_ret2
  exact ⟨rfl, HX2.out⟩

set_option maxRecDepth 100000 in
set_option maxHeartbeats 2000000 in
theorem etext_no (v : Value) (neg : Bool) (xs ys : List Int) (w : World) (h : RatV w v neg xs ys) (hs : ¬ SmallR xs ys) :
    Calls Try.prog 37 #[v] w (RetE w (.string ⟨#[]⟩) 1) := by
  have HR := Lib.hid h
  have HS := Lib.hid hs
  clear hs
  obtain ⟨A, l, c, B, m, k, rfl, _⟩ := h
  have hXw : Ext w ((w.alloc (.cells #[.bool neg, .slice A l c, .slice B m k] 33)).alloc (.cells #[.bool neg, .slice A l c, .slice B m k] 33)) := (((Ext.refl w).alloc _).alloc _)
  have hB1 : Blk ((w.alloc (.cells #[.bool neg, .slice A l c, .slice B m k] 33)).alloc (.cells #[.bool neg, .slice A l c, .slice B m k] 33)) w.heap.size 33 #[.bool neg, .slice A l c, .slice B m k] := (Blk.new w _ _).alloc _
  have hB2 : Blk ((w.alloc (.cells #[.bool neg, .slice A l c, .slice B m k] 33)).alloc (.cells #[.bool neg, .slice A l c, .slice B m k] 33)) (w.heap.size + 1) 33 #[.bool neg, .slice A l c, .slice B m k] := by
    have := Blk.new (w.alloc (.cells #[.bool neg, .slice A l c, .slice B m k] 33)) 33 #[.bool neg, .slice A l c, .slice B m k]
    simpa using this
  go_enter Try.func37, Try.ntmps37
  go_wp2_with fail
  generalize ((w.alloc (.cells #[.bool neg, .slice A l c, .slice B m k] 33)).alloc (.cells #[.bool neg, .slice A l c, .slice B m k] 33)) = w1 at hXw hB1 hB2 ⊢
  refine (anyLarge_one true _ _ neg A B l c m k xs ys _ hB2 (HR.out.ext hXw) (by simp [HS.out])).mono ?_
  rintro e w2 ⟨rfl, hX2⟩
  obtain ⟨x0, x1, x2, _, _, _⟩ := (hB1.ext hX2).three
  have HX2 := Lib.hid (hXw.trans hX2)
  have HX12 := Lib.hid hX2
  clear hXw hB1 hB2 hX2
  go_wp2
  go_ret2
  exact ⟨rfl, HX2.out⟩

set_option maxRecDepth 100000 in
set_option maxHeartbeats 2000000 in
theorem esign_ok (v : Value) (neg : Bool) (xs ys : List Int) (w : World) (h : RatV w v neg xs ys) (hs : SmallR xs ys) :
    Calls Try.prog 36 #[v] w (RetE w (.int .i64 (sgnQ (ratOf neg xs ys))) 0) := by
  have HR := Lib.hid h
  have HS := Lib.hid hs
  clear hs
  obtain ⟨A, l, c, B, m, k, rfl, _⟩ := h
  have hXw : Ext w ((w.alloc (.cells #[.bool neg, .slice A l c, .slice B m k] 33)).alloc (.cells #[.bool neg, .slice A l c, .slice B m k] 33)) := (((Ext.refl w).alloc _).alloc _)
  have hB1 : Blk ((w.alloc (.cells #[.bool neg, .slice A l c, .slice B m k] 33)).alloc (.cells #[.bool neg, .slice A l c, .slice B m k] 33)) w.heap.size 33 #[.bool neg, .slice A l c, .slice B m k] := (Blk.new w _ _).alloc _
  have hB2 : Blk ((w.alloc (.cells #[.bool neg, .slice A l c, .slice B m k] 33)).alloc (.cells #[.bool neg, .slice A l c, .slice B m k] 33)) (w.heap.size + 1) 33 #[.bool neg, .slice A l c, .slice B m k] := by
    have := Blk.new (w.alloc (.cells #[.bool neg, .slice A l c, .slice B m k] 33)) 33 #[.bool neg, .slice A l c, .slice B m k]
    simpa using this
  go_enter Try.func36, Try.ntmps36
  go_wp2_with fail
  generalize ((w.alloc (.cells #[.bool neg, .slice A l c, .slice B m k] 33)).alloc (.cells #[.bool neg, .slice A l c, .slice B m k] 33)) = w1 at hXw hB1 hB2 ⊢
  refine (anyLarge_one false _ _ neg A B l c m k xs ys _ hB2 (HR.out.ext hXw) (by simp [HS.out])).mono ?_
  rintro e w2 ⟨rfl, hX2⟩
  obtain ⟨x0, x1, x2, _, _, _⟩ := (hB1.ext hX2).three
  have HX2 := Lib.hid (hXw.trans hX2)
  have HX12 := Lib.hid hX2
  clear hXw hB1 hB2 hX2
  go_wp2_with fail
  refine (of_any _ neg xs ys 256 _ (HR.out.ext HX2.out) HS.out.1.fit HS.out.den.fit (by omega)).mono ?_
  rintro e w3 ⟨v3, rfl, hv3, hX3⟩
  obtain ⟨A3, l3, c3, B3, m3, k3, rfl, _⟩ := NumV.open hv3
  have HV3 := Lib.hid (NumQ.numx hv3 HS.out.fit)
  have HQ3 := Lib.hid hv3
  have HX3 := Lib.hid (HX2.out.trans hX3)
  clear hX3 hv3 x0 x1 x2
  go_wp2_with fail
  refine (signX HV3.out).mono ?_
  rintro e w4 ⟨rfl, hX4⟩
  have HX4 := Lib.hid (HX3.out.trans hX4)
  clear hX4
  go_wp2
  go_ret2
  exact ⟨rfl, HX4.out⟩

set_option maxRecDepth 100000 in
set_option maxHeartbeats 2000000 in
theorem etext_ok (v : Value) (neg : Bool) (xs ys : List Int) (w : World) (h : RatV w v neg xs ys) (hs : SmallR xs ys) :
    Calls Try.prog 37 #[v] w (fun e w' => ∃ b, e = .returned (.tuple #[.string b, .int .i64 0]) ∧ TextB (decide ((ratOf neg xs ys).num < 0)) (ratOf neg xs ys).num.natAbs (ratOf neg xs ys).den b ∧ Ext w w') := by
  have HR := Lib.hid h
  have HS := Lib.hid hs
  clear hs
  obtain ⟨A, l, c, B, m, k, rfl, _⟩ := h
  have hXw : Ext w ((w.alloc (.cells #[.bool neg, .slice A l c, .slice B m k] 33)).alloc (.cells #[.bool neg, .slice A l c, .slice B m k] 33)) := (((Ext.refl w).alloc _).alloc _)
  have hB1 : Blk ((w.alloc (.cells #[.bool neg, .slice A l c, .slice B m k] 33)).alloc (.cells #[.bool neg, .slice A l c, .slice B m k] 33)) w.heap.size 33 #[.bool neg, .slice A l c, .slice B m k] := (Blk.new w _ _).alloc _
  have hB2 : Blk ((w.alloc (.cells #[.bool neg, .slice A l c, .slice B m k] 33)).alloc (.cells #[.bool neg, .slice A l c, .slice B m k] 33)) (w.heap.size + 1) 33 #[.bool neg, .slice A l c, .slice B m k] := by
    have := Blk.new (w.alloc (.cells #[.bool neg, .slice A l c, .slice B m k] 33)) 33 #[.bool neg, .slice A l c, .slice B m k]
    simpa using this
  go_enter Try.func37, Try.ntmps37
  go_wp2_with fail
  generalize ((w.alloc (.cells #[.bool neg, .slice A l c, .slice B m k] 33)).alloc (.cells #[.bool neg, .slice A l c, .slice B m k] 33)) = w1 at hXw hB1 hB2 ⊢
  refine (anyLarge_one false _ _ neg A B l c m k xs ys _ hB2 (HR.out.ext hXw) (by simp [HS.out])).mono ?_
  rintro e w2 ⟨rfl, hX2⟩
  obtain ⟨x0, x1, x2, _, _, _⟩ := (hB1.ext hX2).three
  have HX2 := Lib.hid (hXw.trans hX2)
  have HX12 := Lib.hid hX2
  clear hXw hB1 hB2 hX2
  go_wp2_with fail
  refine (of_any _ neg xs ys 256 _ (HR.out.ext HX2.out) HS.out.1.fit HS.out.den.fit (by omega)).mono ?_
  rintro e w3 ⟨v3, rfl, hv3, hX3⟩
  obtain ⟨A3, l3, c3, B3, m3, k3, rfl, _⟩ := NumV.open hv3
  have HV3 := Lib.hid (NumQ.numx hv3 HS.out.fit)
  have HQ3 := Lib.hid hv3
  have HX3 := Lib.hid (HX2.out.trans hX3)
  clear hX3 hv3 x0 x1 x2
  go_wp2_with fail
  refine (rtext_any _ _ _ _ 256 _ HQ3.out (ratOf neg xs ys).den_pos HS.out.fit.1 HS.out.fit.2 (by omega)).mono ?_
  rintro e w4 ⟨b, rfl, hb, hX4⟩
  have HX4 := Lib.hid (HX3.out.trans hX4)
  have HB := Lib.hid hb
  clear hX4 hb
  go_wp2
  go_ret2
  exact ⟨_, rfl, HB.out, HX4.out⟩

set_option maxRecDepth 100000 in
set_option maxHeartbeats 2000000 in
theorem eceil_ok (v : Value) (neg : Bool) (xs ys : List Int) (w : World) (h : RatV w v neg xs ys) (hs : SmallR xs ys) (h0 : -1152921504606846976 ≤ (-(ratOf neg xs ys)).floor) (h1 : (-(ratOf neg xs ys)).floor ≤ 1152921504606846976) :
    Calls Try.prog 29 #[v] w (RetE w (.int .i64 (-(-(ratOf neg xs ys)).floor)) 0) := by
  have HR := Lib.hid h
  have HS := Lib.hid hs
  clear hs
  obtain ⟨A, l, c, B, m, k, rfl, _⟩ := h
  have hXw : Ext w ((w.alloc (.cells #[.bool neg, .slice A l c, .slice B m k] 33)).alloc (.cells #[.bool neg, .slice A l c, .slice B m k] 33)) := (((Ext.refl w).alloc _).alloc _)
  have hB1 : Blk ((w.alloc (.cells #[.bool neg, .slice A l c, .slice B m k] 33)).alloc (.cells #[.bool neg, .slice A l c, .slice B m k] 33)) w.heap.size 33 #[.bool neg, .slice A l c, .slice B m k] := (Blk.new w _ _).alloc _
  have hB2 : Blk ((w.alloc (.cells #[.bool neg, .slice A l c, .slice B m k] 33)).alloc (.cells #[.bool neg, .slice A l c, .slice B m k] 33)) (w.heap.size + 1) 33 #[.bool neg, .slice A l c, .slice B m k] := by
    have := Blk.new (w.alloc (.cells #[.bool neg, .slice A l c, .slice B m k] 33)) 33 #[.bool neg, .slice A l c, .slice B m k]
    simpa using this
  go_enter Try.func29, Try.ntmps29
  go_wp2_with fail
  generalize ((w.alloc (.cells #[.bool neg, .slice A l c, .slice B m k] 33)).alloc (.cells #[.bool neg, .slice A l c, .slice B m k] 33)) = w1 at hXw hB1 hB2 ⊢
  refine (anyLarge_one false _ _ neg A B l c m k xs ys _ hB2 (HR.out.ext hXw) (by simp [HS.out])).mono ?_
  rintro e w2 ⟨rfl, hX2⟩
  obtain ⟨x0, x1, x2, _, _, _⟩ := (hB1.ext hX2).three
  have HX2 := Lib.hid (hXw.trans hX2)
  have HX12 := Lib.hid hX2
  clear hXw hB1 hB2 hX2
  go_wp2_with fail
  refine (of_any _ neg xs ys 256 _ (HR.out.ext HX2.out) HS.out.1.fit HS.out.den.fit (by omega)).mono ?_
  rintro e w3 ⟨v3, rfl, hv3, hX3⟩
  obtain ⟨A3, l3, c3, B3, m3, k3, rfl, _⟩ := NumV.open hv3
  have HV3 := Lib.hid (NumQ.numx hv3 HS.out.fit)
  have HQ3 := Lib.hid hv3
  have HX3 := Lib.hid (HX2.out.trans hX3)
  clear hX3 hv3 x0 x1 x2
  go_wp2_with fail
  refine (negX HV3.out).mono ?_
  rintro e w4 ⟨v4, rfl, hv4, hX4⟩
  obtain ⟨s4, A4, l4, c4, B4, m4, k4, rfl⟩ := hv4.open
  have HV4 := Lib.hid hv4
  have HX4 := Lib.hid (HX3.out.trans hX4)
  clear hX4 hv4
  go_wp2_with fail
  refine (xfloor_ok _ _ 256 _ HV4.out (by omega) h0 h1).mono ?_
  rintro e w5 ⟨rfl, hX5⟩
  have HX5 := Lib.hid (HX4.out.trans hX5)
  clear hX5
  generalize hf : (-(ratOf neg xs ys)).floor = f at h0 h1 ⊢
  have HF := Lib.hid hf
  clear hf
  go_wp2
  go_ret2
  exact ⟨by rw [HF.out]; rfl, HX5.out⟩

set_option maxRecDepth 100000 in
set_option maxHeartbeats 2000000 in
theorem ecanon_ok (v : Value) (neg : Bool) (xs ys : List Int) (w : World) (h : RatV w v neg xs ys) (hs : SmallR xs ys) :
    Calls Try.prog 34 #[v] w (RetC w (ratOf neg xs ys)) := by
  have HR := Lib.hid h
  have HS := Lib.hid hs
  clear hs
  obtain ⟨A, l, c, B, m, k, rfl, _⟩ := h
  have hXw : Ext w (((w.alloc (.cells #[.bool neg, .slice A l c, .slice B m k] 33)).alloc (.cells #[.bool false, .slice none 0 0, .slice none 0 0] 33)).alloc (.cells #[.bool neg, .slice A l c, .slice B m k] 33)) := ((((Ext.refl w).alloc _).alloc _).alloc _)
  have hB1 : Blk (((w.alloc (.cells #[.bool neg, .slice A l c, .slice B m k] 33)).alloc (.cells #[.bool false, .slice none 0 0, .slice none 0 0] 33)).alloc (.cells #[.bool neg, .slice A l c, .slice B m k] 33)) w.heap.size 33 #[.bool neg, .slice A l c, .slice B m k] := ((Blk.new w _ _).alloc _).alloc _
  have hBR : Blk (((w.alloc (.cells #[.bool neg, .slice A l c, .slice B m k] 33)).alloc (.cells #[.bool false, .slice none 0 0, .slice none 0 0] 33)).alloc (.cells #[.bool neg, .slice A l c, .slice B m k] 33)) (w.heap.size + 1) 33 #[.bool false, .slice none 0 0, .slice none 0 0] := by
    have := (Blk.new (w.alloc (.cells #[.bool neg, .slice A l c, .slice B m k] 33)) 33 #[.bool false, .slice none 0 0, .slice none 0 0]).alloc (.cells #[.bool neg, .slice A l c, .slice B m k] 33)
    simpa using this
  have hB2 : Blk (((w.alloc (.cells #[.bool neg, .slice A l c, .slice B m k] 33)).alloc (.cells #[.bool false, .slice none 0 0, .slice none 0 0] 33)).alloc (.cells #[.bool neg, .slice A l c, .slice B m k] 33)) (w.heap.size + 2) 33 #[.bool neg, .slice A l c, .slice B m k] := by
    have := Blk.new ((w.alloc (.cells #[.bool neg, .slice A l c, .slice B m k] 33)).alloc (.cells #[.bool false, .slice none 0 0, .slice none 0 0] 33)) 33 #[.bool neg, .slice A l c, .slice B m k]
    simpa using this
  go_enter Try.func34, Try.ntmps34
  go_wp2_with fail
  generalize (((w.alloc (.cells #[.bool neg, .slice A l c, .slice B m k] 33)).alloc (.cells #[.bool false, .slice none 0 0, .slice none 0 0] 33)).alloc (.cells #[.bool neg, .slice A l c, .slice B m k] 33)) = w1 at hXw hB1 hB2 hBR ⊢
  refine (anyLarge_one false _ _ neg A B l c m k xs ys _ hB2 (HR.out.ext hXw) (by simp [HS.out])).mono ?_
  rintro e w2 ⟨rfl, hX2⟩
  obtain ⟨x0, x1, x2, _, _, _⟩ := (hB1.ext hX2).three
  have HBR := Lib.hid (hBR.ext hX2)
  obtain ⟨r0, r1, r2, g0, g1, g2⟩ := HBR.out.three
  have hlt := hBR.lt
  clear hBR
  have HX2 := Lib.hid (hXw.trans hX2)
  have HX12 := Lib.hid hX2
  clear hXw hB1 hB2 hX2
  go_wp2_with fail
  refine (of_any _ neg xs ys 256 _ (HR.out.ext HX2.out) HS.out.1.fit HS.out.den.fit (by omega)).mono ?_
  rintro e w3 ⟨v3, rfl, hv3, hX3⟩
  obtain ⟨A3, l3, c3, B3, m3, k3, rfl, _⟩ := NumV.open hv3
  have HV3 := Lib.hid (NumQ.numx hv3 HS.out.fit)
  have HQ3 := Lib.hid hv3
  have HX3 := Lib.hid (HX2.out.trans hX3)
  have HBR3 := Lib.hid (HBR.out.ext hX3)
  clear HBR r0 r1 r2 g0 g1 g2
  clear hX3 hv3 x0 x1 x2
  go_wp2_with fail
  refine (done_ok _ _ 256 _ HV3.out (by omega) (FitQW.of HS.out.fit)).mono ?_
  rintro e w4 ⟨v4, rfl, hRC, hX4⟩
  have HX9 := Lib.hid (HX3.out.trans hX4)
  have HBR9 := Lib.hid (HBR3.out.ext hX4)
  clear hX4 HBR3
  obtain ⟨xs', ys', hRV, hRx, hRy⟩ := hRC
  obtain ⟨A', l', c', B', m', k', rfl, hI1, hI2, hI3, hI4, hI5, hI6⟩ := hRV
  obtain ⟨r0, r1, r2, g0, g1, g2⟩ := HBR9.out.three
  have H1 := Lib.hid hI1
  have H4 := Lib.hid hI4
  have HRX := Lib.hid hRx
  have HRY := Lib.hid hRy
  generalize hsg : decide ((ratOf neg xs ys).num < 0) = sg
  have HSG := Lib.hid hsg
  clear hI1 hI4 hRx hRy hsg
  go_wp2
  refine bodyPost_ret (v := .tuple #[.agg #[.bool sg, .slice A' l' c', .slice B' m' k'], .int .i64 0]) (by simp [results, Try.results34, go_sem, *]) rfl ?_
  have hNR := NoInts.three HBR9.out
  refine ⟨_, rfl, ⟨xs', ys', ⟨_, _, _, _, _, _, by rw [HSG.out], ?_, hI2, hI3, ?_, hI5, hI6⟩, HRX.out, HRY.out⟩, Ext.boxed HX9.out (by omega) _ _ _⟩
  · exact ((H1.out.past hNR.cell 0 _).past (hNR.set 0 (noInt_bool _)).cell 1 _).past ((hNR.set 0 (noInt_bool _)).set 1 (noInt_slice _ _ _)).cell 2 _
  · exact ((H4.out.past hNR.cell 0 _).past (hNR.set 0 (noInt_bool _)).cell 1 _).past ((hNR.set 0 (noInt_bool _)).set 1 (noInt_slice _ _ _)).cell 2 _

set_option maxRecDepth 100000 in
set_option maxHeartbeats 2000000 in
theorem eneg_ok (v : Value) (neg : Bool) (xs ys : List Int) (w : World) (h : RatV w v neg xs ys) (hs : SmallR xs ys) :
    Calls Try.prog 35 #[v] w (RetC w (-(ratOf neg xs ys))) := by
  have HR := Lib.hid h
  have HS := Lib.hid hs
  clear hs
  obtain ⟨A, l, c, B, m, k, rfl, _⟩ := h
  have hXw : Ext w (((w.alloc (.cells #[.bool neg, .slice A l c, .slice B m k] 33)).alloc (.cells #[.bool false, .slice none 0 0, .slice none 0 0] 33)).alloc (.cells #[.bool neg, .slice A l c, .slice B m k] 33)) := ((((Ext.refl w).alloc _).alloc _).alloc _)
  have hB1 : Blk (((w.alloc (.cells #[.bool neg, .slice A l c, .slice B m k] 33)).alloc (.cells #[.bool false, .slice none 0 0, .slice none 0 0] 33)).alloc (.cells #[.bool neg, .slice A l c, .slice B m k] 33)) w.heap.size 33 #[.bool neg, .slice A l c, .slice B m k] := ((Blk.new w _ _).alloc _).alloc _
  have hBR : Blk (((w.alloc (.cells #[.bool neg, .slice A l c, .slice B m k] 33)).alloc (.cells #[.bool false, .slice none 0 0, .slice none 0 0] 33)).alloc (.cells #[.bool neg, .slice A l c, .slice B m k] 33)) (w.heap.size + 1) 33 #[.bool false, .slice none 0 0, .slice none 0 0] := by
    have := (Blk.new (w.alloc (.cells #[.bool neg, .slice A l c, .slice B m k] 33)) 33 #[.bool false, .slice none 0 0, .slice none 0 0]).alloc (.cells #[.bool neg, .slice A l c, .slice B m k] 33)
    simpa using this
  have hB2 : Blk (((w.alloc (.cells #[.bool neg, .slice A l c, .slice B m k] 33)).alloc (.cells #[.bool false, .slice none 0 0, .slice none 0 0] 33)).alloc (.cells #[.bool neg, .slice A l c, .slice B m k] 33)) (w.heap.size + 2) 33 #[.bool neg, .slice A l c, .slice B m k] := by
    have := Blk.new ((w.alloc (.cells #[.bool neg, .slice A l c, .slice B m k] 33)).alloc (.cells #[.bool false, .slice none 0 0, .slice none 0 0] 33)) 33 #[.bool neg, .slice A l c, .slice B m k]
    simpa using this
  go_enter Try.func35, Try.ntmps35
  go_wp2_with fail
  generalize (((w.alloc (.cells #[.bool neg, .slice A l c, .slice B m k] 33)).alloc (.cells #[.bool false, .slice none 0 0, .slice none 0 0] 33)).alloc (.cells #[.bool neg, .slice A l c, .slice B m k] 33)) = w1 at hXw hB1 hB2 hBR ⊢
  refine (anyLarge_one false _ _ neg A B l c m k xs ys _ hB2 (HR.out.ext hXw) (by simp [HS.out])).mono ?_
  rintro e w2 ⟨rfl, hX2⟩
  obtain ⟨x0, x1, x2, _, _, _⟩ := (hB1.ext hX2).three
  have HBR := Lib.hid (hBR.ext hX2)
  obtain ⟨r0, r1, r2, g0, g1, g2⟩ := HBR.out.three
  have hlt := hBR.lt
  clear hBR
  have HX2 := Lib.hid (hXw.trans hX2)
  have HX12 := Lib.hid hX2
  clear hXw hB1 hB2 hX2
  go_wp2_with fail
  refine (of_any _ neg xs ys 256 _ (HR.out.ext HX2.out) HS.out.1.fit HS.out.den.fit (by omega)).mono ?_
  rintro e w3 ⟨v3, rfl, hv3, hX3⟩
  obtain ⟨A3, l3, c3, B3, m3, k3, rfl, _⟩ := NumV.open hv3
  have HV3 := Lib.hid (NumQ.numx hv3 HS.out.fit)
  have HQ3 := Lib.hid hv3
  have HX3 := Lib.hid (HX2.out.trans hX3)
  have HBR3 := Lib.hid (HBR.out.ext hX3)
  clear HBR r0 r1 r2 g0 g1 g2
  clear hX3 hv3 x0 x1 x2
  go_wp2_with fail
  refine (negX HV3.out).mono ?_
  rintro e w4 ⟨v4, rfl, hv4, hX4⟩
  obtain ⟨s4, A4, l4, c4, B4, m4, k4, rfl⟩ := hv4.open
  have HV4 := Lib.hid hv4
  have HX4 := Lib.hid (HX3.out.trans hX4)
  have HBR4 := Lib.hid (HBR3.out.ext hX4)
  clear hX4 hv4 HBR3
  go_wp2_with fail
  refine (done_ok _ _ 256 _ HV4.out (by omega) (FitQW.of (fitQ_neg HS.out.fit))).mono ?_
  rintro e w5 ⟨v5, rfl, hRC, hX5⟩
  have HX9 := Lib.hid (HX4.out.trans hX5)
  have HBR9 := Lib.hid (HBR4.out.ext hX5)
  clear hX5 HBR4
  obtain ⟨xs', ys', hRV, hRx, hRy⟩ := hRC
  obtain ⟨A', l', c', B', m', k', rfl, hI1, hI2, hI3, hI4, hI5, hI6⟩ := hRV
  obtain ⟨r0, r1, r2, g0, g1, g2⟩ := HBR9.out.three
  have H1 := Lib.hid hI1
  have H4 := Lib.hid hI4
  have HRX := Lib.hid hRx
  have HRY := Lib.hid hRy
  generalize hsg : decide ((-(ratOf neg xs ys)).num < 0) = sg
  have HSG := Lib.hid hsg
  clear hI1 hI4 hRx hRy hsg
  go_wp2
  refine bodyPost_ret (v := .tuple #[.agg #[.bool sg, .slice A' l' c', .slice B' m' k'], .int .i64 0]) (by simp [results, Try.results35, go_sem, *]) rfl ?_
  have hNR := NoInts.three HBR9.out
  refine ⟨_, rfl, ⟨xs', ys', ⟨_, _, _, _, _, _, by rw [HSG.out], ?_, hI2, hI3, ?_, hI5, hI6⟩, HRX.out, HRY.out⟩, Ext.boxed HX9.out (by omega) _ _ _⟩
  · exact ((H1.out.past hNR.cell 0 _).past (hNR.set 0 (noInt_bool _)).cell 1 _).past ((hNR.set 0 (noInt_bool _)).set 1 (noInt_slice _ _ _)).cell 2 _
  · exact ((H4.out.past hNR.cell 0 _).past (hNR.set 0 (noInt_bool _)).cell 1 _).past ((hNR.set 0 (noInt_bool _)).set 1 (noInt_slice _ _ _)).cell 2 _

end Go.Proofs.Yteoijnaljkagfaa
namespace Go.Proofs.Yteoijnaljkagfaa
open Go.RowKit

theorem RatC.past {w : World} {v : Value} {q : Rat} {g : Nat} (h : RatC w v q) (hN : NoInts w g) (b : Bool) (A1 A2 : Option Addr) (l1 c1 l2 c2 : Nat) :
    RatC (((w.setCell ⟨g, 0, none⟩ (.bool b)).setCell ⟨g, 1, none⟩ (.slice A1 l1 c1)).setCell ⟨g, 2, none⟩ (.slice A2 l2 c2)) v q := by
  obtain ⟨xs, ys, ⟨A, l, c, B, m, k, rfl, h1, h2, h3, h4, h5, h6⟩, hx, hy⟩ := h
  refine ⟨xs, ys, ⟨A, l, c, B, m, k, rfl, ?_, h2, h3, ?_, h5, h6⟩, hx, hy⟩
  · exact ((h1.past hN.cell 0 _).past (hN.set 0 (noInt_bool _)).cell 1 _).past ((hN.set 0 (noInt_bool _)).set 1 (noInt_slice _ _ _)).cell 2 _
  · exact ((h4.past hN.cell 0 _).past (hN.set 0 (noInt_bool _)).cell 1 _).past ((hN.set 0 (noInt_bool _)).set 1 (noInt_slice _ _ _)).cell 2 _
theorem RatC.open {w : World} {v : Value} {q : Rat} (h : RatC w v q) : ∃ s A l c B m k, v = .agg #[.bool s, .slice A l c, .slice B m k] := by
  obtain ⟨xs, ys, ⟨A, l, c, B, m, k, rfl, _⟩, _⟩ := h
  exact ⟨_, _, _, _, _, _, _, rfl⟩
theorem FitQW.of4 {q : Rat} {L : Nat} (h : FitQ q L) (hl : L ≤ 256) : FitQW q := FitQW.of (h.mono hl)
set_option maxRecDepth 100000 in
set_option maxHeartbeats 2000000 in
theorem eratio_ok (a b : Int) (w : World) (h0 : -9223372036854775808 ≤ a) (h1 : a ≤ 9223372036854775807) (h2 : -9223372036854775808 ≤ b) (h3 : b ≤ 9223372036854775807) (hb : b ≠ 0) :
    Calls Try.prog 22 #[.int .i64 a, .int .i64 b] w (RetC w ((a : Rat) / (b : Rat))) := by
  have hXw : Ext w (w.alloc (.cells #[.bool false, .slice none 0 0, .slice none 0 0] 33)) := (Ext.refl w).alloc _
  have hBR : Blk (w.alloc (.cells #[.bool false, .slice none 0 0, .slice none 0 0] 33)) w.heap.size 33 #[.bool false, .slice none 0 0, .slice none 0 0] := Blk.new w _ _
  have hbq : ((b : Int) : Rat) ≠ 0 := by simpa using hb
  have HBQ := Lib.hid hbq
  have hb' : (b == 0) = false := by simpa using hb
  go_enter Try.func22, Try.ntmps22
  go_wp2_with fail
  generalize (w.alloc (.cells #[.bool false, .slice none 0 0, .slice none 0 0] 33)) = w1 at hXw hBR ⊢
  refine (intX a _ h0 h1).mono ?_
  rintro e w2 ⟨v2, rfl, hv2, hX2⟩
  obtain ⟨s2, A2, l2, c2, B2, m2, k2, rfl⟩ := hv2.open
  have HV2 := Lib.hid hv2
  have HX2 := Lib.hid (hXw.trans hX2)
  have HB2 := Lib.hid (hBR.ext hX2)
  clear hXw hBR hX2 hv2 hb' hbq hb
  go_wp2_with fail
  refine (intX b _ h2 h3).mono ?_
  rintro e w3 ⟨v3, rfl, hv3, hX3⟩
  obtain ⟨s3, A3, l3, c3, B3, m3, k3, rfl⟩ := hv3.open
  have HV3 := Lib.hid hv3
  have HV2' := Lib.hid (HV2.out.ext hX3)
  have HX3 := Lib.hid (HX2.out.trans hX3)
  have HB3 := Lib.hid (HB2.out.ext hX3)
  clear hX3 hv3
  go_wp2_with fail
  refine (divX HV2'.out HV3.out HBQ.out (by omega) (by omega)).mono ?_
  rintro e w4 ⟨v4, rfl, hv4, hX4⟩
  obtain ⟨s4, A4, l4, c4, B4, m4, k4, rfl⟩ := hv4.open
  have HV4 := Lib.hid hv4
  have HX4 := Lib.hid (HX3.out.trans hX4)
  have HB4 := Lib.hid (HB3.out.ext hX4)
  clear hX4 hv4
  go_wp2_with fail
  refine (done_ok _ _ 4 _ HV4.out (by omega) (FitQW.of4 HV4.out.fit (by omega))).mono ?_
  rintro e w5 ⟨v5, rfl, hv5, hX5⟩
  obtain ⟨s5, A5, l5, c5, B5, m5, k5, rfl⟩ := hv5.open
  have HX5 := Lib.hid (HX4.out.trans hX5)
  have hB5 := HB4.out.ext hX5
  obtain ⟨r0, r1, r2, g0, g1, g2⟩ := hB5.three
  have HV6 := Lib.hid (hv5.past (NoInts.three hB5) s5 A5 B5 l5 c5 m5 k5)
  clear hX5 hv5 hB5
  go_wp2
  refine bodyPost_ret (v := .tuple #[.agg #[.bool s5, .slice A5 l5 c5, .slice B5 m5 k5], .int .i64 0]) (by simp [results, Try.results22, go_sem, *]) rfl ?_
  exact ⟨_, rfl, HV6.out, Ext.boxed HX5.out (Nat.le_refl _) _ _ _⟩

end Go.Proofs.Yteoijnaljkagfaa
namespace Go.Proofs.Yteoijnaljkagfaa
open Go.RowKit

/-- A value that denotes a number and is not large. -/
def RatG (w : World) (v : Value) (q : Rat) : Prop := ∃ neg xs ys, RatV w v neg xs ys ∧ SmallR xs ys ∧ ratOf neg xs ys = q
theorem RatG.ext {w w' : World} {v : Value} {q : Rat} (h : RatG w v q) (he : Ext w w') : RatG w' v q := by
  obtain ⟨neg, xs, ys, h1, h2, h3⟩ := h
  exact ⟨neg, xs, ys, h1.ext he, h2, h3⟩
theorem RatG.fit {w : World} {v : Value} {q : Rat} (h : RatG w v q) : FitQ q 256 := by
  obtain ⟨neg, xs, ys, h1, h2, rfl⟩ := h
  exact h2.fit
theorem Rep.wN {xs : List Int} {n : Nat} (h : Rep 4294967296 xs n) : wN xs = n := by
  have := h.2.2
  unfold Go.Proofs.Yteoijnaljkagfaa.wN; omega
theorem RatC.good {w : World} {v : Value} {q : Rat} (h : RatC w v q) (hf : FitQW q) : RatG w v q := by
  obtain ⟨xs, ys, h1, h2, h3⟩ := h
  have e1 := h2.wN
  have e2 : wD ys = q.den ∧ FitW (wN ys) := by
    rcases h3 with ⟨hd, rfl⟩ | ⟨hd, hr⟩
    · have : wN [] = 0 := by simp [wN, val]
      refine ⟨by unfold wD; rw [this, hd]; rfl, ?_⟩
      rw [this]; exact ⟨Fit.zero (by omega)⟩
    · have e := hr.wN
      have := q.den_pos
      refine ⟨by unfold wD; rw [e, if_neg (by omega)], ?_⟩
      rw [e]; exact hf.den
  refine ⟨_, xs, ys, h1, ⟨by rw [e1]; exact hf.num, e2.2⟩, ?_⟩
  unfold ratOf
  rw [e1, e2.1, ratV_self]
theorem RatG.open {w : World} {v : Value} {q : Rat} (h : RatG w v q) : ∃ s A l c B m k, v = .agg #[.bool s, .slice A l c, .slice B m k] := by
  obtain ⟨neg, xs, ys, ⟨A, l, c, B, m, k, rfl, _⟩, _⟩ := h
  exact ⟨_, _, _, _, _, _, _, rfl⟩

section
variable {w : World} {v : Value} {q : Rat}
theorem canonG (h : RatG w v q) : Calls Try.prog 34 #[v] w (RetC w q) := by
  obtain ⟨neg, xs, ys, h1, h2, rfl⟩ := h
  exact ecanon_ok v neg xs ys w h1 h2
theorem negG (h : RatG w v q) : Calls Try.prog 35 #[v] w (RetC w (-q)) := by
  obtain ⟨neg, xs, ys, h1, h2, rfl⟩ := h
  exact eneg_ok v neg xs ys w h1 h2
theorem signG (h : RatG w v q) : Calls Try.prog 36 #[v] w (RetE w (.int .i64 (sgnQ q)) 0) := by
  obtain ⟨neg, xs, ys, h1, h2, rfl⟩ := h
  exact esign_ok v neg xs ys w h1 h2
theorem textG (h : RatG w v q) : Calls Try.prog 37 #[v] w (fun e w' => ∃ b, e = .returned (.tuple #[.string b, .int .i64 0]) ∧ TextB (decide (q.num < 0)) q.num.natAbs q.den b ∧ Ext w w') := by
  obtain ⟨neg, xs, ys, h1, h2, rfl⟩ := h
  exact etext_ok v neg xs ys w h1 h2
theorem ceilG (h : RatG w v q) (h0 : -1152921504606846976 ≤ (-q).floor) (h1 : (-q).floor ≤ 1152921504606846976) : Calls Try.prog 29 #[v] w (RetE w (.int .i64 (-(-q).floor)) 0) := by
  obtain ⟨neg, xs, ys, k1, k2, rfl⟩ := h
  exact eceil_ok v neg xs ys w k1 k2 h0 h1
end

theorem q46 : (((4 : Int) : Rat) / ((6 : Int) : Rat)).num = 2 ∧ (((4 : Int) : Rat) / ((6 : Int) : Rat)).den = 3 := by decide +kernel
theorem q46_fl : (-(((4 : Int) : Rat) / ((6 : Int) : Rat))).floor = -1 := by decide +kernel
theorem q46_fit : FitQW (((4 : Int) : Rat) / ((6 : Int) : Rat)) := by
  refine ⟨⟨?_⟩, ⟨?_⟩⟩
  · rw [q46.1]; exact (show Fit 4294967296 2 1 by unfold Fit; omega).mono (by omega) (by omega)
  · rw [q46.2]; exact (show Fit 4294967296 3 1 by unfold Fit; omega).mono (by omega) (by omega)
theorem dec_digit (n : Nat) (h0 : 0 < n) (h1 : n < 10) : Dec n [48 + (n : Int)] := .inr ⟨by omega, [(n : Int)], Rep.small (B := 10) (x := (n : Int)) (by omega) (by omega), rfl⟩
theorem q46_text {b : ByteArray} (h : TextB false 2 3 b) : b = ⟨#[50, 47, 51]⟩ :=
  h.unique ⟨[50], [51], dec_digit 2 (by omega) (by omega), dec_digit 3 (by omega) (by omega), by decide +kernel⟩

set_option maxRecDepth 100000 in
set_option maxHeartbeats 2000000 in
theorem first_any (w : World) : Calls Try.prog 20 #[] w fun e w' => e = .returned (.bool true) ∧ Ext w w' := by
  go_enter Try.func20, Try.ntmps20
  go_wp2_with fail
  refine (eratio_ok 4 6 _ (by omega) (by omega) (by omega) (by omega) (by omega)).mono ?_
  rintro e w1 ⟨v1, rfl, hv1, hX1⟩
  have hg := hv1.good q46_fit
  obtain ⟨s, A, l, c, B, m, k, rfl⟩ := hg.open
  have hXa : Ext w1 (w1.alloc (.cells #[.bool s, .slice A l c, .slice B m k] 33)) := (Ext.refl w1).alloc _
  have HX2 := Lib.hid (hX1.trans hXa)
  have HG := Lib.hid (hg.ext hXa)
  have HB := Lib.hid (Blk.new w1 33 #[.bool s, .slice A l c, .slice B m k])
  clear hX1 hv1 hg hXa
  go_upto_region 2 with (fail)
  generalize w1.alloc (.cells #[.bool s, .slice A l c, .slice B m k] 33) = w2 at HX2 HB HG ⊢
  obtain ⟨x0, x1, x2, _, _, _⟩ := HB.out.three
  go_wp2_with fail
  refine (textG HG.out).mono ?_
  rintro e w3 ⟨b, rfl, hb, hX3⟩
  rw [q46.1, q46.2] at hb
  obtain rfl := q46_text hb
  have HX3 := Lib.hid (HX2.out.trans hX3)
  have HG3 := Lib.hid (HG.out.ext hX3)
  have HB3 := Lib.hid (HB.out.ext hX3)
  clear hX3 hb x0 x1 x2
  obtain ⟨x0, x1, x2, _, _, _⟩ := HB3.out.three
  go_wp2_with fail
  refine (ceilG HG3.out (by rw [q46_fl]; omega) (by rw [q46_fl]; omega)).mono ?_
  rw [q46_fl]
  rintro e w4 ⟨rfl, hX4⟩
  have HX4 := Lib.hid (HX3.out.trans hX4)
  clear hX4
  go_wp2_with fail
  refine (turn_any 0 0 1 0 0 1 _).mono ?_
  rw [show turnI (0, 0) (1, 0) (0, 1) = 1 by decide, show turnE (0, 0) (1, 0) (0, 1) = 0 by decide]
  rintro e w5 ⟨rfl, hX5⟩
  have HX5 := Lib.hid (HX4.out.trans hX5)
  clear hX5
  go_wp2
  go_ret
  exact ⟨rfl, HX5.out⟩
end Go.Proofs.Yteoijnaljkagfaa
namespace Go.Proofs.Yteoijnaljkagfaa
open Go.RowKit

/-- A value that denotes a number, and whether it is large. -/
def RatL (w : World) (v : Value) (big : Bool) : Prop := ∃ neg xs ys, RatV w v neg xs ys ∧ (big = true ↔ ¬ SmallR xs ys)
theorem RatL.ext {w w' : World} {v : Value} {b : Bool} (h : RatL w v b) (he : Ext w w') : RatL w' v b := by
  obtain ⟨neg, xs, ys, h1, h2⟩ := h
  exact ⟨neg, xs, ys, h1.ext he, h2⟩
theorem RatG.small {w : World} {v : Value} {q : Rat} (h : RatG w v q) : RatL w v false := by
  obtain ⟨neg, xs, ys, h1, h2, _⟩ := h
  exact ⟨neg, xs, ys, h1, by simp [h2]⟩
theorem RatL.is {w : World} {v : Value} {b : Bool} (h : RatL w v b) : Calls Try.prog 116 #[v] w fun e w' => e = .returned (.bool b) ∧ Ext w w' := by
  obtain ⟨neg, xs, ys, h1, h2⟩ := h
  exact large_is b v neg xs ys w h1 h2
theorem RatV.cases {w : World} {v : Value} {neg : Bool} {xs ys : List Int} (h : RatV w v neg xs ys) : RatL w v true ∨ (RatL w v false ∧ RatG w v (ratOf neg xs ys)) := by
  by_cases hs : SmallR xs ys
  · exact .inr ⟨⟨neg, xs, ys, h, by simp [hs]⟩, ⟨neg, xs, ys, h, hs, rfl⟩⟩
  · exact .inl ⟨neg, xs, ys, h, by simp [hs]⟩

end Go.Proofs.Yteoijnaljkagfaa
namespace Go.Proofs.Yteoijnaljkagfaa
open Go.RowKit

theorem pow_double (m : Nat) : (65536 : Int) ^ (2 * m) = 4294967296 ^ m := by rw [Int.pow_mul]; rfl
theorem fit_double {n L : Nat} : Fit 65536 n (2 * L) ↔ Fit 4294967296 n L := by unfold Fit; rw [pow_double]
theorem fitR_double {q : Rat} {L : Nat} (h : FitQ q L) : FitR q (2 * L) := ⟨fit_double.2 h.1, fit_double.2 h.2⟩
theorem Blk.at2 {W : World} {g : Nat} {T : TypeId} {x y : Value} (h : Blk W g T #[x, y]) : At W (some ⟨g, 0, none⟩) [x, y] := fun _ => ⟨g, 0, rfl, fun j v hv => by rw [h.cell]; simpa using hv⟩
theorem limbs_step {out xs : List Int} {k : Nat} {x : Int} (hx : xs[k]? = some x) (hl : out.length = 2 * k) (hv : val 65536 out = val 4294967296 (xs.take k)) :
    val 65536 (out ++ [x % 65536, x / 65536]) = val 4294967296 (xs.take (k + 1)) := by
  rw [val_append, hl, pow_double, hv, val_take_succ hx]
  simp only [val]
  have h := Int.emod_add_mul_ediv x 65536
  generalize x % 65536 = r at *
  generalize x / 65536 = t at *
  grind

set_option maxRecDepth 100000 in
set_option maxHeartbeats 2000000 in
theorem limbs_r10 (bw ow l c k : Nat) (x : Int) (vo : Value) (w : World) (hcx : w.cell? ⟨bw, ow + k, none⟩ = some (.int .u32 x)) (hk0 : (0 : Int) ≤ (k : Int)) (hkl : (k : Int) < (l : Int)) (hx0 : 0 ≤ x) (hx1 : x ≤ 4294967295) (hw1 : IntKind.i64.wrap (x % 65536) = x % 65536) (hw2 : IntKind.i64.wrap (x / 65536) = x / 65536) (hw3 : IntKind.u32.wrap (x / 65536) = x / 65536) (hq0 : 0 ≤ x / 65536) (hq1 : x / 65536 ≤ 65535) (hr0 : 0 ≤ x % 65536) (hr1 : x % 65536 < 65536) (a : Act) (Q : Exit → Act → World → Prop) (hsize : 42 ≤ a.tmps.size)
    (s0 : a.tmps[0]? = some (.slice (some ⟨bw, ow, none⟩) l c))
    (s5 : a.tmps[5]? = some (vo))
    (s6 : a.tmps[6]? = some (.int .i64 (k : Int)))
    (hend : ∀ (xv0 xv1 xv2 xv3 xv4 xv5 xv6 xv7 xv8 xv9 xv10 xv11 xv12 xv13 : Value) (W : World), (xv0 = vo) → (xv1 = .slice (some ⟨bw, ow, none⟩) l c) → (xv2 = .int .i64 (k : Int)) → (xv3 = .pointer (some ⟨bw, ow + k, none⟩)) → (xv4 = .int .u32 x) → (xv5 = .int .u32 (x % 65536)) → (xv6 = .int .i64 (x % 65536)) → (xv7 = .slice (some ⟨bw, ow, none⟩) l c) → (xv8 = .int .i64 (k : Int)) → (xv9 = .pointer (some ⟨bw, ow + k, none⟩)) → (xv10 = .int .u32 x) → (xv11 = .int .u32 (x / 65536)) → (xv12 = .int .i64 (x / 65536)) → (∃ g, xv13 = .slice (some ⟨g, 0, none⟩) 2 2 ∧ Blk W g 3 #[.int .i64 (x % 65536), .int .i64 (x / 65536)]) → Ext w W → wpList Try.prog (rops Try.f119 10).toArray Q ((rops Try.f119 10).drop 14) ((((((((((((((a.put (some 28) xv0).put (some 29) xv1).put (some 30) xv2).put (some 31) xv3).put (some 32) xv4).put (some 33) xv5).put (some 34) xv6).put (some 35) xv7).put (some 36) xv8).put (some 37) xv9).put (some 38) xv10).put (some 39) xv11).put (some 40) xv12).put (some 41) xv13) W) :
    (Code.region 10 (rops Try.f119 10).toArray true).wp Try.prog Q a w := by
  have hmono : ∀ (W W' : World) (j : Nat) (u : Value), Ext W W' → (fun (i : Nat) (v : Value) (W : World) => match i with
    | 0 => v = vo
    | 1 => v = .slice (some ⟨bw, ow, none⟩) l c
    | 2 => v = .int .i64 (k : Int)
    | 3 => v = .pointer (some ⟨bw, ow + k, none⟩)
    | 4 => v = .int .u32 x
    | 5 => v = .int .u32 (x % 65536)
    | 6 => v = .int .i64 (x % 65536)
    | 7 => v = .slice (some ⟨bw, ow, none⟩) l c
    | 8 => v = .int .i64 (k : Int)
    | 9 => v = .pointer (some ⟨bw, ow + k, none⟩)
    | 10 => v = .int .u32 x
    | 11 => v = .int .u32 (x / 65536)
    | 12 => v = .int .i64 (x / 65536)
    | 13 => ∃ g, v = .slice (some ⟨g, 0, none⟩) 2 2 ∧ Blk W g 3 #[.int .i64 (x % 65536), .int .i64 (x / 65536)]
    | _ => True) j u W → (fun (i : Nat) (v : Value) (W : World) => match i with
    | 0 => v = vo
    | 1 => v = .slice (some ⟨bw, ow, none⟩) l c
    | 2 => v = .int .i64 (k : Int)
    | 3 => v = .pointer (some ⟨bw, ow + k, none⟩)
    | 4 => v = .int .u32 x
    | 5 => v = .int .u32 (x % 65536)
    | 6 => v = .int .i64 (x % 65536)
    | 7 => v = .slice (some ⟨bw, ow, none⟩) l c
    | 8 => v = .int .i64 (k : Int)
    | 9 => v = .pointer (some ⟨bw, ow + k, none⟩)
    | 10 => v = .int .u32 x
    | 11 => v = .int .u32 (x / 65536)
    | 12 => v = .int .i64 (x / 65536)
    | 13 => ∃ g, v = .slice (some ⟨g, 0, none⟩) 2 2 ∧ Blk W g 3 #[.int .i64 (x % 65536), .int .i64 (x / 65536)]
    | _ => True) j u W' := by
    intro W W' j u hX h
    match j, h with
    | 0, h => exact h
    | 1, h => exact h
    | 2, h => exact h
    | 3, h => exact h
    | 4, h => exact h
    | 5, h => exact h
    | 6, h => exact h
    | 7, h => exact h
    | 8, h => exact h
    | 9, h => exact h
    | 10, h => exact h
    | 11, h => exact h
    | 12, h => exact h
    | 13, h => obtain ⟨g, h1, h2⟩ := h; exact ⟨g, h1, h2.ext hX⟩
    | _ + 14, h => exact h
  have hsz : ∀ d, some d ∈ ([some 28, some 29, some 30, some 31, some 32, some 33, some 34, some 35, some 36, some 37, some 38, some 39, some 40, some 41] : List (Option Tmp)) → d < a.tmps.size := slots_lt (by decide) hsize
  refine wp_region_j 14 [some 28, some 29, some 30, some 31, some 32, some 33, some 34, some 35, some 36, some 37, some 38, some 39, some 40, some 41] [[], [], [], [1, 2], [3], [4], [5], [], [], [7, 8], [9], [10], [11], [6, 12]] [[], [], [], [], [], [], [], [], [], [], [], [], [], []] (fun (i : Nat) (v : Value) (W : World) => match i with
    | 0 => v = vo
    | 1 => v = .slice (some ⟨bw, ow, none⟩) l c
    | 2 => v = .int .i64 (k : Int)
    | 3 => v = .pointer (some ⟨bw, ow + k, none⟩)
    | 4 => v = .int .u32 x
    | 5 => v = .int .u32 (x % 65536)
    | 6 => v = .int .i64 (x % 65536)
    | 7 => v = .slice (some ⟨bw, ow, none⟩) l c
    | 8 => v = .int .i64 (k : Int)
    | 9 => v = .pointer (some ⟨bw, ow + k, none⟩)
    | 10 => v = .int .u32 x
    | 11 => v = .int .u32 (x / 65536)
    | 12 => v = .int .i64 (x / 65536)
    | 13 => ∃ g, v = .slice (some ⟨g, 0, none⟩) 2 2 ∧ Blk W g 3 #[.int .i64 (x % 65536), .int .i64 (x / 65536)]
    | _ => True) (fun _ W => Ext w W) (by kernel_rfl) (by kernel_rfl) hsz (fun _ _ _ _ h => h) ((Ext.refl w).drew) ?_ ?_
  · clear hend
    simp only [rops, Try.f119, regOf, Option.bind_some, Nat.reduceBEq, if_true, if_false, Bool.false_eq_true, Option.getD_some]
    simp only [List.take_succ_cons, List.take_zero]
    refine ⟨?_, ?_, ?_, ?_, ?_, ?_, ?_, ?_, ?_, ?_, ?_, ?_, ?_, ?_, trivial⟩
    · intro done us W hJ hdep haft hnot b hb hb' K hK Q'
      have e5 := (hb' 5 (by simp)).trans s5
      clear hb hb'
      go_simp
      exact hK _ _ rfl (fun _ _ _ h => h) hJ
    · intro done us W hJ hdep haft hnot b hb hb' K hK Q'
      have e0 := (hb' 0 (by simp)).trans s0
      clear hb hb'
      go_simp
      exact hK _ _ rfl (fun _ _ _ h => h) hJ
    · intro done us W hJ hdep haft hnot b hb hb' K hK Q'
      have e6 := (hb' 6 (by simp)).trans s6
      clear hb hb'
      go_simp
      exact hK _ _ rfl (fun _ _ _ h => h) hJ
    · intro done us W hJ hdep haft hnot b hb hb' K hK Q'
      simp only [List.getD_cons_succ, List.getD_cons_zero, List.mem_cons, List.not_mem_nil, or_false, forall_eq_or_imp, forall_eq] at hdep
      have e29 := hb 1 29 rfl
      have e30 := hb 2 30 rfl
      have d1 := hdep.1
      have d2 := hdep.2
      rw [d1.1] at e29
      rw [d2.1] at e30
      clear hb hb' hdep d1 d2
      go_simp
      exact hK _ _ rfl (fun _ _ _ h => h) hJ
    · intro done us W hJ hdep haft hnot b hb hb' K hK Q'
      simp only [List.getD_cons_succ, List.getD_cons_zero, List.mem_cons, List.not_mem_nil, or_false, forall_eq_or_imp, forall_eq] at hdep
      have e31 := hb 3 31 rfl
      have d3 := hdep
      rw [d3.1] at e31
      clear hb hb' hdep d3
      have q := Ext.cell hJ hcx
      go_simp
      exact hK _ _ rfl (fun _ _ _ h => h) hJ
    · intro done us W hJ hdep haft hnot b hb hb' K hK Q'
      simp only [List.getD_cons_succ, List.getD_cons_zero, List.mem_cons, List.not_mem_nil, or_false, forall_eq_or_imp, forall_eq] at hdep
      have e32 := hb 4 32 rfl
      have d4 := hdep
      rw [d4.1] at e32
      clear hb hb' hdep d4
      go_simp
      rw [Int.tmod_eq_emod_of_nonneg hx0]
      exact hK _ _ rfl (fun _ _ _ h => h) hJ
    · intro done us W hJ hdep haft hnot b hb hb' K hK Q'
      simp only [List.getD_cons_succ, List.getD_cons_zero, List.mem_cons, List.not_mem_nil, or_false, forall_eq_or_imp, forall_eq] at hdep
      have e33 := hb 5 33 rfl
      have d5 := hdep
      rw [d5.1] at e33
      clear hb hb' hdep d5
      go_simp
      exact hK _ _ rfl (fun _ _ _ h => h) hJ
    · intro done us W hJ hdep haft hnot b hb hb' K hK Q'
      have e0 := (hb' 0 (by simp)).trans s0
      clear hb hb'
      go_simp
      exact hK _ _ rfl (fun _ _ _ h => h) hJ
    · intro done us W hJ hdep haft hnot b hb hb' K hK Q'
      have e6 := (hb' 6 (by simp)).trans s6
      clear hb hb'
      go_simp
      exact hK _ _ rfl (fun _ _ _ h => h) hJ
    · intro done us W hJ hdep haft hnot b hb hb' K hK Q'
      simp only [List.getD_cons_succ, List.getD_cons_zero, List.mem_cons, List.not_mem_nil, or_false, forall_eq_or_imp, forall_eq] at hdep
      have e35 := hb 7 35 rfl
      have e36 := hb 8 36 rfl
      have d7 := hdep.1
      have d8 := hdep.2
      rw [d7.1] at e35
      rw [d8.1] at e36
      clear hb hb' hdep d7 d8
      go_simp
      exact hK _ _ rfl (fun _ _ _ h => h) hJ
    · intro done us W hJ hdep haft hnot b hb hb' K hK Q'
      simp only [List.getD_cons_succ, List.getD_cons_zero, List.mem_cons, List.not_mem_nil, or_false, forall_eq_or_imp, forall_eq] at hdep
      have e37 := hb 9 37 rfl
      have d9 := hdep
      rw [d9.1] at e37
      clear hb hb' hdep d9
      have q := Ext.cell hJ hcx
      go_simp
      exact hK _ _ rfl (fun _ _ _ h => h) hJ
    · intro done us W hJ hdep haft hnot b hb hb' K hK Q'
      simp only [List.getD_cons_succ, List.getD_cons_zero, List.mem_cons, List.not_mem_nil, or_false, forall_eq_or_imp, forall_eq] at hdep
      have e38 := hb 10 38 rfl
      have d10 := hdep
      rw [d10.1] at e38
      clear hb hb' hdep d10
      go_simp
      first
      | rw [hw3]
      | rw [Int.tdiv_eq_ediv_of_nonneg hx0, hw3]
      exact hK _ _ rfl (fun _ _ _ h => h) hJ
    · intro done us W hJ hdep haft hnot b hb hb' K hK Q'
      simp only [List.getD_cons_succ, List.getD_cons_zero, List.mem_cons, List.not_mem_nil, or_false, forall_eq_or_imp, forall_eq] at hdep
      have e39 := hb 11 39 rfl
      have d11 := hdep
      rw [d11.1] at e39
      clear hb hb' hdep d11
      go_simp
      exact hK _ _ rfl (fun _ _ _ h => h) hJ
    · intro done us W hJ hdep haft hnot b hb hb' K hK Q'
      simp only [List.getD_cons_succ, List.getD_cons_zero, List.mem_cons, List.not_mem_nil, or_false, forall_eq_or_imp, forall_eq] at hdep
      have e34 := hb 6 34 rfl
      have e40 := hb 12 40 rfl
      have d6 := hdep.1
      have d12 := hdep.2
      rw [d6.1] at e34
      rw [d12.1] at e40
      clear hb hb' hdep d6 d12
      have hX : Ext W (W.alloc (.cells #[.int .i64 (x % 65536), .int .i64 (x / 65536)] 3)) := (Ext.refl W).alloc _
      go_simp
      exact hK _ _ ⟨_, rfl, Blk.new _ _ _⟩ (fun j u _ h => hmono _ _ j u hX h) (Ext.trans hJ hX)
  · intro us W hV hJ
    exact hend (us 0) (us 1) (us 2) (us 3) (us 4) (us 5) (us 6) (us 7) (us 8) (us 9) (us 10) (us 11) (us 12) (us 13) W (hV 0 (by omega)) (hV 1 (by omega)) (hV 2 (by omega)) (hV 3 (by omega)) (hV 4 (by omega)) (hV 5 (by omega)) (hV 6 (by omega)) (hV 7 (by omega)) (hV 8 (by omega)) (hV 9 (by omega)) (hV 10 (by omega)) (hV 11 (by omega)) (hV 12 (by omega)) (hV 13 (by omega)) hJ
set_option maxRecDepth 100000 in
set_option maxHeartbeats 2000000 in
theorem limbs_no (A : Option Addr) (l c : Nat) (xs : List Int) (w : World) (hI : Ints .u32 w A l xs) (hc1 : l ≤ c) (hc2 : c ≤ 9223372036854775807) (hf : ¬ FitW (wN xs)) :
    Calls Try.prog 119 #[.slice A l c] w (fun e w' => e = .returned (.tuple #[.slice none 0 0, .bool false]) ∧ Ext w w') := by
  have H := Lib.hid hI
  have HL : Hid (xs.length = l) := hI.1
  have HF := Lib.hid hf
  clear hI hf
  go_enter Try.func119, Try.ntmps119
  go_upto_block 0 with (fail)
  go_cut [4] (fun v W => ∃ m : Nat, v = .int .i64 (m : Int) ∧ m ≤ l ∧ Hid (Nm (xs.take m)) ∧ Hid (val 4294967296 (xs.take m) = val 4294967296 xs) ∧ w = W)
  case first =>
    as_aux_lemma =>
      go_wp2
      go_loopg [4] l (fun g v wr => ∃ m : Nat, m = g ∧ m ≤ l ∧ v = .int .i64 (m : Int) ∧ Hid (val 4294967296 (xs.take m) = val 4294967296 xs) ∧ w = wr)
      case atStart => exact ⟨l, rfl, Nat.le_refl _, rfl, by rw [List.take_of_length_le (by rw [HL.out]; exact Nat.le_refl _)]; rfl, rfl⟩
      case round =>
        obtain ⟨m, rfl, hm, rfl, hv, rfl⟩ := hrel
        rcases Nat.eq_zero_or_pos m with h0 | h0
        · subst h0
          go_wp2
          go_meet
          exact ⟨0, rfl, by omega, by simp [Nm, Hid], hv.out, rfl⟩
        · obtain ⟨k, rfl⟩ : ∃ k, m = k + 1 := ⟨m - 1, by omega⟩
          obtain ⟨b, off, x, rfl, hx, hwf, hc⟩ := H.out.get (j := k) (by omega)
          obtain ⟨hx0, hx1⟩ := u32_bounds hwf
          have HX := Lib.hid hx
          have hkc : ((k + 1 : Nat) : Int) = (k : Int) + 1 := by omega
          have hk0 : (0 : Int) ≤ (k : Int) := by omega
          have hkn : (k : Int) < (l : Int) := by omega
          rw [hkc]
          clear hx hwf hkc
          by_cases hz : x = 0
          · have hzb : (x == 0) = true := by simpa using hz
            have HV : Hid (val 4294967296 (xs.take k) = val 4294967296 xs) := by
              have := hv.out
              rw [val_take_succ HX.out, hz] at this
              show _ = _
              omega
            clear hz hv
            go_wp2
            go_roundg k
            case rel => exact ⟨k, rfl, by omega, rfl, HV, rfl⟩
            case measure => omega
          · have hzb : (x == 0) = false := by simpa using hz
            have HZ := Lib.hid hz
            clear hz
            go_wp2
            go_meet
            exact ⟨k + 1, by rw [show ((k + 1 : Nat) : Int) = (k : Int) + 1 by omega], hm, Nm.take HX.out HZ.out, hv.out, rfl⟩
  case rest =>
    as_aux_lemma =>
      obtain ⟨m, rfl, hm, HN, HV, rfl⟩ := hcut
      have hlen := norm_len H.out hm HN.out HV.out 256
      have hbig : ¬ m ≤ 256 := fun h => HF.out ⟨hlen.1 h⟩
      have hbi : (256 : Int) < (m : Int) := by omega
      go_wp2
      go_ret2
      exact ⟨rfl, Ext.refl _⟩

set_option maxRecDepth 100000 in
set_option maxHeartbeats 2000000 in
theorem limbs_yes (A : Option Addr) (l c : Nat) (xs : List Int) (w : World) (hI : Ints .u32 w A l xs) (hc1 : l ≤ c) (hc2 : c ≤ 9223372036854775807) (hf : FitW (wN xs)) :
    Calls Try.prog 119 #[.slice A l c] w (fun e w' => ∃ v, e = .returned (.tuple #[v, .bool true]) ∧ Z16 w' v (wN xs) ∧ Ext w w') := by
  have H := Lib.hid hI
  have HL : Hid (xs.length = l) := hI.1
  have HF := Lib.hid hf
  clear hI hf
  go_enter Try.func119, Try.ntmps119
  go_upto_block 0 with (fail)
  go_cut [4] (fun v W => ∃ m : Nat, v = .int .i64 (m : Int) ∧ m ≤ l ∧ Hid (Nm (xs.take m)) ∧ Hid (val 4294967296 (xs.take m) = val 4294967296 xs) ∧ w = W)
  case first =>
    as_aux_lemma =>
      go_wp2
      go_loopg [4] l (fun g v wr => ∃ m : Nat, m = g ∧ m ≤ l ∧ v = .int .i64 (m : Int) ∧ Hid (val 4294967296 (xs.take m) = val 4294967296 xs) ∧ w = wr)
      case atStart => exact ⟨l, rfl, Nat.le_refl _, rfl, by rw [List.take_of_length_le (by rw [HL.out]; exact Nat.le_refl _)]; rfl, rfl⟩
      case round =>
        obtain ⟨m, rfl, hm, rfl, hv, rfl⟩ := hrel
        rcases Nat.eq_zero_or_pos m with h0 | h0
        · subst h0
          go_wp2
          go_meet
          exact ⟨0, rfl, by omega, by simp [Nm, Hid], hv.out, rfl⟩
        · obtain ⟨k, rfl⟩ : ∃ k, m = k + 1 := ⟨m - 1, by omega⟩
          obtain ⟨b, off, x, rfl, hx, hwf, hc⟩ := H.out.get (j := k) (by omega)
          obtain ⟨hx0, hx1⟩ := u32_bounds hwf
          have HX := Lib.hid hx
          have hkc : ((k + 1 : Nat) : Int) = (k : Int) + 1 := by omega
          have hk0 : (0 : Int) ≤ (k : Int) := by omega
          have hkn : (k : Int) < (l : Int) := by omega
          rw [hkc]
          clear hx hwf hkc
          by_cases hz : x = 0
          · have hzb : (x == 0) = true := by simpa using hz
            have HV : Hid (val 4294967296 (xs.take k) = val 4294967296 xs) := by
              have := hv.out
              rw [val_take_succ HX.out, hz] at this
              show _ = _
              omega
            clear hz hv
            go_wp2
            go_roundg k
            case rel => exact ⟨k, rfl, by omega, rfl, HV, rfl⟩
            case measure => omega
          · have hzb : (x == 0) = false := by simpa using hz
            have HZ := Lib.hid hz
            clear hz
            go_wp2
            go_meet
            exact ⟨k + 1, by rw [show ((k + 1 : Nat) : Int) = (k : Int) + 1 by omega], hm, Nm.take HX.out HZ.out, hv.out, rfl⟩
  case rest =>
    as_aux_lemma =>
      obtain ⟨m, rfl, hm, HN, HV, rfl⟩ := hcut
      have hlen := norm_len H.out hm HN.out HV.out 256
      have hbig : m ≤ 256 := hlen.2 HF.out.1
      have hbi : ¬ (256 : Int) < (m : Int) := by omega
      clear hlen
      go_wp2_with fail
      go_loopg [5, 6] m (fun g v s6 wr => ∃ (k : Nat) (out : List Int), g = m - k ∧ k ≤ m ∧ s6 = .int .i64 (k : Int) ∧ Hid (wr.ownsRow w.heap.size 3 1 v (2 * k) (out.map (.int .i64))) ∧ Hid (Dg 65536 out) ∧ Hid (out.length = 2 * k) ∧ Hid (val 65536 out = val 4294967296 (xs.take k)) ∧ Hid (Ext w wr))
      case atStart => exact ⟨0, [], rfl, by omega, rfl, World.ownsRow_nil _ _ _ _, Dg.nil, rfl, rfl, Ext.refl w⟩
      case round =>
        obtain ⟨k, out, rfl, hk, rfl, HO, HD, HLO, HI, HX⟩ := hrel
        obtain ⟨A2, c2, rfl⟩ := own_slice HO.out
        by_cases hlt : k < m
        · have hkm : (k : Int) < (m : Int) := by omega
          have hk0 : (0 : Int) ≤ (k : Int) := by omega
          have hkl : (k : Int) < (l : Int) := by omega
          obtain ⟨bw, ow, x, rfl, hx, hwf, hc⟩ := (H.out.ext HX.out).get (j := k) (by omega)
          obtain ⟨hx0, hx1⟩ := u32_bounds hwf
          have hr0 := Int.emod_nonneg x (show (65536 : Int) ≠ 0 by omega)
          have hr1 := Int.emod_lt_of_pos x (show (0 : Int) < 65536 by omega)
          have hq0 : 0 ≤ x / 65536 := by omega
          have hq1 : x / 65536 ≤ 65535 := by omega
          have hw1 : IntKind.i64.wrap (x % 65536) = x % 65536 := IntWalk.i64_in _ (by omega)
          have hw2 : IntKind.i64.wrap (x / 65536) = x / 65536 := IntWalk.i64_in _ (by omega)
          have hw3 : IntKind.u32.wrap (x / 65536) = x / 65536 := by rw [IntKind.wrap_u32]; omega
          have HST := Lib.hid (limbs_step hx HLO.out HI.out)
          have HDD : Hid (Dg 65536 (out ++ [x % 65536, x / 65536])) := HD.out.append (Dg.cons ⟨hr0, hr1⟩ (Dg.one ⟨hq0, by omega⟩))
          have HW : Hid ((Lit.int .i64 (x % 65536)).wf = true ∧ (Lit.int .i64 (x / 65536)).wf = true) := ⟨wf16 ⟨hr0, hr1⟩, wf16 ⟨hq0, by omega⟩⟩
          clear hx hwf
          go_wp2_with fail
          refine limbs_r10 bw ow l c k x _ _ hc hk0 hkl hx0 hx1 hw1 hw2 hw3 hq0 hq1 hr0 hr1 _ _ (by simp) rfl rfl rfl ?_
          rintro xv0 xv1 xv2 xv3 xv4 xv5 xv6 xv7 xv8 xv9 xv10 xv11 xv12 xv13 w1 rfl rfl rfl rfl rfl rfl rfl rfl rfl rfl rfl rfl rfl ⟨go, rfl, hBo⟩ hXW
          simp only [rops, Try.f119, regOf, Option.bind_some, Nat.reduceBEq, if_true, if_false, Bool.false_eq_true, Option.getD_some, List.drop_succ_cons, List.drop_zero]
          simp only [Act.put, List.setIfInBounds_toArray, List.set_cons_succ, List.set_cons_zero]
          have HX1 := Lib.hid (HX.out.trans hXW)
          have hown := World.ownsRow.ext' HO.out hXW
          have HAT := Lib.hid hBo.at2
          clear hBo hXW hc hr0 hr1 hq0 hq1 hw1 hw2 hw3 HO HX
          go_wp2_with (at_builtin; refine wpList_app _ elI rfl _ _ rfl w.heap.size _ (2 * k) _ rfl hown _ 2 2 [.int .i64 (x % 65536), .int .i64 (x / 65536)] rfl rfl HAT.out (by simp [Value.oneCell']) (by omega) (by unfold maxLen; omega) (by have := HX1.out.size; simp; omega) ?_; intro v1 w2 hown1 hgr1 _; have HO1 := Lib.hid hown1; have HX2 := Lib.hid (Ext.app HX1.out hown hgr1); clear hown1 hgr1 hown)
          go_roundg (m - (k + 1))
          case rel => exact ⟨k + 1, out ++ [x % 65536, x / 65536], rfl, by omega, by go_num, by rw [List.map_append, show 2 * (k + 1) = 2 * k + 2 by omega]; exact HO1.out, HDD.out, by rw [List.length_append, HLO.out]; show _ = _; simp; omega, HST.out, HX2.out⟩
          case measure => omega
        · obtain rfl : m = k := by omega
          have HOS : Hid (OwnS .i64 3 w.heap.size wr A2 (2 * m) c2 out) := ⟨HO.out, HLO.out, dg_wf HD.out⟩
          have HE : Hid (val 65536 out = ((wN xs : Nat) : Int)) := by
            show _ = _
            rw [HI.out, HV.out]; exact wN_val H.out
          go_wp2_with fail
          refine (trimN HOS.out.ints HD.out HE.out HOS.out.cap.1 HOS.out.cap.2).mono ?_
          rintro e _ ⟨v, rfl, hv, rfl⟩
          have HVV := Lib.hid hv
          clear hv
          go_wp2
          go_ret2
          exact ⟨_, rfl, HVV.out, HX.out⟩

end Go.Proofs.Yteoijnaljkagfaa
