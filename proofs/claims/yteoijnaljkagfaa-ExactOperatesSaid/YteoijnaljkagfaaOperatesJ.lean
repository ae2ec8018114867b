/- Lemmas of the proof that follows (Operates, part 10): walks of functions by contract, and plain lemmas. Conditions: none. -/
import Derived.Test.YteoijnaljkagfaaOperatesI
namespace Go.Proofs.Yteoijnaljkagfaa
open Go.RowKit

/-- A value that denotes a number, and whether it is large. -/
def RatL (w : World) (v : Value) (big : Bool) : Prop := ∃ neg xs ys, RatV w v neg xs ys ∧ (big = true ↔ ¬ SmallR xs ys)
theorem RatL.ext {w w' : World} {v : Value} {b : Bool} (h : RatL w v b) (he : Ext w w') : RatL w' v b := by
  obtain ⟨neg, xs, ys, h1, h2⟩ := h
  exact ⟨neg, xs, ys, h1.ext he, h2⟩
theorem RatG.small {w : World} {v : Value} {q : Rat} (h : RatG w v q) : RatL w v false := by
  obtain ⟨neg, xs, ys, h1, h2, _⟩ := h
  exact ⟨neg, xs, ys, h1, by simp [h2]⟩
theorem RatL.is {w : World} {v : Value} {b : Bool} (h : RatL w v b) : Calls Try.prog 116 #[v] w fun e w' => e = .returned (.bool b) ∧ Ext w w' := by
  obtain ⟨neg, xs, ys, h1, h2⟩ := h
  exact large_is b v neg xs ys w h1 h2
theorem RatV.cases {w : World} {v : Value} {neg : Bool} {xs ys : List Int} (h : RatV w v neg xs ys) : RatL w v true ∨ (RatL w v false ∧ RatG w v (ratOf neg xs ys)) := by
  by_cases hs : SmallR xs ys
  · exact .inr ⟨⟨neg, xs, ys, h, by simp [hs]⟩, ⟨neg, xs, ys, h, hs, rfl⟩⟩
  · exact .inl ⟨neg, xs, ys, h, by simp [hs]⟩

set_option maxRecDepth 100000 in
set_option maxHeartbeats 1000000 in
theorem anyLarge_two (s0 s1 : Bool) (A0 B0 A1 B1 : Option Addr) (l0 c0 m0 k0 l1 c1 m1 k1 : Nat) (b0 b1 : Bool) (g : Nat) (w : World) (hB : Blk w g 33 #[.bool s0, .slice A0 l0 c0, .slice B0 m0 k0, .bool s1, .slice A1 l1 c1, .slice B1 m1 k1]) (h0 : RatL w (.agg #[.bool s0, .slice A0 l0 c0, .slice B0 m0 k0]) b0) (h1 : RatL w (.agg #[.bool s1, .slice A1 l1 c1, .slice B1 m1 k1]) b1) :
    Calls Try.prog 83 #[.slice (some ⟨g, 0, none⟩) 2 2] w fun e w' => e = .returned (.bool (b0 || b1)) ∧ Ext w w' := by
  have H0 := Lib.hid h0
  have H1 := Lib.hid h1
  have HB := Lib.hid hB
  clear h0 h1 hB
  go_enter Try.func83, Try.ntmps83
  go_wp2
  go_loopg [7] 2 (fun g' i wr => ∃ j : Nat, j = g' ∧ j ≤ 2 ∧ i = .int .i64 (2 - (j : Int)) ∧ Hid (j = 0 → b0 = false ∧ b1 = false) ∧ Hid (j = 1 → b0 = false) ∧ Hid (Ext w wr))
  case atStart => exact ⟨2, rfl, by omega, rfl, fun h => by omega, fun h => by omega, Ext.refl _⟩
  case round =>
    obtain ⟨j, rfl, hj, rfl, hbf, hb1, HX⟩ := hrel
    rcases (show j = 0 ∨ j = 1 ∨ j = 2 by omega) with rfl | rfl | rfl
    · have HBF := Lib.hid (hbf.out rfl)
      clear hbf hb1
      rw [show ((2 : Int) - ((0 : Nat) : Int)) = 2 by omega]
      go_wp2
      go_ret
      exact ⟨by rw [HBF.out.1, HBF.out.2]; rfl, HX.out⟩
    · rw [show ((2 : Int) - ((1 : Nat) : Int)) = 1 by omega]
      have y0 : wr.cell? ⟨g, 3, none⟩ = some (.bool s1) := HX.out.cell (HB.out.cell 3)
      have y1 : wr.cell? ⟨g, 4, none⟩ = some (.slice A1 l1 c1) := HX.out.cell (HB.out.cell 4)
      have y2 : wr.cell? ⟨g, 5, none⟩ = some (.slice B1 m1 k1) := HX.out.cell (HB.out.cell 5)
      have HB1 := Lib.hid (hb1.out rfl)
      clear hbf hb1
      go_wp2_with fail
      refine ((H1.out.ext (HX.out.alloc _)).is).mono ?_
      rintro e w2 ⟨rfl, hX2⟩
      have HX3 := Lib.hid (Ext.trans (HX.out.alloc _) hX2)
      clear hX2
      cases b1
      · go_wp2
        go_roundg 0
        case rel => exact ⟨0, rfl, by omega, rfl, (fun _ => ⟨HB1.out, by trivial⟩), (fun h => by omega), HX3⟩
        case measure => omega
      · go_wp2
        go_ret
        exact ⟨by rw [HB1.out]; rfl, HX3.out⟩
    · rw [show ((2 : Int) - ((2 : Nat) : Int)) = 0 by omega]
      have y0 : wr.cell? ⟨g, 0, none⟩ = some (.bool s0) := HX.out.cell (HB.out.cell 0)
      have y1 : wr.cell? ⟨g, 1, none⟩ = some (.slice A0 l0 c0) := HX.out.cell (HB.out.cell 1)
      have y2 : wr.cell? ⟨g, 2, none⟩ = some (.slice B0 m0 k0) := HX.out.cell (HB.out.cell 2)
      have HB1 : Hid True := trivial
      clear hbf hb1
      go_wp2_with fail
      refine ((H0.out.ext (HX.out.alloc _)).is).mono ?_
      rintro e w2 ⟨rfl, hX2⟩
      have HX3 := Lib.hid (Ext.trans (HX.out.alloc _) hX2)
      clear hX2
      cases b0
      · go_wp2
        go_roundg 1
        case rel => exact ⟨1, rfl, by omega, rfl, (fun h => by omega), (fun _ => by trivial), HX3⟩
        case measure => omega
      · go_wp2
        go_ret
        exact ⟨rfl, HX3.out⟩

theorem ofG {w : World} {v : Value} {q : Rat} (h : RatG w v q) : Calls Try.prog 85 #[v] w (RetX w q 256) := by
  obtain ⟨neg, xs, ys, h1, h2, rfl⟩ := h
  refine (of_any v neg xs ys 256 w h1 h2.1.fit h2.den.fit (by omega)).mono ?_
  rintro e w' ⟨v', rfl, hv, hX⟩
  exact ⟨v', rfl, hv.numx h2.fit, hX⟩
theorem doneG {w : World} {v : Value} {q : Rat} {L : Nat} (h : NumX w v q L) (hL : L ≤ 1099511627775) (hq : FitQW q) : Calls Try.prog 77 #[v] w (RetC w q) := done_ok v q L w h hL hq
theorem doneB {w : World} {v : Value} {q : Rat} {L : Nat} (h : NumX w v q L) (hL : L ≤ 1099511627775) (hq : ¬ FitQW q) : Calls Try.prog 77 #[v] w (RetE w zeroR 1) := done_big v q L w h hL hq

theorem sgnQ_is_zero {q : Rat} (h : sgnQ q = 0) : q = 0 := by
  unfold sgnQ at h
  split at h
  · omega
  · split at h
    · rename_i h2; exact Rat.num_eq_zero.1 h2
    · omega
set_option maxRecDepth 100000 in
set_option maxHeartbeats 2000000 in
theorem eadd_no (s0 s1 : Bool) (A0 B0 A1 B1 : Option Addr) (l0 c0 m0 k0 l1 c1 m1 k1 : Nat) (b0 b1 : Bool) (w : World) (hx : RatL w (.agg #[.bool s0, .slice A0 l0 c0, .slice B0 m0 k0]) b0) (hy : RatL w (.agg #[.bool s1, .slice A1 l1 c1, .slice B1 m1 k1]) b1) (hb : (b0 || b1) = true) :
    Calls Try.prog 58 #[.agg #[.bool s0, .slice A0 l0 c0, .slice B0 m0 k0], .agg #[.bool s1, .slice A1 l1 c1, .slice B1 m1 k1]] w (RetE w (zeroR) 1) := by
  have HXX := Lib.hid hx
  have HYY := Lib.hid hy
  have HB := Lib.hid hb
  clear hx hy hb
  have hXe : Ext w ((((w.alloc (.cells #[.bool s0, .slice A0 l0 c0, .slice B0 m0 k0] 33)).alloc (.cells #[.bool s1, .slice A1 l1 c1, .slice B1 m1 k1] 33)).alloc (.cells #[.bool false, .slice none 0 0, .slice none 0 0] 33)).alloc (.cells #[.bool s0, .slice A0 l0 c0, .slice B0 m0 k0, .bool s1, .slice A1 l1 c1, .slice B1 m1 k1] 33)) := (((((Ext.refl w).alloc _).alloc _).alloc _).alloc _)
  have kA : Blk ((((w.alloc (.cells #[.bool s0, .slice A0 l0 c0, .slice B0 m0 k0] 33)).alloc (.cells #[.bool s1, .slice A1 l1 c1, .slice B1 m1 k1] 33)).alloc (.cells #[.bool false, .slice none 0 0, .slice none 0 0] 33)).alloc (.cells #[.bool s0, .slice A0 l0 c0, .slice B0 m0 k0, .bool s1, .slice A1 l1 c1, .slice B1 m1 k1] 33)) w.heap.size 33 #[.bool s0, .slice A0 l0 c0, .slice B0 m0 k0] := Blk.alloc (Blk.alloc (Blk.alloc (Blk.at_ (by simp)) _) _) _
  have kB : Blk ((((w.alloc (.cells #[.bool s0, .slice A0 l0 c0, .slice B0 m0 k0] 33)).alloc (.cells #[.bool s1, .slice A1 l1 c1, .slice B1 m1 k1] 33)).alloc (.cells #[.bool false, .slice none 0 0, .slice none 0 0] 33)).alloc (.cells #[.bool s0, .slice A0 l0 c0, .slice B0 m0 k0, .bool s1, .slice A1 l1 c1, .slice B1 m1 k1] 33)) (w.heap.size + 1) 33 #[.bool s1, .slice A1 l1 c1, .slice B1 m1 k1] := Blk.alloc (Blk.alloc (Blk.at_ (by simp)) _) _
  have kR : Blk ((((w.alloc (.cells #[.bool s0, .slice A0 l0 c0, .slice B0 m0 k0] 33)).alloc (.cells #[.bool s1, .slice A1 l1 c1, .slice B1 m1 k1] 33)).alloc (.cells #[.bool false, .slice none 0 0, .slice none 0 0] 33)).alloc (.cells #[.bool s0, .slice A0 l0 c0, .slice B0 m0 k0, .bool s1, .slice A1 l1 c1, .slice B1 m1 k1] 33)) (w.heap.size + 2) 33 #[.bool false, .slice none 0 0, .slice none 0 0] := Blk.alloc (Blk.at_ (by simp)) _
  have kP : Blk ((((w.alloc (.cells #[.bool s0, .slice A0 l0 c0, .slice B0 m0 k0] 33)).alloc (.cells #[.bool s1, .slice A1 l1 c1, .slice B1 m1 k1] 33)).alloc (.cells #[.bool false, .slice none 0 0, .slice none 0 0] 33)).alloc (.cells #[.bool s0, .slice A0 l0 c0, .slice B0 m0 k0, .bool s1, .slice A1 l1 c1, .slice B1 m1 k1] 33)) (w.heap.size + 3) 33 #[.bool s0, .slice A0 l0 c0, .slice B0 m0 k0, .bool s1, .slice A1 l1 c1, .slice B1 m1 k1] := Blk.at_ (by simp)
  go_enter Try.func58, Try.ntmps58
  go_wp2_with fail
  generalize ((((w.alloc (.cells #[.bool s0, .slice A0 l0 c0, .slice B0 m0 k0] 33)).alloc (.cells #[.bool s1, .slice A1 l1 c1, .slice B1 m1 k1] 33)).alloc (.cells #[.bool false, .slice none 0 0, .slice none 0 0] 33)).alloc (.cells #[.bool s0, .slice A0 l0 c0, .slice B0 m0 k0, .bool s1, .slice A1 l1 c1, .slice B1 m1 k1] 33)) = w1 at hXe kA kB kR kP ⊢
  have HX := Lib.hid hXe
  clear hXe
  have KA := Lib.hid kA
  clear kA
  have KB := Lib.hid kB
  clear kB
  have KR := Lib.hid kR
  clear kR
  have KP := Lib.hid kP
  clear kP
  refine (anyLarge_two s0 s1 A0 B0 A1 B1 l0 c0 m0 k0 l1 c1 m1 k1 b0 b1 _ _ KP.out (HXX.out.ext HX.out) (HYY.out.ext HX.out)).mono ?_
  rw [HB.out]
  rintro e w2 ⟨rfl, hX⟩
  replace HX := Lib.hid (HX.out.trans hX)
  replace KA := Lib.hid (KA.out.ext hX)
  replace KB := Lib.hid (KB.out.ext hX)
  replace KR := Lib.hid (KR.out.ext hX)
  replace KP := Lib.hid (KP.out.ext hX)
  clear hX
  have cR0 : w2.cell? ⟨(w.heap.size + 2), 0, none⟩ = some (.bool false) := KR.out.cell 0
  have fR0 : w2.frozen? ⟨(w.heap.size + 2), 0, none⟩ = false := KR.out.free 0
  have cR1 : w2.cell? ⟨(w.heap.size + 2), 1, none⟩ = some (.slice none 0 0) := KR.out.cell 1
  have fR1 : w2.frozen? ⟨(w.heap.size + 2), 1, none⟩ = false := KR.out.free 1
  have cR2 : w2.cell? ⟨(w.heap.size + 2), 2, none⟩ = some (.slice none 0 0) := KR.out.cell 2
  have fR2 : w2.frozen? ⟨(w.heap.size + 2), 2, none⟩ = false := KR.out.free 2
  go_wp2
  refine bodyPost_ret (v := .tuple #[zeroR, .int .i64 1]) (by simp [results, zeroR, Try.results58, go_sem, *]) rfl ?_
  exact ⟨rfl, Ext.boxed HX.out (by omega) _ _ _⟩

set_option maxRecDepth 100000 in
set_option maxHeartbeats 2000000 in
theorem esub_no (s0 s1 : Bool) (A0 B0 A1 B1 : Option Addr) (l0 c0 m0 k0 l1 c1 m1 k1 : Nat) (b0 b1 : Bool) (w : World) (hx : RatL w (.agg #[.bool s0, .slice A0 l0 c0, .slice B0 m0 k0]) b0) (hy : RatL w (.agg #[.bool s1, .slice A1 l1 c1, .slice B1 m1 k1]) b1) (hb : (b0 || b1) = true) :
    Calls Try.prog 51 #[.agg #[.bool s0, .slice A0 l0 c0, .slice B0 m0 k0], .agg #[.bool s1, .slice A1 l1 c1, .slice B1 m1 k1]] w (RetE w (zeroR) 1) := by
  have HXX := Lib.hid hx
  have HYY := Lib.hid hy
  have HB := Lib.hid hb
  clear hx hy hb
  have hXe : Ext w ((((w.alloc (.cells #[.bool s0, .slice A0 l0 c0, .slice B0 m0 k0] 33)).alloc (.cells #[.bool s1, .slice A1 l1 c1, .slice B1 m1 k1] 33)).alloc (.cells #[.bool false, .slice none 0 0, .slice none 0 0] 33)).alloc (.cells #[.bool s0, .slice A0 l0 c0, .slice B0 m0 k0, .bool s1, .slice A1 l1 c1, .slice B1 m1 k1] 33)) := (((((Ext.refl w).alloc _).alloc _).alloc _).alloc _)
  have kA : Blk ((((w.alloc (.cells #[.bool s0, .slice A0 l0 c0, .slice B0 m0 k0] 33)).alloc (.cells #[.bool s1, .slice A1 l1 c1, .slice B1 m1 k1] 33)).alloc (.cells #[.bool false, .slice none 0 0, .slice none 0 0] 33)).alloc (.cells #[.bool s0, .slice A0 l0 c0, .slice B0 m0 k0, .bool s1, .slice A1 l1 c1, .slice B1 m1 k1] 33)) w.heap.size 33 #[.bool s0, .slice A0 l0 c0, .slice B0 m0 k0] := Blk.alloc (Blk.alloc (Blk.alloc (Blk.at_ (by simp)) _) _) _
  have kB : Blk ((((w.alloc (.cells #[.bool s0, .slice A0 l0 c0, .slice B0 m0 k0] 33)).alloc (.cells #[.bool s1, .slice A1 l1 c1, .slice B1 m1 k1] 33)).alloc (.cells #[.bool false, .slice none 0 0, .slice none 0 0] 33)).alloc (.cells #[.bool s0, .slice A0 l0 c0, .slice B0 m0 k0, .bool s1, .slice A1 l1 c1, .slice B1 m1 k1] 33)) (w.heap.size + 1) 33 #[.bool s1, .slice A1 l1 c1, .slice B1 m1 k1] := Blk.alloc (Blk.alloc (Blk.at_ (by simp)) _) _
  have kR : Blk ((((w.alloc (.cells #[.bool s0, .slice A0 l0 c0, .slice B0 m0 k0] 33)).alloc (.cells #[.bool s1, .slice A1 l1 c1, .slice B1 m1 k1] 33)).alloc (.cells #[.bool false, .slice none 0 0, .slice none 0 0] 33)).alloc (.cells #[.bool s0, .slice A0 l0 c0, .slice B0 m0 k0, .bool s1, .slice A1 l1 c1, .slice B1 m1 k1] 33)) (w.heap.size + 2) 33 #[.bool false, .slice none 0 0, .slice none 0 0] := Blk.alloc (Blk.at_ (by simp)) _
  have kP : Blk ((((w.alloc (.cells #[.bool s0, .slice A0 l0 c0, .slice B0 m0 k0] 33)).alloc (.cells #[.bool s1, .slice A1 l1 c1, .slice B1 m1 k1] 33)).alloc (.cells #[.bool false, .slice none 0 0, .slice none 0 0] 33)).alloc (.cells #[.bool s0, .slice A0 l0 c0, .slice B0 m0 k0, .bool s1, .slice A1 l1 c1, .slice B1 m1 k1] 33)) (w.heap.size + 3) 33 #[.bool s0, .slice A0 l0 c0, .slice B0 m0 k0, .bool s1, .slice A1 l1 c1, .slice B1 m1 k1] := Blk.at_ (by simp)
  go_enter Try.func51, Try.ntmps51
  go_wp2_with fail
  generalize ((((w.alloc (.cells #[.bool s0, .slice A0 l0 c0, .slice B0 m0 k0] 33)).alloc (.cells #[.bool s1, .slice A1 l1 c1, .slice B1 m1 k1] 33)).alloc (.cells #[.bool false, .slice none 0 0, .slice none 0 0] 33)).alloc (.cells #[.bool s0, .slice A0 l0 c0, .slice B0 m0 k0, .bool s1, .slice A1 l1 c1, .slice B1 m1 k1] 33)) = w1 at hXe kA kB kR kP ⊢
  have HX := Lib.hid hXe
  clear hXe
  have KA := Lib.hid kA
  clear kA
  have KB := Lib.hid kB
  clear kB
  have KR := Lib.hid kR
  clear kR
  have KP := Lib.hid kP
  clear kP
  refine (anyLarge_two s0 s1 A0 B0 A1 B1 l0 c0 m0 k0 l1 c1 m1 k1 b0 b1 _ _ KP.out (HXX.out.ext HX.out) (HYY.out.ext HX.out)).mono ?_
  rw [HB.out]
  rintro e w2 ⟨rfl, hX⟩
  replace HX := Lib.hid (HX.out.trans hX)
  replace KA := Lib.hid (KA.out.ext hX)
  replace KB := Lib.hid (KB.out.ext hX)
  replace KR := Lib.hid (KR.out.ext hX)
  replace KP := Lib.hid (KP.out.ext hX)
  clear hX
  have cR0 : w2.cell? ⟨(w.heap.size + 2), 0, none⟩ = some (.bool false) := KR.out.cell 0
  have fR0 : w2.frozen? ⟨(w.heap.size + 2), 0, none⟩ = false := KR.out.free 0
  have cR1 : w2.cell? ⟨(w.heap.size + 2), 1, none⟩ = some (.slice none 0 0) := KR.out.cell 1
  have fR1 : w2.frozen? ⟨(w.heap.size + 2), 1, none⟩ = false := KR.out.free 1
  have cR2 : w2.cell? ⟨(w.heap.size + 2), 2, none⟩ = some (.slice none 0 0) := KR.out.cell 2
  have fR2 : w2.frozen? ⟨(w.heap.size + 2), 2, none⟩ = false := KR.out.free 2
  go_wp2
  refine bodyPost_ret (v := .tuple #[zeroR, .int .i64 1]) (by simp [results, zeroR, Try.results51, go_sem, *]) rfl ?_
  exact ⟨rfl, Ext.boxed HX.out (by omega) _ _ _⟩

set_option maxRecDepth 100000 in
set_option maxHeartbeats 2000000 in
theorem emul_no (s0 s1 : Bool) (A0 B0 A1 B1 : Option Addr) (l0 c0 m0 k0 l1 c1 m1 k1 : Nat) (b0 b1 : Bool) (w : World) (hx : RatL w (.agg #[.bool s0, .slice A0 l0 c0, .slice B0 m0 k0]) b0) (hy : RatL w (.agg #[.bool s1, .slice A1 l1 c1, .slice B1 m1 k1]) b1) (hb : (b0 || b1) = true) :
    Calls Try.prog 59 #[.agg #[.bool s0, .slice A0 l0 c0, .slice B0 m0 k0], .agg #[.bool s1, .slice A1 l1 c1, .slice B1 m1 k1]] w (RetE w (zeroR) 1) := by
  have HXX := Lib.hid hx
  have HYY := Lib.hid hy
  have HB := Lib.hid hb
  clear hx hy hb
  have hXe : Ext w ((((w.alloc (.cells #[.bool s0, .slice A0 l0 c0, .slice B0 m0 k0] 33)).alloc (.cells #[.bool s1, .slice A1 l1 c1, .slice B1 m1 k1] 33)).alloc (.cells #[.bool false, .slice none 0 0, .slice none 0 0] 33)).alloc (.cells #[.bool s0, .slice A0 l0 c0, .slice B0 m0 k0, .bool s1, .slice A1 l1 c1, .slice B1 m1 k1] 33)) := (((((Ext.refl w).alloc _).alloc _).alloc _).alloc _)
  have kA : Blk ((((w.alloc (.cells #[.bool s0, .slice A0 l0 c0, .slice B0 m0 k0] 33)).alloc (.cells #[.bool s1, .slice A1 l1 c1, .slice B1 m1 k1] 33)).alloc (.cells #[.bool false, .slice none 0 0, .slice none 0 0] 33)).alloc (.cells #[.bool s0, .slice A0 l0 c0, .slice B0 m0 k0, .bool s1, .slice A1 l1 c1, .slice B1 m1 k1] 33)) w.heap.size 33 #[.bool s0, .slice A0 l0 c0, .slice B0 m0 k0] := Blk.alloc (Blk.alloc (Blk.alloc (Blk.at_ (by simp)) _) _) _
  have kB : Blk ((((w.alloc (.cells #[.bool s0, .slice A0 l0 c0, .slice B0 m0 k0] 33)).alloc (.cells #[.bool s1, .slice A1 l1 c1, .slice B1 m1 k1] 33)).alloc (.cells #[.bool false, .slice none 0 0, .slice none 0 0] 33)).alloc (.cells #[.bool s0, .slice A0 l0 c0, .slice B0 m0 k0, .bool s1, .slice A1 l1 c1, .slice B1 m1 k1] 33)) (w.heap.size + 1) 33 #[.bool s1, .slice A1 l1 c1, .slice B1 m1 k1] := Blk.alloc (Blk.alloc (Blk.at_ (by simp)) _) _
  have kR : Blk ((((w.alloc (.cells #[.bool s0, .slice A0 l0 c0, .slice B0 m0 k0] 33)).alloc (.cells #[.bool s1, .slice A1 l1 c1, .slice B1 m1 k1] 33)).alloc (.cells #[.bool false, .slice none 0 0, .slice none 0 0] 33)).alloc (.cells #[.bool s0, .slice A0 l0 c0, .slice B0 m0 k0, .bool s1, .slice A1 l1 c1, .slice B1 m1 k1] 33)) (w.heap.size + 2) 33 #[.bool false, .slice none 0 0, .slice none 0 0] := Blk.alloc (Blk.at_ (by simp)) _
  have kP : Blk ((((w.alloc (.cells #[.bool s0, .slice A0 l0 c0, .slice B0 m0 k0] 33)).alloc (.cells #[.bool s1, .slice A1 l1 c1, .slice B1 m1 k1] 33)).alloc (.cells #[.bool false, .slice none 0 0, .slice none 0 0] 33)).alloc (.cells #[.bool s0, .slice A0 l0 c0, .slice B0 m0 k0, .bool s1, .slice A1 l1 c1, .slice B1 m1 k1] 33)) (w.heap.size + 3) 33 #[.bool s0, .slice A0 l0 c0, .slice B0 m0 k0, .bool s1, .slice A1 l1 c1, .slice B1 m1 k1] := Blk.at_ (by simp)
  go_enter Try.func59, Try.ntmps59
  go_wp2_with fail
  generalize ((((w.alloc (.cells #[.bool s0, .slice A0 l0 c0, .slice B0 m0 k0] 33)).alloc (.cells #[.bool s1, .slice A1 l1 c1, .slice B1 m1 k1] 33)).alloc (.cells #[.bool false, .slice none 0 0, .slice none 0 0] 33)).alloc (.cells #[.bool s0, .slice A0 l0 c0, .slice B0 m0 k0, .bool s1, .slice A1 l1 c1, .slice B1 m1 k1] 33)) = w1 at hXe kA kB kR kP ⊢
  have HX := Lib.hid hXe
  clear hXe
  have KA := Lib.hid kA
  clear kA
  have KB := Lib.hid kB
  clear kB
  have KR := Lib.hid kR
  clear kR
  have KP := Lib.hid kP
  clear kP
  refine (anyLarge_two s0 s1 A0 B0 A1 B1 l0 c0 m0 k0 l1 c1 m1 k1 b0 b1 _ _ KP.out (HXX.out.ext HX.out) (HYY.out.ext HX.out)).mono ?_
  rw [HB.out]
  rintro e w2 ⟨rfl, hX⟩
  replace HX := Lib.hid (HX.out.trans hX)
  replace KA := Lib.hid (KA.out.ext hX)
  replace KB := Lib.hid (KB.out.ext hX)
  replace KR := Lib.hid (KR.out.ext hX)
  replace KP := Lib.hid (KP.out.ext hX)
  clear hX
  have cR0 : w2.cell? ⟨(w.heap.size + 2), 0, none⟩ = some (.bool false) := KR.out.cell 0
  have fR0 : w2.frozen? ⟨(w.heap.size + 2), 0, none⟩ = false := KR.out.free 0
  have cR1 : w2.cell? ⟨(w.heap.size + 2), 1, none⟩ = some (.slice none 0 0) := KR.out.cell 1
  have fR1 : w2.frozen? ⟨(w.heap.size + 2), 1, none⟩ = false := KR.out.free 1
  have cR2 : w2.cell? ⟨(w.heap.size + 2), 2, none⟩ = some (.slice none 0 0) := KR.out.cell 2
  have fR2 : w2.frozen? ⟨(w.heap.size + 2), 2, none⟩ = false := KR.out.free 2
  go_wp2
  refine bodyPost_ret (v := .tuple #[zeroR, .int .i64 1]) (by simp [results, zeroR, Try.results59, go_sem, *]) rfl ?_
  exact ⟨rfl, Ext.boxed HX.out (by omega) _ _ _⟩

set_option maxRecDepth 100000 in
set_option maxHeartbeats 2000000 in
theorem ediv_no (s0 s1 : Bool) (A0 B0 A1 B1 : Option Addr) (l0 c0 m0 k0 l1 c1 m1 k1 : Nat) (b0 b1 : Bool) (w : World) (hx : RatL w (.agg #[.bool s0, .slice A0 l0 c0, .slice B0 m0 k0]) b0) (hy : RatL w (.agg #[.bool s1, .slice A1 l1 c1, .slice B1 m1 k1]) b1) (hb : (b0 || b1) = true) :
    Calls Try.prog 60 #[.agg #[.bool s0, .slice A0 l0 c0, .slice B0 m0 k0], .agg #[.bool s1, .slice A1 l1 c1, .slice B1 m1 k1]] w (RetE w (zeroR) 1) := by
  have HXX := Lib.hid hx
  have HYY := Lib.hid hy
  have HB := Lib.hid hb
  clear hx hy hb
  have hXe : Ext w ((((w.alloc (.cells #[.bool s0, .slice A0 l0 c0, .slice B0 m0 k0] 33)).alloc (.cells #[.bool s1, .slice A1 l1 c1, .slice B1 m1 k1] 33)).alloc (.cells #[.bool false, .slice none 0 0, .slice none 0 0] 33)).alloc (.cells #[.bool s0, .slice A0 l0 c0, .slice B0 m0 k0, .bool s1, .slice A1 l1 c1, .slice B1 m1 k1] 33)) := (((((Ext.refl w).alloc _).alloc _).alloc _).alloc _)
  have kA : Blk ((((w.alloc (.cells #[.bool s0, .slice A0 l0 c0, .slice B0 m0 k0] 33)).alloc (.cells #[.bool s1, .slice A1 l1 c1, .slice B1 m1 k1] 33)).alloc (.cells #[.bool false, .slice none 0 0, .slice none 0 0] 33)).alloc (.cells #[.bool s0, .slice A0 l0 c0, .slice B0 m0 k0, .bool s1, .slice A1 l1 c1, .slice B1 m1 k1] 33)) w.heap.size 33 #[.bool s0, .slice A0 l0 c0, .slice B0 m0 k0] := Blk.alloc (Blk.alloc (Blk.alloc (Blk.at_ (by simp)) _) _) _
  have kB : Blk ((((w.alloc (.cells #[.bool s0, .slice A0 l0 c0, .slice B0 m0 k0] 33)).alloc (.cells #[.bool s1, .slice A1 l1 c1, .slice B1 m1 k1] 33)).alloc (.cells #[.bool false, .slice none 0 0, .slice none 0 0] 33)).alloc (.cells #[.bool s0, .slice A0 l0 c0, .slice B0 m0 k0, .bool s1, .slice A1 l1 c1, .slice B1 m1 k1] 33)) (w.heap.size + 1) 33 #[.bool s1, .slice A1 l1 c1, .slice B1 m1 k1] := Blk.alloc (Blk.alloc (Blk.at_ (by simp)) _) _
  have kR : Blk ((((w.alloc (.cells #[.bool s0, .slice A0 l0 c0, .slice B0 m0 k0] 33)).alloc (.cells #[.bool s1, .slice A1 l1 c1, .slice B1 m1 k1] 33)).alloc (.cells #[.bool false, .slice none 0 0, .slice none 0 0] 33)).alloc (.cells #[.bool s0, .slice A0 l0 c0, .slice B0 m0 k0, .bool s1, .slice A1 l1 c1, .slice B1 m1 k1] 33)) (w.heap.size + 2) 33 #[.bool false, .slice none 0 0, .slice none 0 0] := Blk.alloc (Blk.at_ (by simp)) _
  have kP : Blk ((((w.alloc (.cells #[.bool s0, .slice A0 l0 c0, .slice B0 m0 k0] 33)).alloc (.cells #[.bool s1, .slice A1 l1 c1, .slice B1 m1 k1] 33)).alloc (.cells #[.bool false, .slice none 0 0, .slice none 0 0] 33)).alloc (.cells #[.bool s0, .slice A0 l0 c0, .slice B0 m0 k0, .bool s1, .slice A1 l1 c1, .slice B1 m1 k1] 33)) (w.heap.size + 3) 33 #[.bool s0, .slice A0 l0 c0, .slice B0 m0 k0, .bool s1, .slice A1 l1 c1, .slice B1 m1 k1] := Blk.at_ (by simp)
  go_enter Try.func60, Try.ntmps60
  go_wp2_with fail
  generalize ((((w.alloc (.cells #[.bool s0, .slice A0 l0 c0, .slice B0 m0 k0] 33)).alloc (.cells #[.bool s1, .slice A1 l1 c1, .slice B1 m1 k1] 33)).alloc (.cells #[.bool false, .slice none 0 0, .slice none 0 0] 33)).alloc (.cells #[.bool s0, .slice A0 l0 c0, .slice B0 m0 k0, .bool s1, .slice A1 l1 c1, .slice B1 m1 k1] 33)) = w1 at hXe kA kB kR kP ⊢
  have HX := Lib.hid hXe
  clear hXe
  have KA := Lib.hid kA
  clear kA
  have KB := Lib.hid kB
  clear kB
  have KR := Lib.hid kR
  clear kR
  have KP := Lib.hid kP
  clear kP
  refine (anyLarge_two s0 s1 A0 B0 A1 B1 l0 c0 m0 k0 l1 c1 m1 k1 b0 b1 _ _ KP.out (HXX.out.ext HX.out) (HYY.out.ext HX.out)).mono ?_
  rw [HB.out]
  rintro e w2 ⟨rfl, hX⟩
  replace HX := Lib.hid (HX.out.trans hX)
  replace KA := Lib.hid (KA.out.ext hX)
  replace KB := Lib.hid (KB.out.ext hX)
  replace KR := Lib.hid (KR.out.ext hX)
  replace KP := Lib.hid (KP.out.ext hX)
  clear hX
  have cR0 : w2.cell? ⟨(w.heap.size + 2), 0, none⟩ = some (.bool false) := KR.out.cell 0
  have fR0 : w2.frozen? ⟨(w.heap.size + 2), 0, none⟩ = false := KR.out.free 0
  have cR1 : w2.cell? ⟨(w.heap.size + 2), 1, none⟩ = some (.slice none 0 0) := KR.out.cell 1
  have fR1 : w2.frozen? ⟨(w.heap.size + 2), 1, none⟩ = false := KR.out.free 1
  have cR2 : w2.cell? ⟨(w.heap.size + 2), 2, none⟩ = some (.slice none 0 0) := KR.out.cell 2
  have fR2 : w2.frozen? ⟨(w.heap.size + 2), 2, none⟩ = false := KR.out.free 2
  go_wp2
  refine bodyPost_ret (v := .tuple #[zeroR, .int .i64 1]) (by simp [results, zeroR, Try.results60, go_sem, *]) rfl ?_
  exact ⟨rfl, Ext.boxed HX.out (by omega) _ _ _⟩

set_option maxRecDepth 100000 in
set_option maxHeartbeats 2000000 in
theorem ecmp_no (s0 s1 : Bool) (A0 B0 A1 B1 : Option Addr) (l0 c0 m0 k0 l1 c1 m1 k1 : Nat) (b0 b1 : Bool) (w : World) (hx : RatL w (.agg #[.bool s0, .slice A0 l0 c0, .slice B0 m0 k0]) b0) (hy : RatL w (.agg #[.bool s1, .slice A1 l1 c1, .slice B1 m1 k1]) b1) (hb : (b0 || b1) = true) :
    Calls Try.prog 50 #[.agg #[.bool s0, .slice A0 l0 c0, .slice B0 m0 k0], .agg #[.bool s1, .slice A1 l1 c1, .slice B1 m1 k1]] w (RetE w (.int .i64 0) 1) := by
  have HXX := Lib.hid hx
  have HYY := Lib.hid hy
  have HB := Lib.hid hb
  clear hx hy hb
  have hXe : Ext w (((w.alloc (.cells #[.bool s0, .slice A0 l0 c0, .slice B0 m0 k0] 33)).alloc (.cells #[.bool s1, .slice A1 l1 c1, .slice B1 m1 k1] 33)).alloc (.cells #[.bool s0, .slice A0 l0 c0, .slice B0 m0 k0, .bool s1, .slice A1 l1 c1, .slice B1 m1 k1] 33)) := ((((Ext.refl w).alloc _).alloc _).alloc _)
  have kA : Blk (((w.alloc (.cells #[.bool s0, .slice A0 l0 c0, .slice B0 m0 k0] 33)).alloc (.cells #[.bool s1, .slice A1 l1 c1, .slice B1 m1 k1] 33)).alloc (.cells #[.bool s0, .slice A0 l0 c0, .slice B0 m0 k0, .bool s1, .slice A1 l1 c1, .slice B1 m1 k1] 33)) w.heap.size 33 #[.bool s0, .slice A0 l0 c0, .slice B0 m0 k0] := Blk.alloc (Blk.alloc (Blk.at_ (by simp)) _) _
  have kB : Blk (((w.alloc (.cells #[.bool s0, .slice A0 l0 c0, .slice B0 m0 k0] 33)).alloc (.cells #[.bool s1, .slice A1 l1 c1, .slice B1 m1 k1] 33)).alloc (.cells #[.bool s0, .slice A0 l0 c0, .slice B0 m0 k0, .bool s1, .slice A1 l1 c1, .slice B1 m1 k1] 33)) (w.heap.size + 1) 33 #[.bool s1, .slice A1 l1 c1, .slice B1 m1 k1] := Blk.alloc (Blk.at_ (by simp)) _
  have kP : Blk (((w.alloc (.cells #[.bool s0, .slice A0 l0 c0, .slice B0 m0 k0] 33)).alloc (.cells #[.bool s1, .slice A1 l1 c1, .slice B1 m1 k1] 33)).alloc (.cells #[.bool s0, .slice A0 l0 c0, .slice B0 m0 k0, .bool s1, .slice A1 l1 c1, .slice B1 m1 k1] 33)) (w.heap.size + 2) 33 #[.bool s0, .slice A0 l0 c0, .slice B0 m0 k0, .bool s1, .slice A1 l1 c1, .slice B1 m1 k1] := Blk.at_ (by simp)
  go_enter Try.func50, Try.ntmps50
  go_wp2_with fail
  generalize (((w.alloc (.cells #[.bool s0, .slice A0 l0 c0, .slice B0 m0 k0] 33)).alloc (.cells #[.bool s1, .slice A1 l1 c1, .slice B1 m1 k1] 33)).alloc (.cells #[.bool s0, .slice A0 l0 c0, .slice B0 m0 k0, .bool s1, .slice A1 l1 c1, .slice B1 m1 k1] 33)) = w1 at hXe kA kB kP ⊢
  have HX := Lib.hid hXe
  clear hXe
  have KA := Lib.hid kA
  clear kA
  have KB := Lib.hid kB
  clear kB
  have KP := Lib.hid kP
  clear kP
  refine (anyLarge_two s0 s1 A0 B0 A1 B1 l0 c0 m0 k0 l1 c1 m1 k1 b0 b1 _ _ KP.out (HXX.out.ext HX.out) (HYY.out.ext HX.out)).mono ?_
  rw [HB.out]
  rintro e w2 ⟨rfl, hX⟩
  replace HX := Lib.hid (HX.out.trans hX)
  replace KA := Lib.hid (KA.out.ext hX)
  replace KB := Lib.hid (KB.out.ext hX)
  replace KP := Lib.hid (KP.out.ext hX)
  clear hX
  go_wp2
  go_ret2
  exact ⟨rfl, HX.out⟩

set_option maxRecDepth 100000 in
set_option maxHeartbeats 2000000 in
theorem eadd_rok (ga gb : Nat) (s0 s1 : Bool) (A0 B0 A1 B1 : Option Addr) (l0 c0 m0 k0 l1 c1 m1 k1 : Nat) (q r : Rat) (w : World) (x0 : w.cell? ⟨ga, 0, none⟩ = some (.bool s0)) (x1 : w.cell? ⟨ga, 1, none⟩ = some (.slice A0 l0 c0)) (x2 : w.cell? ⟨ga, 2, none⟩ = some (.slice B0 m0 k0)) (y0 : w.cell? ⟨gb, 0, none⟩ = some (.bool s1)) (y1 : w.cell? ⟨gb, 1, none⟩ = some (.slice A1 l1 c1)) (y2 : w.cell? ⟨gb, 2, none⟩ = some (.slice B1 m1 k1)) (hx : RatG w (.agg #[.bool s0, .slice A0 l0 c0, .slice B0 m0 k0]) q) (hy : RatG w (.agg #[.bool s1, .slice A1 l1 c1, .slice B1 m1 k1]) r) (hf : FitQW (q + r)) (a : Act) (Q : Exit → Act → World → Prop) (hsize : 19 ≤ a.tmps.size)
    (s2 : a.tmps[2]? = some (.pointer (some ⟨ga, 0, none⟩)))
    (s3 : a.tmps[3]? = some (.pointer (some ⟨gb, 0, none⟩)))
    (hend : ∀ (xv0 xv1 xv2 xv3 xv4 xv5 xv6 xv7 : Value) (W : World), (xv0 = .agg #[.bool s0, .slice A0 l0 c0, .slice B0 m0 k0]) → (NumX W xv1 q 256) → (xv2 = .agg #[.bool s1, .slice A1 l1 c1, .slice B1 m1 k1]) → (NumX W xv3 r 256) → (NumX W xv4 (q + r) (256 + 256 + 1)) → (∃ xv5', xv5 = .tuple #[xv5', .int .i64 0] ∧ RatC W xv5' (q + r)) → (RatC W xv6 (q + r)) → (xv7 = .int .i64 0) → Ext w W → wpList Try.prog (rops Try.f58 3).toArray Q ((rops Try.f58 3).drop 8) ((((((((a.put (some 11) xv0).put (some 12) xv1).put (some 13) xv2).put (some 14) xv3).put (some 15) xv4).put (some 16) xv5).put (some 17) xv6).put (some 18) xv7) W) :
    (Code.region 3 (rops Try.f58 3).toArray true).wp Try.prog Q a w := by
  have hmono : ∀ (W W' : World) (j : Nat) (u : Value), Ext W W' → (fun (i : Nat) (v : Value) (W : World) => match i with
    | 0 => v = .agg #[.bool s0, .slice A0 l0 c0, .slice B0 m0 k0]
    | 1 => NumX W v q 256
    | 2 => v = .agg #[.bool s1, .slice A1 l1 c1, .slice B1 m1 k1]
    | 3 => NumX W v r 256
    | 4 => NumX W v (q + r) (256 + 256 + 1)
    | 5 => ∃ v', v = .tuple #[v', .int .i64 0] ∧ RatC W v' (q + r)
    | 6 => RatC W v (q + r)
    | 7 => v = .int .i64 0
    | _ => True) j u W → (fun (i : Nat) (v : Value) (W : World) => match i with
    | 0 => v = .agg #[.bool s0, .slice A0 l0 c0, .slice B0 m0 k0]
    | 1 => NumX W v q 256
    | 2 => v = .agg #[.bool s1, .slice A1 l1 c1, .slice B1 m1 k1]
    | 3 => NumX W v r 256
    | 4 => NumX W v (q + r) (256 + 256 + 1)
    | 5 => ∃ v', v = .tuple #[v', .int .i64 0] ∧ RatC W v' (q + r)
    | 6 => RatC W v (q + r)
    | 7 => v = .int .i64 0
    | _ => True) j u W' := by
    intro W W' j u hX h
    match j, h with
    | 0, h => exact h
    | 1, h => exact NumX.ext h hX
    | 2, h => exact h
    | 3, h => exact NumX.ext h hX
    | 4, h => exact NumX.ext h hX
    | 5, h => obtain ⟨v', h1, h2⟩ := h; exact ⟨v', h1, h2.ext hX⟩
    | 6, h => exact RatC.ext h hX
    | 7, h => exact h
    | _ + 8, h => exact h
  have hsz : ∀ d, some d ∈ ([some 11, some 12, some 13, some 14, some 15, some 16, some 17, some 18] : List (Option Tmp)) → d < a.tmps.size := slots_lt (by decide) hsize
  refine wp_region_j 8 [some 11, some 12, some 13, some 14, some 15, some 16, some 17, some 18] [[], [0], [], [2], [1, 3], [4], [5], [5]] [[], [], [], [], [], [], [], []] (fun (i : Nat) (v : Value) (W : World) => match i with
    | 0 => v = .agg #[.bool s0, .slice A0 l0 c0, .slice B0 m0 k0]
    | 1 => NumX W v q 256
    | 2 => v = .agg #[.bool s1, .slice A1 l1 c1, .slice B1 m1 k1]
    | 3 => NumX W v r 256
    | 4 => NumX W v (q + r) (256 + 256 + 1)
    | 5 => ∃ v', v = .tuple #[v', .int .i64 0] ∧ RatC W v' (q + r)
    | 6 => RatC W v (q + r)
    | 7 => v = .int .i64 0
    | _ => True) (fun _ W => Ext w W) (by kernel_rfl) (by kernel_rfl) hsz (fun _ _ _ _ h => h) ((Ext.refl w).drew) ?_ ?_
  · clear hend
    simp only [rops, Try.f58, regOf, Option.bind_some, Nat.reduceBEq, if_true, if_false, Bool.false_eq_true, Option.getD_some]
    simp only [List.take_succ_cons, List.take_zero]
    refine ⟨?_, ?_, ?_, ?_, ?_, ?_, ?_, ?_, trivial⟩
    · intro done us W hJ hdep haft hnot b hb hb' K hK Q'
      have e2 := (hb' 2 (by simp)).trans s2
      clear hb hb'
      have q0 := Ext.cell hJ x0
      have q1 := Ext.cell hJ x1
      have q2 := Ext.cell hJ x2
      go_simp
      exact hK _ _ rfl (fun _ _ _ h => h) hJ
    · intro done us W hJ hdep haft hnot b hb hb' K hK Q'
      simp only [List.getD_cons_succ, List.getD_cons_zero, List.mem_cons, List.not_mem_nil, or_false, forall_eq_or_imp, forall_eq] at hdep
      have e11 := hb 0 11 rfl
      have d0 := hdep
      rw [d0.1] at e11
      clear hb hb' hdep d0
      go_simp
      refine (ofG (hx.ext hJ)).mono ?_
      rintro e w' ⟨v, rfl, hv, hX⟩
      exact hK _ _ hv (fun j u _ h => hmono _ _ j u hX h) (Ext.trans hJ hX)
    · intro done us W hJ hdep haft hnot b hb hb' K hK Q'
      have e3 := (hb' 3 (by simp)).trans s3
      clear hb hb'
      have q0 := Ext.cell hJ y0
      have q1 := Ext.cell hJ y1
      have q2 := Ext.cell hJ y2
      go_simp
      exact hK _ _ rfl (fun _ _ _ h => h) hJ
    · intro done us W hJ hdep haft hnot b hb hb' K hK Q'
      simp only [List.getD_cons_succ, List.getD_cons_zero, List.mem_cons, List.not_mem_nil, or_false, forall_eq_or_imp, forall_eq] at hdep
      have e13 := hb 2 13 rfl
      have d2 := hdep
      rw [d2.1] at e13
      clear hb hb' hdep d2
      go_simp
      refine (ofG (hy.ext hJ)).mono ?_
      rintro e w' ⟨v, rfl, hv, hX⟩
      exact hK _ _ hv (fun j u _ h => hmono _ _ j u hX h) (Ext.trans hJ hX)
    · intro done us W hJ hdep haft hnot b hb hb' K hK Q'
      simp only [List.getD_cons_succ, List.getD_cons_zero, List.mem_cons, List.not_mem_nil, or_false, forall_eq_or_imp, forall_eq] at hdep
      have e12 := hb 1 12 rfl
      have e14 := hb 3 14 rfl
      have d1 := hdep.1
      have d3 := hdep.2
      clear hb hb' hdep 
      go_simp
      refine (addX d1.1 d3.1 (by omega)).mono ?_
      rintro e w' ⟨v, rfl, hv, hX⟩
      exact hK _ _ hv (fun j u _ h => hmono _ _ j u hX h) (Ext.trans hJ hX)
    · intro done us W hJ hdep haft hnot b hb hb' K hK Q'
      simp only [List.getD_cons_succ, List.getD_cons_zero, List.mem_cons, List.not_mem_nil, or_false, forall_eq_or_imp, forall_eq] at hdep
      have e15 := hb 4 15 rfl
      have d4 := hdep
      clear hb hb' hdep 
      go_simp
      refine (doneG d4.1 (by omega) hf).mono ?_
      rintro e w' ⟨v, rfl, hv, hX⟩
      exact hK _ _ ⟨v, rfl, hv⟩ (fun j u _ h => hmono _ _ j u hX h) (Ext.trans hJ hX)
    · intro done us W hJ hdep haft hnot b hb hb' K hK Q'
      simp only [List.getD_cons_succ, List.getD_cons_zero, List.mem_cons, List.not_mem_nil, or_false, forall_eq_or_imp, forall_eq] at hdep
      have e16 := hb 5 16 rfl
      have d5 := hdep
      clear hb hb' hdep 
      obtain ⟨⟨v', hv1, hv2⟩, _⟩ := d5
      rw [hv1] at e16
      go_simp
      exact hK _ _ hv2 (fun _ _ _ h => h) hJ
    · intro done us W hJ hdep haft hnot b hb hb' K hK Q'
      simp only [List.getD_cons_succ, List.getD_cons_zero, List.mem_cons, List.not_mem_nil, or_false, forall_eq_or_imp, forall_eq] at hdep
      have e16 := hb 5 16 rfl
      have d5 := hdep
      clear hb hb' hdep 
      obtain ⟨⟨v', hv1, hv2⟩, _⟩ := d5
      rw [hv1] at e16
      go_simp
      exact hK _ _ rfl (fun _ _ _ h => h) hJ
  · intro us W hV hJ
    exact hend (us 0) (us 1) (us 2) (us 3) (us 4) (us 5) (us 6) (us 7) W (hV 0 (by omega)) (hV 1 (by omega)) (hV 2 (by omega)) (hV 3 (by omega)) (hV 4 (by omega)) (hV 5 (by omega)) (hV 6 (by omega)) (hV 7 (by omega)) hJ
set_option maxRecDepth 100000 in
set_option maxHeartbeats 2000000 in
theorem eadd_ok (s0 s1 : Bool) (A0 B0 A1 B1 : Option Addr) (l0 c0 m0 k0 l1 c1 m1 k1 : Nat) (q r : Rat) (w : World) (hx : RatG w (.agg #[.bool s0, .slice A0 l0 c0, .slice B0 m0 k0]) q) (hy : RatG w (.agg #[.bool s1, .slice A1 l1 c1, .slice B1 m1 k1]) r) (hf : FitQW (q + r)) :
    Calls Try.prog 58 #[.agg #[.bool s0, .slice A0 l0 c0, .slice B0 m0 k0], .agg #[.bool s1, .slice A1 l1 c1, .slice B1 m1 k1]] w (RetC w (q + r)) := by
  have HXX := Lib.hid hx
  have HYY := Lib.hid hy
  clear hx hy
  have HF := Lib.hid hf
  clear hf
  have hXe : Ext w ((((w.alloc (.cells #[.bool s0, .slice A0 l0 c0, .slice B0 m0 k0] 33)).alloc (.cells #[.bool s1, .slice A1 l1 c1, .slice B1 m1 k1] 33)).alloc (.cells #[.bool false, .slice none 0 0, .slice none 0 0] 33)).alloc (.cells #[.bool s0, .slice A0 l0 c0, .slice B0 m0 k0, .bool s1, .slice A1 l1 c1, .slice B1 m1 k1] 33)) := (((((Ext.refl w).alloc _).alloc _).alloc _).alloc _)
  have kA : Blk ((((w.alloc (.cells #[.bool s0, .slice A0 l0 c0, .slice B0 m0 k0] 33)).alloc (.cells #[.bool s1, .slice A1 l1 c1, .slice B1 m1 k1] 33)).alloc (.cells #[.bool false, .slice none 0 0, .slice none 0 0] 33)).alloc (.cells #[.bool s0, .slice A0 l0 c0, .slice B0 m0 k0, .bool s1, .slice A1 l1 c1, .slice B1 m1 k1] 33)) w.heap.size 33 #[.bool s0, .slice A0 l0 c0, .slice B0 m0 k0] := Blk.alloc (Blk.alloc (Blk.alloc (Blk.at_ (by simp)) _) _) _
  have kB : Blk ((((w.alloc (.cells #[.bool s0, .slice A0 l0 c0, .slice B0 m0 k0] 33)).alloc (.cells #[.bool s1, .slice A1 l1 c1, .slice B1 m1 k1] 33)).alloc (.cells #[.bool false, .slice none 0 0, .slice none 0 0] 33)).alloc (.cells #[.bool s0, .slice A0 l0 c0, .slice B0 m0 k0, .bool s1, .slice A1 l1 c1, .slice B1 m1 k1] 33)) (w.heap.size + 1) 33 #[.bool s1, .slice A1 l1 c1, .slice B1 m1 k1] := Blk.alloc (Blk.alloc (Blk.at_ (by simp)) _) _
  have kR : Blk ((((w.alloc (.cells #[.bool s0, .slice A0 l0 c0, .slice B0 m0 k0] 33)).alloc (.cells #[.bool s1, .slice A1 l1 c1, .slice B1 m1 k1] 33)).alloc (.cells #[.bool false, .slice none 0 0, .slice none 0 0] 33)).alloc (.cells #[.bool s0, .slice A0 l0 c0, .slice B0 m0 k0, .bool s1, .slice A1 l1 c1, .slice B1 m1 k1] 33)) (w.heap.size + 2) 33 #[.bool false, .slice none 0 0, .slice none 0 0] := Blk.alloc (Blk.at_ (by simp)) _
  have kP : Blk ((((w.alloc (.cells #[.bool s0, .slice A0 l0 c0, .slice B0 m0 k0] 33)).alloc (.cells #[.bool s1, .slice A1 l1 c1, .slice B1 m1 k1] 33)).alloc (.cells #[.bool false, .slice none 0 0, .slice none 0 0] 33)).alloc (.cells #[.bool s0, .slice A0 l0 c0, .slice B0 m0 k0, .bool s1, .slice A1 l1 c1, .slice B1 m1 k1] 33)) (w.heap.size + 3) 33 #[.bool s0, .slice A0 l0 c0, .slice B0 m0 k0, .bool s1, .slice A1 l1 c1, .slice B1 m1 k1] := Blk.at_ (by simp)
  go_enter Try.func58, Try.ntmps58
  go_wp2_with fail
  generalize ((((w.alloc (.cells #[.bool s0, .slice A0 l0 c0, .slice B0 m0 k0] 33)).alloc (.cells #[.bool s1, .slice A1 l1 c1, .slice B1 m1 k1] 33)).alloc (.cells #[.bool false, .slice none 0 0, .slice none 0 0] 33)).alloc (.cells #[.bool s0, .slice A0 l0 c0, .slice B0 m0 k0, .bool s1, .slice A1 l1 c1, .slice B1 m1 k1] 33)) = w1 at hXe kA kB kR kP ⊢
  have HX := Lib.hid hXe
  clear hXe
  have KA := Lib.hid kA
  clear kA
  have KB := Lib.hid kB
  clear kB
  have KR := Lib.hid kR
  clear kR
  have KP := Lib.hid kP
  clear kP
  refine (anyLarge_two s0 s1 A0 B0 A1 B1 l0 c0 m0 k0 l1 c1 m1 k1 false false _ _ KP.out ((HXX.out.small).ext HX.out) ((HYY.out.small).ext HX.out)).mono ?_
  rintro e w2 ⟨rfl, hX⟩
  replace HX := Lib.hid (HX.out.trans hX)
  replace KA := Lib.hid (KA.out.ext hX)
  replace KB := Lib.hid (KB.out.ext hX)
  replace KR := Lib.hid (KR.out.ext hX)
  replace KP := Lib.hid (KP.out.ext hX)
  clear hX
  clear KP
  replace HXX := Lib.hid (HXX.out.ext HX.out)
  replace HYY := Lib.hid (HYY.out.ext HX.out)
  go_upto_region 3 with (fail)
  refine eadd_rok w.heap.size (w.heap.size + 1) s0 s1 A0 B0 A1 B1 l0 c0 m0 k0 l1 c1 m1 k1 q r w2 (KA.out.cell 0) (KA.out.cell 1) (KA.out.cell 2) (KB.out.cell 0) (KB.out.cell 1) (KB.out.cell 2) HXX.out HYY.out HF.out _ _ (by simp) rfl rfl ?_
  rintro xv0 xv1 xv2 xv3 xv4 xv5 xv6 xv7 w3 rfl _ rfl _ _ _ hr rfl hXW
  simp only [rops, Try.f58, regOf, Option.bind_some, Nat.reduceBEq, if_true, if_false, Bool.false_eq_true, Option.getD_some, List.drop_succ_cons, List.drop_zero]
  simp only [Act.put, List.setIfInBounds_toArray, List.set_cons_succ, List.set_cons_zero]
  replace HX := Lib.hid (HX.out.trans hXW)
  replace HXX := Lib.hid (HXX.out.ext hXW)
  replace HYY := Lib.hid (HYY.out.ext hXW)
  replace KA := Lib.hid (KA.out.ext hXW)
  replace KB := Lib.hid (KB.out.ext hXW)
  replace KR := Lib.hid (KR.out.ext hXW)
  clear hXW
  obtain ⟨s9, A9, l9, c9, B9, m9, k9, rfl⟩ := hr.open
  have HV := Lib.hid (hr.past (NoInts.three KR.out) s9 A9 B9 l9 c9 m9 k9)
  clear hr
  have cR0 : w3.cell? ⟨(w.heap.size + 2), 0, none⟩ = some (.bool false) := KR.out.cell 0
  have fR0 : w3.frozen? ⟨(w.heap.size + 2), 0, none⟩ = false := KR.out.free 0
  have cR1 : w3.cell? ⟨(w.heap.size + 2), 1, none⟩ = some (.slice none 0 0) := KR.out.cell 1
  have fR1 : w3.frozen? ⟨(w.heap.size + 2), 1, none⟩ = false := KR.out.free 1
  have cR2 : w3.cell? ⟨(w.heap.size + 2), 2, none⟩ = some (.slice none 0 0) := KR.out.cell 2
  have fR2 : w3.frozen? ⟨(w.heap.size + 2), 2, none⟩ = false := KR.out.free 2
  go_wp2
  refine bodyPost_ret (v := .tuple #[.agg #[.bool s9, .slice A9 l9 c9, .slice B9 m9 k9], .int .i64 0]) (by simp [results, Try.results58, go_sem, *]) rfl ?_
  exact ⟨_, rfl, HV.out, Ext.boxed HX.out (by omega) _ _ _⟩

set_option maxRecDepth 100000 in
set_option maxHeartbeats 2000000 in
theorem eadd_rbig (ga gb : Nat) (s0 s1 : Bool) (A0 B0 A1 B1 : Option Addr) (l0 c0 m0 k0 l1 c1 m1 k1 : Nat) (q r : Rat) (w : World) (x0 : w.cell? ⟨ga, 0, none⟩ = some (.bool s0)) (x1 : w.cell? ⟨ga, 1, none⟩ = some (.slice A0 l0 c0)) (x2 : w.cell? ⟨ga, 2, none⟩ = some (.slice B0 m0 k0)) (y0 : w.cell? ⟨gb, 0, none⟩ = some (.bool s1)) (y1 : w.cell? ⟨gb, 1, none⟩ = some (.slice A1 l1 c1)) (y2 : w.cell? ⟨gb, 2, none⟩ = some (.slice B1 m1 k1)) (hx : RatG w (.agg #[.bool s0, .slice A0 l0 c0, .slice B0 m0 k0]) q) (hy : RatG w (.agg #[.bool s1, .slice A1 l1 c1, .slice B1 m1 k1]) r) (hf : ¬ FitQW (q + r)) (a : Act) (Q : Exit → Act → World → Prop) (hsize : 19 ≤ a.tmps.size)
    (s2 : a.tmps[2]? = some (.pointer (some ⟨ga, 0, none⟩)))
    (s3 : a.tmps[3]? = some (.pointer (some ⟨gb, 0, none⟩)))
    (hend : ∀ (xv0 xv1 xv2 xv3 xv4 xv5 xv6 xv7 : Value) (W : World), (xv0 = .agg #[.bool s0, .slice A0 l0 c0, .slice B0 m0 k0]) → (NumX W xv1 q 256) → (xv2 = .agg #[.bool s1, .slice A1 l1 c1, .slice B1 m1 k1]) → (NumX W xv3 r 256) → (NumX W xv4 (q + r) (256 + 256 + 1)) → (xv5 = .tuple #[zeroR, .int .i64 1]) → (xv6 = zeroR) → (xv7 = .int .i64 1) → Ext w W → wpList Try.prog (rops Try.f58 3).toArray Q ((rops Try.f58 3).drop 8) ((((((((a.put (some 11) xv0).put (some 12) xv1).put (some 13) xv2).put (some 14) xv3).put (some 15) xv4).put (some 16) xv5).put (some 17) xv6).put (some 18) xv7) W) :
    (Code.region 3 (rops Try.f58 3).toArray true).wp Try.prog Q a w := by
  have hmono : ∀ (W W' : World) (j : Nat) (u : Value), Ext W W' → (fun (i : Nat) (v : Value) (W : World) => match i with
    | 0 => v = .agg #[.bool s0, .slice A0 l0 c0, .slice B0 m0 k0]
    | 1 => NumX W v q 256
    | 2 => v = .agg #[.bool s1, .slice A1 l1 c1, .slice B1 m1 k1]
    | 3 => NumX W v r 256
    | 4 => NumX W v (q + r) (256 + 256 + 1)
    | 5 => v = .tuple #[zeroR, .int .i64 1]
    | 6 => v = zeroR
    | 7 => v = .int .i64 1
    | _ => True) j u W → (fun (i : Nat) (v : Value) (W : World) => match i with
    | 0 => v = .agg #[.bool s0, .slice A0 l0 c0, .slice B0 m0 k0]
    | 1 => NumX W v q 256
    | 2 => v = .agg #[.bool s1, .slice A1 l1 c1, .slice B1 m1 k1]
    | 3 => NumX W v r 256
    | 4 => NumX W v (q + r) (256 + 256 + 1)
    | 5 => v = .tuple #[zeroR, .int .i64 1]
    | 6 => v = zeroR
    | 7 => v = .int .i64 1
    | _ => True) j u W' := by
    intro W W' j u hX h
    match j, h with
    | 0, h => exact h
    | 1, h => exact NumX.ext h hX
    | 2, h => exact h
    | 3, h => exact NumX.ext h hX
    | 4, h => exact NumX.ext h hX
    | 5, h => exact h
    | 6, h => exact h
    | 7, h => exact h
    | _ + 8, h => exact h
  have hsz : ∀ d, some d ∈ ([some 11, some 12, some 13, some 14, some 15, some 16, some 17, some 18] : List (Option Tmp)) → d < a.tmps.size := slots_lt (by decide) hsize
  refine wp_region_j 8 [some 11, some 12, some 13, some 14, some 15, some 16, some 17, some 18] [[], [0], [], [2], [1, 3], [4], [5], [5]] [[], [], [], [], [], [], [], []] (fun (i : Nat) (v : Value) (W : World) => match i with
    | 0 => v = .agg #[.bool s0, .slice A0 l0 c0, .slice B0 m0 k0]
    | 1 => NumX W v q 256
    | 2 => v = .agg #[.bool s1, .slice A1 l1 c1, .slice B1 m1 k1]
    | 3 => NumX W v r 256
    | 4 => NumX W v (q + r) (256 + 256 + 1)
    | 5 => v = .tuple #[zeroR, .int .i64 1]
    | 6 => v = zeroR
    | 7 => v = .int .i64 1
    | _ => True) (fun _ W => Ext w W) (by kernel_rfl) (by kernel_rfl) hsz (fun _ _ _ _ h => h) ((Ext.refl w).drew) ?_ ?_
  · clear hend
    simp only [rops, Try.f58, regOf, Option.bind_some, Nat.reduceBEq, if_true, if_false, Bool.false_eq_true, Option.getD_some]
    simp only [List.take_succ_cons, List.take_zero]
    refine ⟨?_, ?_, ?_, ?_, ?_, ?_, ?_, ?_, trivial⟩
    · intro done us W hJ hdep haft hnot b hb hb' K hK Q'
      have e2 := (hb' 2 (by simp)).trans s2
      clear hb hb'
      have q0 := Ext.cell hJ x0
      have q1 := Ext.cell hJ x1
      have q2 := Ext.cell hJ x2
      go_simp
      exact hK _ _ rfl (fun _ _ _ h => h) hJ
    · intro done us W hJ hdep haft hnot b hb hb' K hK Q'
      simp only [List.getD_cons_succ, List.getD_cons_zero, List.mem_cons, List.not_mem_nil, or_false, forall_eq_or_imp, forall_eq] at hdep
      have e11 := hb 0 11 rfl
      have d0 := hdep
      rw [d0.1] at e11
      clear hb hb' hdep d0
      go_simp
      refine (ofG (hx.ext hJ)).mono ?_
      rintro e w' ⟨v, rfl, hv, hX⟩
      exact hK _ _ hv (fun j u _ h => hmono _ _ j u hX h) (Ext.trans hJ hX)
    · intro done us W hJ hdep haft hnot b hb hb' K hK Q'
      have e3 := (hb' 3 (by simp)).trans s3
      clear hb hb'
      have q0 := Ext.cell hJ y0
      have q1 := Ext.cell hJ y1
      have q2 := Ext.cell hJ y2
      go_simp
      exact hK _ _ rfl (fun _ _ _ h => h) hJ
    · intro done us W hJ hdep haft hnot b hb hb' K hK Q'
      simp only [List.getD_cons_succ, List.getD_cons_zero, List.mem_cons, List.not_mem_nil, or_false, forall_eq_or_imp, forall_eq] at hdep
      have e13 := hb 2 13 rfl
      have d2 := hdep
      rw [d2.1] at e13
      clear hb hb' hdep d2
      go_simp
      refine (ofG (hy.ext hJ)).mono ?_
      rintro e w' ⟨v, rfl, hv, hX⟩
      exact hK _ _ hv (fun j u _ h => hmono _ _ j u hX h) (Ext.trans hJ hX)
    · intro done us W hJ hdep haft hnot b hb hb' K hK Q'
      simp only [List.getD_cons_succ, List.getD_cons_zero, List.mem_cons, List.not_mem_nil, or_false, forall_eq_or_imp, forall_eq] at hdep
      have e12 := hb 1 12 rfl
      have e14 := hb 3 14 rfl
      have d1 := hdep.1
      have d3 := hdep.2
      clear hb hb' hdep 
      go_simp
      refine (addX d1.1 d3.1 (by omega)).mono ?_
      rintro e w' ⟨v, rfl, hv, hX⟩
      exact hK _ _ hv (fun j u _ h => hmono _ _ j u hX h) (Ext.trans hJ hX)
    · intro done us W hJ hdep haft hnot b hb hb' K hK Q'
      simp only [List.getD_cons_succ, List.getD_cons_zero, List.mem_cons, List.not_mem_nil, or_false, forall_eq_or_imp, forall_eq] at hdep
      have e15 := hb 4 15 rfl
      have d4 := hdep
      clear hb hb' hdep 
      go_simp
      refine (doneB d4.1 (by omega) hf).mono ?_
      rintro e w' ⟨rfl, hX⟩
      exact hK _ _ rfl (fun j u _ h => hmono _ _ j u hX h) (Ext.trans hJ hX)
    · intro done us W hJ hdep haft hnot b hb hb' K hK Q'
      simp only [List.getD_cons_succ, List.getD_cons_zero, List.mem_cons, List.not_mem_nil, or_false, forall_eq_or_imp, forall_eq] at hdep
      have e16 := hb 5 16 rfl
      have d5 := hdep
      rw [d5.1] at e16
      clear hb hb' hdep d5
      go_simp
      exact hK _ _ rfl (fun _ _ _ h => h) hJ
    · intro done us W hJ hdep haft hnot b hb hb' K hK Q'
      simp only [List.getD_cons_succ, List.getD_cons_zero, List.mem_cons, List.not_mem_nil, or_false, forall_eq_or_imp, forall_eq] at hdep
      have e16 := hb 5 16 rfl
      have d5 := hdep
      rw [d5.1] at e16
      clear hb hb' hdep d5
      go_simp
      exact hK _ _ rfl (fun _ _ _ h => h) hJ
  · intro us W hV hJ
    exact hend (us 0) (us 1) (us 2) (us 3) (us 4) (us 5) (us 6) (us 7) W (hV 0 (by omega)) (hV 1 (by omega)) (hV 2 (by omega)) (hV 3 (by omega)) (hV 4 (by omega)) (hV 5 (by omega)) (hV 6 (by omega)) (hV 7 (by omega)) hJ
set_option maxRecDepth 100000 in
set_option maxHeartbeats 2000000 in
theorem eadd_big (s0 s1 : Bool) (A0 B0 A1 B1 : Option Addr) (l0 c0 m0 k0 l1 c1 m1 k1 : Nat) (q r : Rat) (w : World) (hx : RatG w (.agg #[.bool s0, .slice A0 l0 c0, .slice B0 m0 k0]) q) (hy : RatG w (.agg #[.bool s1, .slice A1 l1 c1, .slice B1 m1 k1]) r) (hf : ¬ FitQW (q + r)) :
    Calls Try.prog 58 #[.agg #[.bool s0, .slice A0 l0 c0, .slice B0 m0 k0], .agg #[.bool s1, .slice A1 l1 c1, .slice B1 m1 k1]] w (RetE w zeroR 1) := by
  have HXX := Lib.hid hx
  have HYY := Lib.hid hy
  clear hx hy
  have HF := Lib.hid hf
  clear hf
  have hXe : Ext w ((((w.alloc (.cells #[.bool s0, .slice A0 l0 c0, .slice B0 m0 k0] 33)).alloc (.cells #[.bool s1, .slice A1 l1 c1, .slice B1 m1 k1] 33)).alloc (.cells #[.bool false, .slice none 0 0, .slice none 0 0] 33)).alloc (.cells #[.bool s0, .slice A0 l0 c0, .slice B0 m0 k0, .bool s1, .slice A1 l1 c1, .slice B1 m1 k1] 33)) := (((((Ext.refl w).alloc _).alloc _).alloc _).alloc _)
  have kA : Blk ((((w.alloc (.cells #[.bool s0, .slice A0 l0 c0, .slice B0 m0 k0] 33)).alloc (.cells #[.bool s1, .slice A1 l1 c1, .slice B1 m1 k1] 33)).alloc (.cells #[.bool false, .slice none 0 0, .slice none 0 0] 33)).alloc (.cells #[.bool s0, .slice A0 l0 c0, .slice B0 m0 k0, .bool s1, .slice A1 l1 c1, .slice B1 m1 k1] 33)) w.heap.size 33 #[.bool s0, .slice A0 l0 c0, .slice B0 m0 k0] := Blk.alloc (Blk.alloc (Blk.alloc (Blk.at_ (by simp)) _) _) _
  have kB : Blk ((((w.alloc (.cells #[.bool s0, .slice A0 l0 c0, .slice B0 m0 k0] 33)).alloc (.cells #[.bool s1, .slice A1 l1 c1, .slice B1 m1 k1] 33)).alloc (.cells #[.bool false, .slice none 0 0, .slice none 0 0] 33)).alloc (.cells #[.bool s0, .slice A0 l0 c0, .slice B0 m0 k0, .bool s1, .slice A1 l1 c1, .slice B1 m1 k1] 33)) (w.heap.size + 1) 33 #[.bool s1, .slice A1 l1 c1, .slice B1 m1 k1] := Blk.alloc (Blk.alloc (Blk.at_ (by simp)) _) _
  have kR : Blk ((((w.alloc (.cells #[.bool s0, .slice A0 l0 c0, .slice B0 m0 k0] 33)).alloc (.cells #[.bool s1, .slice A1 l1 c1, .slice B1 m1 k1] 33)).alloc (.cells #[.bool false, .slice none 0 0, .slice none 0 0] 33)).alloc (.cells #[.bool s0, .slice A0 l0 c0, .slice B0 m0 k0, .bool s1, .slice A1 l1 c1, .slice B1 m1 k1] 33)) (w.heap.size + 2) 33 #[.bool false, .slice none 0 0, .slice none 0 0] := Blk.alloc (Blk.at_ (by simp)) _
  have kP : Blk ((((w.alloc (.cells #[.bool s0, .slice A0 l0 c0, .slice B0 m0 k0] 33)).alloc (.cells #[.bool s1, .slice A1 l1 c1, .slice B1 m1 k1] 33)).alloc (.cells #[.bool false, .slice none 0 0, .slice none 0 0] 33)).alloc (.cells #[.bool s0, .slice A0 l0 c0, .slice B0 m0 k0, .bool s1, .slice A1 l1 c1, .slice B1 m1 k1] 33)) (w.heap.size + 3) 33 #[.bool s0, .slice A0 l0 c0, .slice B0 m0 k0, .bool s1, .slice A1 l1 c1, .slice B1 m1 k1] := Blk.at_ (by simp)
  go_enter Try.func58, Try.ntmps58
  go_wp2_with fail
  generalize ((((w.alloc (.cells #[.bool s0, .slice A0 l0 c0, .slice B0 m0 k0] 33)).alloc (.cells #[.bool s1, .slice A1 l1 c1, .slice B1 m1 k1] 33)).alloc (.cells #[.bool false, .slice none 0 0, .slice none 0 0] 33)).alloc (.cells #[.bool s0, .slice A0 l0 c0, .slice B0 m0 k0, .bool s1, .slice A1 l1 c1, .slice B1 m1 k1] 33)) = w1 at hXe kA kB kR kP ⊢
  have HX := Lib.hid hXe
  clear hXe
  have KA := Lib.hid kA
  clear kA
  have KB := Lib.hid kB
  clear kB
  have KR := Lib.hid kR
  clear kR
  have KP := Lib.hid kP
  clear kP
  refine (anyLarge_two s0 s1 A0 B0 A1 B1 l0 c0 m0 k0 l1 c1 m1 k1 false false _ _ KP.out ((HXX.out.small).ext HX.out) ((HYY.out.small).ext HX.out)).mono ?_
  rintro e w2 ⟨rfl, hX⟩
  replace HX := Lib.hid (HX.out.trans hX)
  replace KA := Lib.hid (KA.out.ext hX)
  replace KB := Lib.hid (KB.out.ext hX)
  replace KR := Lib.hid (KR.out.ext hX)
  replace KP := Lib.hid (KP.out.ext hX)
  clear hX
  clear KP
  replace HXX := Lib.hid (HXX.out.ext HX.out)
  replace HYY := Lib.hid (HYY.out.ext HX.out)
  go_upto_region 3 with (fail)
  refine eadd_rbig w.heap.size (w.heap.size + 1) s0 s1 A0 B0 A1 B1 l0 c0 m0 k0 l1 c1 m1 k1 q r w2 (KA.out.cell 0) (KA.out.cell 1) (KA.out.cell 2) (KB.out.cell 0) (KB.out.cell 1) (KB.out.cell 2) HXX.out HYY.out HF.out _ _ (by simp) rfl rfl ?_
  rintro xv0 xv1 xv2 xv3 xv4 xv5 xv6 xv7 w3 rfl _ rfl _ _ rfl rfl rfl hXW
  simp only [rops, Try.f58, regOf, Option.bind_some, Nat.reduceBEq, if_true, if_false, Bool.false_eq_true, Option.getD_some, List.drop_succ_cons, List.drop_zero]
  simp only [Act.put, List.setIfInBounds_toArray, List.set_cons_succ, List.set_cons_zero]
  replace HX := Lib.hid (HX.out.trans hXW)
  replace HXX := Lib.hid (HXX.out.ext hXW)
  replace HYY := Lib.hid (HYY.out.ext hXW)
  replace KA := Lib.hid (KA.out.ext hXW)
  replace KB := Lib.hid (KB.out.ext hXW)
  replace KR := Lib.hid (KR.out.ext hXW)
  clear hXW
  unfold zeroR
  have cR0 : w3.cell? ⟨(w.heap.size + 2), 0, none⟩ = some (.bool false) := KR.out.cell 0
  have fR0 : w3.frozen? ⟨(w.heap.size + 2), 0, none⟩ = false := KR.out.free 0
  have cR1 : w3.cell? ⟨(w.heap.size + 2), 1, none⟩ = some (.slice none 0 0) := KR.out.cell 1
  have fR1 : w3.frozen? ⟨(w.heap.size + 2), 1, none⟩ = false := KR.out.free 1
  have cR2 : w3.cell? ⟨(w.heap.size + 2), 2, none⟩ = some (.slice none 0 0) := KR.out.cell 2
  have fR2 : w3.frozen? ⟨(w.heap.size + 2), 2, none⟩ = false := KR.out.free 2
  go_wp2
  refine bodyPost_ret (v := .tuple #[zeroR, .int .i64 1]) (by simp [results, zeroR, Try.results58, go_sem, *]) rfl ?_
  exact ⟨rfl, Ext.boxed HX.out (by omega) _ _ _⟩

set_option maxRecDepth 100000 in
set_option maxHeartbeats 2000000 in
theorem esub_rok (ga gb : Nat) (s0 s1 : Bool) (A0 B0 A1 B1 : Option Addr) (l0 c0 m0 k0 l1 c1 m1 k1 : Nat) (q r : Rat) (w : World) (x0 : w.cell? ⟨ga, 0, none⟩ = some (.bool s0)) (x1 : w.cell? ⟨ga, 1, none⟩ = some (.slice A0 l0 c0)) (x2 : w.cell? ⟨ga, 2, none⟩ = some (.slice B0 m0 k0)) (y0 : w.cell? ⟨gb, 0, none⟩ = some (.bool s1)) (y1 : w.cell? ⟨gb, 1, none⟩ = some (.slice A1 l1 c1)) (y2 : w.cell? ⟨gb, 2, none⟩ = some (.slice B1 m1 k1)) (hx : RatG w (.agg #[.bool s0, .slice A0 l0 c0, .slice B0 m0 k0]) q) (hy : RatG w (.agg #[.bool s1, .slice A1 l1 c1, .slice B1 m1 k1]) r) (hf : FitQW (q - r)) (a : Act) (Q : Exit → Act → World → Prop) (hsize : 19 ≤ a.tmps.size)
    (s2 : a.tmps[2]? = some (.pointer (some ⟨ga, 0, none⟩)))
    (s3 : a.tmps[3]? = some (.pointer (some ⟨gb, 0, none⟩)))
    (hend : ∀ (xv0 xv1 xv2 xv3 xv4 xv5 xv6 xv7 : Value) (W : World), (xv0 = .agg #[.bool s0, .slice A0 l0 c0, .slice B0 m0 k0]) → (NumX W xv1 q 256) → (xv2 = .agg #[.bool s1, .slice A1 l1 c1, .slice B1 m1 k1]) → (NumX W xv3 r 256) → (NumX W xv4 (q - r) (256 + 256 + 1)) → (∃ xv5', xv5 = .tuple #[xv5', .int .i64 0] ∧ RatC W xv5' (q - r)) → (RatC W xv6 (q - r)) → (xv7 = .int .i64 0) → Ext w W → wpList Try.prog (rops Try.f51 3).toArray Q ((rops Try.f51 3).drop 8) ((((((((a.put (some 11) xv0).put (some 12) xv1).put (some 13) xv2).put (some 14) xv3).put (some 15) xv4).put (some 16) xv5).put (some 17) xv6).put (some 18) xv7) W) :
    (Code.region 3 (rops Try.f51 3).toArray true).wp Try.prog Q a w := by
  have hmono : ∀ (W W' : World) (j : Nat) (u : Value), Ext W W' → (fun (i : Nat) (v : Value) (W : World) => match i with
    | 0 => v = .agg #[.bool s0, .slice A0 l0 c0, .slice B0 m0 k0]
    | 1 => NumX W v q 256
    | 2 => v = .agg #[.bool s1, .slice A1 l1 c1, .slice B1 m1 k1]
    | 3 => NumX W v r 256
    | 4 => NumX W v (q - r) (256 + 256 + 1)
    | 5 => ∃ v', v = .tuple #[v', .int .i64 0] ∧ RatC W v' (q - r)
    | 6 => RatC W v (q - r)
    | 7 => v = .int .i64 0
    | _ => True) j u W → (fun (i : Nat) (v : Value) (W : World) => match i with
    | 0 => v = .agg #[.bool s0, .slice A0 l0 c0, .slice B0 m0 k0]
    | 1 => NumX W v q 256
    | 2 => v = .agg #[.bool s1, .slice A1 l1 c1, .slice B1 m1 k1]
    | 3 => NumX W v r 256
    | 4 => NumX W v (q - r) (256 + 256 + 1)
    | 5 => ∃ v', v = .tuple #[v', .int .i64 0] ∧ RatC W v' (q - r)
    | 6 => RatC W v (q - r)
    | 7 => v = .int .i64 0
    | _ => True) j u W' := by
    intro W W' j u hX h
    match j, h with
    | 0, h => exact h
    | 1, h => exact NumX.ext h hX
    | 2, h => exact h
    | 3, h => exact NumX.ext h hX
    | 4, h => exact NumX.ext h hX
    | 5, h => obtain ⟨v', h1, h2⟩ := h; exact ⟨v', h1, h2.ext hX⟩
    | 6, h => exact RatC.ext h hX
    | 7, h => exact h
    | _ + 8, h => exact h
  have hsz : ∀ d, some d ∈ ([some 11, some 12, some 13, some 14, some 15, some 16, some 17, some 18] : List (Option Tmp)) → d < a.tmps.size := slots_lt (by decide) hsize
  refine wp_region_j 8 [some 11, some 12, some 13, some 14, some 15, some 16, some 17, some 18] [[], [0], [], [2], [1, 3], [4], [5], [5]] [[], [], [], [], [], [], [], []] (fun (i : Nat) (v : Value) (W : World) => match i with
    | 0 => v = .agg #[.bool s0, .slice A0 l0 c0, .slice B0 m0 k0]
    | 1 => NumX W v q 256
    | 2 => v = .agg #[.bool s1, .slice A1 l1 c1, .slice B1 m1 k1]
    | 3 => NumX W v r 256
    | 4 => NumX W v (q - r) (256 + 256 + 1)
    | 5 => ∃ v', v = .tuple #[v', .int .i64 0] ∧ RatC W v' (q - r)
    | 6 => RatC W v (q - r)
    | 7 => v = .int .i64 0
    | _ => True) (fun _ W => Ext w W) (by kernel_rfl) (by kernel_rfl) hsz (fun _ _ _ _ h => h) ((Ext.refl w).drew) ?_ ?_
  · clear hend
    simp only [rops, Try.f51, regOf, Option.bind_some, Nat.reduceBEq, if_true, if_false, Bool.false_eq_true, Option.getD_some]
    simp only [List.take_succ_cons, List.take_zero]
    refine ⟨?_, ?_, ?_, ?_, ?_, ?_, ?_, ?_, trivial⟩
    · intro done us W hJ hdep haft hnot b hb hb' K hK Q'
      have e2 := (hb' 2 (by simp)).trans s2
      clear hb hb'
      have q0 := Ext.cell hJ x0
      have q1 := Ext.cell hJ x1
      have q2 := Ext.cell hJ x2
      go_simp
      exact hK _ _ rfl (fun _ _ _ h => h) hJ
    · intro done us W hJ hdep haft hnot b hb hb' K hK Q'
      simp only [List.getD_cons_succ, List.getD_cons_zero, List.mem_cons, List.not_mem_nil, or_false, forall_eq_or_imp, forall_eq] at hdep
      have e11 := hb 0 11 rfl
      have d0 := hdep
      rw [d0.1] at e11
      clear hb hb' hdep d0
      go_simp
      refine (ofG (hx.ext hJ)).mono ?_
      rintro e w' ⟨v, rfl, hv, hX⟩
      exact hK _ _ hv (fun j u _ h => hmono _ _ j u hX h) (Ext.trans hJ hX)
    · intro done us W hJ hdep haft hnot b hb hb' K hK Q'
      have e3 := (hb' 3 (by simp)).trans s3
      clear hb hb'
      have q0 := Ext.cell hJ y0
      have q1 := Ext.cell hJ y1
      have q2 := Ext.cell hJ y2
      go_simp
      exact hK _ _ rfl (fun _ _ _ h => h) hJ
    · intro done us W hJ hdep haft hnot b hb hb' K hK Q'
      simp only [List.getD_cons_succ, List.getD_cons_zero, List.mem_cons, List.not_mem_nil, or_false, forall_eq_or_imp, forall_eq] at hdep
      have e13 := hb 2 13 rfl
      have d2 := hdep
      rw [d2.1] at e13
      clear hb hb' hdep d2
      go_simp
      refine (ofG (hy.ext hJ)).mono ?_
      rintro e w' ⟨v, rfl, hv, hX⟩
      exact hK _ _ hv (fun j u _ h => hmono _ _ j u hX h) (Ext.trans hJ hX)
    · intro done us W hJ hdep haft hnot b hb hb' K hK Q'
      simp only [List.getD_cons_succ, List.getD_cons_zero, List.mem_cons, List.not_mem_nil, or_false, forall_eq_or_imp, forall_eq] at hdep
      have e12 := hb 1 12 rfl
      have e14 := hb 3 14 rfl
      have d1 := hdep.1
      have d3 := hdep.2
      clear hb hb' hdep 
      go_simp
      refine (subX d1.1 d3.1 (by omega)).mono ?_
      rintro e w' ⟨v, rfl, hv, hX⟩
      exact hK _ _ hv (fun j u _ h => hmono _ _ j u hX h) (Ext.trans hJ hX)
    · intro done us W hJ hdep haft hnot b hb hb' K hK Q'
      simp only [List.getD_cons_succ, List.getD_cons_zero, List.mem_cons, List.not_mem_nil, or_false, forall_eq_or_imp, forall_eq] at hdep
      have e15 := hb 4 15 rfl
      have d4 := hdep
      clear hb hb' hdep 
      go_simp
      refine (doneG d4.1 (by omega) hf).mono ?_
      rintro e w' ⟨v, rfl, hv, hX⟩
      exact hK _ _ ⟨v, rfl, hv⟩ (fun j u _ h => hmono _ _ j u hX h) (Ext.trans hJ hX)
    · intro done us W hJ hdep haft hnot b hb hb' K hK Q'
      simp only [List.getD_cons_succ, List.getD_cons_zero, List.mem_cons, List.not_mem_nil, or_false, forall_eq_or_imp, forall_eq] at hdep
      have e16 := hb 5 16 rfl
      have d5 := hdep
      clear hb hb' hdep 
      obtain ⟨⟨v', hv1, hv2⟩, _⟩ := d5
      rw [hv1] at e16
      go_simp
      exact hK _ _ hv2 (fun _ _ _ h => h) hJ
    · intro done us W hJ hdep haft hnot b hb hb' K hK Q'
      simp only [List.getD_cons_succ, List.getD_cons_zero, List.mem_cons, List.not_mem_nil, or_false, forall_eq_or_imp, forall_eq] at hdep
      have e16 := hb 5 16 rfl
      have d5 := hdep
      clear hb hb' hdep 
      obtain ⟨⟨v', hv1, hv2⟩, _⟩ := d5
      rw [hv1] at e16
      go_simp
      exact hK _ _ rfl (fun _ _ _ h => h) hJ
  · intro us W hV hJ
    exact hend (us 0) (us 1) (us 2) (us 3) (us 4) (us 5) (us 6) (us 7) W (hV 0 (by omega)) (hV 1 (by omega)) (hV 2 (by omega)) (hV 3 (by omega)) (hV 4 (by omega)) (hV 5 (by omega)) (hV 6 (by omega)) (hV 7 (by omega)) hJ
set_option maxRecDepth 100000 in
set_option maxHeartbeats 2000000 in
theorem esub_ok (s0 s1 : Bool) (A0 B0 A1 B1 : Option Addr) (l0 c0 m0 k0 l1 c1 m1 k1 : Nat) (q r : Rat) (w : World) (hx : RatG w (.agg #[.bool s0, .slice A0 l0 c0, .slice B0 m0 k0]) q) (hy : RatG w (.agg #[.bool s1, .slice A1 l1 c1, .slice B1 m1 k1]) r) (hf : FitQW (q - r)) :
    Calls Try.prog 51 #[.agg #[.bool s0, .slice A0 l0 c0, .slice B0 m0 k0], .agg #[.bool s1, .slice A1 l1 c1, .slice B1 m1 k1]] w (RetC w (q - r)) := by
  have HXX := Lib.hid hx
  have HYY := Lib.hid hy
  clear hx hy
  have HF := Lib.hid hf
  clear hf
  have hXe : Ext w ((((w.alloc (.cells #[.bool s0, .slice A0 l0 c0, .slice B0 m0 k0] 33)).alloc (.cells #[.bool s1, .slice A1 l1 c1, .slice B1 m1 k1] 33)).alloc (.cells #[.bool false, .slice none 0 0, .slice none 0 0] 33)).alloc (.cells #[.bool s0, .slice A0 l0 c0, .slice B0 m0 k0, .bool s1, .slice A1 l1 c1, .slice B1 m1 k1] 33)) := (((((Ext.refl w).alloc _).alloc _).alloc _).alloc _)
  have kA : Blk ((((w.alloc (.cells #[.bool s0, .slice A0 l0 c0, .slice B0 m0 k0] 33)).alloc (.cells #[.bool s1, .slice A1 l1 c1, .slice B1 m1 k1] 33)).alloc (.cells #[.bool false, .slice none 0 0, .slice none 0 0] 33)).alloc (.cells #[.bool s0, .slice A0 l0 c0, .slice B0 m0 k0, .bool s1, .slice A1 l1 c1, .slice B1 m1 k1] 33)) w.heap.size 33 #[.bool s0, .slice A0 l0 c0, .slice B0 m0 k0] := Blk.alloc (Blk.alloc (Blk.alloc (Blk.at_ (by simp)) _) _) _
  have kB : Blk ((((w.alloc (.cells #[.bool s0, .slice A0 l0 c0, .slice B0 m0 k0] 33)).alloc (.cells #[.bool s1, .slice A1 l1 c1, .slice B1 m1 k1] 33)).alloc (.cells #[.bool false, .slice none 0 0, .slice none 0 0] 33)).alloc (.cells #[.bool s0, .slice A0 l0 c0, .slice B0 m0 k0, .bool s1, .slice A1 l1 c1, .slice B1 m1 k1] 33)) (w.heap.size + 1) 33 #[.bool s1, .slice A1 l1 c1, .slice B1 m1 k1] := Blk.alloc (Blk.alloc (Blk.at_ (by simp)) _) _
  have kR : Blk ((((w.alloc (.cells #[.bool s0, .slice A0 l0 c0, .slice B0 m0 k0] 33)).alloc (.cells #[.bool s1, .slice A1 l1 c1, .slice B1 m1 k1] 33)).alloc (.cells #[.bool false, .slice none 0 0, .slice none 0 0] 33)).alloc (.cells #[.bool s0, .slice A0 l0 c0, .slice B0 m0 k0, .bool s1, .slice A1 l1 c1, .slice B1 m1 k1] 33)) (w.heap.size + 2) 33 #[.bool false, .slice none 0 0, .slice none 0 0] := Blk.alloc (Blk.at_ (by simp)) _
  have kP : Blk ((((w.alloc (.cells #[.bool s0, .slice A0 l0 c0, .slice B0 m0 k0] 33)).alloc (.cells #[.bool s1, .slice A1 l1 c1, .slice B1 m1 k1] 33)).alloc (.cells #[.bool false, .slice none 0 0, .slice none 0 0] 33)).alloc (.cells #[.bool s0, .slice A0 l0 c0, .slice B0 m0 k0, .bool s1, .slice A1 l1 c1, .slice B1 m1 k1] 33)) (w.heap.size + 3) 33 #[.bool s0, .slice A0 l0 c0, .slice B0 m0 k0, .bool s1, .slice A1 l1 c1, .slice B1 m1 k1] := Blk.at_ (by simp)
  go_enter Try.func51, Try.ntmps51
  go_wp2_with fail
  generalize ((((w.alloc (.cells #[.bool s0, .slice A0 l0 c0, .slice B0 m0 k0] 33)).alloc (.cells #[.bool s1, .slice A1 l1 c1, .slice B1 m1 k1] 33)).alloc (.cells #[.bool false, .slice none 0 0, .slice none 0 0] 33)).alloc (.cells #[.bool s0, .slice A0 l0 c0, .slice B0 m0 k0, .bool s1, .slice A1 l1 c1, .slice B1 m1 k1] 33)) = w1 at hXe kA kB kR kP ⊢
  have HX := Lib.hid hXe
  clear hXe
  have KA := Lib.hid kA
  clear kA
  have KB := Lib.hid kB
  clear kB
  have KR := Lib.hid kR
  clear kR
  have KP := Lib.hid kP
  clear kP
  refine (anyLarge_two s0 s1 A0 B0 A1 B1 l0 c0 m0 k0 l1 c1 m1 k1 false false _ _ KP.out ((HXX.out.small).ext HX.out) ((HYY.out.small).ext HX.out)).mono ?_
  rintro e w2 ⟨rfl, hX⟩
  replace HX := Lib.hid (HX.out.trans hX)
  replace KA := Lib.hid (KA.out.ext hX)
  replace KB := Lib.hid (KB.out.ext hX)
  replace KR := Lib.hid (KR.out.ext hX)
  replace KP := Lib.hid (KP.out.ext hX)
  clear hX
  clear KP
  replace HXX := Lib.hid (HXX.out.ext HX.out)
  replace HYY := Lib.hid (HYY.out.ext HX.out)
  go_upto_region 3 with (fail)
  refine esub_rok w.heap.size (w.heap.size + 1) s0 s1 A0 B0 A1 B1 l0 c0 m0 k0 l1 c1 m1 k1 q r w2 (KA.out.cell 0) (KA.out.cell 1) (KA.out.cell 2) (KB.out.cell 0) (KB.out.cell 1) (KB.out.cell 2) HXX.out HYY.out HF.out _ _ (by simp) rfl rfl ?_
  rintro xv0 xv1 xv2 xv3 xv4 xv5 xv6 xv7 w3 rfl _ rfl _ _ _ hr rfl hXW
  simp only [rops, Try.f51, regOf, Option.bind_some, Nat.reduceBEq, if_true, if_false, Bool.false_eq_true, Option.getD_some, List.drop_succ_cons, List.drop_zero]
  simp only [Act.put, List.setIfInBounds_toArray, List.set_cons_succ, List.set_cons_zero]
  replace HX := Lib.hid (HX.out.trans hXW)
  replace HXX := Lib.hid (HXX.out.ext hXW)
  replace HYY := Lib.hid (HYY.out.ext hXW)
  replace KA := Lib.hid (KA.out.ext hXW)
  replace KB := Lib.hid (KB.out.ext hXW)
  replace KR := Lib.hid (KR.out.ext hXW)
  clear hXW
  obtain ⟨s9, A9, l9, c9, B9, m9, k9, rfl⟩ := hr.open
  have HV := Lib.hid (hr.past (NoInts.three KR.out) s9 A9 B9 l9 c9 m9 k9)
  clear hr
  have cR0 : w3.cell? ⟨(w.heap.size + 2), 0, none⟩ = some (.bool false) := KR.out.cell 0
  have fR0 : w3.frozen? ⟨(w.heap.size + 2), 0, none⟩ = false := KR.out.free 0
  have cR1 : w3.cell? ⟨(w.heap.size + 2), 1, none⟩ = some (.slice none 0 0) := KR.out.cell 1
  have fR1 : w3.frozen? ⟨(w.heap.size + 2), 1, none⟩ = false := KR.out.free 1
  have cR2 : w3.cell? ⟨(w.heap.size + 2), 2, none⟩ = some (.slice none 0 0) := KR.out.cell 2
  have fR2 : w3.frozen? ⟨(w.heap.size + 2), 2, none⟩ = false := KR.out.free 2
  go_wp2
  refine bodyPost_ret (v := .tuple #[.agg #[.bool s9, .slice A9 l9 c9, .slice B9 m9 k9], .int .i64 0]) (by simp [results, Try.results51, go_sem, *]) rfl ?_
  exact ⟨_, rfl, HV.out, Ext.boxed HX.out (by omega) _ _ _⟩

set_option maxRecDepth 100000 in
set_option maxHeartbeats 2000000 in
theorem esub_rbig (ga gb : Nat) (s0 s1 : Bool) (A0 B0 A1 B1 : Option Addr) (l0 c0 m0 k0 l1 c1 m1 k1 : Nat) (q r : Rat) (w : World) (x0 : w.cell? ⟨ga, 0, none⟩ = some (.bool s0)) (x1 : w.cell? ⟨ga, 1, none⟩ = some (.slice A0 l0 c0)) (x2 : w.cell? ⟨ga, 2, none⟩ = some (.slice B0 m0 k0)) (y0 : w.cell? ⟨gb, 0, none⟩ = some (.bool s1)) (y1 : w.cell? ⟨gb, 1, none⟩ = some (.slice A1 l1 c1)) (y2 : w.cell? ⟨gb, 2, none⟩ = some (.slice B1 m1 k1)) (hx : RatG w (.agg #[.bool s0, .slice A0 l0 c0, .slice B0 m0 k0]) q) (hy : RatG w (.agg #[.bool s1, .slice A1 l1 c1, .slice B1 m1 k1]) r) (hf : ¬ FitQW (q - r)) (a : Act) (Q : Exit → Act → World → Prop) (hsize : 19 ≤ a.tmps.size)
    (s2 : a.tmps[2]? = some (.pointer (some ⟨ga, 0, none⟩)))
    (s3 : a.tmps[3]? = some (.pointer (some ⟨gb, 0, none⟩)))
    (hend : ∀ (xv0 xv1 xv2 xv3 xv4 xv5 xv6 xv7 : Value) (W : World), (xv0 = .agg #[.bool s0, .slice A0 l0 c0, .slice B0 m0 k0]) → (NumX W xv1 q 256) → (xv2 = .agg #[.bool s1, .slice A1 l1 c1, .slice B1 m1 k1]) → (NumX W xv3 r 256) → (NumX W xv4 (q - r) (256 + 256 + 1)) → (xv5 = .tuple #[zeroR, .int .i64 1]) → (xv6 = zeroR) → (xv7 = .int .i64 1) → Ext w W → wpList Try.prog (rops Try.f51 3).toArray Q ((rops Try.f51 3).drop 8) ((((((((a.put (some 11) xv0).put (some 12) xv1).put (some 13) xv2).put (some 14) xv3).put (some 15) xv4).put (some 16) xv5).put (some 17) xv6).put (some 18) xv7) W) :
    (Code.region 3 (rops Try.f51 3).toArray true).wp Try.prog Q a w := by
  have hmono : ∀ (W W' : World) (j : Nat) (u : Value), Ext W W' → (fun (i : Nat) (v : Value) (W : World) => match i with
    | 0 => v = .agg #[.bool s0, .slice A0 l0 c0, .slice B0 m0 k0]
    | 1 => NumX W v q 256
    | 2 => v = .agg #[.bool s1, .slice A1 l1 c1, .slice B1 m1 k1]
    | 3 => NumX W v r 256
    | 4 => NumX W v (q - r) (256 + 256 + 1)
    | 5 => v = .tuple #[zeroR, .int .i64 1]
    | 6 => v = zeroR
    | 7 => v = .int .i64 1
    | _ => True) j u W → (fun (i : Nat) (v : Value) (W : World) => match i with
    | 0 => v = .agg #[.bool s0, .slice A0 l0 c0, .slice B0 m0 k0]
    | 1 => NumX W v q 256
    | 2 => v = .agg #[.bool s1, .slice A1 l1 c1, .slice B1 m1 k1]
    | 3 => NumX W v r 256
    | 4 => NumX W v (q - r) (256 + 256 + 1)
    | 5 => v = .tuple #[zeroR, .int .i64 1]
    | 6 => v = zeroR
    | 7 => v = .int .i64 1
    | _ => True) j u W' := by
    intro W W' j u hX h
    match j, h with
    | 0, h => exact h
    | 1, h => exact NumX.ext h hX
    | 2, h => exact h
    | 3, h => exact NumX.ext h hX
    | 4, h => exact NumX.ext h hX
    | 5, h => exact h
    | 6, h => exact h
    | 7, h => exact h
    | _ + 8, h => exact h
  have hsz : ∀ d, some d ∈ ([some 11, some 12, some 13, some 14, some 15, some 16, some 17, some 18] : List (Option Tmp)) → d < a.tmps.size := slots_lt (by decide) hsize
  refine wp_region_j 8 [some 11, some 12, some 13, some 14, some 15, some 16, some 17, some 18] [[], [0], [], [2], [1, 3], [4], [5], [5]] [[], [], [], [], [], [], [], []] (fun (i : Nat) (v : Value) (W : World) => match i with
    | 0 => v = .agg #[.bool s0, .slice A0 l0 c0, .slice B0 m0 k0]
    | 1 => NumX W v q 256
    | 2 => v = .agg #[.bool s1, .slice A1 l1 c1, .slice B1 m1 k1]
    | 3 => NumX W v r 256
    | 4 => NumX W v (q - r) (256 + 256 + 1)
    | 5 => v = .tuple #[zeroR, .int .i64 1]
    | 6 => v = zeroR
    | 7 => v = .int .i64 1
    | _ => True) (fun _ W => Ext w W) (by kernel_rfl) (by kernel_rfl) hsz (fun _ _ _ _ h => h) ((Ext.refl w).drew) ?_ ?_
  · clear hend
    simp only [rops, Try.f51, regOf, Option.bind_some, Nat.reduceBEq, if_true, if_false, Bool.false_eq_true, Option.getD_some]
    simp only [List.take_succ_cons, List.take_zero]
    refine ⟨?_, ?_, ?_, ?_, ?_, ?_, ?_, ?_, trivial⟩
    · intro done us W hJ hdep haft hnot b hb hb' K hK Q'
      have e2 := (hb' 2 (by simp)).trans s2
      clear hb hb'
      have q0 := Ext.cell hJ x0
      have q1 := Ext.cell hJ x1
      have q2 := Ext.cell hJ x2
      go_simp
      exact hK _ _ rfl (fun _ _ _ h => h) hJ
    · intro done us W hJ hdep haft hnot b hb hb' K hK Q'
      simp only [List.getD_cons_succ, List.getD_cons_zero, List.mem_cons, List.not_mem_nil, or_false, forall_eq_or_imp, forall_eq] at hdep
      have e11 := hb 0 11 rfl
      have d0 := hdep
      rw [d0.1] at e11
      clear hb hb' hdep d0
      go_simp
      refine (ofG (hx.ext hJ)).mono ?_
      rintro e w' ⟨v, rfl, hv, hX⟩
      exact hK _ _ hv (fun j u _ h => hmono _ _ j u hX h) (Ext.trans hJ hX)
    · intro done us W hJ hdep haft hnot b hb hb' K hK Q'
      have e3 := (hb' 3 (by simp)).trans s3
      clear hb hb'
      have q0 := Ext.cell hJ y0
      have q1 := Ext.cell hJ y1
      have q2 := Ext.cell hJ y2
      go_simp
      exact hK _ _ rfl (fun _ _ _ h => h) hJ
    · intro done us W hJ hdep haft hnot b hb hb' K hK Q'
      simp only [List.getD_cons_succ, List.getD_cons_zero, List.mem_cons, List.not_mem_nil, or_false, forall_eq_or_imp, forall_eq] at hdep
      have e13 := hb 2 13 rfl
      have d2 := hdep
      rw [d2.1] at e13
      clear hb hb' hdep d2
      go_simp
      refine (ofG (hy.ext hJ)).mono ?_
      rintro e w' ⟨v, rfl, hv, hX⟩
      exact hK _ _ hv (fun j u _ h => hmono _ _ j u hX h) (Ext.trans hJ hX)
    · intro done us W hJ hdep haft hnot b hb hb' K hK Q'
      simp only [List.getD_cons_succ, List.getD_cons_zero, List.mem_cons, List.not_mem_nil, or_false, forall_eq_or_imp, forall_eq] at hdep
      have e12 := hb 1 12 rfl
      have e14 := hb 3 14 rfl
      have d1 := hdep.1
      have d3 := hdep.2
      clear hb hb' hdep 
      go_simp
      refine (subX d1.1 d3.1 (by omega)).mono ?_
      rintro e w' ⟨v, rfl, hv, hX⟩
      exact hK _ _ hv (fun j u _ h => hmono _ _ j u hX h) (Ext.trans hJ hX)
    · intro done us W hJ hdep haft hnot b hb hb' K hK Q'
      simp only [List.getD_cons_succ, List.getD_cons_zero, List.mem_cons, List.not_mem_nil, or_false, forall_eq_or_imp, forall_eq] at hdep
      have e15 := hb 4 15 rfl
      have d4 := hdep
      clear hb hb' hdep 
      go_simp
      refine (doneB d4.1 (by omega) hf).mono ?_
      rintro e w' ⟨rfl, hX⟩
      exact hK _ _ rfl (fun j u _ h => hmono _ _ j u hX h) (Ext.trans hJ hX)
    · intro done us W hJ hdep haft hnot b hb hb' K hK Q'
      simp only [List.getD_cons_succ, List.getD_cons_zero, List.mem_cons, List.not_mem_nil, or_false, forall_eq_or_imp, forall_eq] at hdep
      have e16 := hb 5 16 rfl
      have d5 := hdep
      rw [d5.1] at e16
      clear hb hb' hdep d5
      go_simp
      exact hK _ _ rfl (fun _ _ _ h => h) hJ
    · intro done us W hJ hdep haft hnot b hb hb' K hK Q'
      simp only [List.getD_cons_succ, List.getD_cons_zero, List.mem_cons, List.not_mem_nil, or_false, forall_eq_or_imp, forall_eq] at hdep
      have e16 := hb 5 16 rfl
      have d5 := hdep
      rw [d5.1] at e16
      clear hb hb' hdep d5
      go_simp
      exact hK _ _ rfl (fun _ _ _ h => h) hJ
  · intro us W hV hJ
    exact hend (us 0) (us 1) (us 2) (us 3) (us 4) (us 5) (us 6) (us 7) W (hV 0 (by omega)) (hV 1 (by omega)) (hV 2 (by omega)) (hV 3 (by omega)) (hV 4 (by omega)) (hV 5 (by omega)) (hV 6 (by omega)) (hV 7 (by omega)) hJ
set_option maxRecDepth 100000 in
set_option maxHeartbeats 2000000 in
theorem esub_big (s0 s1 : Bool) (A0 B0 A1 B1 : Option Addr) (l0 c0 m0 k0 l1 c1 m1 k1 : Nat) (q r : Rat) (w : World) (hx : RatG w (.agg #[.bool s0, .slice A0 l0 c0, .slice B0 m0 k0]) q) (hy : RatG w (.agg #[.bool s1, .slice A1 l1 c1, .slice B1 m1 k1]) r) (hf : ¬ FitQW (q - r)) :
    Calls Try.prog 51 #[.agg #[.bool s0, .slice A0 l0 c0, .slice B0 m0 k0], .agg #[.bool s1, .slice A1 l1 c1, .slice B1 m1 k1]] w (RetE w zeroR 1) := by
  have HXX := Lib.hid hx
  have HYY := Lib.hid hy
  clear hx hy
  have HF := Lib.hid hf
  clear hf
  have hXe : Ext w ((((w.alloc (.cells #[.bool s0, .slice A0 l0 c0, .slice B0 m0 k0] 33)).alloc (.cells #[.bool s1, .slice A1 l1 c1, .slice B1 m1 k1] 33)).alloc (.cells #[.bool false, .slice none 0 0, .slice none 0 0] 33)).alloc (.cells #[.bool s0, .slice A0 l0 c0, .slice B0 m0 k0, .bool s1, .slice A1 l1 c1, .slice B1 m1 k1] 33)) := (((((Ext.refl w).alloc _).alloc _).alloc _).alloc _)
  have kA : Blk ((((w.alloc (.cells #[.bool s0, .slice A0 l0 c0, .slice B0 m0 k0] 33)).alloc (.cells #[.bool s1, .slice A1 l1 c1, .slice B1 m1 k1] 33)).alloc (.cells #[.bool false, .slice none 0 0, .slice none 0 0] 33)).alloc (.cells #[.bool s0, .slice A0 l0 c0, .slice B0 m0 k0, .bool s1, .slice A1 l1 c1, .slice B1 m1 k1] 33)) w.heap.size 33 #[.bool s0, .slice A0 l0 c0, .slice B0 m0 k0] := Blk.alloc (Blk.alloc (Blk.alloc (Blk.at_ (by simp)) _) _) _
  have kB : Blk ((((w.alloc (.cells #[.bool s0, .slice A0 l0 c0, .slice B0 m0 k0] 33)).alloc (.cells #[.bool s1, .slice A1 l1 c1, .slice B1 m1 k1] 33)).alloc (.cells #[.bool false, .slice none 0 0, .slice none 0 0] 33)).alloc (.cells #[.bool s0, .slice A0 l0 c0, .slice B0 m0 k0, .bool s1, .slice A1 l1 c1, .slice B1 m1 k1] 33)) (w.heap.size + 1) 33 #[.bool s1, .slice A1 l1 c1, .slice B1 m1 k1] := Blk.alloc (Blk.alloc (Blk.at_ (by simp)) _) _
  have kR : Blk ((((w.alloc (.cells #[.bool s0, .slice A0 l0 c0, .slice B0 m0 k0] 33)).alloc (.cells #[.bool s1, .slice A1 l1 c1, .slice B1 m1 k1] 33)).alloc (.cells #[.bool false, .slice none 0 0, .slice none 0 0] 33)).alloc (.cells #[.bool s0, .slice A0 l0 c0, .slice B0 m0 k0, .bool s1, .slice A1 l1 c1, .slice B1 m1 k1] 33)) (w.heap.size + 2) 33 #[.bool false, .slice none 0 0, .slice none 0 0] := Blk.alloc (Blk.at_ (by simp)) _
  have kP : Blk ((((w.alloc (.cells #[.bool s0, .slice A0 l0 c0, .slice B0 m0 k0] 33)).alloc (.cells #[.bool s1, .slice A1 l1 c1, .slice B1 m1 k1] 33)).alloc (.cells #[.bool false, .slice none 0 0, .slice none 0 0] 33)).alloc (.cells #[.bool s0, .slice A0 l0 c0, .slice B0 m0 k0, .bool s1, .slice A1 l1 c1, .slice B1 m1 k1] 33)) (w.heap.size + 3) 33 #[.bool s0, .slice A0 l0 c0, .slice B0 m0 k0, .bool s1, .slice A1 l1 c1, .slice B1 m1 k1] := Blk.at_ (by simp)
  go_enter Try.func51, Try.ntmps51
  go_wp2_with fail
  generalize ((((w.alloc (.cells #[.bool s0, .slice A0 l0 c0, .slice B0 m0 k0] 33)).alloc (.cells #[.bool s1, .slice A1 l1 c1, .slice B1 m1 k1] 33)).alloc (.cells #[.bool false, .slice none 0 0, .slice none 0 0] 33)).alloc (.cells #[.bool s0, .slice A0 l0 c0, .slice B0 m0 k0, .bool s1, .slice A1 l1 c1, .slice B1 m1 k1] 33)) = w1 at hXe kA kB kR kP ⊢
  have HX := Lib.hid hXe
  clear hXe
  have KA := Lib.hid kA
  clear kA
  have KB := Lib.hid kB
  clear kB
  have KR := Lib.hid kR
  clear kR
  have KP := Lib.hid kP
  clear kP
  refine (anyLarge_two s0 s1 A0 B0 A1 B1 l0 c0 m0 k0 l1 c1 m1 k1 false false _ _ KP.out ((HXX.out.small).ext HX.out) ((HYY.out.small).ext HX.out)).mono ?_
  rintro e w2 ⟨rfl, hX⟩
  replace HX := Lib.hid (HX.out.trans hX)
  replace KA := Lib.hid (KA.out.ext hX)
  replace KB := Lib.hid (KB.out.ext hX)
  replace KR := Lib.hid (KR.out.ext hX)
  replace KP := Lib.hid (KP.out.ext hX)
  clear hX
  clear KP
  replace HXX := Lib.hid (HXX.out.ext HX.out)
  replace HYY := Lib.hid (HYY.out.ext HX.out)
  go_upto_region 3 with (fail)
  refine esub_rbig w.heap.size (w.heap.size + 1) s0 s1 A0 B0 A1 B1 l0 c0 m0 k0 l1 c1 m1 k1 q r w2 (KA.out.cell 0) (KA.out.cell 1) (KA.out.cell 2) (KB.out.cell 0) (KB.out.cell 1) (KB.out.cell 2) HXX.out HYY.out HF.out _ _ (by simp) rfl rfl ?_
  rintro xv0 xv1 xv2 xv3 xv4 xv5 xv6 xv7 w3 rfl _ rfl _ _ rfl rfl rfl hXW
  simp only [rops, Try.f51, regOf, Option.bind_some, Nat.reduceBEq, if_true, if_false, Bool.false_eq_true, Option.getD_some, List.drop_succ_cons, List.drop_zero]
  simp only [Act.put, List.setIfInBounds_toArray, List.set_cons_succ, List.set_cons_zero]
  replace HX := Lib.hid (HX.out.trans hXW)
  replace HXX := Lib.hid (HXX.out.ext hXW)
  replace HYY := Lib.hid (HYY.out.ext hXW)
  replace KA := Lib.hid (KA.out.ext hXW)
  replace KB := Lib.hid (KB.out.ext hXW)
  replace KR := Lib.hid (KR.out.ext hXW)
  clear hXW
  unfold zeroR
  have cR0 : w3.cell? ⟨(w.heap.size + 2), 0, none⟩ = some (.bool false) := KR.out.cell 0
  have fR0 : w3.frozen? ⟨(w.heap.size + 2), 0, none⟩ = false := KR.out.free 0
  have cR1 : w3.cell? ⟨(w.heap.size + 2), 1, none⟩ = some (.slice none 0 0) := KR.out.cell 1
  have fR1 : w3.frozen? ⟨(w.heap.size + 2), 1, none⟩ = false := KR.out.free 1
  have cR2 : w3.cell? ⟨(w.heap.size + 2), 2, none⟩ = some (.slice none 0 0) := KR.out.cell 2
  have fR2 : w3.frozen? ⟨(w.heap.size + 2), 2, none⟩ = false := KR.out.free 2
  go_wp2
  refine bodyPost_ret (v := .tuple #[zeroR, .int .i64 1]) (by simp [results, zeroR, Try.results51, go_sem, *]) rfl ?_
  exact ⟨rfl, Ext.boxed HX.out (by omega) _ _ _⟩

set_option maxRecDepth 100000 in
set_option maxHeartbeats 2000000 in
theorem emul_rok (ga gb : Nat) (s0 s1 : Bool) (A0 B0 A1 B1 : Option Addr) (l0 c0 m0 k0 l1 c1 m1 k1 : Nat) (q r : Rat) (w : World) (x0 : w.cell? ⟨ga, 0, none⟩ = some (.bool s0)) (x1 : w.cell? ⟨ga, 1, none⟩ = some (.slice A0 l0 c0)) (x2 : w.cell? ⟨ga, 2, none⟩ = some (.slice B0 m0 k0)) (y0 : w.cell? ⟨gb, 0, none⟩ = some (.bool s1)) (y1 : w.cell? ⟨gb, 1, none⟩ = some (.slice A1 l1 c1)) (y2 : w.cell? ⟨gb, 2, none⟩ = some (.slice B1 m1 k1)) (hx : RatG w (.agg #[.bool s0, .slice A0 l0 c0, .slice B0 m0 k0]) q) (hy : RatG w (.agg #[.bool s1, .slice A1 l1 c1, .slice B1 m1 k1]) r) (hf : FitQW (q * r)) (a : Act) (Q : Exit → Act → World → Prop) (hsize : 19 ≤ a.tmps.size)
    (s2 : a.tmps[2]? = some (.pointer (some ⟨ga, 0, none⟩)))
    (s3 : a.tmps[3]? = some (.pointer (some ⟨gb, 0, none⟩)))
    (hend : ∀ (xv0 xv1 xv2 xv3 xv4 xv5 xv6 xv7 : Value) (W : World), (xv0 = .agg #[.bool s0, .slice A0 l0 c0, .slice B0 m0 k0]) → (NumX W xv1 q 256) → (xv2 = .agg #[.bool s1, .slice A1 l1 c1, .slice B1 m1 k1]) → (NumX W xv3 r 256) → (NumX W xv4 (q * r) (256 + 256)) → (∃ xv5', xv5 = .tuple #[xv5', .int .i64 0] ∧ RatC W xv5' (q * r)) → (RatC W xv6 (q * r)) → (xv7 = .int .i64 0) → Ext w W → wpList Try.prog (rops Try.f59 3).toArray Q ((rops Try.f59 3).drop 8) ((((((((a.put (some 11) xv0).put (some 12) xv1).put (some 13) xv2).put (some 14) xv3).put (some 15) xv4).put (some 16) xv5).put (some 17) xv6).put (some 18) xv7) W) :
    (Code.region 3 (rops Try.f59 3).toArray true).wp Try.prog Q a w := by
  have hmono : ∀ (W W' : World) (j : Nat) (u : Value), Ext W W' → (fun (i : Nat) (v : Value) (W : World) => match i with
    | 0 => v = .agg #[.bool s0, .slice A0 l0 c0, .slice B0 m0 k0]
    | 1 => NumX W v q 256
    | 2 => v = .agg #[.bool s1, .slice A1 l1 c1, .slice B1 m1 k1]
    | 3 => NumX W v r 256
    | 4 => NumX W v (q * r) (256 + 256)
    | 5 => ∃ v', v = .tuple #[v', .int .i64 0] ∧ RatC W v' (q * r)
    | 6 => RatC W v (q * r)
    | 7 => v = .int .i64 0
    | _ => True) j u W → (fun (i : Nat) (v : Value) (W : World) => match i with
    | 0 => v = .agg #[.bool s0, .slice A0 l0 c0, .slice B0 m0 k0]
    | 1 => NumX W v q 256
    | 2 => v = .agg #[.bool s1, .slice A1 l1 c1, .slice B1 m1 k1]
    | 3 => NumX W v r 256
    | 4 => NumX W v (q * r) (256 + 256)
    | 5 => ∃ v', v = .tuple #[v', .int .i64 0] ∧ RatC W v' (q * r)
    | 6 => RatC W v (q * r)
    | 7 => v = .int .i64 0
    | _ => True) j u W' := by
    intro W W' j u hX h
    match j, h with
    | 0, h => exact h
    | 1, h => exact NumX.ext h hX
    | 2, h => exact h
    | 3, h => exact NumX.ext h hX
    | 4, h => exact NumX.ext h hX
    | 5, h => obtain ⟨v', h1, h2⟩ := h; exact ⟨v', h1, h2.ext hX⟩
    | 6, h => exact RatC.ext h hX
    | 7, h => exact h
    | _ + 8, h => exact h
  have hsz : ∀ d, some d ∈ ([some 11, some 12, some 13, some 14, some 15, some 16, some 17, some 18] : List (Option Tmp)) → d < a.tmps.size := slots_lt (by decide) hsize
  refine wp_region_j 8 [some 11, some 12, some 13, some 14, some 15, some 16, some 17, some 18] [[], [0], [], [2], [1, 3], [4], [5], [5]] [[], [], [], [], [], [], [], []] (fun (i : Nat) (v : Value) (W : World) => match i with
    | 0 => v = .agg #[.bool s0, .slice A0 l0 c0, .slice B0 m0 k0]
    | 1 => NumX W v q 256
    | 2 => v = .agg #[.bool s1, .slice A1 l1 c1, .slice B1 m1 k1]
    | 3 => NumX W v r 256
    | 4 => NumX W v (q * r) (256 + 256)
    | 5 => ∃ v', v = .tuple #[v', .int .i64 0] ∧ RatC W v' (q * r)
    | 6 => RatC W v (q * r)
    | 7 => v = .int .i64 0
    | _ => True) (fun _ W => Ext w W) (by kernel_rfl) (by kernel_rfl) hsz (fun _ _ _ _ h => h) ((Ext.refl w).drew) ?_ ?_
  · clear hend
    simp only [rops, Try.f59, regOf, Option.bind_some, Nat.reduceBEq, if_true, if_false, Bool.false_eq_true, Option.getD_some]
    simp only [List.take_succ_cons, List.take_zero]
    refine ⟨?_, ?_, ?_, ?_, ?_, ?_, ?_, ?_, trivial⟩
    · intro done us W hJ hdep haft hnot b hb hb' K hK Q'
      have e2 := (hb' 2 (by simp)).trans s2
      clear hb hb'
      have q0 := Ext.cell hJ x0
      have q1 := Ext.cell hJ x1
      have q2 := Ext.cell hJ x2
      go_simp
      exact hK _ _ rfl (fun _ _ _ h => h) hJ
    · intro done us W hJ hdep haft hnot b hb hb' K hK Q'
      simp only [List.getD_cons_succ, List.getD_cons_zero, List.mem_cons, List.not_mem_nil, or_false, forall_eq_or_imp, forall_eq] at hdep
      have e11 := hb 0 11 rfl
      have d0 := hdep
      rw [d0.1] at e11
      clear hb hb' hdep d0
      go_simp
      refine (ofG (hx.ext hJ)).mono ?_
      rintro e w' ⟨v, rfl, hv, hX⟩
      exact hK _ _ hv (fun j u _ h => hmono _ _ j u hX h) (Ext.trans hJ hX)
    · intro done us W hJ hdep haft hnot b hb hb' K hK Q'
      have e3 := (hb' 3 (by simp)).trans s3
      clear hb hb'
      have q0 := Ext.cell hJ y0
      have q1 := Ext.cell hJ y1
      have q2 := Ext.cell hJ y2
      go_simp
      exact hK _ _ rfl (fun _ _ _ h => h) hJ
    · intro done us W hJ hdep haft hnot b hb hb' K hK Q'
      simp only [List.getD_cons_succ, List.getD_cons_zero, List.mem_cons, List.not_mem_nil, or_false, forall_eq_or_imp, forall_eq] at hdep
      have e13 := hb 2 13 rfl
      have d2 := hdep
      rw [d2.1] at e13
      clear hb hb' hdep d2
      go_simp
      refine (ofG (hy.ext hJ)).mono ?_
      rintro e w' ⟨v, rfl, hv, hX⟩
      exact hK _ _ hv (fun j u _ h => hmono _ _ j u hX h) (Ext.trans hJ hX)
    · intro done us W hJ hdep haft hnot b hb hb' K hK Q'
      simp only [List.getD_cons_succ, List.getD_cons_zero, List.mem_cons, List.not_mem_nil, or_false, forall_eq_or_imp, forall_eq] at hdep
      have e12 := hb 1 12 rfl
      have e14 := hb 3 14 rfl
      have d1 := hdep.1
      have d3 := hdep.2
      clear hb hb' hdep 
      go_simp
      refine (mulX d1.1 d3.1 (by omega) (by omega)).mono ?_
      rintro e w' ⟨v, rfl, hv, hX⟩
      exact hK _ _ hv (fun j u _ h => hmono _ _ j u hX h) (Ext.trans hJ hX)
    · intro done us W hJ hdep haft hnot b hb hb' K hK Q'
      simp only [List.getD_cons_succ, List.getD_cons_zero, List.mem_cons, List.not_mem_nil, or_false, forall_eq_or_imp, forall_eq] at hdep
      have e15 := hb 4 15 rfl
      have d4 := hdep
      clear hb hb' hdep 
      go_simp
      refine (doneG d4.1 (by omega) hf).mono ?_
      rintro e w' ⟨v, rfl, hv, hX⟩
      exact hK _ _ ⟨v, rfl, hv⟩ (fun j u _ h => hmono _ _ j u hX h) (Ext.trans hJ hX)
    · intro done us W hJ hdep haft hnot b hb hb' K hK Q'
      simp only [List.getD_cons_succ, List.getD_cons_zero, List.mem_cons, List.not_mem_nil, or_false, forall_eq_or_imp, forall_eq] at hdep
      have e16 := hb 5 16 rfl
      have d5 := hdep
      clear hb hb' hdep 
      obtain ⟨⟨v', hv1, hv2⟩, _⟩ := d5
      rw [hv1] at e16
      go_simp
      exact hK _ _ hv2 (fun _ _ _ h => h) hJ
    · intro done us W hJ hdep haft hnot b hb hb' K hK Q'
      simp only [List.getD_cons_succ, List.getD_cons_zero, List.mem_cons, List.not_mem_nil, or_false, forall_eq_or_imp, forall_eq] at hdep
      have e16 := hb 5 16 rfl
      have d5 := hdep
      clear hb hb' hdep 
      obtain ⟨⟨v', hv1, hv2⟩, _⟩ := d5
      rw [hv1] at e16
      go_simp
      exact hK _ _ rfl (fun _ _ _ h => h) hJ
  · intro us W hV hJ
    exact hend (us 0) (us 1) (us 2) (us 3) (us 4) (us 5) (us 6) (us 7) W (hV 0 (by omega)) (hV 1 (by omega)) (hV 2 (by omega)) (hV 3 (by omega)) (hV 4 (by omega)) (hV 5 (by omega)) (hV 6 (by omega)) (hV 7 (by omega)) hJ
set_option maxRecDepth 100000 in
set_option maxHeartbeats 2000000 in
theorem emul_ok (s0 s1 : Bool) (A0 B0 A1 B1 : Option Addr) (l0 c0 m0 k0 l1 c1 m1 k1 : Nat) (q r : Rat) (w : World) (hx : RatG w (.agg #[.bool s0, .slice A0 l0 c0, .slice B0 m0 k0]) q) (hy : RatG w (.agg #[.bool s1, .slice A1 l1 c1, .slice B1 m1 k1]) r) (hf : FitQW (q * r)) :
    Calls Try.prog 59 #[.agg #[.bool s0, .slice A0 l0 c0, .slice B0 m0 k0], .agg #[.bool s1, .slice A1 l1 c1, .slice B1 m1 k1]] w (RetC w (q * r)) := by
  have HXX := Lib.hid hx
  have HYY := Lib.hid hy
  clear hx hy
  have HF := Lib.hid hf
  clear hf
  have hXe : Ext w ((((w.alloc (.cells #[.bool s0, .slice A0 l0 c0, .slice B0 m0 k0] 33)).alloc (.cells #[.bool s1, .slice A1 l1 c1, .slice B1 m1 k1] 33)).alloc (.cells #[.bool false, .slice none 0 0, .slice none 0 0] 33)).alloc (.cells #[.bool s0, .slice A0 l0 c0, .slice B0 m0 k0, .bool s1, .slice A1 l1 c1, .slice B1 m1 k1] 33)) := (((((Ext.refl w).alloc _).alloc _).alloc _).alloc _)
  have kA : Blk ((((w.alloc (.cells #[.bool s0, .slice A0 l0 c0, .slice B0 m0 k0] 33)).alloc (.cells #[.bool s1, .slice A1 l1 c1, .slice B1 m1 k1] 33)).alloc (.cells #[.bool false, .slice none 0 0, .slice none 0 0] 33)).alloc (.cells #[.bool s0, .slice A0 l0 c0, .slice B0 m0 k0, .bool s1, .slice A1 l1 c1, .slice B1 m1 k1] 33)) w.heap.size 33 #[.bool s0, .slice A0 l0 c0, .slice B0 m0 k0] := Blk.alloc (Blk.alloc (Blk.alloc (Blk.at_ (by simp)) _) _) _
  have kB : Blk ((((w.alloc (.cells #[.bool s0, .slice A0 l0 c0, .slice B0 m0 k0] 33)).alloc (.cells #[.bool s1, .slice A1 l1 c1, .slice B1 m1 k1] 33)).alloc (.cells #[.bool false, .slice none 0 0, .slice none 0 0] 33)).alloc (.cells #[.bool s0, .slice A0 l0 c0, .slice B0 m0 k0, .bool s1, .slice A1 l1 c1, .slice B1 m1 k1] 33)) (w.heap.size + 1) 33 #[.bool s1, .slice A1 l1 c1, .slice B1 m1 k1] := Blk.alloc (Blk.alloc (Blk.at_ (by simp)) _) _
  have kR : Blk ((((w.alloc (.cells #[.bool s0, .slice A0 l0 c0, .slice B0 m0 k0] 33)).alloc (.cells #[.bool s1, .slice A1 l1 c1, .slice B1 m1 k1] 33)).alloc (.cells #[.bool false, .slice none 0 0, .slice none 0 0] 33)).alloc (.cells #[.bool s0, .slice A0 l0 c0, .slice B0 m0 k0, .bool s1, .slice A1 l1 c1, .slice B1 m1 k1] 33)) (w.heap.size + 2) 33 #[.bool false, .slice none 0 0, .slice none 0 0] := Blk.alloc (Blk.at_ (by simp)) _
  have kP : Blk ((((w.alloc (.cells #[.bool s0, .slice A0 l0 c0, .slice B0 m0 k0] 33)).alloc (.cells #[.bool s1, .slice A1 l1 c1, .slice B1 m1 k1] 33)).alloc (.cells #[.bool false, .slice none 0 0, .slice none 0 0] 33)).alloc (.cells #[.bool s0, .slice A0 l0 c0, .slice B0 m0 k0, .bool s1, .slice A1 l1 c1, .slice B1 m1 k1] 33)) (w.heap.size + 3) 33 #[.bool s0, .slice A0 l0 c0, .slice B0 m0 k0, .bool s1, .slice A1 l1 c1, .slice B1 m1 k1] := Blk.at_ (by simp)
  go_enter Try.func59, Try.ntmps59
  go_wp2_with fail
  generalize ((((w.alloc (.cells #[.bool s0, .slice A0 l0 c0, .slice B0 m0 k0] 33)).alloc (.cells #[.bool s1, .slice A1 l1 c1, .slice B1 m1 k1] 33)).alloc (.cells #[.bool false, .slice none 0 0, .slice none 0 0] 33)).alloc (.cells #[.bool s0, .slice A0 l0 c0, .slice B0 m0 k0, .bool s1, .slice A1 l1 c1, .slice B1 m1 k1] 33)) = w1 at hXe kA kB kR kP ⊢
  have HX := Lib.hid hXe
  clear hXe
  have KA := Lib.hid kA
  clear kA
  have KB := Lib.hid kB
  clear kB
  have KR := Lib.hid kR
  clear kR
  have KP := Lib.hid kP
  clear kP
  refine (anyLarge_two s0 s1 A0 B0 A1 B1 l0 c0 m0 k0 l1 c1 m1 k1 false false _ _ KP.out ((HXX.out.small).ext HX.out) ((HYY.out.small).ext HX.out)).mono ?_
  rintro e w2 ⟨rfl, hX⟩
  replace HX := Lib.hid (HX.out.trans hX)
  replace KA := Lib.hid (KA.out.ext hX)
  replace KB := Lib.hid (KB.out.ext hX)
  replace KR := Lib.hid (KR.out.ext hX)
  replace KP := Lib.hid (KP.out.ext hX)
  clear hX
  clear KP
  replace HXX := Lib.hid (HXX.out.ext HX.out)
  replace HYY := Lib.hid (HYY.out.ext HX.out)
  go_upto_region 3 with (fail)
  refine emul_rok w.heap.size (w.heap.size + 1) s0 s1 A0 B0 A1 B1 l0 c0 m0 k0 l1 c1 m1 k1 q r w2 (KA.out.cell 0) (KA.out.cell 1) (KA.out.cell 2) (KB.out.cell 0) (KB.out.cell 1) (KB.out.cell 2) HXX.out HYY.out HF.out _ _ (by simp) rfl rfl ?_
  rintro xv0 xv1 xv2 xv3 xv4 xv5 xv6 xv7 w3 rfl _ rfl _ _ _ hr rfl hXW
  simp only [rops, Try.f59, regOf, Option.bind_some, Nat.reduceBEq, if_true, if_false, Bool.false_eq_true, Option.getD_some, List.drop_succ_cons, List.drop_zero]
  simp only [Act.put, List.setIfInBounds_toArray, List.set_cons_succ, List.set_cons_zero]
  replace HX := Lib.hid (HX.out.trans hXW)
  replace HXX := Lib.hid (HXX.out.ext hXW)
  replace HYY := Lib.hid (HYY.out.ext hXW)
  replace KA := Lib.hid (KA.out.ext hXW)
  replace KB := Lib.hid (KB.out.ext hXW)
  replace KR := Lib.hid (KR.out.ext hXW)
  clear hXW
  obtain ⟨s9, A9, l9, c9, B9, m9, k9, rfl⟩ := hr.open
  have HV := Lib.hid (hr.past (NoInts.three KR.out) s9 A9 B9 l9 c9 m9 k9)
  clear hr
  have cR0 : w3.cell? ⟨(w.heap.size + 2), 0, none⟩ = some (.bool false) := KR.out.cell 0
  have fR0 : w3.frozen? ⟨(w.heap.size + 2), 0, none⟩ = false := KR.out.free 0
  have cR1 : w3.cell? ⟨(w.heap.size + 2), 1, none⟩ = some (.slice none 0 0) := KR.out.cell 1
  have fR1 : w3.frozen? ⟨(w.heap.size + 2), 1, none⟩ = false := KR.out.free 1
  have cR2 : w3.cell? ⟨(w.heap.size + 2), 2, none⟩ = some (.slice none 0 0) := KR.out.cell 2
  have fR2 : w3.frozen? ⟨(w.heap.size + 2), 2, none⟩ = false := KR.out.free 2
  go_wp2
  refine bodyPost_ret (v := .tuple #[.agg #[.bool s9, .slice A9 l9 c9, .slice B9 m9 k9], .int .i64 0]) (by simp [results, Try.results59, go_sem, *]) rfl ?_
  exact ⟨_, rfl, HV.out, Ext.boxed HX.out (by omega) _ _ _⟩

set_option maxRecDepth 100000 in
set_option maxHeartbeats 2000000 in
theorem emul_rbig (ga gb : Nat) (s0 s1 : Bool) (A0 B0 A1 B1 : Option Addr) (l0 c0 m0 k0 l1 c1 m1 k1 : Nat) (q r : Rat) (w : World) (x0 : w.cell? ⟨ga, 0, none⟩ = some (.bool s0)) (x1 : w.cell? ⟨ga, 1, none⟩ = some (.slice A0 l0 c0)) (x2 : w.cell? ⟨ga, 2, none⟩ = some (.slice B0 m0 k0)) (y0 : w.cell? ⟨gb, 0, none⟩ = some (.bool s1)) (y1 : w.cell? ⟨gb, 1, none⟩ = some (.slice A1 l1 c1)) (y2 : w.cell? ⟨gb, 2, none⟩ = some (.slice B1 m1 k1)) (hx : RatG w (.agg #[.bool s0, .slice A0 l0 c0, .slice B0 m0 k0]) q) (hy : RatG w (.agg #[.bool s1, .slice A1 l1 c1, .slice B1 m1 k1]) r) (hf : ¬ FitQW (q * r)) (a : Act) (Q : Exit → Act → World → Prop) (hsize : 19 ≤ a.tmps.size)
    (s2 : a.tmps[2]? = some (.pointer (some ⟨ga, 0, none⟩)))
    (s3 : a.tmps[3]? = some (.pointer (some ⟨gb, 0, none⟩)))
    (hend : ∀ (xv0 xv1 xv2 xv3 xv4 xv5 xv6 xv7 : Value) (W : World), (xv0 = .agg #[.bool s0, .slice A0 l0 c0, .slice B0 m0 k0]) → (NumX W xv1 q 256) → (xv2 = .agg #[.bool s1, .slice A1 l1 c1, .slice B1 m1 k1]) → (NumX W xv3 r 256) → (NumX W xv4 (q * r) (256 + 256)) → (xv5 = .tuple #[zeroR, .int .i64 1]) → (xv6 = zeroR) → (xv7 = .int .i64 1) → Ext w W → wpList Try.prog (rops Try.f59 3).toArray Q ((rops Try.f59 3).drop 8) ((((((((a.put (some 11) xv0).put (some 12) xv1).put (some 13) xv2).put (some 14) xv3).put (some 15) xv4).put (some 16) xv5).put (some 17) xv6).put (some 18) xv7) W) :
    (Code.region 3 (rops Try.f59 3).toArray true).wp Try.prog Q a w := by
  have hmono : ∀ (W W' : World) (j : Nat) (u : Value), Ext W W' → (fun (i : Nat) (v : Value) (W : World) => match i with
    | 0 => v = .agg #[.bool s0, .slice A0 l0 c0, .slice B0 m0 k0]
    | 1 => NumX W v q 256
    | 2 => v = .agg #[.bool s1, .slice A1 l1 c1, .slice B1 m1 k1]
    | 3 => NumX W v r 256
    | 4 => NumX W v (q * r) (256 + 256)
    | 5 => v = .tuple #[zeroR, .int .i64 1]
    | 6 => v = zeroR
    | 7 => v = .int .i64 1
    | _ => True) j u W → (fun (i : Nat) (v : Value) (W : World) => match i with
    | 0 => v = .agg #[.bool s0, .slice A0 l0 c0, .slice B0 m0 k0]
    | 1 => NumX W v q 256
    | 2 => v = .agg #[.bool s1, .slice A1 l1 c1, .slice B1 m1 k1]
    | 3 => NumX W v r 256
    | 4 => NumX W v (q * r) (256 + 256)
    | 5 => v = .tuple #[zeroR, .int .i64 1]
    | 6 => v = zeroR
    | 7 => v = .int .i64 1
    | _ => True) j u W' := by
    intro W W' j u hX h
    match j, h with
    | 0, h => exact h
    | 1, h => exact NumX.ext h hX
    | 2, h => exact h
    | 3, h => exact NumX.ext h hX
    | 4, h => exact NumX.ext h hX
    | 5, h => exact h
    | 6, h => exact h
    | 7, h => exact h
    | _ + 8, h => exact h
  have hsz : ∀ d, some d ∈ ([some 11, some 12, some 13, some 14, some 15, some 16, some 17, some 18] : List (Option Tmp)) → d < a.tmps.size := slots_lt (by decide) hsize
  refine wp_region_j 8 [some 11, some 12, some 13, some 14, some 15, some 16, some 17, some 18] [[], [0], [], [2], [1, 3], [4], [5], [5]] [[], [], [], [], [], [], [], []] (fun (i : Nat) (v : Value) (W : World) => match i with
    | 0 => v = .agg #[.bool s0, .slice A0 l0 c0, .slice B0 m0 k0]
    | 1 => NumX W v q 256
    | 2 => v = .agg #[.bool s1, .slice A1 l1 c1, .slice B1 m1 k1]
    | 3 => NumX W v r 256
    | 4 => NumX W v (q * r) (256 + 256)
    | 5 => v = .tuple #[zeroR, .int .i64 1]
    | 6 => v = zeroR
    | 7 => v = .int .i64 1
    | _ => True) (fun _ W => Ext w W) (by kernel_rfl) (by kernel_rfl) hsz (fun _ _ _ _ h => h) ((Ext.refl w).drew) ?_ ?_
  · clear hend
    simp only [rops, Try.f59, regOf, Option.bind_some, Nat.reduceBEq, if_true, if_false, Bool.false_eq_true, Option.getD_some]
    simp only [List.take_succ_cons, List.take_zero]
    refine ⟨?_, ?_, ?_, ?_, ?_, ?_, ?_, ?_, trivial⟩
    · intro done us W hJ hdep haft hnot b hb hb' K hK Q'
      have e2 := (hb' 2 (by simp)).trans s2
      clear hb hb'
      have q0 := Ext.cell hJ x0
      have q1 := Ext.cell hJ x1
      have q2 := Ext.cell hJ x2
      go_simp
      exact hK _ _ rfl (fun _ _ _ h => h) hJ
    · intro done us W hJ hdep haft hnot b hb hb' K hK Q'
      simp only [List.getD_cons_succ, List.getD_cons_zero, List.mem_cons, List.not_mem_nil, or_false, forall_eq_or_imp, forall_eq] at hdep
      have e11 := hb 0 11 rfl
      have d0 := hdep
      rw [d0.1] at e11
      clear hb hb' hdep d0
      go_simp
      refine (ofG (hx.ext hJ)).mono ?_
      rintro e w' ⟨v, rfl, hv, hX⟩
      exact hK _ _ hv (fun j u _ h => hmono _ _ j u hX h) (Ext.trans hJ hX)
    · intro done us W hJ hdep haft hnot b hb hb' K hK Q'
      have e3 := (hb' 3 (by simp)).trans s3
      clear hb hb'
      have q0 := Ext.cell hJ y0
      have q1 := Ext.cell hJ y1
      have q2 := Ext.cell hJ y2
      go_simp
      exact hK _ _ rfl (fun _ _ _ h => h) hJ
    · intro done us W hJ hdep haft hnot b hb hb' K hK Q'
      simp only [List.getD_cons_succ, List.getD_cons_zero, List.mem_cons, List.not_mem_nil, or_false, forall_eq_or_imp, forall_eq] at hdep
      have e13 := hb 2 13 rfl
      have d2 := hdep
      rw [d2.1] at e13
      clear hb hb' hdep d2
      go_simp
      refine (ofG (hy.ext hJ)).mono ?_
      rintro e w' ⟨v, rfl, hv, hX⟩
      exact hK _ _ hv (fun j u _ h => hmono _ _ j u hX h) (Ext.trans hJ hX)
    · intro done us W hJ hdep haft hnot b hb hb' K hK Q'
      simp only [List.getD_cons_succ, List.getD_cons_zero, List.mem_cons, List.not_mem_nil, or_false, forall_eq_or_imp, forall_eq] at hdep
      have e12 := hb 1 12 rfl
      have e14 := hb 3 14 rfl
      have d1 := hdep.1
      have d3 := hdep.2
      clear hb hb' hdep 
      go_simp
      refine (mulX d1.1 d3.1 (by omega) (by omega)).mono ?_
      rintro e w' ⟨v, rfl, hv, hX⟩
      exact hK _ _ hv (fun j u _ h => hmono _ _ j u hX h) (Ext.trans hJ hX)
    · intro done us W hJ hdep haft hnot b hb hb' K hK Q'
      simp only [List.getD_cons_succ, List.getD_cons_zero, List.mem_cons, List.not_mem_nil, or_false, forall_eq_or_imp, forall_eq] at hdep
      have e15 := hb 4 15 rfl
      have d4 := hdep
      clear hb hb' hdep 
      go_simp
      refine (doneB d4.1 (by omega) hf).mono ?_
      rintro e w' ⟨rfl, hX⟩
      exact hK _ _ rfl (fun j u _ h => hmono _ _ j u hX h) (Ext.trans hJ hX)
    · intro done us W hJ hdep haft hnot b hb hb' K hK Q'
      simp only [List.getD_cons_succ, List.getD_cons_zero, List.mem_cons, List.not_mem_nil, or_false, forall_eq_or_imp, forall_eq] at hdep
      have e16 := hb 5 16 rfl
      have d5 := hdep
      rw [d5.1] at e16
      clear hb hb' hdep d5
      go_simp
      exact hK _ _ rfl (fun _ _ _ h => h) hJ
    · intro done us W hJ hdep haft hnot b hb hb' K hK Q'
      simp only [List.getD_cons_succ, List.getD_cons_zero, List.mem_cons, List.not_mem_nil, or_false, forall_eq_or_imp, forall_eq] at hdep
      have e16 := hb 5 16 rfl
      have d5 := hdep
      rw [d5.1] at e16
      clear hb hb' hdep d5
      go_simp
      exact hK _ _ rfl (fun _ _ _ h => h) hJ
  · intro us W hV hJ
    exact hend (us 0) (us 1) (us 2) (us 3) (us 4) (us 5) (us 6) (us 7) W (hV 0 (by omega)) (hV 1 (by omega)) (hV 2 (by omega)) (hV 3 (by omega)) (hV 4 (by omega)) (hV 5 (by omega)) (hV 6 (by omega)) (hV 7 (by omega)) hJ
set_option maxRecDepth 100000 in
set_option maxHeartbeats 2000000 in
theorem emul_big (s0 s1 : Bool) (A0 B0 A1 B1 : Option Addr) (l0 c0 m0 k0 l1 c1 m1 k1 : Nat) (q r : Rat) (w : World) (hx : RatG w (.agg #[.bool s0, .slice A0 l0 c0, .slice B0 m0 k0]) q) (hy : RatG w (.agg #[.bool s1, .slice A1 l1 c1, .slice B1 m1 k1]) r) (hf : ¬ FitQW (q * r)) :
    Calls Try.prog 59 #[.agg #[.bool s0, .slice A0 l0 c0, .slice B0 m0 k0], .agg #[.bool s1, .slice A1 l1 c1, .slice B1 m1 k1]] w (RetE w zeroR 1) := by
  have HXX := Lib.hid hx
  have HYY := Lib.hid hy
  clear hx hy
  have HF := Lib.hid hf
  clear hf
  have hXe : Ext w ((((w.alloc (.cells #[.bool s0, .slice A0 l0 c0, .slice B0 m0 k0] 33)).alloc (.cells #[.bool s1, .slice A1 l1 c1, .slice B1 m1 k1] 33)).alloc (.cells #[.bool false, .slice none 0 0, .slice none 0 0] 33)).alloc (.cells #[.bool s0, .slice A0 l0 c0, .slice B0 m0 k0, .bool s1, .slice A1 l1 c1, .slice B1 m1 k1] 33)) := (((((Ext.refl w).alloc _).alloc _).alloc _).alloc _)
  have kA : Blk ((((w.alloc (.cells #[.bool s0, .slice A0 l0 c0, .slice B0 m0 k0] 33)).alloc (.cells #[.bool s1, .slice A1 l1 c1, .slice B1 m1 k1] 33)).alloc (.cells #[.bool false, .slice none 0 0, .slice none 0 0] 33)).alloc (.cells #[.bool s0, .slice A0 l0 c0, .slice B0 m0 k0, .bool s1, .slice A1 l1 c1, .slice B1 m1 k1] 33)) w.heap.size 33 #[.bool s0, .slice A0 l0 c0, .slice B0 m0 k0] := Blk.alloc (Blk.alloc (Blk.alloc (Blk.at_ (by simp)) _) _) _
  have kB : Blk ((((w.alloc (.cells #[.bool s0, .slice A0 l0 c0, .slice B0 m0 k0] 33)).alloc (.cells #[.bool s1, .slice A1 l1 c1, .slice B1 m1 k1] 33)).alloc (.cells #[.bool false, .slice none 0 0, .slice none 0 0] 33)).alloc (.cells #[.bool s0, .slice A0 l0 c0, .slice B0 m0 k0, .bool s1, .slice A1 l1 c1, .slice B1 m1 k1] 33)) (w.heap.size + 1) 33 #[.bool s1, .slice A1 l1 c1, .slice B1 m1 k1] := Blk.alloc (Blk.alloc (Blk.at_ (by simp)) _) _
  have kR : Blk ((((w.alloc (.cells #[.bool s0, .slice A0 l0 c0, .slice B0 m0 k0] 33)).alloc (.cells #[.bool s1, .slice A1 l1 c1, .slice B1 m1 k1] 33)).alloc (.cells #[.bool false, .slice none 0 0, .slice none 0 0] 33)).alloc (.cells #[.bool s0, .slice A0 l0 c0, .slice B0 m0 k0, .bool s1, .slice A1 l1 c1, .slice B1 m1 k1] 33)) (w.heap.size + 2) 33 #[.bool false, .slice none 0 0, .slice none 0 0] := Blk.alloc (Blk.at_ (by simp)) _
  have kP : Blk ((((w.alloc (.cells #[.bool s0, .slice A0 l0 c0, .slice B0 m0 k0] 33)).alloc (.cells #[.bool s1, .slice A1 l1 c1, .slice B1 m1 k1] 33)).alloc (.cells #[.bool false, .slice none 0 0, .slice none 0 0] 33)).alloc (.cells #[.bool s0, .slice A0 l0 c0, .slice B0 m0 k0, .bool s1, .slice A1 l1 c1, .slice B1 m1 k1] 33)) (w.heap.size + 3) 33 #[.bool s0, .slice A0 l0 c0, .slice B0 m0 k0, .bool s1, .slice A1 l1 c1, .slice B1 m1 k1] := Blk.at_ (by simp)
  go_enter Try.func59, Try.ntmps59
  go_wp2_with fail
  generalize ((((w.alloc (.cells #[.bool s0, .slice A0 l0 c0, .slice B0 m0 k0] 33)).alloc (.cells #[.bool s1, .slice A1 l1 c1, .slice B1 m1 k1] 33)).alloc (.cells #[.bool false, .slice none 0 0, .slice none 0 0] 33)).alloc (.cells #[.bool s0, .slice A0 l0 c0, .slice B0 m0 k0, .bool s1, .slice A1 l1 c1, .slice B1 m1 k1] 33)) = w1 at hXe kA kB kR kP ⊢
  have HX := Lib.hid hXe
  clear hXe
  have KA := Lib.hid kA
  clear kA
  have KB := Lib.hid kB
  clear kB
  have KR := Lib.hid kR
  clear kR
  have KP := Lib.hid kP
  clear kP
  refine (anyLarge_two s0 s1 A0 B0 A1 B1 l0 c0 m0 k0 l1 c1 m1 k1 false false _ _ KP.out ((HXX.out.small).ext HX.out) ((HYY.out.small).ext HX.out)).mono ?_
  rintro e w2 ⟨rfl, hX⟩
  replace HX := Lib.hid (HX.out.trans hX)
  replace KA := Lib.hid (KA.out.ext hX)
  replace KB := Lib.hid (KB.out.ext hX)
  replace KR := Lib.hid (KR.out.ext hX)
  replace KP := Lib.hid (KP.out.ext hX)
  clear hX
  clear KP
  replace HXX := Lib.hid (HXX.out.ext HX.out)
  replace HYY := Lib.hid (HYY.out.ext HX.out)
  go_upto_region 3 with (fail)
  refine emul_rbig w.heap.size (w.heap.size + 1) s0 s1 A0 B0 A1 B1 l0 c0 m0 k0 l1 c1 m1 k1 q r w2 (KA.out.cell 0) (KA.out.cell 1) (KA.out.cell 2) (KB.out.cell 0) (KB.out.cell 1) (KB.out.cell 2) HXX.out HYY.out HF.out _ _ (by simp) rfl rfl ?_
  rintro xv0 xv1 xv2 xv3 xv4 xv5 xv6 xv7 w3 rfl _ rfl _ _ rfl rfl rfl hXW
  simp only [rops, Try.f59, regOf, Option.bind_some, Nat.reduceBEq, if_true, if_false, Bool.false_eq_true, Option.getD_some, List.drop_succ_cons, List.drop_zero]
  simp only [Act.put, List.setIfInBounds_toArray, List.set_cons_succ, List.set_cons_zero]
  replace HX := Lib.hid (HX.out.trans hXW)
  replace HXX := Lib.hid (HXX.out.ext hXW)
  replace HYY := Lib.hid (HYY.out.ext hXW)
  replace KA := Lib.hid (KA.out.ext hXW)
  replace KB := Lib.hid (KB.out.ext hXW)
  replace KR := Lib.hid (KR.out.ext hXW)
  clear hXW
  unfold zeroR
  have cR0 : w3.cell? ⟨(w.heap.size + 2), 0, none⟩ = some (.bool false) := KR.out.cell 0
  have fR0 : w3.frozen? ⟨(w.heap.size + 2), 0, none⟩ = false := KR.out.free 0
  have cR1 : w3.cell? ⟨(w.heap.size + 2), 1, none⟩ = some (.slice none 0 0) := KR.out.cell 1
  have fR1 : w3.frozen? ⟨(w.heap.size + 2), 1, none⟩ = false := KR.out.free 1
  have cR2 : w3.cell? ⟨(w.heap.size + 2), 2, none⟩ = some (.slice none 0 0) := KR.out.cell 2
  have fR2 : w3.frozen? ⟨(w.heap.size + 2), 2, none⟩ = false := KR.out.free 2
  go_wp2
  refine bodyPost_ret (v := .tuple #[zeroR, .int .i64 1]) (by simp [results, zeroR, Try.results59, go_sem, *]) rfl ?_
  exact ⟨rfl, Ext.boxed HX.out (by omega) _ _ _⟩

set_option maxRecDepth 100000 in
set_option maxHeartbeats 2000000 in
theorem ecmp_r (ga gb : Nat) (s0 s1 : Bool) (A0 B0 A1 B1 : Option Addr) (l0 c0 m0 k0 l1 c1 m1 k1 : Nat) (q r : Rat) (w : World) (x0 : w.cell? ⟨ga, 0, none⟩ = some (.bool s0)) (x1 : w.cell? ⟨ga, 1, none⟩ = some (.slice A0 l0 c0)) (x2 : w.cell? ⟨ga, 2, none⟩ = some (.slice B0 m0 k0)) (y0 : w.cell? ⟨gb, 0, none⟩ = some (.bool s1)) (y1 : w.cell? ⟨gb, 1, none⟩ = some (.slice A1 l1 c1)) (y2 : w.cell? ⟨gb, 2, none⟩ = some (.slice B1 m1 k1)) (hx : RatG w (.agg #[.bool s0, .slice A0 l0 c0, .slice B0 m0 k0]) q) (hy : RatG w (.agg #[.bool s1, .slice A1 l1 c1, .slice B1 m1 k1]) r) (a : Act) (Q : Exit → Act → World → Prop) (hsize : 15 ≤ a.tmps.size)
    (s2 : a.tmps[2]? = some (.pointer (some ⟨ga, 0, none⟩)))
    (s3 : a.tmps[3]? = some (.pointer (some ⟨gb, 0, none⟩)))
    (hend : ∀ (xv0 xv1 xv2 xv3 xv4 xv5 xv6 : Value) (W : World), (xv0 = .agg #[.bool s0, .slice A0 l0 c0, .slice B0 m0 k0]) → (NumX W xv1 q 256) → (xv2 = .agg #[.bool s1, .slice A1 l1 c1, .slice B1 m1 k1]) → (NumX W xv3 r 256) → (xv4 = .int .i64 (sgnQ (q - r))) → (xv5 = .int .i64 (sgnQ (q - r))) → (xv6 = .int .i64 0) → Ext w W → wpList Try.prog (rops Try.f50 3).toArray Q ((rops Try.f50 3).drop 7) (((((((a.put (some 10) xv0).put (some 11) xv1).put (some 12) xv2).put (some 13) xv3).put (some 14) xv4).put (some 4) xv5).put (some 5) xv6) W) :
    (Code.region 3 (rops Try.f50 3).toArray true).wp Try.prog Q a w := by
  have hmono : ∀ (W W' : World) (j : Nat) (u : Value), Ext W W' → (fun (i : Nat) (v : Value) (W : World) => match i with
    | 0 => v = .agg #[.bool s0, .slice A0 l0 c0, .slice B0 m0 k0]
    | 1 => NumX W v q 256
    | 2 => v = .agg #[.bool s1, .slice A1 l1 c1, .slice B1 m1 k1]
    | 3 => NumX W v r 256
    | 4 => v = .int .i64 (sgnQ (q - r))
    | 5 => v = .int .i64 (sgnQ (q - r))
    | 6 => v = .int .i64 0
    | _ => True) j u W → (fun (i : Nat) (v : Value) (W : World) => match i with
    | 0 => v = .agg #[.bool s0, .slice A0 l0 c0, .slice B0 m0 k0]
    | 1 => NumX W v q 256
    | 2 => v = .agg #[.bool s1, .slice A1 l1 c1, .slice B1 m1 k1]
    | 3 => NumX W v r 256
    | 4 => v = .int .i64 (sgnQ (q - r))
    | 5 => v = .int .i64 (sgnQ (q - r))
    | 6 => v = .int .i64 0
    | _ => True) j u W' := by
    intro W W' j u hX h
    match j, h with
    | 0, h => exact h
    | 1, h => exact NumX.ext h hX
    | 2, h => exact h
    | 3, h => exact NumX.ext h hX
    | 4, h => exact h
    | 5, h => exact h
    | 6, h => exact h
    | _ + 7, h => exact h
  have hsz : ∀ d, some d ∈ ([some 10, some 11, some 12, some 13, some 14, some 4, some 5] : List (Option Tmp)) → d < a.tmps.size := slots_lt (by decide) hsize
  refine wp_region_j 7 [some 10, some 11, some 12, some 13, some 14, some 4, some 5] [[], [0], [], [2], [1, 3], [4], []] [[], [], [], [], [], [], []] (fun (i : Nat) (v : Value) (W : World) => match i with
    | 0 => v = .agg #[.bool s0, .slice A0 l0 c0, .slice B0 m0 k0]
    | 1 => NumX W v q 256
    | 2 => v = .agg #[.bool s1, .slice A1 l1 c1, .slice B1 m1 k1]
    | 3 => NumX W v r 256
    | 4 => v = .int .i64 (sgnQ (q - r))
    | 5 => v = .int .i64 (sgnQ (q - r))
    | 6 => v = .int .i64 0
    | _ => True) (fun _ W => Ext w W) (by kernel_rfl) (by kernel_rfl) hsz (fun _ _ _ _ h => h) ((Ext.refl w).drew) ?_ ?_
  · clear hend
    simp only [rops, Try.f50, regOf, Option.bind_some, Nat.reduceBEq, if_true, if_false, Bool.false_eq_true, Option.getD_some]
    simp only [List.take_succ_cons, List.take_zero]
    refine ⟨?_, ?_, ?_, ?_, ?_, ?_, ?_, trivial⟩
    · intro done us W hJ hdep haft hnot b hb hb' K hK Q'
      have e2 := (hb' 2 (by simp)).trans s2
      clear hb hb'
      have q0 := Ext.cell hJ x0
      have q1 := Ext.cell hJ x1
      have q2 := Ext.cell hJ x2
      go_simp
      exact hK _ _ rfl (fun _ _ _ h => h) hJ
    · intro done us W hJ hdep haft hnot b hb hb' K hK Q'
      simp only [List.getD_cons_succ, List.getD_cons_zero, List.mem_cons, List.not_mem_nil, or_false, forall_eq_or_imp, forall_eq] at hdep
      have e10 := hb 0 10 rfl
      have d0 := hdep
      rw [d0.1] at e10
      clear hb hb' hdep d0
      go_simp
      refine (ofG (hx.ext hJ)).mono ?_
      rintro e w' ⟨v, rfl, hv, hX⟩
      exact hK _ _ hv (fun j u _ h => hmono _ _ j u hX h) (Ext.trans hJ hX)
    · intro done us W hJ hdep haft hnot b hb hb' K hK Q'
      have e3 := (hb' 3 (by simp)).trans s3
      clear hb hb'
      have q0 := Ext.cell hJ y0
      have q1 := Ext.cell hJ y1
      have q2 := Ext.cell hJ y2
      go_simp
      exact hK _ _ rfl (fun _ _ _ h => h) hJ
    · intro done us W hJ hdep haft hnot b hb hb' K hK Q'
      simp only [List.getD_cons_succ, List.getD_cons_zero, List.mem_cons, List.not_mem_nil, or_false, forall_eq_or_imp, forall_eq] at hdep
      have e12 := hb 2 12 rfl
      have d2 := hdep
      rw [d2.1] at e12
      clear hb hb' hdep d2
      go_simp
      refine (ofG (hy.ext hJ)).mono ?_
      rintro e w' ⟨v, rfl, hv, hX⟩
      exact hK _ _ hv (fun j u _ h => hmono _ _ j u hX h) (Ext.trans hJ hX)
    · intro done us W hJ hdep haft hnot b hb hb' K hK Q'
      simp only [List.getD_cons_succ, List.getD_cons_zero, List.mem_cons, List.not_mem_nil, or_false, forall_eq_or_imp, forall_eq] at hdep
      have e11 := hb 1 11 rfl
      have e13 := hb 3 13 rfl
      have d1 := hdep.1
      have d3 := hdep.2
      clear hb hb' hdep 
      go_simp
      refine (cmpX d1.1 d3.1 (by omega)).mono ?_
      rintro e w' ⟨rfl, hX⟩
      exact hK _ _ rfl (fun j u _ h => hmono _ _ j u hX h) (Ext.trans hJ hX)
    · intro done us W hJ hdep haft hnot b hb hb' K hK Q'
      simp only [List.getD_cons_succ, List.getD_cons_zero, List.mem_cons, List.not_mem_nil, or_false, forall_eq_or_imp, forall_eq] at hdep
      have e14 := hb 4 14 rfl
      have d4 := hdep
      rw [d4.1] at e14
      clear hb hb' hdep d4
      go_simp
      exact hK _ _ rfl (fun _ _ _ h => h) hJ
    · intro done us W hJ hdep haft hnot b hb hb' K hK Q'
      clear hb hb'
      go_simp
      exact hK _ _ rfl (fun _ _ _ h => h) hJ
  · intro us W hV hJ
    exact hend (us 0) (us 1) (us 2) (us 3) (us 4) (us 5) (us 6) W (hV 0 (by omega)) (hV 1 (by omega)) (hV 2 (by omega)) (hV 3 (by omega)) (hV 4 (by omega)) (hV 5 (by omega)) (hV 6 (by omega)) hJ
set_option maxRecDepth 100000 in
set_option maxHeartbeats 2000000 in
theorem ecmp_ok (s0 s1 : Bool) (A0 B0 A1 B1 : Option Addr) (l0 c0 m0 k0 l1 c1 m1 k1 : Nat) (q r : Rat) (w : World) (hx : RatG w (.agg #[.bool s0, .slice A0 l0 c0, .slice B0 m0 k0]) q) (hy : RatG w (.agg #[.bool s1, .slice A1 l1 c1, .slice B1 m1 k1]) r) :
    Calls Try.prog 50 #[.agg #[.bool s0, .slice A0 l0 c0, .slice B0 m0 k0], .agg #[.bool s1, .slice A1 l1 c1, .slice B1 m1 k1]] w (RetE w (.int .i64 (sgnQ (q - r))) 0) := by
  have HXX := Lib.hid hx
  have HYY := Lib.hid hy
  clear hx hy
  have hXe : Ext w (((w.alloc (.cells #[.bool s0, .slice A0 l0 c0, .slice B0 m0 k0] 33)).alloc (.cells #[.bool s1, .slice A1 l1 c1, .slice B1 m1 k1] 33)).alloc (.cells #[.bool s0, .slice A0 l0 c0, .slice B0 m0 k0, .bool s1, .slice A1 l1 c1, .slice B1 m1 k1] 33)) := ((((Ext.refl w).alloc _).alloc _).alloc _)
  have kA : Blk (((w.alloc (.cells #[.bool s0, .slice A0 l0 c0, .slice B0 m0 k0] 33)).alloc (.cells #[.bool s1, .slice A1 l1 c1, .slice B1 m1 k1] 33)).alloc (.cells #[.bool s0, .slice A0 l0 c0, .slice B0 m0 k0, .bool s1, .slice A1 l1 c1, .slice B1 m1 k1] 33)) w.heap.size 33 #[.bool s0, .slice A0 l0 c0, .slice B0 m0 k0] := Blk.alloc (Blk.alloc (Blk.at_ (by simp)) _) _
  have kB : Blk (((w.alloc (.cells #[.bool s0, .slice A0 l0 c0, .slice B0 m0 k0] 33)).alloc (.cells #[.bool s1, .slice A1 l1 c1, .slice B1 m1 k1] 33)).alloc (.cells #[.bool s0, .slice A0 l0 c0, .slice B0 m0 k0, .bool s1, .slice A1 l1 c1, .slice B1 m1 k1] 33)) (w.heap.size + 1) 33 #[.bool s1, .slice A1 l1 c1, .slice B1 m1 k1] := Blk.alloc (Blk.at_ (by simp)) _
  have kP : Blk (((w.alloc (.cells #[.bool s0, .slice A0 l0 c0, .slice B0 m0 k0] 33)).alloc (.cells #[.bool s1, .slice A1 l1 c1, .slice B1 m1 k1] 33)).alloc (.cells #[.bool s0, .slice A0 l0 c0, .slice B0 m0 k0, .bool s1, .slice A1 l1 c1, .slice B1 m1 k1] 33)) (w.heap.size + 2) 33 #[.bool s0, .slice A0 l0 c0, .slice B0 m0 k0, .bool s1, .slice A1 l1 c1, .slice B1 m1 k1] := Blk.at_ (by simp)
  go_enter Try.func50, Try.ntmps50
  go_wp2_with fail
  generalize (((w.alloc (.cells #[.bool s0, .slice A0 l0 c0, .slice B0 m0 k0] 33)).alloc (.cells #[.bool s1, .slice A1 l1 c1, .slice B1 m1 k1] 33)).alloc (.cells #[.bool s0, .slice A0 l0 c0, .slice B0 m0 k0, .bool s1, .slice A1 l1 c1, .slice B1 m1 k1] 33)) = w1 at hXe kA kB kP ⊢
  have HX := Lib.hid hXe
  clear hXe
  have KA := Lib.hid kA
  clear kA
  have KB := Lib.hid kB
  clear kB
  have KP := Lib.hid kP
  clear kP
  refine (anyLarge_two s0 s1 A0 B0 A1 B1 l0 c0 m0 k0 l1 c1 m1 k1 false false _ _ KP.out ((HXX.out.small).ext HX.out) ((HYY.out.small).ext HX.out)).mono ?_
  rintro e w2 ⟨rfl, hX⟩
  replace HX := Lib.hid (HX.out.trans hX)
  replace KA := Lib.hid (KA.out.ext hX)
  replace KB := Lib.hid (KB.out.ext hX)
  replace KP := Lib.hid (KP.out.ext hX)
  clear hX
  clear KP
  replace HXX := Lib.hid (HXX.out.ext HX.out)
  replace HYY := Lib.hid (HYY.out.ext HX.out)
  go_upto_region 3 with (fail)
  refine ecmp_r w.heap.size (w.heap.size + 1) s0 s1 A0 B0 A1 B1 l0 c0 m0 k0 l1 c1 m1 k1 q r w2 (KA.out.cell 0) (KA.out.cell 1) (KA.out.cell 2) (KB.out.cell 0) (KB.out.cell 1) (KB.out.cell 2) HXX.out HYY.out _ _ (by simp) rfl rfl ?_
  rintro xv0 xv1 xv2 xv3 xv4 xv5 xv6 w3 rfl _ rfl _ rfl rfl rfl hXW
  simp only [rops, Try.f50, regOf, Option.bind_some, Nat.reduceBEq, if_true, if_false, Bool.false_eq_true, Option.getD_some, List.drop_succ_cons, List.drop_zero]
  simp only [Act.put, List.setIfInBounds_toArray, List.set_cons_succ, List.set_cons_zero]
  replace HX := Lib.hid (HX.out.trans hXW)
  replace HXX := Lib.hid (HXX.out.ext hXW)
  replace HYY := Lib.hid (HYY.out.ext hXW)
  replace KA := Lib.hid (KA.out.ext hXW)
  replace KB := Lib.hid (KB.out.ext hXW)
  clear hXW
  go_wp2
  go_ret2
  exact ⟨rfl, HX.out⟩

set_option maxRecDepth 100000 in
set_option maxHeartbeats 2000000 in
theorem ediv_rok (ga gz : Nat) (s0 : Bool) (A0 B0 : Option Addr) (l0 c0 m0 k0 : Nat) (t1 : Bool) (C1 D1 : Option Addr) (n1 o1 f1 h1 : Nat) (q r : Rat) (w : World) (x0 : w.cell? ⟨ga, 0, none⟩ = some (.bool s0)) (x1 : w.cell? ⟨ga, 1, none⟩ = some (.slice A0 l0 c0)) (x2 : w.cell? ⟨ga, 2, none⟩ = some (.slice B0 m0 k0)) (z0 : w.cell? ⟨gz, 0, none⟩ = some (.bool t1)) (z1 : w.cell? ⟨gz, 1, none⟩ = some (.slice C1 n1 o1)) (z2 : w.cell? ⟨gz, 2, none⟩ = some (.slice D1 f1 h1)) (hx : RatG w (.agg #[.bool s0, .slice A0 l0 c0, .slice B0 m0 k0]) q) (hz : NumX w (.agg #[.bool t1, .slice C1 n1 o1, .slice D1 f1 h1]) r 256) (hr0 : r ≠ 0) (hf : FitQW (q / r)) (a : Act) (Q : Exit → Act → World → Prop) (hsize : 25 ≤ a.tmps.size)
    (s2 : a.tmps[2]? = some (.pointer (some ⟨ga, 0, none⟩)))
    (s6 : a.tmps[6]? = some (.pointer (some ⟨gz, 0, none⟩)))
    (hend : ∀ (xv0 xv1 xv2 xv3 xv4 xv5 xv6 : Value) (W : World), (xv0 = .agg #[.bool s0, .slice A0 l0 c0, .slice B0 m0 k0]) → (NumX W xv1 q 256) → (xv2 = .agg #[.bool t1, .slice C1 n1 o1, .slice D1 f1 h1]) → (NumX W xv3 (q / r) (256 + 256)) → (∃ xv4', xv4 = .tuple #[xv4', .int .i64 0] ∧ RatC W xv4' (q / r)) → (RatC W xv5 (q / r)) → (xv6 = .int .i64 0) → Ext w W → wpList Try.prog (rops Try.f60 6).toArray Q ((rops Try.f60 6).drop 7) (((((((a.put (some 18) xv0).put (some 19) xv1).put (some 20) xv2).put (some 21) xv3).put (some 22) xv4).put (some 23) xv5).put (some 24) xv6) W) :
    (Code.region 6 (rops Try.f60 6).toArray true).wp Try.prog Q a w := by
  have hmono : ∀ (W W' : World) (j : Nat) (u : Value), Ext W W' → (fun (i : Nat) (v : Value) (W : World) => match i with
    | 0 => v = .agg #[.bool s0, .slice A0 l0 c0, .slice B0 m0 k0]
    | 1 => NumX W v q 256
    | 2 => v = .agg #[.bool t1, .slice C1 n1 o1, .slice D1 f1 h1]
    | 3 => NumX W v (q / r) (256 + 256)
    | 4 => ∃ v', v = .tuple #[v', .int .i64 0] ∧ RatC W v' (q / r)
    | 5 => RatC W v (q / r)
    | 6 => v = .int .i64 0
    | _ => True) j u W → (fun (i : Nat) (v : Value) (W : World) => match i with
    | 0 => v = .agg #[.bool s0, .slice A0 l0 c0, .slice B0 m0 k0]
    | 1 => NumX W v q 256
    | 2 => v = .agg #[.bool t1, .slice C1 n1 o1, .slice D1 f1 h1]
    | 3 => NumX W v (q / r) (256 + 256)
    | 4 => ∃ v', v = .tuple #[v', .int .i64 0] ∧ RatC W v' (q / r)
    | 5 => RatC W v (q / r)
    | 6 => v = .int .i64 0
    | _ => True) j u W' := by
    intro W W' j u hX h
    match j, h with
    | 0, h => exact h
    | 1, h => exact NumX.ext h hX
    | 2, h => exact h
    | 3, h => exact NumX.ext h hX
    | 4, h => obtain ⟨v', h1, h2⟩ := h; exact ⟨v', h1, h2.ext hX⟩
    | 5, h => exact RatC.ext h hX
    | 6, h => exact h
    | _ + 7, h => exact h
  have hsz : ∀ d, some d ∈ ([some 18, some 19, some 20, some 21, some 22, some 23, some 24] : List (Option Tmp)) → d < a.tmps.size := slots_lt (by decide) hsize
  refine wp_region_j 7 [some 18, some 19, some 20, some 21, some 22, some 23, some 24] [[], [0], [], [1, 2], [3], [4], [4]] [[], [], [], [], [], [], []] (fun (i : Nat) (v : Value) (W : World) => match i with
    | 0 => v = .agg #[.bool s0, .slice A0 l0 c0, .slice B0 m0 k0]
    | 1 => NumX W v q 256
    | 2 => v = .agg #[.bool t1, .slice C1 n1 o1, .slice D1 f1 h1]
    | 3 => NumX W v (q / r) (256 + 256)
    | 4 => ∃ v', v = .tuple #[v', .int .i64 0] ∧ RatC W v' (q / r)
    | 5 => RatC W v (q / r)
    | 6 => v = .int .i64 0
    | _ => True) (fun _ W => Ext w W) (by kernel_rfl) (by kernel_rfl) hsz (fun _ _ _ _ h => h) ((Ext.refl w).drew) ?_ ?_
  · clear hend
    simp only [rops, Try.f60, regOf, Option.bind_some, Nat.reduceBEq, if_true, if_false, Bool.false_eq_true, Option.getD_some]
    simp only [List.take_succ_cons, List.take_zero]
    refine ⟨?_, ?_, ?_, ?_, ?_, ?_, ?_, trivial⟩
    · intro done us W hJ hdep haft hnot b hb hb' K hK Q'
      have e2 := (hb' 2 (by simp)).trans s2
      clear hb hb'
      have q0 := Ext.cell hJ x0
      have q1 := Ext.cell hJ x1
      have q2 := Ext.cell hJ x2
      go_simp
      exact hK _ _ rfl (fun _ _ _ h => h) hJ
    · intro done us W hJ hdep haft hnot b hb hb' K hK Q'
      simp only [List.getD_cons_succ, List.getD_cons_zero, List.mem_cons, List.not_mem_nil, or_false, forall_eq_or_imp, forall_eq] at hdep
      have e18 := hb 0 18 rfl
      have d0 := hdep
      rw [d0.1] at e18
      clear hb hb' hdep d0
      go_simp
      refine (ofG (hx.ext hJ)).mono ?_
      rintro e w' ⟨v, rfl, hv, hX⟩
      exact hK _ _ hv (fun j u _ h => hmono _ _ j u hX h) (Ext.trans hJ hX)
    · intro done us W hJ hdep haft hnot b hb hb' K hK Q'
      have e6 := (hb' 6 (by simp)).trans s6
      clear hb hb'
      have q0 := Ext.cell hJ z0
      have q1 := Ext.cell hJ z1
      have q2 := Ext.cell hJ z2
      go_simp
      exact hK _ _ rfl (fun _ _ _ h => h) hJ
    · intro done us W hJ hdep haft hnot b hb hb' K hK Q'
      simp only [List.getD_cons_succ, List.getD_cons_zero, List.mem_cons, List.not_mem_nil, or_false, forall_eq_or_imp, forall_eq] at hdep
      have e19 := hb 1 19 rfl
      have e20 := hb 2 20 rfl
      have d1 := hdep.1
      have d2 := hdep.2
      rw [d2.1] at e20
      clear hb hb' hdep d2
      go_simp
      refine (divX d1.1 (hz.ext hJ) hr0 (by omega) (by omega)).mono ?_
      rintro e w' ⟨v, rfl, hv, hX⟩
      exact hK _ _ hv (fun j u _ h => hmono _ _ j u hX h) (Ext.trans hJ hX)
    · intro done us W hJ hdep haft hnot b hb hb' K hK Q'
      simp only [List.getD_cons_succ, List.getD_cons_zero, List.mem_cons, List.not_mem_nil, or_false, forall_eq_or_imp, forall_eq] at hdep
      have e21 := hb 3 21 rfl
      have d3 := hdep
      clear hb hb' hdep 
      go_simp
      refine (doneG d3.1 (by omega) hf).mono ?_
      rintro e w' ⟨v, rfl, hv, hX⟩
      exact hK _ _ ⟨v, rfl, hv⟩ (fun j u _ h => hmono _ _ j u hX h) (Ext.trans hJ hX)
    · intro done us W hJ hdep haft hnot b hb hb' K hK Q'
      simp only [List.getD_cons_succ, List.getD_cons_zero, List.mem_cons, List.not_mem_nil, or_false, forall_eq_or_imp, forall_eq] at hdep
      have e22 := hb 4 22 rfl
      have d4 := hdep
      clear hb hb' hdep 
      obtain ⟨⟨v', hv1, hv2⟩, _⟩ := d4
      rw [hv1] at e22
      go_simp
      exact hK _ _ hv2 (fun _ _ _ h => h) hJ
    · intro done us W hJ hdep haft hnot b hb hb' K hK Q'
      simp only [List.getD_cons_succ, List.getD_cons_zero, List.mem_cons, List.not_mem_nil, or_false, forall_eq_or_imp, forall_eq] at hdep
      have e22 := hb 4 22 rfl
      have d4 := hdep
      clear hb hb' hdep 
      obtain ⟨⟨v', hv1, hv2⟩, _⟩ := d4
      rw [hv1] at e22
      go_simp
      exact hK _ _ rfl (fun _ _ _ h => h) hJ
  · intro us W hV hJ
    exact hend (us 0) (us 1) (us 2) (us 3) (us 4) (us 5) (us 6) W (hV 0 (by omega)) (hV 1 (by omega)) (hV 2 (by omega)) (hV 3 (by omega)) (hV 4 (by omega)) (hV 5 (by omega)) (hV 6 (by omega)) hJ
set_option maxRecDepth 100000 in
set_option maxHeartbeats 2000000 in
theorem ediv_rbig (ga gz : Nat) (s0 : Bool) (A0 B0 : Option Addr) (l0 c0 m0 k0 : Nat) (t1 : Bool) (C1 D1 : Option Addr) (n1 o1 f1 h1 : Nat) (q r : Rat) (w : World) (x0 : w.cell? ⟨ga, 0, none⟩ = some (.bool s0)) (x1 : w.cell? ⟨ga, 1, none⟩ = some (.slice A0 l0 c0)) (x2 : w.cell? ⟨ga, 2, none⟩ = some (.slice B0 m0 k0)) (z0 : w.cell? ⟨gz, 0, none⟩ = some (.bool t1)) (z1 : w.cell? ⟨gz, 1, none⟩ = some (.slice C1 n1 o1)) (z2 : w.cell? ⟨gz, 2, none⟩ = some (.slice D1 f1 h1)) (hx : RatG w (.agg #[.bool s0, .slice A0 l0 c0, .slice B0 m0 k0]) q) (hz : NumX w (.agg #[.bool t1, .slice C1 n1 o1, .slice D1 f1 h1]) r 256) (hr0 : r ≠ 0) (hf : ¬ FitQW (q / r)) (a : Act) (Q : Exit → Act → World → Prop) (hsize : 25 ≤ a.tmps.size)
    (s2 : a.tmps[2]? = some (.pointer (some ⟨ga, 0, none⟩)))
    (s6 : a.tmps[6]? = some (.pointer (some ⟨gz, 0, none⟩)))
    (hend : ∀ (xv0 xv1 xv2 xv3 xv4 xv5 xv6 : Value) (W : World), (xv0 = .agg #[.bool s0, .slice A0 l0 c0, .slice B0 m0 k0]) → (NumX W xv1 q 256) → (xv2 = .agg #[.bool t1, .slice C1 n1 o1, .slice D1 f1 h1]) → (NumX W xv3 (q / r) (256 + 256)) → (xv4 = .tuple #[zeroR, .int .i64 1]) → (xv5 = zeroR) → (xv6 = .int .i64 1) → Ext w W → wpList Try.prog (rops Try.f60 6).toArray Q ((rops Try.f60 6).drop 7) (((((((a.put (some 18) xv0).put (some 19) xv1).put (some 20) xv2).put (some 21) xv3).put (some 22) xv4).put (some 23) xv5).put (some 24) xv6) W) :
    (Code.region 6 (rops Try.f60 6).toArray true).wp Try.prog Q a w := by
  have hmono : ∀ (W W' : World) (j : Nat) (u : Value), Ext W W' → (fun (i : Nat) (v : Value) (W : World) => match i with
    | 0 => v = .agg #[.bool s0, .slice A0 l0 c0, .slice B0 m0 k0]
    | 1 => NumX W v q 256
    | 2 => v = .agg #[.bool t1, .slice C1 n1 o1, .slice D1 f1 h1]
    | 3 => NumX W v (q / r) (256 + 256)
    | 4 => v = .tuple #[zeroR, .int .i64 1]
    | 5 => v = zeroR
    | 6 => v = .int .i64 1
    | _ => True) j u W → (fun (i : Nat) (v : Value) (W : World) => match i with
    | 0 => v = .agg #[.bool s0, .slice A0 l0 c0, .slice B0 m0 k0]
    | 1 => NumX W v q 256
    | 2 => v = .agg #[.bool t1, .slice C1 n1 o1, .slice D1 f1 h1]
    | 3 => NumX W v (q / r) (256 + 256)
    | 4 => v = .tuple #[zeroR, .int .i64 1]
    | 5 => v = zeroR
    | 6 => v = .int .i64 1
    | _ => True) j u W' := by
    intro W W' j u hX h
    match j, h with
    | 0, h => exact h
    | 1, h => exact NumX.ext h hX
    | 2, h => exact h
    | 3, h => exact NumX.ext h hX
    | 4, h => exact h
    | 5, h => exact h
    | 6, h => exact h
    | _ + 7, h => exact h
  have hsz : ∀ d, some d ∈ ([some 18, some 19, some 20, some 21, some 22, some 23, some 24] : List (Option Tmp)) → d < a.tmps.size := slots_lt (by decide) hsize
  refine wp_region_j 7 [some 18, some 19, some 20, some 21, some 22, some 23, some 24] [[], [0], [], [1, 2], [3], [4], [4]] [[], [], [], [], [], [], []] (fun (i : Nat) (v : Value) (W : World) => match i with
    | 0 => v = .agg #[.bool s0, .slice A0 l0 c0, .slice B0 m0 k0]
    | 1 => NumX W v q 256
    | 2 => v = .agg #[.bool t1, .slice C1 n1 o1, .slice D1 f1 h1]
    | 3 => NumX W v (q / r) (256 + 256)
    | 4 => v = .tuple #[zeroR, .int .i64 1]
    | 5 => v = zeroR
    | 6 => v = .int .i64 1
    | _ => True) (fun _ W => Ext w W) (by kernel_rfl) (by kernel_rfl) hsz (fun _ _ _ _ h => h) ((Ext.refl w).drew) ?_ ?_
  · clear hend
    simp only [rops, Try.f60, regOf, Option.bind_some, Nat.reduceBEq, if_true, if_false, Bool.false_eq_true, Option.getD_some]
    simp only [List.take_succ_cons, List.take_zero]
    refine ⟨?_, ?_, ?_, ?_, ?_, ?_, ?_, trivial⟩
    · intro done us W hJ hdep haft hnot b hb hb' K hK Q'
      have e2 := (hb' 2 (by simp)).trans s2
      clear hb hb'
      have q0 := Ext.cell hJ x0
      have q1 := Ext.cell hJ x1
      have q2 := Ext.cell hJ x2
      go_simp
      exact hK _ _ rfl (fun _ _ _ h => h) hJ
    · intro done us W hJ hdep haft hnot b hb hb' K hK Q'
      simp only [List.getD_cons_succ, List.getD_cons_zero, List.mem_cons, List.not_mem_nil, or_false, forall_eq_or_imp, forall_eq] at hdep
      have e18 := hb 0 18 rfl
      have d0 := hdep
      rw [d0.1] at e18
      clear hb hb' hdep d0
      go_simp
      refine (ofG (hx.ext hJ)).mono ?_
      rintro e w' ⟨v, rfl, hv, hX⟩
      exact hK _ _ hv (fun j u _ h => hmono _ _ j u hX h) (Ext.trans hJ hX)
    · intro done us W hJ hdep haft hnot b hb hb' K hK Q'
      have e6 := (hb' 6 (by simp)).trans s6
      clear hb hb'
      have q0 := Ext.cell hJ z0
      have q1 := Ext.cell hJ z1
      have q2 := Ext.cell hJ z2
      go_simp
      exact hK _ _ rfl (fun _ _ _ h => h) hJ
    · intro done us W hJ hdep haft hnot b hb hb' K hK Q'
      simp only [List.getD_cons_succ, List.getD_cons_zero, List.mem_cons, List.not_mem_nil, or_false, forall_eq_or_imp, forall_eq] at hdep
      have e19 := hb 1 19 rfl
      have e20 := hb 2 20 rfl
      have d1 := hdep.1
      have d2 := hdep.2
      rw [d2.1] at e20
      clear hb hb' hdep d2
      go_simp
      refine (divX d1.1 (hz.ext hJ) hr0 (by omega) (by omega)).mono ?_
      rintro e w' ⟨v, rfl, hv, hX⟩
      exact hK _ _ hv (fun j u _ h => hmono _ _ j u hX h) (Ext.trans hJ hX)
    · intro done us W hJ hdep haft hnot b hb hb' K hK Q'
      simp only [List.getD_cons_succ, List.getD_cons_zero, List.mem_cons, List.not_mem_nil, or_false, forall_eq_or_imp, forall_eq] at hdep
      have e21 := hb 3 21 rfl
      have d3 := hdep
      clear hb hb' hdep 
      go_simp
      refine (doneB d3.1 (by omega) hf).mono ?_
      rintro e w' ⟨rfl, hX⟩
      exact hK _ _ rfl (fun j u _ h => hmono _ _ j u hX h) (Ext.trans hJ hX)
    · intro done us W hJ hdep haft hnot b hb hb' K hK Q'
      simp only [List.getD_cons_succ, List.getD_cons_zero, List.mem_cons, List.not_mem_nil, or_false, forall_eq_or_imp, forall_eq] at hdep
      have e22 := hb 4 22 rfl
      have d4 := hdep
      rw [d4.1] at e22
      clear hb hb' hdep d4
      go_simp
      exact hK _ _ rfl (fun _ _ _ h => h) hJ
    · intro done us W hJ hdep haft hnot b hb hb' K hK Q'
      simp only [List.getD_cons_succ, List.getD_cons_zero, List.mem_cons, List.not_mem_nil, or_false, forall_eq_or_imp, forall_eq] at hdep
      have e22 := hb 4 22 rfl
      have d4 := hdep
      rw [d4.1] at e22
      clear hb hb' hdep d4
      go_simp
      exact hK _ _ rfl (fun _ _ _ h => h) hJ
  · intro us W hV hJ
    exact hend (us 0) (us 1) (us 2) (us 3) (us 4) (us 5) (us 6) W (hV 0 (by omega)) (hV 1 (by omega)) (hV 2 (by omega)) (hV 3 (by omega)) (hV 4 (by omega)) (hV 5 (by omega)) (hV 6 (by omega)) hJ
set_option maxRecDepth 100000 in
set_option maxHeartbeats 2000000 in
theorem ediv_zero (s0 s1 : Bool) (A0 B0 A1 B1 : Option Addr) (l0 c0 m0 k0 l1 c1 m1 k1 : Nat) (q r : Rat) (w : World) (hx : RatG w (.agg #[.bool s0, .slice A0 l0 c0, .slice B0 m0 k0]) q) (hy : RatG w (.agg #[.bool s1, .slice A1 l1 c1, .slice B1 m1 k1]) r) (hz : r = 0) :
    Calls Try.prog 60 #[.agg #[.bool s0, .slice A0 l0 c0, .slice B0 m0 k0], .agg #[.bool s1, .slice A1 l1 c1, .slice B1 m1 k1]] w (RetE w zeroR 10) := by
  have HXX := Lib.hid hx
  have HYY := Lib.hid hy
  clear hx hy
  have HS : Hid (sgnQ r = 0) := by show _ = _; rw [hz]; rfl
  clear hz
  have hXe : Ext w ((((w.alloc (.cells #[.bool s0, .slice A0 l0 c0, .slice B0 m0 k0] 33)).alloc (.cells #[.bool s1, .slice A1 l1 c1, .slice B1 m1 k1] 33)).alloc (.cells #[.bool false, .slice none 0 0, .slice none 0 0] 33)).alloc (.cells #[.bool s0, .slice A0 l0 c0, .slice B0 m0 k0, .bool s1, .slice A1 l1 c1, .slice B1 m1 k1] 33)) := (((((Ext.refl w).alloc _).alloc _).alloc _).alloc _)
  have kA : Blk ((((w.alloc (.cells #[.bool s0, .slice A0 l0 c0, .slice B0 m0 k0] 33)).alloc (.cells #[.bool s1, .slice A1 l1 c1, .slice B1 m1 k1] 33)).alloc (.cells #[.bool false, .slice none 0 0, .slice none 0 0] 33)).alloc (.cells #[.bool s0, .slice A0 l0 c0, .slice B0 m0 k0, .bool s1, .slice A1 l1 c1, .slice B1 m1 k1] 33)) w.heap.size 33 #[.bool s0, .slice A0 l0 c0, .slice B0 m0 k0] := Blk.alloc (Blk.alloc (Blk.alloc (Blk.at_ (by simp)) _) _) _
  have kB : Blk ((((w.alloc (.cells #[.bool s0, .slice A0 l0 c0, .slice B0 m0 k0] 33)).alloc (.cells #[.bool s1, .slice A1 l1 c1, .slice B1 m1 k1] 33)).alloc (.cells #[.bool false, .slice none 0 0, .slice none 0 0] 33)).alloc (.cells #[.bool s0, .slice A0 l0 c0, .slice B0 m0 k0, .bool s1, .slice A1 l1 c1, .slice B1 m1 k1] 33)) (w.heap.size + 1) 33 #[.bool s1, .slice A1 l1 c1, .slice B1 m1 k1] := Blk.alloc (Blk.alloc (Blk.at_ (by simp)) _) _
  have kR : Blk ((((w.alloc (.cells #[.bool s0, .slice A0 l0 c0, .slice B0 m0 k0] 33)).alloc (.cells #[.bool s1, .slice A1 l1 c1, .slice B1 m1 k1] 33)).alloc (.cells #[.bool false, .slice none 0 0, .slice none 0 0] 33)).alloc (.cells #[.bool s0, .slice A0 l0 c0, .slice B0 m0 k0, .bool s1, .slice A1 l1 c1, .slice B1 m1 k1] 33)) (w.heap.size + 2) 33 #[.bool false, .slice none 0 0, .slice none 0 0] := Blk.alloc (Blk.at_ (by simp)) _
  have kP : Blk ((((w.alloc (.cells #[.bool s0, .slice A0 l0 c0, .slice B0 m0 k0] 33)).alloc (.cells #[.bool s1, .slice A1 l1 c1, .slice B1 m1 k1] 33)).alloc (.cells #[.bool false, .slice none 0 0, .slice none 0 0] 33)).alloc (.cells #[.bool s0, .slice A0 l0 c0, .slice B0 m0 k0, .bool s1, .slice A1 l1 c1, .slice B1 m1 k1] 33)) (w.heap.size + 3) 33 #[.bool s0, .slice A0 l0 c0, .slice B0 m0 k0, .bool s1, .slice A1 l1 c1, .slice B1 m1 k1] := Blk.at_ (by simp)
  go_enter Try.func60, Try.ntmps60
  go_wp2_with fail
  generalize ((((w.alloc (.cells #[.bool s0, .slice A0 l0 c0, .slice B0 m0 k0] 33)).alloc (.cells #[.bool s1, .slice A1 l1 c1, .slice B1 m1 k1] 33)).alloc (.cells #[.bool false, .slice none 0 0, .slice none 0 0] 33)).alloc (.cells #[.bool s0, .slice A0 l0 c0, .slice B0 m0 k0, .bool s1, .slice A1 l1 c1, .slice B1 m1 k1] 33)) = w1 at hXe kA kB kR kP ⊢
  have HX := Lib.hid hXe
  clear hXe
  have KA := Lib.hid kA
  clear kA
  have KB := Lib.hid kB
  clear kB
  have KR := Lib.hid kR
  clear kR
  have KP := Lib.hid kP
  clear kP
  refine (anyLarge_two s0 s1 A0 B0 A1 B1 l0 c0 m0 k0 l1 c1 m1 k1 false false _ _ KP.out ((HXX.out.small).ext HX.out) ((HYY.out.small).ext HX.out)).mono ?_
  rintro e w2 ⟨rfl, hX⟩
  replace HX := Lib.hid (HX.out.trans hX)
  replace KA := Lib.hid (KA.out.ext hX)
  replace KB := Lib.hid (KB.out.ext hX)
  replace KR := Lib.hid (KR.out.ext hX)
  replace KP := Lib.hid (KP.out.ext hX)
  clear hX
  clear KP
  replace HXX := Lib.hid (HXX.out.ext HX.out)
  replace HYY := Lib.hid (HYY.out.ext HX.out)
  have cB0 : w2.cell? ⟨(w.heap.size + 1), 0, none⟩ = some (.bool s1) := KB.out.cell 0
  have cB1 : w2.cell? ⟨(w.heap.size + 1), 1, none⟩ = some (.slice A1 l1 c1) := KB.out.cell 1
  have cB2 : w2.cell? ⟨(w.heap.size + 1), 2, none⟩ = some (.slice B1 m1 k1) := KB.out.cell 2
  go_wp2_with fail
  clear cB0 cB1 cB2
  refine (ofG HYY.out).mono ?_
  rintro e w3 ⟨vn, rfl, hn, hX⟩
  replace HX := Lib.hid (HX.out.trans hX)
  replace HXX := Lib.hid (HXX.out.ext hX)
  replace HYY := Lib.hid (HYY.out.ext hX)
  replace KA := Lib.hid (KA.out.ext hX)
  replace KB := Lib.hid (KB.out.ext hX)
  replace KR := Lib.hid (KR.out.ext hX)
  clear hX
  obtain ⟨t1, C1, n1, o1, D1, f1, h1, rfl⟩ := hn.open
  have HN := Lib.hid hn
  clear hn
  go_upto_region 4 with (fail)
  have hXa : Ext w3 (w3.alloc (.cells #[.bool t1, .slice C1 n1 o1, .slice D1 f1 h1] 96)) := (Ext.refl _).alloc _
  have kZ := Blk.new w3 96 #[.bool t1, .slice C1 n1 o1, .slice D1 f1 h1]
  have zA := KA.out.lt
  have zB := KB.out.lt
  have zR := KR.out.lt
  have zg := HX.out.size
  replace HX := Lib.hid (HX.out.trans hXa)
  replace HXX := Lib.hid (HXX.out.ext hXa)
  replace HYY := Lib.hid (HYY.out.ext hXa)
  replace HN := Lib.hid (HN.out.ext hXa)
  replace KA := Lib.hid (KA.out.ext hXa)
  replace KB := Lib.hid (KB.out.ext hXa)
  replace KR := Lib.hid (KR.out.ext hXa)
  generalize (w3.alloc (.cells #[.bool t1, .slice C1 n1 o1, .slice D1 f1 h1] 96)) = w4 at HX HXX HYY HN KA KB KR kZ ⊢
  have KZ := Lib.hid kZ
  clear kZ hXa
  have cA0 : w4.cell? ⟨w.heap.size, 0, none⟩ = some (.bool s0) := KA.out.cell 0
  have cA1 : w4.cell? ⟨w.heap.size, 1, none⟩ = some (.slice A0 l0 c0) := KA.out.cell 1
  have cA2 : w4.cell? ⟨w.heap.size, 2, none⟩ = some (.slice B0 m0 k0) := KA.out.cell 2
  have cB0 : w4.cell? ⟨(w.heap.size + 1), 0, none⟩ = some (.bool s1) := KB.out.cell 0
  have cB1 : w4.cell? ⟨(w.heap.size + 1), 1, none⟩ = some (.slice A1 l1 c1) := KB.out.cell 1
  have cB2 : w4.cell? ⟨(w.heap.size + 1), 2, none⟩ = some (.slice B1 m1 k1) := KB.out.cell 2
  have cR0 : w4.cell? ⟨(w.heap.size + 2), 0, none⟩ = some (.bool false) := KR.out.cell 0
  have cR1 : w4.cell? ⟨(w.heap.size + 2), 1, none⟩ = some (.slice none 0 0) := KR.out.cell 1
  have cR2 : w4.cell? ⟨(w.heap.size + 2), 2, none⟩ = some (.slice none 0 0) := KR.out.cell 2
  have cZ0 : w4.cell? ⟨w3.heap.size, 0, none⟩ = some (.bool t1) := KZ.out.cell 0
  have cZ1 : w4.cell? ⟨w3.heap.size, 1, none⟩ = some (.slice C1 n1 o1) := KZ.out.cell 1
  have cZ2 : w4.cell? ⟨w3.heap.size, 2, none⟩ = some (.slice D1 f1 h1) := KZ.out.cell 2
  go_wp2_with fail
  clear cA0 cA1 cA2 cB0 cB1 cB2 cR0 cR1 cR2 cZ0 cZ1 cZ2
  refine (signX HN.out).mono ?_
  rw [HS.out]
  rintro e w5 ⟨rfl, hX⟩
  replace HX := Lib.hid (HX.out.trans hX)
  replace HXX := Lib.hid (HXX.out.ext hX)
  replace HYY := Lib.hid (HYY.out.ext hX)
  replace HN := Lib.hid (HN.out.ext hX)
  replace KA := Lib.hid (KA.out.ext hX)
  replace KB := Lib.hid (KB.out.ext hX)
  replace KR := Lib.hid (KR.out.ext hX)
  replace KZ := Lib.hid (KZ.out.ext hX)
  clear hX
  have cR0 : w5.cell? ⟨(w.heap.size + 2), 0, none⟩ = some (.bool false) := KR.out.cell 0
  have fR0 : w5.frozen? ⟨(w.heap.size + 2), 0, none⟩ = false := KR.out.free 0
  have cR1 : w5.cell? ⟨(w.heap.size + 2), 1, none⟩ = some (.slice none 0 0) := KR.out.cell 1
  have fR1 : w5.frozen? ⟨(w.heap.size + 2), 1, none⟩ = false := KR.out.free 1
  have cR2 : w5.cell? ⟨(w.heap.size + 2), 2, none⟩ = some (.slice none 0 0) := KR.out.cell 2
  have fR2 : w5.frozen? ⟨(w.heap.size + 2), 2, none⟩ = false := KR.out.free 2
  go_wp2
  refine bodyPost_ret (v := .tuple #[zeroR, .int .i64 10]) (by simp [results, zeroR, Try.results60, go_sem, *]) rfl ?_
  exact ⟨rfl, Ext.boxed HX.out (by omega) _ _ _⟩

set_option maxRecDepth 100000 in
set_option maxHeartbeats 2000000 in
theorem ediv_ok (s0 s1 : Bool) (A0 B0 A1 B1 : Option Addr) (l0 c0 m0 k0 l1 c1 m1 k1 : Nat) (q r : Rat) (w : World) (hx : RatG w (.agg #[.bool s0, .slice A0 l0 c0, .slice B0 m0 k0]) q) (hy : RatG w (.agg #[.bool s1, .slice A1 l1 c1, .slice B1 m1 k1]) r) (hr0 : r ≠ 0) (hf : FitQW (q / r)) :
    Calls Try.prog 60 #[.agg #[.bool s0, .slice A0 l0 c0, .slice B0 m0 k0], .agg #[.bool s1, .slice A1 l1 c1, .slice B1 m1 k1]] w (RetC w (q / r)) := by
  have HXX := Lib.hid hx
  have HYY := Lib.hid hy
  clear hx hy
  have HR0 := Lib.hid hr0
  have HF := Lib.hid hf
  obtain ⟨sg, hsg⟩ : ∃ s, sgnQ r = s := ⟨_, rfl⟩
  have hs0 : (sg == 0) = false := by
    rw [← hsg]
    simp only [beq_eq_false_iff_ne, ne_eq]
    exact fun h => hr0 (sgnQ_is_zero h)
  have HS := Lib.hid hsg
  clear hr0 hf hsg
  have hXe : Ext w ((((w.alloc (.cells #[.bool s0, .slice A0 l0 c0, .slice B0 m0 k0] 33)).alloc (.cells #[.bool s1, .slice A1 l1 c1, .slice B1 m1 k1] 33)).alloc (.cells #[.bool false, .slice none 0 0, .slice none 0 0] 33)).alloc (.cells #[.bool s0, .slice A0 l0 c0, .slice B0 m0 k0, .bool s1, .slice A1 l1 c1, .slice B1 m1 k1] 33)) := (((((Ext.refl w).alloc _).alloc _).alloc _).alloc _)
  have kA : Blk ((((w.alloc (.cells #[.bool s0, .slice A0 l0 c0, .slice B0 m0 k0] 33)).alloc (.cells #[.bool s1, .slice A1 l1 c1, .slice B1 m1 k1] 33)).alloc (.cells #[.bool false, .slice none 0 0, .slice none 0 0] 33)).alloc (.cells #[.bool s0, .slice A0 l0 c0, .slice B0 m0 k0, .bool s1, .slice A1 l1 c1, .slice B1 m1 k1] 33)) w.heap.size 33 #[.bool s0, .slice A0 l0 c0, .slice B0 m0 k0] := Blk.alloc (Blk.alloc (Blk.alloc (Blk.at_ (by simp)) _) _) _
  have kB : Blk ((((w.alloc (.cells #[.bool s0, .slice A0 l0 c0, .slice B0 m0 k0] 33)).alloc (.cells #[.bool s1, .slice A1 l1 c1, .slice B1 m1 k1] 33)).alloc (.cells #[.bool false, .slice none 0 0, .slice none 0 0] 33)).alloc (.cells #[.bool s0, .slice A0 l0 c0, .slice B0 m0 k0, .bool s1, .slice A1 l1 c1, .slice B1 m1 k1] 33)) (w.heap.size + 1) 33 #[.bool s1, .slice A1 l1 c1, .slice B1 m1 k1] := Blk.alloc (Blk.alloc (Blk.at_ (by simp)) _) _
  have kR : Blk ((((w.alloc (.cells #[.bool s0, .slice A0 l0 c0, .slice B0 m0 k0] 33)).alloc (.cells #[.bool s1, .slice A1 l1 c1, .slice B1 m1 k1] 33)).alloc (.cells #[.bool false, .slice none 0 0, .slice none 0 0] 33)).alloc (.cells #[.bool s0, .slice A0 l0 c0, .slice B0 m0 k0, .bool s1, .slice A1 l1 c1, .slice B1 m1 k1] 33)) (w.heap.size + 2) 33 #[.bool false, .slice none 0 0, .slice none 0 0] := Blk.alloc (Blk.at_ (by simp)) _
  have kP : Blk ((((w.alloc (.cells #[.bool s0, .slice A0 l0 c0, .slice B0 m0 k0] 33)).alloc (.cells #[.bool s1, .slice A1 l1 c1, .slice B1 m1 k1] 33)).alloc (.cells #[.bool false, .slice none 0 0, .slice none 0 0] 33)).alloc (.cells #[.bool s0, .slice A0 l0 c0, .slice B0 m0 k0, .bool s1, .slice A1 l1 c1, .slice B1 m1 k1] 33)) (w.heap.size + 3) 33 #[.bool s0, .slice A0 l0 c0, .slice B0 m0 k0, .bool s1, .slice A1 l1 c1, .slice B1 m1 k1] := Blk.at_ (by simp)
  go_enter Try.func60, Try.ntmps60
  go_wp2_with fail
  generalize ((((w.alloc (.cells #[.bool s0, .slice A0 l0 c0, .slice B0 m0 k0] 33)).alloc (.cells #[.bool s1, .slice A1 l1 c1, .slice B1 m1 k1] 33)).alloc (.cells #[.bool false, .slice none 0 0, .slice none 0 0] 33)).alloc (.cells #[.bool s0, .slice A0 l0 c0, .slice B0 m0 k0, .bool s1, .slice A1 l1 c1, .slice B1 m1 k1] 33)) = w1 at hXe kA kB kR kP ⊢
  have HX := Lib.hid hXe
  clear hXe
  have KA := Lib.hid kA
  clear kA
  have KB := Lib.hid kB
  clear kB
  have KR := Lib.hid kR
  clear kR
  have KP := Lib.hid kP
  clear kP
  refine (anyLarge_two s0 s1 A0 B0 A1 B1 l0 c0 m0 k0 l1 c1 m1 k1 false false _ _ KP.out ((HXX.out.small).ext HX.out) ((HYY.out.small).ext HX.out)).mono ?_
  rintro e w2 ⟨rfl, hX⟩
  replace HX := Lib.hid (HX.out.trans hX)
  replace KA := Lib.hid (KA.out.ext hX)
  replace KB := Lib.hid (KB.out.ext hX)
  replace KR := Lib.hid (KR.out.ext hX)
  replace KP := Lib.hid (KP.out.ext hX)
  clear hX
  clear KP
  replace HXX := Lib.hid (HXX.out.ext HX.out)
  replace HYY := Lib.hid (HYY.out.ext HX.out)
  have cB0 : w2.cell? ⟨(w.heap.size + 1), 0, none⟩ = some (.bool s1) := KB.out.cell 0
  have cB1 : w2.cell? ⟨(w.heap.size + 1), 1, none⟩ = some (.slice A1 l1 c1) := KB.out.cell 1
  have cB2 : w2.cell? ⟨(w.heap.size + 1), 2, none⟩ = some (.slice B1 m1 k1) := KB.out.cell 2
  go_wp2_with fail
  clear cB0 cB1 cB2
  refine (ofG HYY.out).mono ?_
  rintro e w3 ⟨vn, rfl, hn, hX⟩
  replace HX := Lib.hid (HX.out.trans hX)
  replace HXX := Lib.hid (HXX.out.ext hX)
  replace HYY := Lib.hid (HYY.out.ext hX)
  replace KA := Lib.hid (KA.out.ext hX)
  replace KB := Lib.hid (KB.out.ext hX)
  replace KR := Lib.hid (KR.out.ext hX)
  clear hX
  obtain ⟨t1, C1, n1, o1, D1, f1, h1, rfl⟩ := hn.open
  have HN := Lib.hid hn
  clear hn
  go_upto_region 4 with (fail)
  have hXa : Ext w3 (w3.alloc (.cells #[.bool t1, .slice C1 n1 o1, .slice D1 f1 h1] 96)) := (Ext.refl _).alloc _
  have kZ := Blk.new w3 96 #[.bool t1, .slice C1 n1 o1, .slice D1 f1 h1]
  have zA := KA.out.lt
  have zB := KB.out.lt
  have zR := KR.out.lt
  have zg := HX.out.size
  replace HX := Lib.hid (HX.out.trans hXa)
  replace HXX := Lib.hid (HXX.out.ext hXa)
  replace HYY := Lib.hid (HYY.out.ext hXa)
  replace HN := Lib.hid (HN.out.ext hXa)
  replace KA := Lib.hid (KA.out.ext hXa)
  replace KB := Lib.hid (KB.out.ext hXa)
  replace KR := Lib.hid (KR.out.ext hXa)
  generalize (w3.alloc (.cells #[.bool t1, .slice C1 n1 o1, .slice D1 f1 h1] 96)) = w4 at HX HXX HYY HN KA KB KR kZ ⊢
  have KZ := Lib.hid kZ
  clear kZ hXa
  have cA0 : w4.cell? ⟨w.heap.size, 0, none⟩ = some (.bool s0) := KA.out.cell 0
  have cA1 : w4.cell? ⟨w.heap.size, 1, none⟩ = some (.slice A0 l0 c0) := KA.out.cell 1
  have cA2 : w4.cell? ⟨w.heap.size, 2, none⟩ = some (.slice B0 m0 k0) := KA.out.cell 2
  have cB0 : w4.cell? ⟨(w.heap.size + 1), 0, none⟩ = some (.bool s1) := KB.out.cell 0
  have cB1 : w4.cell? ⟨(w.heap.size + 1), 1, none⟩ = some (.slice A1 l1 c1) := KB.out.cell 1
  have cB2 : w4.cell? ⟨(w.heap.size + 1), 2, none⟩ = some (.slice B1 m1 k1) := KB.out.cell 2
  have cR0 : w4.cell? ⟨(w.heap.size + 2), 0, none⟩ = some (.bool false) := KR.out.cell 0
  have cR1 : w4.cell? ⟨(w.heap.size + 2), 1, none⟩ = some (.slice none 0 0) := KR.out.cell 1
  have cR2 : w4.cell? ⟨(w.heap.size + 2), 2, none⟩ = some (.slice none 0 0) := KR.out.cell 2
  have cZ0 : w4.cell? ⟨w3.heap.size, 0, none⟩ = some (.bool t1) := KZ.out.cell 0
  have cZ1 : w4.cell? ⟨w3.heap.size, 1, none⟩ = some (.slice C1 n1 o1) := KZ.out.cell 1
  have cZ2 : w4.cell? ⟨w3.heap.size, 2, none⟩ = some (.slice D1 f1 h1) := KZ.out.cell 2
  go_wp2_with fail
  clear cA0 cA1 cA2 cB0 cB1 cB2 cR0 cR1 cR2 cZ0 cZ1 cZ2
  refine (signX HN.out).mono ?_
  rw [HS.out]
  rintro e w5 ⟨rfl, hX⟩
  replace HX := Lib.hid (HX.out.trans hX)
  replace HXX := Lib.hid (HXX.out.ext hX)
  replace HYY := Lib.hid (HYY.out.ext hX)
  replace HN := Lib.hid (HN.out.ext hX)
  replace KA := Lib.hid (KA.out.ext hX)
  replace KB := Lib.hid (KB.out.ext hX)
  replace KR := Lib.hid (KR.out.ext hX)
  replace KZ := Lib.hid (KZ.out.ext hX)
  clear hX
  go_upto_region 6 with (fail)
  refine ediv_rok w.heap.size w3.heap.size s0 A0 B0 l0 c0 m0 k0 t1 C1 D1 n1 o1 f1 h1 q r w5 (KA.out.cell 0) (KA.out.cell 1) (KA.out.cell 2) (KZ.out.cell 0) (KZ.out.cell 1) (KZ.out.cell 2) HXX.out HN.out HR0.out HF.out _ _ (by simp) rfl rfl ?_
  rintro xv0 xv1 xv2 xv3 xv4 xv5 xv6 w6 rfl _ rfl _ _ hr rfl hXW
  simp only [rops, Try.f60, regOf, Option.bind_some, Nat.reduceBEq, if_true, if_false, Bool.false_eq_true, Option.getD_some, List.drop_succ_cons, List.drop_zero]
  simp only [Act.put, List.setIfInBounds_toArray, List.set_cons_succ, List.set_cons_zero]
  replace HX := Lib.hid (HX.out.trans hXW)
  replace HXX := Lib.hid (HXX.out.ext hXW)
  replace HYY := Lib.hid (HYY.out.ext hXW)
  replace HN := Lib.hid (HN.out.ext hXW)
  replace KA := Lib.hid (KA.out.ext hXW)
  replace KB := Lib.hid (KB.out.ext hXW)
  replace KR := Lib.hid (KR.out.ext hXW)
  replace KZ := Lib.hid (KZ.out.ext hXW)
  clear hXW
  obtain ⟨s9, A9, l9, c9, B9, m9, k9, rfl⟩ := hr.open
  have HV := Lib.hid (hr.past (NoInts.three KR.out) s9 A9 B9 l9 c9 m9 k9)
  clear hr
  have cR0 : w6.cell? ⟨(w.heap.size + 2), 0, none⟩ = some (.bool false) := KR.out.cell 0
  have fR0 : w6.frozen? ⟨(w.heap.size + 2), 0, none⟩ = false := KR.out.free 0
  have cR1 : w6.cell? ⟨(w.heap.size + 2), 1, none⟩ = some (.slice none 0 0) := KR.out.cell 1
  have fR1 : w6.frozen? ⟨(w.heap.size + 2), 1, none⟩ = false := KR.out.free 1
  have cR2 : w6.cell? ⟨(w.heap.size + 2), 2, none⟩ = some (.slice none 0 0) := KR.out.cell 2
  have fR2 : w6.frozen? ⟨(w.heap.size + 2), 2, none⟩ = false := KR.out.free 2
  go_wp2
  refine bodyPost_ret (v := .tuple #[.agg #[.bool s9, .slice A9 l9 c9, .slice B9 m9 k9], .int .i64 0]) (by simp [results, Try.results60, go_sem, *]) rfl ?_
  exact ⟨_, rfl, HV.out, Ext.boxed HX.out (by omega) _ _ _⟩

set_option maxRecDepth 100000 in
set_option maxHeartbeats 2000000 in
theorem ediv_big (s0 s1 : Bool) (A0 B0 A1 B1 : Option Addr) (l0 c0 m0 k0 l1 c1 m1 k1 : Nat) (q r : Rat) (w : World) (hx : RatG w (.agg #[.bool s0, .slice A0 l0 c0, .slice B0 m0 k0]) q) (hy : RatG w (.agg #[.bool s1, .slice A1 l1 c1, .slice B1 m1 k1]) r) (hr0 : r ≠ 0) (hf : ¬ FitQW (q / r)) :
    Calls Try.prog 60 #[.agg #[.bool s0, .slice A0 l0 c0, .slice B0 m0 k0], .agg #[.bool s1, .slice A1 l1 c1, .slice B1 m1 k1]] w (RetE w zeroR 1) := by
  have HXX := Lib.hid hx
  have HYY := Lib.hid hy
  clear hx hy
  have HR0 := Lib.hid hr0
  have HF := Lib.hid hf
  obtain ⟨sg, hsg⟩ : ∃ s, sgnQ r = s := ⟨_, rfl⟩
  have hs0 : (sg == 0) = false := by
    rw [← hsg]
    simp only [beq_eq_false_iff_ne, ne_eq]
    exact fun h => hr0 (sgnQ_is_zero h)
  have HS := Lib.hid hsg
  clear hr0 hf hsg
  have hXe : Ext w ((((w.alloc (.cells #[.bool s0, .slice A0 l0 c0, .slice B0 m0 k0] 33)).alloc (.cells #[.bool s1, .slice A1 l1 c1, .slice B1 m1 k1] 33)).alloc (.cells #[.bool false, .slice none 0 0, .slice none 0 0] 33)).alloc (.cells #[.bool s0, .slice A0 l0 c0, .slice B0 m0 k0, .bool s1, .slice A1 l1 c1, .slice B1 m1 k1] 33)) := (((((Ext.refl w).alloc _).alloc _).alloc _).alloc _)
  have kA : Blk ((((w.alloc (.cells #[.bool s0, .slice A0 l0 c0, .slice B0 m0 k0] 33)).alloc (.cells #[.bool s1, .slice A1 l1 c1, .slice B1 m1 k1] 33)).alloc (.cells #[.bool false, .slice none 0 0, .slice none 0 0] 33)).alloc (.cells #[.bool s0, .slice A0 l0 c0, .slice B0 m0 k0, .bool s1, .slice A1 l1 c1, .slice B1 m1 k1] 33)) w.heap.size 33 #[.bool s0, .slice A0 l0 c0, .slice B0 m0 k0] := Blk.alloc (Blk.alloc (Blk.alloc (Blk.at_ (by simp)) _) _) _
  have kB : Blk ((((w.alloc (.cells #[.bool s0, .slice A0 l0 c0, .slice B0 m0 k0] 33)).alloc (.cells #[.bool s1, .slice A1 l1 c1, .slice B1 m1 k1] 33)).alloc (.cells #[.bool false, .slice none 0 0, .slice none 0 0] 33)).alloc (.cells #[.bool s0, .slice A0 l0 c0, .slice B0 m0 k0, .bool s1, .slice A1 l1 c1, .slice B1 m1 k1] 33)) (w.heap.size + 1) 33 #[.bool s1, .slice A1 l1 c1, .slice B1 m1 k1] := Blk.alloc (Blk.alloc (Blk.at_ (by simp)) _) _
  have kR : Blk ((((w.alloc (.cells #[.bool s0, .slice A0 l0 c0, .slice B0 m0 k0] 33)).alloc (.cells #[.bool s1, .slice A1 l1 c1, .slice B1 m1 k1] 33)).alloc (.cells #[.bool false, .slice none 0 0, .slice none 0 0] 33)).alloc (.cells #[.bool s0, .slice A0 l0 c0, .slice B0 m0 k0, .bool s1, .slice A1 l1 c1, .slice B1 m1 k1] 33)) (w.heap.size + 2) 33 #[.bool false, .slice none 0 0, .slice none 0 0] := Blk.alloc (Blk.at_ (by simp)) _
  have kP : Blk ((((w.alloc (.cells #[.bool s0, .slice A0 l0 c0, .slice B0 m0 k0] 33)).alloc (.cells #[.bool s1, .slice A1 l1 c1, .slice B1 m1 k1] 33)).alloc (.cells #[.bool false, .slice none 0 0, .slice none 0 0] 33)).alloc (.cells #[.bool s0, .slice A0 l0 c0, .slice B0 m0 k0, .bool s1, .slice A1 l1 c1, .slice B1 m1 k1] 33)) (w.heap.size + 3) 33 #[.bool s0, .slice A0 l0 c0, .slice B0 m0 k0, .bool s1, .slice A1 l1 c1, .slice B1 m1 k1] := Blk.at_ (by simp)
  go_enter Try.func60, Try.ntmps60
  go_wp2_with fail
  generalize ((((w.alloc (.cells #[.bool s0, .slice A0 l0 c0, .slice B0 m0 k0] 33)).alloc (.cells #[.bool s1, .slice A1 l1 c1, .slice B1 m1 k1] 33)).alloc (.cells #[.bool false, .slice none 0 0, .slice none 0 0] 33)).alloc (.cells #[.bool s0, .slice A0 l0 c0, .slice B0 m0 k0, .bool s1, .slice A1 l1 c1, .slice B1 m1 k1] 33)) = w1 at hXe kA kB kR kP ⊢
  have HX := Lib.hid hXe
  clear hXe
  have KA := Lib.hid kA
  clear kA
  have KB := Lib.hid kB
  clear kB
  have KR := Lib.hid kR
  clear kR
  have KP := Lib.hid kP
  clear kP
  refine (anyLarge_two s0 s1 A0 B0 A1 B1 l0 c0 m0 k0 l1 c1 m1 k1 false false _ _ KP.out ((HXX.out.small).ext HX.out) ((HYY.out.small).ext HX.out)).mono ?_
  rintro e w2 ⟨rfl, hX⟩
  replace HX := Lib.hid (HX.out.trans hX)
  replace KA := Lib.hid (KA.out.ext hX)
  replace KB := Lib.hid (KB.out.ext hX)
  replace KR := Lib.hid (KR.out.ext hX)
  replace KP := Lib.hid (KP.out.ext hX)
  clear hX
  clear KP
  replace HXX := Lib.hid (HXX.out.ext HX.out)
  replace HYY := Lib.hid (HYY.out.ext HX.out)
  have cB0 : w2.cell? ⟨(w.heap.size + 1), 0, none⟩ = some (.bool s1) := KB.out.cell 0
  have cB1 : w2.cell? ⟨(w.heap.size + 1), 1, none⟩ = some (.slice A1 l1 c1) := KB.out.cell 1
  have cB2 : w2.cell? ⟨(w.heap.size + 1), 2, none⟩ = some (.slice B1 m1 k1) := KB.out.cell 2
  go_wp2_with fail
  clear cB0 cB1 cB2
  refine (ofG HYY.out).mono ?_
  rintro e w3 ⟨vn, rfl, hn, hX⟩
  replace HX := Lib.hid (HX.out.trans hX)
  replace HXX := Lib.hid (HXX.out.ext hX)
  replace HYY := Lib.hid (HYY.out.ext hX)
  replace KA := Lib.hid (KA.out.ext hX)
  replace KB := Lib.hid (KB.out.ext hX)
  replace KR := Lib.hid (KR.out.ext hX)
  clear hX
  obtain ⟨t1, C1, n1, o1, D1, f1, h1, rfl⟩ := hn.open
  have HN := Lib.hid hn
  clear hn
  go_upto_region 4 with (fail)
  have hXa : Ext w3 (w3.alloc (.cells #[.bool t1, .slice C1 n1 o1, .slice D1 f1 h1] 96)) := (Ext.refl _).alloc _
  have kZ := Blk.new w3 96 #[.bool t1, .slice C1 n1 o1, .slice D1 f1 h1]
  have zA := KA.out.lt
  have zB := KB.out.lt
  have zR := KR.out.lt
  have zg := HX.out.size
  replace HX := Lib.hid (HX.out.trans hXa)
  replace HXX := Lib.hid (HXX.out.ext hXa)
  replace HYY := Lib.hid (HYY.out.ext hXa)
  replace HN := Lib.hid (HN.out.ext hXa)
  replace KA := Lib.hid (KA.out.ext hXa)
  replace KB := Lib.hid (KB.out.ext hXa)
  replace KR := Lib.hid (KR.out.ext hXa)
  generalize (w3.alloc (.cells #[.bool t1, .slice C1 n1 o1, .slice D1 f1 h1] 96)) = w4 at HX HXX HYY HN KA KB KR kZ ⊢
  have KZ := Lib.hid kZ
  clear kZ hXa
  have cA0 : w4.cell? ⟨w.heap.size, 0, none⟩ = some (.bool s0) := KA.out.cell 0
  have cA1 : w4.cell? ⟨w.heap.size, 1, none⟩ = some (.slice A0 l0 c0) := KA.out.cell 1
  have cA2 : w4.cell? ⟨w.heap.size, 2, none⟩ = some (.slice B0 m0 k0) := KA.out.cell 2
  have cB0 : w4.cell? ⟨(w.heap.size + 1), 0, none⟩ = some (.bool s1) := KB.out.cell 0
  have cB1 : w4.cell? ⟨(w.heap.size + 1), 1, none⟩ = some (.slice A1 l1 c1) := KB.out.cell 1
  have cB2 : w4.cell? ⟨(w.heap.size + 1), 2, none⟩ = some (.slice B1 m1 k1) := KB.out.cell 2
  have cR0 : w4.cell? ⟨(w.heap.size + 2), 0, none⟩ = some (.bool false) := KR.out.cell 0
  have cR1 : w4.cell? ⟨(w.heap.size + 2), 1, none⟩ = some (.slice none 0 0) := KR.out.cell 1
  have cR2 : w4.cell? ⟨(w.heap.size + 2), 2, none⟩ = some (.slice none 0 0) := KR.out.cell 2
  have cZ0 : w4.cell? ⟨w3.heap.size, 0, none⟩ = some (.bool t1) := KZ.out.cell 0
  have cZ1 : w4.cell? ⟨w3.heap.size, 1, none⟩ = some (.slice C1 n1 o1) := KZ.out.cell 1
  have cZ2 : w4.cell? ⟨w3.heap.size, 2, none⟩ = some (.slice D1 f1 h1) := KZ.out.cell 2
  go_wp2_with fail
  clear cA0 cA1 cA2 cB0 cB1 cB2 cR0 cR1 cR2 cZ0 cZ1 cZ2
  refine (signX HN.out).mono ?_
  rw [HS.out]
  rintro e w5 ⟨rfl, hX⟩
  replace HX := Lib.hid (HX.out.trans hX)
  replace HXX := Lib.hid (HXX.out.ext hX)
  replace HYY := Lib.hid (HYY.out.ext hX)
  replace HN := Lib.hid (HN.out.ext hX)
  replace KA := Lib.hid (KA.out.ext hX)
  replace KB := Lib.hid (KB.out.ext hX)
  replace KR := Lib.hid (KR.out.ext hX)
  replace KZ := Lib.hid (KZ.out.ext hX)
  clear hX
  go_upto_region 6 with (fail)
  refine ediv_rbig w.heap.size w3.heap.size s0 A0 B0 l0 c0 m0 k0 t1 C1 D1 n1 o1 f1 h1 q r w5 (KA.out.cell 0) (KA.out.cell 1) (KA.out.cell 2) (KZ.out.cell 0) (KZ.out.cell 1) (KZ.out.cell 2) HXX.out HN.out HR0.out HF.out _ _ (by simp) rfl rfl ?_
  rintro xv0 xv1 xv2 xv3 xv4 xv5 xv6 w6 rfl _ rfl _ rfl rfl rfl hXW
  simp only [rops, Try.f60, regOf, Option.bind_some, Nat.reduceBEq, if_true, if_false, Bool.false_eq_true, Option.getD_some, List.drop_succ_cons, List.drop_zero]
  simp only [Act.put, List.setIfInBounds_toArray, List.set_cons_succ, List.set_cons_zero]
  replace HX := Lib.hid (HX.out.trans hXW)
  replace HXX := Lib.hid (HXX.out.ext hXW)
  replace HYY := Lib.hid (HYY.out.ext hXW)
  replace HN := Lib.hid (HN.out.ext hXW)
  replace KA := Lib.hid (KA.out.ext hXW)
  replace KB := Lib.hid (KB.out.ext hXW)
  replace KR := Lib.hid (KR.out.ext hXW)
  replace KZ := Lib.hid (KZ.out.ext hXW)
  clear hXW
  unfold zeroR
  have cR0 : w6.cell? ⟨(w.heap.size + 2), 0, none⟩ = some (.bool false) := KR.out.cell 0
  have fR0 : w6.frozen? ⟨(w.heap.size + 2), 0, none⟩ = false := KR.out.free 0
  have cR1 : w6.cell? ⟨(w.heap.size + 2), 1, none⟩ = some (.slice none 0 0) := KR.out.cell 1
  have fR1 : w6.frozen? ⟨(w.heap.size + 2), 1, none⟩ = false := KR.out.free 1
  have cR2 : w6.cell? ⟨(w.heap.size + 2), 2, none⟩ = some (.slice none 0 0) := KR.out.cell 2
  have fR2 : w6.frozen? ⟨(w.heap.size + 2), 2, none⟩ = false := KR.out.free 2
  go_wp2
  refine bodyPost_ret (v := .tuple #[zeroR, .int .i64 1]) (by simp [results, zeroR, Try.results60, go_sem, *]) rfl ?_
  exact ⟨rfl, Ext.boxed HX.out (by omega) _ _ _⟩

end Go.Proofs.Yteoijnaljkagfaa
