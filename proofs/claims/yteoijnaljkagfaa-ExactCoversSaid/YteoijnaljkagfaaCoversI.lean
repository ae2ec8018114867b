/- Lemmas of the proof that follows (Covers, part 9): walks of functions by contract, and plain lemmas. Conditions: none. -/
import Derived.Test.YteoijnaljkagfaaCoversH
namespace Go.Proofs.Yteoijnaljkagfaa
open Go.RowKit

theorem SmallR.fit {neg : Bool} {xs ys : List Int} (h : SmallR xs ys) : FitQ (ratOf neg xs ys) 256 := fit_red (wD_pos ys) h.1.fit h.den.fit
theorem FitQW.of {q : Rat} (h : FitQ q 256) : FitQW q := ⟨⟨h.1⟩, ⟨h.2⟩⟩
/-- The zero value, as a result with an error. -/
def zeroR : Value := .agg #[.bool false, .slice none 0 0, .slice none 0 0]
/-- A pair of a value and an error. -/
def RetE (w : World) (v : Value) (n : Int) (e : Ending) (w' : World) : Prop := e = .returned (.tuple #[v, .int .i64 n]) ∧ Ext w w'

set_option maxRecDepth 100000 in
set_option maxHeartbeats 2000000 in
theorem etext_ok (v : Value) (neg : Bool) (xs ys : List Int) (w : World) (h : RatV w v neg xs ys) (hs : SmallR xs ys) :
    Calls Try.prog 37 #[v] w (fun e w' => ∃ b, e = .returned (.tuple #[.string b, .int .i64 0]) ∧ TextB (decide ((ratOf neg xs ys).num < 0)) (ratOf neg xs ys).num.natAbs (ratOf neg xs ys).den b ∧ Ext w w') := by
  have HR := Lib.hid h
  have HS := Lib.hid hs
  clear hs
  obtain ⟨A, l, c, B, m, k, rfl, _⟩ := h
  have hXw : Ext w ((w.alloc (.cells #[.bool neg, .slice A l c, .slice B m k] 33)).alloc (.cells #[.bool neg, .slice A l c, .slice B m k] 33)) := (((Ext.refl w).alloc _).alloc _)
  have hB1 : Blk ((w.alloc (.cells #[.bool neg, .slice A l c, .slice B m k] 33)).alloc (.cells #[.bool neg, .slice A l c, .slice B m k] 33)) w.heap.size 33 #[.bool neg, .slice A l c, .slice B m k] := (Blk.new w _ _).alloc _
  have hB2 : Blk ((w.alloc (.cells #[.bool neg, .slice A l c, .slice B m k] 33)).alloc (.cells #[.bool neg, .slice A l c, .slice B m k] 33)) (w.heap.size + 1) 33 #[.bool neg, .slice A l c, .slice B m k] := by
    have := Blk.new (w.alloc (.cells #[.bool neg, .slice A l c, .slice B m k] 33)) 33 #[.bool neg, .slice A l c, .slice B m k]
    simpa using this
  go_enter Try.func37, Try.ntmps37
  go_wp2_with fail
  generalize ((w.alloc (.cells #[.bool neg, .slice A l c, .slice B m k] 33)).alloc (.cells #[.bool neg, .slice A l c, .slice B m k] 33)) = w1 at hXw hB1 hB2 ⊢
  refine (anyLarge_one false _ _ neg A B l c m k xs ys _ hB2 (HR.out.ext hXw) (by simp [HS.out])).mono ?_
  rintro e w2 ⟨rfl, hX2⟩
  obtain ⟨x0, x1, x2, _, _, _⟩ := (hB1.ext hX2).three
  have HX2 := Lib.hid (hXw.trans hX2)
  have HX12 := Lib.hid hX2
  clear hXw hB1 hB2 hX2
  go_wp2_with fail
  refine (of_any _ neg xs ys 256 _ (HR.out.ext HX2.out) HS.out.1.fit HS.out.den.fit (by omega)).mono ?_
  rintro e w3 ⟨v3, rfl, hv3, hX3⟩
  obtain ⟨A3, l3, c3, B3, m3, k3, rfl, _⟩ := NumV.open hv3
  have HV3 := Lib.hid (NumQ.numx hv3 HS.out.fit)
  have HQ3 := Lib.hid hv3
  have HX3 := Lib.hid (HX2.out.trans hX3)
  clear hX3 hv3 x0 x1 x2
  go_wp2_with fail
  refine (rtext_any _ _ _ _ 256 _ HQ3.out (ratOf neg xs ys).den_pos HS.out.fit.1 HS.out.fit.2 (by omega)).mono ?_
  rintro e w4 ⟨b, rfl, hb, hX4⟩
  have HX4 := Lib.hid (HX3.out.trans hX4)
  have HB := Lib.hid hb
  clear hX4 hb
  go_wp2
  go_ret2
  exact ⟨_, rfl, HB.out, HX4.out⟩

set_option maxRecDepth 100000 in
set_option maxHeartbeats 2000000 in
theorem eceil_ok (v : Value) (neg : Bool) (xs ys : List Int) (w : World) (h : RatV w v neg xs ys) (hs : SmallR xs ys) (h0 : -1152921504606846976 ≤ (-(ratOf neg xs ys)).floor) (h1 : (-(ratOf neg xs ys)).floor ≤ 1152921504606846976) :
    Calls Try.prog 29 #[v] w (RetE w (.int .i64 (-(-(ratOf neg xs ys)).floor)) 0) := by
  have HR := Lib.hid h
  have HS := Lib.hid hs
  clear hs
  obtain ⟨A, l, c, B, m, k, rfl, _⟩ := h
  have hXw : Ext w ((w.alloc (.cells #[.bool neg, .slice A l c, .slice B m k] 33)).alloc (.cells #[.bool neg, .slice A l c, .slice B m k] 33)) := (((Ext.refl w).alloc _).alloc _)
  have hB1 : Blk ((w.alloc (.cells #[.bool neg, .slice A l c, .slice B m k] 33)).alloc (.cells #[.bool neg, .slice A l c, .slice B m k] 33)) w.heap.size 33 #[.bool neg, .slice A l c, .slice B m k] := (Blk.new w _ _).alloc _
  have hB2 : Blk ((w.alloc (.cells #[.bool neg, .slice A l c, .slice B m k] 33)).alloc (.cells #[.bool neg, .slice A l c, .slice B m k] 33)) (w.heap.size + 1) 33 #[.bool neg, .slice A l c, .slice B m k] := by
    have := Blk.new (w.alloc (.cells #[.bool neg, .slice A l c, .slice B m k] 33)) 33 #[.bool neg, .slice A l c, .slice B m k]
    simpa using this
  go_enter Try.func29, Try.ntmps29
  go_wp2_with fail
  generalize ((w.alloc (.cells #[.bool neg, .slice A l c, .slice B m k] 33)).alloc (.cells #[.bool neg, .slice A l c, .slice B m k] 33)) = w1 at hXw hB1 hB2 ⊢
  refine (anyLarge_one false _ _ neg A B l c m k xs ys _ hB2 (HR.out.ext hXw) (by simp [HS.out])).mono ?_
  rintro e w2 ⟨rfl, hX2⟩
  obtain ⟨x0, x1, x2, _, _, _⟩ := (hB1.ext hX2).three
  have HX2 := Lib.hid (hXw.trans hX2)
  have HX12 := Lib.hid hX2
  clear hXw hB1 hB2 hX2
  go_wp2_with fail
  refine (of_any _ neg xs ys 256 _ (HR.out.ext HX2.out) HS.out.1.fit HS.out.den.fit (by omega)).mono ?_
  rintro e w3 ⟨v3, rfl, hv3, hX3⟩
  obtain ⟨A3, l3, c3, B3, m3, k3, rfl, _⟩ := NumV.open hv3
  have HV3 := Lib.hid (NumQ.numx hv3 HS.out.fit)
  have HQ3 := Lib.hid hv3
  have HX3 := Lib.hid (HX2.out.trans hX3)
  clear hX3 hv3 x0 x1 x2
  go_wp2_with fail
  refine (negX HV3.out).mono ?_
  rintro e w4 ⟨v4, rfl, hv4, hX4⟩
  obtain ⟨s4, A4, l4, c4, B4, m4, k4, rfl⟩ := hv4.open
  have HV4 := Lib.hid hv4
  have HX4 := Lib.hid (HX3.out.trans hX4)
  clear hX4 hv4
  go_wp2_with fail
  refine (xfloor_ok _ _ 256 _ HV4.out (by omega) h0 h1).mono ?_
  rintro e w5 ⟨rfl, hX5⟩
  have HX5 := Lib.hid (HX4.out.trans hX5)
  clear hX5
  generalize hf : (-(ratOf neg xs ys)).floor = f at h0 h1 ⊢
  have HF := Lib.hid hf
  clear hf
  go_wp2
  go_ret2
  exact ⟨by rw [HF.out]; rfl, HX5.out⟩

end Go.Proofs.Yteoijnaljkagfaa
namespace Go.Proofs.Yteoijnaljkagfaa
open Go.RowKit

theorem RatC.past {w : World} {v : Value} {q : Rat} {g : Nat} (h : RatC w v q) (hN : NoInts w g) (b : Bool) (A1 A2 : Option Addr) (l1 c1 l2 c2 : Nat) :
    RatC (((w.setCell ⟨g, 0, none⟩ (.bool b)).setCell ⟨g, 1, none⟩ (.slice A1 l1 c1)).setCell ⟨g, 2, none⟩ (.slice A2 l2 c2)) v q := by
  obtain ⟨xs, ys, ⟨A, l, c, B, m, k, rfl, h1, h2, h3, h4, h5, h6⟩, hx, hy⟩ := h
  refine ⟨xs, ys, ⟨A, l, c, B, m, k, rfl, ?_, h2, h3, ?_, h5, h6⟩, hx, hy⟩
  · exact ((h1.past hN.cell 0 _).past (hN.set 0 (noInt_bool _)).cell 1 _).past ((hN.set 0 (noInt_bool _)).set 1 (noInt_slice _ _ _)).cell 2 _
  · exact ((h4.past hN.cell 0 _).past (hN.set 0 (noInt_bool _)).cell 1 _).past ((hN.set 0 (noInt_bool _)).set 1 (noInt_slice _ _ _)).cell 2 _
theorem RatC.open {w : World} {v : Value} {q : Rat} (h : RatC w v q) : ∃ s A l c B m k, v = .agg #[.bool s, .slice A l c, .slice B m k] := by
  obtain ⟨xs, ys, ⟨A, l, c, B, m, k, rfl, _⟩, _⟩ := h
  exact ⟨_, _, _, _, _, _, _, rfl⟩
theorem FitQW.of4 {q : Rat} {L : Nat} (h : FitQ q L) (hl : L ≤ 256) : FitQW q := FitQW.of (h.mono hl)
set_option maxRecDepth 100000 in
set_option maxHeartbeats 2000000 in
theorem eratio_ok (a b : Int) (w : World) (h0 : -9223372036854775808 ≤ a) (h1 : a ≤ 9223372036854775807) (h2 : -9223372036854775808 ≤ b) (h3 : b ≤ 9223372036854775807) (hb : b ≠ 0) :
    Calls Try.prog 22 #[.int .i64 a, .int .i64 b] w (RetC w ((a : Rat) / (b : Rat))) := by
  have hXw : Ext w (w.alloc (.cells #[.bool false, .slice none 0 0, .slice none 0 0] 33)) := (Ext.refl w).alloc _
  have hBR : Blk (w.alloc (.cells #[.bool false, .slice none 0 0, .slice none 0 0] 33)) w.heap.size 33 #[.bool false, .slice none 0 0, .slice none 0 0] := Blk.new w _ _
  have hbq : ((b : Int) : Rat) ≠ 0 := by simpa using hb
  have HBQ := Lib.hid hbq
  have hb' : (b == 0) = false := by simpa using hb
  go_enter Try.func22, Try.ntmps22
  go_wp2_with fail
  generalize (w.alloc (.cells #[.bool false, .slice none 0 0, .slice none 0 0] 33)) = w1 at hXw hBR ⊢
  refine (intX a _ h0 h1).mono ?_
  rintro e w2 ⟨v2, rfl, hv2, hX2⟩
  obtain ⟨s2, A2, l2, c2, B2, m2, k2, rfl⟩ := hv2.open
  have HV2 := Lib.hid hv2
  have HX2 := Lib.hid (hXw.trans hX2)
  have HB2 := Lib.hid (hBR.ext hX2)
  clear hXw hBR hX2 hv2 hb' hbq hb
  go_wp2_with fail
  refine (intX b _ h2 h3).mono ?_
  rintro e w3 ⟨v3, rfl, hv3, hX3⟩
  obtain ⟨s3, A3, l3, c3, B3, m3, k3, rfl⟩ := hv3.open
  have HV3 := Lib.hid hv3
  have HV2' := Lib.hid (HV2.out.ext hX3)
  have HX3 := Lib.hid (HX2.out.trans hX3)
  have HB3 := Lib.hid (HB2.out.ext hX3)
  clear hX3 hv3
  go_wp2_with fail
  refine (divX HV2'.out HV3.out HBQ.out (by omega) (by omega)).mono ?_
  rintro e w4 ⟨v4, rfl, hv4, hX4⟩
  obtain ⟨s4, A4, l4, c4, B4, m4, k4, rfl⟩ := hv4.open
  have HV4 := Lib.hid hv4
  have HX4 := Lib.hid (HX3.out.trans hX4)
  have HB4 := Lib.hid (HB3.out.ext hX4)
  clear hX4 hv4
  go_wp2_with fail
  refine (done_ok _ _ 4 _ HV4.out (by omega) (FitQW.of4 HV4.out.fit (by omega))).mono ?_
  rintro e w5 ⟨v5, rfl, hv5, hX5⟩
  obtain ⟨s5, A5, l5, c5, B5, m5, k5, rfl⟩ := hv5.open
  have HX5 := Lib.hid (HX4.out.trans hX5)
  have hB5 := HB4.out.ext hX5
  obtain ⟨r0, r1, r2, g0, g1, g2⟩ := hB5.three
  have HV6 := Lib.hid (hv5.past (NoInts.three hB5) s5 A5 B5 l5 c5 m5 k5)
  clear hX5 hv5 hB5
  go_wp2
  refine bodyPost_ret (v := .tuple #[.agg #[.bool s5, .slice A5 l5 c5, .slice B5 m5 k5], .int .i64 0]) (by simp [results, Try.results22, go_sem, *]) rfl ?_
  exact ⟨_, rfl, HV6.out, Ext.boxed HX5.out (Nat.le_refl _) _ _ _⟩

end Go.Proofs.Yteoijnaljkagfaa
namespace Go.Proofs.Yteoijnaljkagfaa
open Go.RowKit

/-- A value that denotes a number and is not large. -/
def RatG (w : World) (v : Value) (q : Rat) : Prop := ∃ neg xs ys, RatV w v neg xs ys ∧ SmallR xs ys ∧ ratOf neg xs ys = q
theorem RatG.ext {w w' : World} {v : Value} {q : Rat} (h : RatG w v q) (he : Ext w w') : RatG w' v q := by
  obtain ⟨neg, xs, ys, h1, h2, h3⟩ := h
  exact ⟨neg, xs, ys, h1.ext he, h2, h3⟩
theorem RatG.fit {w : World} {v : Value} {q : Rat} (h : RatG w v q) : FitQ q 256 := by
  obtain ⟨neg, xs, ys, h1, h2, rfl⟩ := h
  exact h2.fit
theorem Rep.wN {xs : List Int} {n : Nat} (h : Rep 4294967296 xs n) : wN xs = n := by
  have := h.2.2
  unfold Go.Proofs.Yteoijnaljkagfaa.wN; omega
theorem RatC.good {w : World} {v : Value} {q : Rat} (h : RatC w v q) (hf : FitQW q) : RatG w v q := by
  obtain ⟨xs, ys, h1, h2, h3⟩ := h
  have e1 := h2.wN
  have e2 : wD ys = q.den ∧ FitW (wN ys) := by
    rcases h3 with ⟨hd, rfl⟩ | ⟨hd, hr⟩
    · have : wN [] = 0 := by simp [wN, val]
      refine ⟨by unfold wD; rw [this, hd]; rfl, ?_⟩
      rw [this]; exact ⟨Fit.zero (by omega)⟩
    · have e := hr.wN
      have := q.den_pos
      refine ⟨by unfold wD; rw [e, if_neg (by omega)], ?_⟩
      rw [e]; exact hf.den
  refine ⟨_, xs, ys, h1, ⟨by rw [e1]; exact hf.num, e2.2⟩, ?_⟩
  unfold ratOf
  rw [e1, e2.1, ratV_self]
theorem RatG.open {w : World} {v : Value} {q : Rat} (h : RatG w v q) : ∃ s A l c B m k, v = .agg #[.bool s, .slice A l c, .slice B m k] := by
  obtain ⟨neg, xs, ys, ⟨A, l, c, B, m, k, rfl, _⟩, _⟩ := h
  exact ⟨_, _, _, _, _, _, _, rfl⟩

section
variable {w : World} {v : Value} {q : Rat}
theorem textG (h : RatG w v q) : Calls Try.prog 37 #[v] w (fun e w' => ∃ b, e = .returned (.tuple #[.string b, .int .i64 0]) ∧ TextB (decide (q.num < 0)) q.num.natAbs q.den b ∧ Ext w w') := by
  obtain ⟨neg, xs, ys, h1, h2, rfl⟩ := h
  exact etext_ok v neg xs ys w h1 h2
theorem ceilG (h : RatG w v q) (h0 : -1152921504606846976 ≤ (-q).floor) (h1 : (-q).floor ≤ 1152921504606846976) : Calls Try.prog 29 #[v] w (RetE w (.int .i64 (-(-q).floor)) 0) := by
  obtain ⟨neg, xs, ys, k1, k2, rfl⟩ := h
  exact eceil_ok v neg xs ys w k1 k2 h0 h1
end

theorem q46 : (((4 : Int) : Rat) / ((6 : Int) : Rat)).num = 2 ∧ (((4 : Int) : Rat) / ((6 : Int) : Rat)).den = 3 := by decide +kernel
theorem q46_fl : (-(((4 : Int) : Rat) / ((6 : Int) : Rat))).floor = -1 := by decide +kernel
theorem q46_fit : FitQW (((4 : Int) : Rat) / ((6 : Int) : Rat)) := by
  refine ⟨⟨?_⟩, ⟨?_⟩⟩
  · rw [q46.1]; exact (show Fit 4294967296 2 1 by unfold Fit; omega).mono (by omega) (by omega)
  · rw [q46.2]; exact (show Fit 4294967296 3 1 by unfold Fit; omega).mono (by omega) (by omega)
theorem dec_digit (n : Nat) (h0 : 0 < n) (h1 : n < 10) : Dec n [48 + (n : Int)] := .inr ⟨by omega, [(n : Int)], Rep.small (B := 10) (x := (n : Int)) (by omega) (by omega), rfl⟩
theorem q46_text {b : ByteArray} (h : TextB false 2 3 b) : b = ⟨#[50, 47, 51]⟩ :=
  h.unique ⟨[50], [51], dec_digit 2 (by omega) (by omega), dec_digit 3 (by omega) (by omega), by decide +kernel⟩

set_option maxRecDepth 100000 in
set_option maxHeartbeats 2000000 in
theorem first_any (w : World) : Calls Try.prog 20 #[] w fun e w' => e = .returned (.bool true) ∧ Ext w w' := by
  go_enter Try.func20, Try.ntmps20
  go_wp2_with fail
  refine (eratio_ok 4 6 _ (by omega) (by omega) (by omega) (by omega) (by omega)).mono ?_
  rintro e w1 ⟨v1, rfl, hv1, hX1⟩
  have hg := hv1.good q46_fit
  obtain ⟨s, A, l, c, B, m, k, rfl⟩ := hg.open
  have hXa : Ext w1 (w1.alloc (.cells #[.bool s, .slice A l c, .slice B m k] 33)) := (Ext.refl w1).alloc _
  have HX2 := Lib.hid (hX1.trans hXa)
  have HG := Lib.hid (hg.ext hXa)
  have HB := Lib.hid (Blk.new w1 33 #[.bool s, .slice A l c, .slice B m k])
  clear hX1 hv1 hg hXa
  go_upto_region 2 with (fail)
  generalize w1.alloc (.cells #[.bool s, .slice A l c, .slice B m k] 33) = w2 at HX2 HB HG ⊢
  obtain ⟨x0, x1, x2, _, _, _⟩ := HB.out.three
  go_wp2_with fail
  refine (textG HG.out).mono ?_
  rintro e w3 ⟨b, rfl, hb, hX3⟩
  rw [q46.1, q46.2] at hb
  obtain rfl := q46_text hb
  have HX3 := Lib.hid (HX2.out.trans hX3)
  have HG3 := Lib.hid (HG.out.ext hX3)
  have HB3 := Lib.hid (HB.out.ext hX3)
  clear hX3 hb x0 x1 x2
  obtain ⟨x0, x1, x2, _, _, _⟩ := HB3.out.three
  go_wp2_with fail
  refine (ceilG HG3.out (by rw [q46_fl]; omega) (by rw [q46_fl]; omega)).mono ?_
  rw [q46_fl]
  rintro e w4 ⟨rfl, hX4⟩
  have HX4 := Lib.hid (HX3.out.trans hX4)
  clear hX4
  go_wp2_with fail
  refine (turn_any 0 0 1 0 0 1 _).mono ?_
  rw [show turnI (0, 0) (1, 0) (0, 1) = 1 by decide, show turnE (0, 0) (1, 0) (0, 1) = 0 by decide]
  rintro e w5 ⟨rfl, hX5⟩
  have HX5 := Lib.hid (HX4.out.trans hX5)
  clear hX5
  go_wp2
  go_ret
  exact ⟨rfl, HX5.out⟩
end Go.Proofs.Yteoijnaljkagfaa
namespace Go.Proofs.Yteoijnaljkagfaa
open Go.RowKit

/-- A value that denotes a number, and whether it is large. -/
def RatL (w : World) (v : Value) (big : Bool) : Prop := ∃ neg xs ys, RatV w v neg xs ys ∧ (big = true ↔ ¬ SmallR xs ys)
theorem RatL.ext {w w' : World} {v : Value} {b : Bool} (h : RatL w v b) (he : Ext w w') : RatL w' v b := by
  obtain ⟨neg, xs, ys, h1, h2⟩ := h
  exact ⟨neg, xs, ys, h1.ext he, h2⟩
theorem RatG.small {w : World} {v : Value} {q : Rat} (h : RatG w v q) : RatL w v false := by
  obtain ⟨neg, xs, ys, h1, h2, _⟩ := h
  exact ⟨neg, xs, ys, h1, by simp [h2]⟩
theorem RatL.is {w : World} {v : Value} {b : Bool} (h : RatL w v b) : Calls Try.prog 116 #[v] w fun e w' => e = .returned (.bool b) ∧ Ext w w' := by
  obtain ⟨neg, xs, ys, h1, h2⟩ := h
  exact large_is b v neg xs ys w h1 h2
theorem RatV.cases {w : World} {v : Value} {neg : Bool} {xs ys : List Int} (h : RatV w v neg xs ys) : RatL w v true ∨ (RatL w v false ∧ RatG w v (ratOf neg xs ys)) := by
  by_cases hs : SmallR xs ys
  · exact .inr ⟨⟨neg, xs, ys, h, by simp [hs]⟩, ⟨neg, xs, ys, h, hs, rfl⟩⟩
  · exact .inl ⟨neg, xs, ys, h, by simp [hs]⟩

set_option maxRecDepth 100000 in
set_option maxHeartbeats 1000000 in
theorem anyLarge_two (s0 s1 : Bool) (A0 B0 A1 B1 : Option Addr) (l0 c0 m0 k0 l1 c1 m1 k1 : Nat) (b0 b1 : Bool) (g : Nat) (w : World) (hB : Blk w g 33 #[.bool s0, .slice A0 l0 c0, .slice B0 m0 k0, .bool s1, .slice A1 l1 c1, .slice B1 m1 k1]) (h0 : RatL w (.agg #[.bool s0, .slice A0 l0 c0, .slice B0 m0 k0]) b0) (h1 : RatL w (.agg #[.bool s1, .slice A1 l1 c1, .slice B1 m1 k1]) b1) :
    Calls Try.prog 83 #[.slice (some ⟨g, 0, none⟩) 2 2] w fun e w' => e = .returned (.bool (b0 || b1)) ∧ Ext w w' := by
  have H0 := Lib.hid h0
  have H1 := Lib.hid h1
  have HB := Lib.hid hB
  clear h0 h1 hB
  go_enter Try.func83, Try.ntmps83
  go_wp2
  go_loopg [7] 2 (fun g' i wr => ∃ j : Nat, j = g' ∧ j ≤ 2 ∧ i = .int .i64 (2 - (j : Int)) ∧ Hid (j = 0 → b0 = false ∧ b1 = false) ∧ Hid (j = 1 → b0 = false) ∧ Hid (Ext w wr))
  case atStart => exact ⟨2, rfl, by omega, rfl, fun h => by omega, fun h => by omega, Ext.refl _⟩
  case round =>
    obtain ⟨j, rfl, hj, rfl, hbf, hb1, HX⟩ := hrel
    rcases (show j = 0 ∨ j = 1 ∨ j = 2 by omega) with rfl | rfl | rfl
    · have HBF := Lib.hid (hbf.out rfl)
      clear hbf hb1
      rw [show ((2 : Int) - ((0 : Nat) : Int)) = 2 by omega]
      go_wp2
      go_ret
      exact ⟨by rw [HBF.out.1, HBF.out.2]; rfl, HX.out⟩
    · rw [show ((2 : Int) - ((1 : Nat) : Int)) = 1 by omega]
      have y0 : wr.cell? ⟨g, 3, none⟩ = some (.bool s1) := HX.out.cell (HB.out.cell 3)
      have y1 : wr.cell? ⟨g, 4, none⟩ = some (.slice A1 l1 c1) := HX.out.cell (HB.out.cell 4)
      have y2 : wr.cell? ⟨g, 5, none⟩ = some (.slice B1 m1 k1) := HX.out.cell (HB.out.cell 5)
      have HB1 := Lib.hid (hb1.out rfl)
      clear hbf hb1
      go_wp2_with fail
      refine ((H1.out.ext (HX.out.alloc _)).is).mono ?_
      rintro e w2 ⟨rfl, hX2⟩
      have HX3 := Lib.hid (Ext.trans (HX.out.alloc _) hX2)
      clear hX2
      cases b1
      · go_wp2
        go_roundg 0
        case rel => exact ⟨0, rfl, by omega, rfl, (fun _ => ⟨HB1.out, by trivial⟩), (fun h => by omega), HX3⟩
        case measure => omega
      · go_wp2
        go_ret
        exact ⟨by rw [HB1.out]; rfl, HX3.out⟩
    · rw [show ((2 : Int) - ((2 : Nat) : Int)) = 0 by omega]
      have y0 : wr.cell? ⟨g, 0, none⟩ = some (.bool s0) := HX.out.cell (HB.out.cell 0)
      have y1 : wr.cell? ⟨g, 1, none⟩ = some (.slice A0 l0 c0) := HX.out.cell (HB.out.cell 1)
      have y2 : wr.cell? ⟨g, 2, none⟩ = some (.slice B0 m0 k0) := HX.out.cell (HB.out.cell 2)
      have HB1 : Hid True := trivial
      clear hbf hb1
      go_wp2_with fail
      refine ((H0.out.ext (HX.out.alloc _)).is).mono ?_
      rintro e w2 ⟨rfl, hX2⟩
      have HX3 := Lib.hid (Ext.trans (HX.out.alloc _) hX2)
      clear hX2
      cases b0
      · go_wp2
        go_roundg 1
        case rel => exact ⟨1, rfl, by omega, rfl, (fun h => by omega), (fun _ => by trivial), HX3⟩
        case measure => omega
      · go_wp2
        go_ret
        exact ⟨rfl, HX3.out⟩

theorem ofG {w : World} {v : Value} {q : Rat} (h : RatG w v q) : Calls Try.prog 85 #[v] w (RetX w q 256) := by
  obtain ⟨neg, xs, ys, h1, h2, rfl⟩ := h
  refine (of_any v neg xs ys 256 w h1 h2.1.fit h2.den.fit (by omega)).mono ?_
  rintro e w' ⟨v', rfl, hv, hX⟩
  exact ⟨v', rfl, hv.numx h2.fit, hX⟩
end Go.Proofs.Yteoijnaljkagfaa
namespace Go.Proofs.Yteoijnaljkagfaa
open Go.RowKit

theorem pow_double (m : Nat) : (65536 : Int) ^ (2 * m) = 4294967296 ^ m := by rw [Int.pow_mul]; rfl
theorem fit_double {n L : Nat} : Fit 65536 n (2 * L) ↔ Fit 4294967296 n L := by unfold Fit; rw [pow_double]
theorem fitR_double {q : Rat} {L : Nat} (h : FitQ q L) : FitR q (2 * L) := ⟨fit_double.2 h.1, fit_double.2 h.2⟩
theorem Blk.at2 {W : World} {g : Nat} {T : TypeId} {x y : Value} (h : Blk W g T #[x, y]) : At W (some ⟨g, 0, none⟩) [x, y] := fun _ => ⟨g, 0, rfl, fun j v hv => by rw [h.cell]; simpa using hv⟩
theorem limbs_step {out xs : List Int} {k : Nat} {x : Int} (hx : xs[k]? = some x) (hl : out.length = 2 * k) (hv : val 65536 out = val 4294967296 (xs.take k)) :
    val 65536 (out ++ [x % 65536, x / 65536]) = val 4294967296 (xs.take (k + 1)) := by
  rw [val_append, hl, pow_double, hv, val_take_succ hx]
  simp only [val]
  have h := Int.emod_add_mul_ediv x 65536
  generalize x % 65536 = r at *
  generalize x / 65536 = t at *
  grind

set_option maxRecDepth 100000 in
set_option maxHeartbeats 2000000 in
theorem limbs_r10 (bw ow l c k : Nat) (x : Int) (vo : Value) (w : World) (hcx : w.cell? ⟨bw, ow + k, none⟩ = some (.int .u32 x)) (hk0 : (0 : Int) ≤ (k : Int)) (hkl : (k : Int) < (l : Int)) (hx0 : 0 ≤ x) (hx1 : x ≤ 4294967295) (hw1 : IntKind.i64.wrap (x % 65536) = x % 65536) (hw2 : IntKind.i64.wrap (x / 65536) = x / 65536) (hw3 : IntKind.u32.wrap (x / 65536) = x / 65536) (hq0 : 0 ≤ x / 65536) (hq1 : x / 65536 ≤ 65535) (hr0 : 0 ≤ x % 65536) (hr1 : x % 65536 < 65536) (a : Act) (Q : Exit → Act → World → Prop) (hsize : 42 ≤ a.tmps.size)
    (s0 : a.tmps[0]? = some (.slice (some ⟨bw, ow, none⟩) l c))
    (s5 : a.tmps[5]? = some (vo))
    (s6 : a.tmps[6]? = some (.int .i64 (k : Int)))
    (hend : ∀ (xv0 xv1 xv2 xv3 xv4 xv5 xv6 xv7 xv8 xv9 xv10 xv11 xv12 xv13 : Value) (W : World), (xv0 = vo) → (xv1 = .slice (some ⟨bw, ow, none⟩) l c) → (xv2 = .int .i64 (k : Int)) → (xv3 = .pointer (some ⟨bw, ow + k, none⟩)) → (xv4 = .int .u32 x) → (xv5 = .int .u32 (x % 65536)) → (xv6 = .int .i64 (x % 65536)) → (xv7 = .slice (some ⟨bw, ow, none⟩) l c) → (xv8 = .int .i64 (k : Int)) → (xv9 = .pointer (some ⟨bw, ow + k, none⟩)) → (xv10 = .int .u32 x) → (xv11 = .int .u32 (x / 65536)) → (xv12 = .int .i64 (x / 65536)) → (∃ g, xv13 = .slice (some ⟨g, 0, none⟩) 2 2 ∧ Blk W g 3 #[.int .i64 (x % 65536), .int .i64 (x / 65536)]) → Ext w W → wpList Try.prog (rops Try.f119 10).toArray Q ((rops Try.f119 10).drop 14) ((((((((((((((a.put (some 28) xv0).put (some 29) xv1).put (some 30) xv2).put (some 31) xv3).put (some 32) xv4).put (some 33) xv5).put (some 34) xv6).put (some 35) xv7).put (some 36) xv8).put (some 37) xv9).put (some 38) xv10).put (some 39) xv11).put (some 40) xv12).put (some 41) xv13) W) :
    (Code.region 10 (rops Try.f119 10).toArray true).wp Try.prog Q a w := by
  have hmono : ∀ (W W' : World) (j : Nat) (u : Value), Ext W W' → (fun (i : Nat) (v : Value) (W : World) => match i with
    | 0 => v = vo
    | 1 => v = .slice (some ⟨bw, ow, none⟩) l c
    | 2 => v = .int .i64 (k : Int)
    | 3 => v = .pointer (some ⟨bw, ow + k, none⟩)
    | 4 => v = .int .u32 x
    | 5 => v = .int .u32 (x % 65536)
    | 6 => v = .int .i64 (x % 65536)
    | 7 => v = .slice (some ⟨bw, ow, none⟩) l c
    | 8 => v = .int .i64 (k : Int)
    | 9 => v = .pointer (some ⟨bw, ow + k, none⟩)
    | 10 => v = .int .u32 x
    | 11 => v = .int .u32 (x / 65536)
    | 12 => v = .int .i64 (x / 65536)
    | 13 => ∃ g, v = .slice (some ⟨g, 0, none⟩) 2 2 ∧ Blk W g 3 #[.int .i64 (x % 65536), .int .i64 (x / 65536)]
    | _ => True) j u W → (fun (i : Nat) (v : Value) (W : World) => match i with
    | 0 => v = vo
    | 1 => v = .slice (some ⟨bw, ow, none⟩) l c
    | 2 => v = .int .i64 (k : Int)
    | 3 => v = .pointer (some ⟨bw, ow + k, none⟩)
    | 4 => v = .int .u32 x
    | 5 => v = .int .u32 (x % 65536)
    | 6 => v = .int .i64 (x % 65536)
    | 7 => v = .slice (some ⟨bw, ow, none⟩) l c
    | 8 => v = .int .i64 (k : Int)
    | 9 => v = .pointer (some ⟨bw, ow + k, none⟩)
    | 10 => v = .int .u32 x
    | 11 => v = .int .u32 (x / 65536)
    | 12 => v = .int .i64 (x / 65536)
    | 13 => ∃ g, v = .slice (some ⟨g, 0, none⟩) 2 2 ∧ Blk W g 3 #[.int .i64 (x % 65536), .int .i64 (x / 65536)]
    | _ => True) j u W' := by
    intro W W' j u hX h
    match j, h with
    | 0, h => exact h
    | 1, h => exact h
    | 2, h => exact h
    | 3, h => exact h
    | 4, h => exact h
    | 5, h => exact h
    | 6, h => exact h
    | 7, h => exact h
    | 8, h => exact h
    | 9, h => exact h
    | 10, h => exact h
    | 11, h => exact h
    | 12, h => exact h
    | 13, h => obtain ⟨g, h1, h2⟩ := h; exact ⟨g, h1, h2.ext hX⟩
    | _ + 14, h => exact h
  have hsz : ∀ d, some d ∈ ([some 28, some 29, some 30, some 31, some 32, some 33, some 34, some 35, some 36, some 37, some 38, some 39, some 40, some 41] : List (Option Tmp)) → d < a.tmps.size := slots_lt (by decide) hsize
  refine wp_region_j 14 [some 28, some 29, some 30, some 31, some 32, some 33, some 34, some 35, some 36, some 37, some 38, some 39, some 40, some 41] [[], [], [], [1, 2], [3], [4], [5], [], [], [7, 8], [9], [10], [11], [6, 12]] [[], [], [], [], [], [], [], [], [], [], [], [], [], []] (fun (i : Nat) (v : Value) (W : World) => match i with
    | 0 => v = vo
    | 1 => v = .slice (some ⟨bw, ow, none⟩) l c
    | 2 => v = .int .i64 (k : Int)
    | 3 => v = .pointer (some ⟨bw, ow + k, none⟩)
    | 4 => v = .int .u32 x
    | 5 => v = .int .u32 (x % 65536)
    | 6 => v = .int .i64 (x % 65536)
    | 7 => v = .slice (some ⟨bw, ow, none⟩) l c
    | 8 => v = .int .i64 (k : Int)
    | 9 => v = .pointer (some ⟨bw, ow + k, none⟩)
    | 10 => v = .int .u32 x
    | 11 => v = .int .u32 (x / 65536)
    | 12 => v = .int .i64 (x / 65536)
    | 13 => ∃ g, v = .slice (some ⟨g, 0, none⟩) 2 2 ∧ Blk W g 3 #[.int .i64 (x % 65536), .int .i64 (x / 65536)]
    | _ => True) (fun _ W => Ext w W) (by kernel_rfl) (by kernel_rfl) hsz (fun _ _ _ _ h => h) ((Ext.refl w).drew) ?_ ?_
  · clear hend
    simp only [rops, Try.f119, regOf, Option.bind_some, Nat.reduceBEq, if_true, if_false, Bool.false_eq_true, Option.getD_some]
    simp only [List.take_succ_cons, List.take_zero]
    refine ⟨?_, ?_, ?_, ?_, ?_, ?_, ?_, ?_, ?_, ?_, ?_, ?_, ?_, ?_, trivial⟩
    · intro done us W hJ hdep haft hnot b hb hb' K hK Q'
      have e5 := (hb' 5 (by simp)).trans s5
      clear hb hb'
      go_simp
      exact hK _ _ rfl (fun _ _ _ h => h) hJ
    · intro done us W hJ hdep haft hnot b hb hb' K hK Q'
      have e0 := (hb' 0 (by simp)).trans s0
      clear hb hb'
      go_simp
      exact hK _ _ rfl (fun _ _ _ h => h) hJ
    · intro done us W hJ hdep haft hnot b hb hb' K hK Q'
      have e6 := (hb' 6 (by simp)).trans s6
      clear hb hb'
      go_simp
      exact hK _ _ rfl (fun _ _ _ h => h) hJ
    · intro done us W hJ hdep haft hnot b hb hb' K hK Q'
      simp only [List.getD_cons_succ, List.getD_cons_zero, List.mem_cons, List.not_mem_nil, or_false, forall_eq_or_imp, forall_eq] at hdep
      have e29 := hb 1 29 rfl
      have e30 := hb 2 30 rfl
      have d1 := hdep.1
      have d2 := hdep.2
      rw [d1.1] at e29
      rw [d2.1] at e30
      clear hb hb' hdep d1 d2
      go_simp
      exact hK _ _ rfl (fun _ _ _ h => h) hJ
    · intro done us W hJ hdep haft hnot b hb hb' K hK Q'
      simp only [List.getD_cons_succ, List.getD_cons_zero, List.mem_cons, List.not_mem_nil, or_false, forall_eq_or_imp, forall_eq] at hdep
      have e31 := hb 3 31 rfl
      have d3 := hdep
      rw [d3.1] at e31
      clear hb hb' hdep d3
      have q := Ext.cell hJ hcx
      go_simp
      exact hK _ _ rfl (fun _ _ _ h => h) hJ
    · intro done us W hJ hdep haft hnot b hb hb' K hK Q'
      simp only [List.getD_cons_succ, List.getD_cons_zero, List.mem_cons, List.not_mem_nil, or_false, forall_eq_or_imp, forall_eq] at hdep
      have e32 := hb 4 32 rfl
      have d4 := hdep
      rw [d4.1] at e32
      clear hb hb' hdep d4
      go_simp
      rw [Int.tmod_eq_emod_of_nonneg hx0]
      exact hK _ _ rfl (fun _ _ _ h => h) hJ
    · intro done us W hJ hdep haft hnot b hb hb' K hK Q'
      simp only [List.getD_cons_succ, List.getD_cons_zero, List.mem_cons, List.not_mem_nil, or_false, forall_eq_or_imp, forall_eq] at hdep
      have e33 := hb 5 33 rfl
      have d5 := hdep
      rw [d5.1] at e33
      clear hb hb' hdep d5
      go_simp
      exact hK _ _ rfl (fun _ _ _ h => h) hJ
    · intro done us W hJ hdep haft hnot b hb hb' K hK Q'
      have e0 := (hb' 0 (by simp)).trans s0
      clear hb hb'
      go_simp
      exact hK _ _ rfl (fun _ _ _ h => h) hJ
    · intro done us W hJ hdep haft hnot b hb hb' K hK Q'
      have e6 := (hb' 6 (by simp)).trans s6
      clear hb hb'
      go_simp
      exact hK _ _ rfl (fun _ _ _ h => h) hJ
    · intro done us W hJ hdep haft hnot b hb hb' K hK Q'
      simp only [List.getD_cons_succ, List.getD_cons_zero, List.mem_cons, List.not_mem_nil, or_false, forall_eq_or_imp, forall_eq] at hdep
      have e35 := hb 7 35 rfl
      have e36 := hb 8 36 rfl
      have d7 := hdep.1
      have d8 := hdep.2
      rw [d7.1] at e35
      rw [d8.1] at e36
      clear hb hb' hdep d7 d8
      go_simp
      exact hK _ _ rfl (fun _ _ _ h => h) hJ
    · intro done us W hJ hdep haft hnot b hb hb' K hK Q'
      simp only [List.getD_cons_succ, List.getD_cons_zero, List.mem_cons, List.not_mem_nil, or_false, forall_eq_or_imp, forall_eq] at hdep
      have e37 := hb 9 37 rfl
      have d9 := hdep
      rw [d9.1] at e37
      clear hb hb' hdep d9
      have q := Ext.cell hJ hcx
      go_simp
      exact hK _ _ rfl (fun _ _ _ h => h) hJ
    · intro done us W hJ hdep haft hnot b hb hb' K hK Q'
      simp only [List.getD_cons_succ, List.getD_cons_zero, List.mem_cons, List.not_mem_nil, or_false, forall_eq_or_imp, forall_eq] at hdep
      have e38 := hb 10 38 rfl
      have d10 := hdep
      rw [d10.1] at e38
      clear hb hb' hdep d10
      go_simp
      first
      | rw [hw3]
      | rw [Int.tdiv_eq_ediv_of_nonneg hx0, hw3]
      exact hK _ _ rfl (fun _ _ _ h => h) hJ
    · intro done us W hJ hdep haft hnot b hb hb' K hK Q'
      simp only [List.getD_cons_succ, List.getD_cons_zero, List.mem_cons, List.not_mem_nil, or_false, forall_eq_or_imp, forall_eq] at hdep
      have e39 := hb 11 39 rfl
      have d11 := hdep
      rw [d11.1] at e39
      clear hb hb' hdep d11
      go_simp
      exact hK _ _ rfl (fun _ _ _ h => h) hJ
    · intro done us W hJ hdep haft hnot b hb hb' K hK Q'
      simp only [List.getD_cons_succ, List.getD_cons_zero, List.mem_cons, List.not_mem_nil, or_false, forall_eq_or_imp, forall_eq] at hdep
      have e34 := hb 6 34 rfl
      have e40 := hb 12 40 rfl
      have d6 := hdep.1
      have d12 := hdep.2
      rw [d6.1] at e34
      rw [d12.1] at e40
      clear hb hb' hdep d6 d12
      have hX : Ext W (W.alloc (.cells #[.int .i64 (x % 65536), .int .i64 (x / 65536)] 3)) := (Ext.refl W).alloc _
      go_simp
      exact hK _ _ ⟨_, rfl, Blk.new _ _ _⟩ (fun j u _ h => hmono _ _ j u hX h) (Ext.trans hJ hX)
  · intro us W hV hJ
    exact hend (us 0) (us 1) (us 2) (us 3) (us 4) (us 5) (us 6) (us 7) (us 8) (us 9) (us 10) (us 11) (us 12) (us 13) W (hV 0 (by omega)) (hV 1 (by omega)) (hV 2 (by omega)) (hV 3 (by omega)) (hV 4 (by omega)) (hV 5 (by omega)) (hV 6 (by omega)) (hV 7 (by omega)) (hV 8 (by omega)) (hV 9 (by omega)) (hV 10 (by omega)) (hV 11 (by omega)) (hV 12 (by omega)) (hV 13 (by omega)) hJ
set_option maxRecDepth 100000 in
set_option maxHeartbeats 2000000 in
theorem limbs_no (A : Option Addr) (l c : Nat) (xs : List Int) (w : World) (hI : Ints .u32 w A l xs) (hc1 : l ≤ c) (hc2 : c ≤ 9223372036854775807) (hf : ¬ FitW (wN xs)) :
    Calls Try.prog 119 #[.slice A l c] w (fun e w' => e = .returned (.tuple #[.slice none 0 0, .bool false]) ∧ Ext w w') := by
  have H := Lib.hid hI
  have HL : Hid (xs.length = l) := hI.1
  have HF := Lib.hid hf
  clear hI hf
  go_enter Try.func119, Try.ntmps119
  go_upto_block 0 with (fail)
  go_cut [4] (fun v W => ∃ m : Nat, v = .int .i64 (m : Int) ∧ m ≤ l ∧ Hid (Nm (xs.take m)) ∧ Hid (val 4294967296 (xs.take m) = val 4294967296 xs) ∧ w = W)
  case first =>
    as_aux_lemma =>
      go_wp2
      go_loopg [4] l (fun g v wr => ∃ m : Nat, m = g ∧ m ≤ l ∧ v = .int .i64 (m : Int) ∧ Hid (val 4294967296 (xs.take m) = val 4294967296 xs) ∧ w = wr)
      case atStart => exact ⟨l, rfl, Nat.le_refl _, rfl, by rw [List.take_of_length_le (by rw [HL.out]; exact Nat.le_refl _)]; rfl, rfl⟩
      case round =>
        obtain ⟨m, rfl, hm, rfl, hv, rfl⟩ := hrel
        rcases Nat.eq_zero_or_pos m with h0 | h0
        · subst h0
          go_wp2
          go_meet
          exact ⟨0, rfl, by omega, by simp [Nm, Hid], hv.out, rfl⟩
        · obtain ⟨k, rfl⟩ : ∃ k, m = k + 1 := ⟨m - 1, by omega⟩
          obtain ⟨b, off, x, rfl, hx, hwf, hc⟩ := H.out.get (j := k) (by omega)
          obtain ⟨hx0, hx1⟩ := u32_bounds hwf
          have HX := Lib.hid hx
          have hkc : ((k + 1 : Nat) : Int) = (k : Int) + 1 := by omega
          have hk0 : (0 : Int) ≤ (k : Int) := by omega
          have hkn : (k : Int) < (l : Int) := by omega
          rw [hkc]
          clear hx hwf hkc
          by_cases hz : x = 0
          · have hzb : (x == 0) = true := by simpa using hz
            have HV : Hid (val 4294967296 (xs.take k) = val 4294967296 xs) := by
              have := hv.out
              rw [val_take_succ HX.out, hz] at this
              show _ = _
              omega
            clear hz hv
            go_wp2
            go_roundg k
            case rel => exact ⟨k, rfl, by omega, rfl, HV, rfl⟩
            case measure => omega
          · have hzb : (x == 0) = false := by simpa using hz
            have HZ := Lib.hid hz
            clear hz
            go_wp2
            go_meet
            exact ⟨k + 1, by rw [show ((k + 1 : Nat) : Int) = (k : Int) + 1 by omega], hm, Nm.take HX.out HZ.out, hv.out, rfl⟩
  case rest =>
    as_aux_lemma =>
      obtain ⟨m, rfl, hm, HN, HV, rfl⟩ := hcut
      have hlen := norm_len H.out hm HN.out HV.out 256
      have hbig : ¬ m ≤ 256 := fun h => HF.out ⟨hlen.1 h⟩
      have hbi : (256 : Int) < (m : Int) := by omega
      go_wp2
      go_ret2
      exact ⟨rfl, Ext.refl _⟩

set_option maxRecDepth 100000 in
set_option maxHeartbeats 2000000 in
theorem limbs_yes (A : Option Addr) (l c : Nat) (xs : List Int) (w : World) (hI : Ints .u32 w A l xs) (hc1 : l ≤ c) (hc2 : c ≤ 9223372036854775807) (hf : FitW (wN xs)) :
    Calls Try.prog 119 #[.slice A l c] w (fun e w' => ∃ v, e = .returned (.tuple #[v, .bool true]) ∧ Z16 w' v (wN xs) ∧ Ext w w') := by
  have H := Lib.hid hI
  have HL : Hid (xs.length = l) := hI.1
  have HF := Lib.hid hf
  clear hI hf
  go_enter Try.func119, Try.ntmps119
  go_upto_block 0 with (fail)
  go_cut [4] (fun v W => ∃ m : Nat, v = .int .i64 (m : Int) ∧ m ≤ l ∧ Hid (Nm (xs.take m)) ∧ Hid (val 4294967296 (xs.take m) = val 4294967296 xs) ∧ w = W)
  case first =>
    as_aux_lemma =>
      go_wp2
      go_loopg [4] l (fun g v wr => ∃ m : Nat, m = g ∧ m ≤ l ∧ v = .int .i64 (m : Int) ∧ Hid (val 4294967296 (xs.take m) = val 4294967296 xs) ∧ w = wr)
      case atStart => exact ⟨l, rfl, Nat.le_refl _, rfl, by rw [List.take_of_length_le (by rw [HL.out]; exact Nat.le_refl _)]; rfl, rfl⟩
      case round =>
        obtain ⟨m, rfl, hm, rfl, hv, rfl⟩ := hrel
        rcases Nat.eq_zero_or_pos m with h0 | h0
        · subst h0
          go_wp2
          go_meet
          exact ⟨0, rfl, by omega, by simp [Nm, Hid], hv.out, rfl⟩
        · obtain ⟨k, rfl⟩ : ∃ k, m = k + 1 := ⟨m - 1, by omega⟩
          obtain ⟨b, off, x, rfl, hx, hwf, hc⟩ := H.out.get (j := k) (by omega)
          obtain ⟨hx0, hx1⟩ := u32_bounds hwf
          have HX := Lib.hid hx
          have hkc : ((k + 1 : Nat) : Int) = (k : Int) + 1 := by omega
          have hk0 : (0 : Int) ≤ (k : Int) := by omega
          have hkn : (k : Int) < (l : Int) := by omega
          rw [hkc]
          clear hx hwf hkc
          by_cases hz : x = 0
          · have hzb : (x == 0) = true := by simpa using hz
            have HV : Hid (val 4294967296 (xs.take k) = val 4294967296 xs) := by
              have := hv.out
              rw [val_take_succ HX.out, hz] at this
              show _ = _
              omega
            clear hz hv
            go_wp2
            go_roundg k
            case rel => exact ⟨k, rfl, by omega, rfl, HV, rfl⟩
            case measure => omega
          · have hzb : (x == 0) = false := by simpa using hz
            have HZ := Lib.hid hz
            clear hz
            go_wp2
            go_meet
            exact ⟨k + 1, by rw [show ((k + 1 : Nat) : Int) = (k : Int) + 1 by omega], hm, Nm.take HX.out HZ.out, hv.out, rfl⟩
  case rest =>
    as_aux_lemma =>
      obtain ⟨m, rfl, hm, HN, HV, rfl⟩ := hcut
      have hlen := norm_len H.out hm HN.out HV.out 256
      have hbig : m ≤ 256 := hlen.2 HF.out.1
      have hbi : ¬ (256 : Int) < (m : Int) := by omega
      clear hlen
      go_wp2_with fail
      go_loopg [5, 6] m (fun g v s6 wr => ∃ (k : Nat) (out : List Int), g = m - k ∧ k ≤ m ∧ s6 = .int .i64 (k : Int) ∧ Hid (wr.ownsRow w.heap.size 3 1 v (2 * k) (out.map (.int .i64))) ∧ Hid (Dg 65536 out) ∧ Hid (out.length = 2 * k) ∧ Hid (val 65536 out = val 4294967296 (xs.take k)) ∧ Hid (Ext w wr))
      case atStart => exact ⟨0, [], rfl, by omega, rfl, World.ownsRow_nil _ _ _ _, Dg.nil, rfl, rfl, Ext.refl w⟩
      case round =>
        obtain ⟨k, out, rfl, hk, rfl, HO, HD, HLO, HI, HX⟩ := hrel
        obtain ⟨A2, c2, rfl⟩ := own_slice HO.out
        by_cases hlt : k < m
        · have hkm : (k : Int) < (m : Int) := by omega
          have hk0 : (0 : Int) ≤ (k : Int) := by omega
          have hkl : (k : Int) < (l : Int) := by omega
          obtain ⟨bw, ow, x, rfl, hx, hwf, hc⟩ := (H.out.ext HX.out).get (j := k) (by omega)
          obtain ⟨hx0, hx1⟩ := u32_bounds hwf
          have hr0 := Int.emod_nonneg x (show (65536 : Int) ≠ 0 by omega)
          have hr1 := Int.emod_lt_of_pos x (show (0 : Int) < 65536 by omega)
          have hq0 : 0 ≤ x / 65536 := by omega
          have hq1 : x / 65536 ≤ 65535 := by omega
          have hw1 : IntKind.i64.wrap (x % 65536) = x % 65536 := IntWalk.i64_in _ (by omega)
          have hw2 : IntKind.i64.wrap (x / 65536) = x / 65536 := IntWalk.i64_in _ (by omega)
          have hw3 : IntKind.u32.wrap (x / 65536) = x / 65536 := by rw [IntKind.wrap_u32]; omega
          have HST := Lib.hid (limbs_step hx HLO.out HI.out)
          have HDD : Hid (Dg 65536 (out ++ [x % 65536, x / 65536])) := HD.out.append (Dg.cons ⟨hr0, hr1⟩ (Dg.one ⟨hq0, by omega⟩))
          have HW : Hid ((Lit.int .i64 (x % 65536)).wf = true ∧ (Lit.int .i64 (x / 65536)).wf = true) := ⟨wf16 ⟨hr0, hr1⟩, wf16 ⟨hq0, by omega⟩⟩
          clear hx hwf
          go_wp2_with fail
          refine limbs_r10 bw ow l c k x _ _ hc hk0 hkl hx0 hx1 hw1 hw2 hw3 hq0 hq1 hr0 hr1 _ _ (by simp) rfl rfl rfl ?_
          rintro xv0 xv1 xv2 xv3 xv4 xv5 xv6 xv7 xv8 xv9 xv10 xv11 xv12 xv13 w1 rfl rfl rfl rfl rfl rfl rfl rfl rfl rfl rfl rfl rfl ⟨go, rfl, hBo⟩ hXW
          simp only [rops, Try.f119, regOf, Option.bind_some, Nat.reduceBEq, if_true, if_false, Bool.false_eq_true, Option.getD_some, List.drop_succ_cons, List.drop_zero]
          simp only [Act.put, List.setIfInBounds_toArray, List.set_cons_succ, List.set_cons_zero]
          have HX1 := Lib.hid (HX.out.trans hXW)
          have hown := World.ownsRow.ext' HO.out hXW
          have HAT := Lib.hid hBo.at2
          clear hBo hXW hc hr0 hr1 hq0 hq1 hw1 hw2 hw3 HO HX
          go_wp2_with (at_builtin; refine wpList_app _ elI rfl _ _ rfl w.heap.size _ (2 * k) _ rfl hown _ 2 2 [.int .i64 (x % 65536), .int .i64 (x / 65536)] rfl rfl HAT.out (by simp [Value.oneCell']) (by omega) (by unfold maxLen; omega) (by have := HX1.out.size; simp; omega) ?_; intro v1 w2 hown1 hgr1 _; have HO1 := Lib.hid hown1; have HX2 := Lib.hid (Ext.app HX1.out hown hgr1); clear hown1 hgr1 hown)
          go_roundg (m - (k + 1))
          case rel => exact ⟨k + 1, out ++ [x % 65536, x / 65536], rfl, by omega, by go_num, by rw [List.map_append, show 2 * (k + 1) = 2 * k + 2 by omega]; exact HO1.out, HDD.out, by rw [List.length_append, HLO.out]; show _ = _; simp; omega, HST.out, HX2.out⟩
          case measure => omega
        · obtain rfl : m = k := by omega
          have HOS : Hid (OwnS .i64 3 w.heap.size wr A2 (2 * m) c2 out) := ⟨HO.out, HLO.out, dg_wf HD.out⟩
          have HE : Hid (val 65536 out = ((wN xs : Nat) : Int)) := by
            show _ = _
            rw [HI.out, HV.out]; exact wN_val H.out
          go_wp2_with fail
          refine (trimN HOS.out.ints HD.out HE.out HOS.out.cap.1 HOS.out.cap.2).mono ?_
          rintro e _ ⟨v, rfl, hv, rfl⟩
          have HVV := Lib.hid hv
          clear hv
          go_wp2
          go_ret2
          exact ⟨_, rfl, HVV.out, HX.out⟩

end Go.Proofs.Yteoijnaljkagfaa
namespace Go.Proofs.Yteoijnaljkagfaa
open Go.RowKit

theorem fit512 {n : Nat} (h : Fit 4294967296 n 256) : Fit 65536 n 512 := by
  have h2 := (fit_double (n := n) (L := 256)).2 h
  rw [show 2 * 256 = 512 from rfl] at h2
  exact h2
theorem limbs_b (b : Bool) (A : Option Addr) (l c : Nat) (xs : List Int) (w : World) (hI : Ints .u32 w A l xs) (hc1 : l ≤ c) (hc2 : c ≤ 9223372036854775807) (hf : b = true ↔ FitW (wN xs)) :
    Calls Try.prog 119 #[.slice A l c] w (fun e w' => ∃ v, e = .returned (.tuple #[v, .bool b]) ∧ (b = true → Z16 w' v (wN xs)) ∧ Ext w w') := by
  cases b
  · refine (limbs_no A l c xs w hI hc1 hc2 (fun h => by have := hf.2 h; cases this)).mono ?_
    rintro e w' ⟨rfl, hX⟩
    exact ⟨_, rfl, (fun h => by cases h), hX⟩
  · refine (limbs_yes A l c xs w hI hc1 hc2 (hf.1 rfl)).mono ?_
    rintro e w' ⟨v, rfl, hz, hX⟩
    exact ⟨v, rfl, fun _ => hz, hX⟩
theorem wD_zero {ys : List Int} (h : wN ys = 0) : wD ys = 1 := by unfold wD; rw [if_pos h]
theorem wD_nz {ys : List Int} (h : wN ys ≠ 0) : wD ys = wN ys := by unfold wD; rw [if_neg h]
theorem ratV_z (s t : Bool) {n d : Nat} (hd : 0 < d) (hn : n = 0) : ratV s n d = ratV t n d := by rw [(ratV_zero s n d hd).2 hn, (ratV_zero t n d hd).2 hn]
/-- What Of returns of a number that is not large. -/
def RetOf (w : World) (q : Rat) (e : Ending) (w' : World) : Prop := ∃ v, e = .returned (.tuple #[v, .bool true]) ∧ QZ w' v q ∧ Ext w w'

set_option maxRecDepth 100000 in
set_option maxHeartbeats 2000000 in
theorem rof_n0 (s0 : Bool) (A0 B0 : Option Addr) (l0 c0 m0 k0 : Nat) (xs ys : List Int) (w : World) (hI : Ints .u32 w A0 l0 xs) (hc : l0 ≤ c0 ∧ c0 ≤ 9223372036854775807) (hJ : Ints .u32 w B0 m0 ys) (hk : m0 ≤ k0 ∧ k0 ≤ 9223372036854775807) (hb : ¬ FitW (wN xs)) :
    Calls Try.prog 87 #[.agg #[.bool s0, .slice A0 l0 c0, .slice B0 m0 k0]] w (fun e w' => e = .returned (.tuple #[.agg #[.bool false, .slice none 0 0, .slice none 0 0], .bool false]) ∧ Ext w w') := by
  have HI := Lib.hid hI
  have HJ := Lib.hid hJ
  clear hI hJ
  obtain ⟨hc1, hc2⟩ := hc
  obtain ⟨hk1, hk2⟩ := hk
  have H0 := Lib.hid hb
  clear hb
  obtain ⟨b1, hb1⟩ : ∃ b : Bool, b = true ↔ FitW (wN ys) := by
    by_cases h : FitW (wN ys)
    · exact ⟨true, by simp [h]⟩
    · exact ⟨false, by simp [h]⟩
  have H1 := Lib.hid hb1
  clear hb1
  have hXe : Ext w ((w.alloc (.cells #[.bool s0, .slice A0 l0 c0, .slice B0 m0 k0] 33)).alloc (.cells #[.bool false, .slice none 0 0, .slice none 0 0] 42)) := (((Ext.refl w).alloc _).alloc _)
  have kA : Blk ((w.alloc (.cells #[.bool s0, .slice A0 l0 c0, .slice B0 m0 k0] 33)).alloc (.cells #[.bool false, .slice none 0 0, .slice none 0 0] 42)) w.heap.size 33 #[.bool s0, .slice A0 l0 c0, .slice B0 m0 k0] := Blk.alloc (Blk.at_ (by simp)) _
  have kR : Blk ((w.alloc (.cells #[.bool s0, .slice A0 l0 c0, .slice B0 m0 k0] 33)).alloc (.cells #[.bool false, .slice none 0 0, .slice none 0 0] 42)) (w.heap.size + 1) 42 #[.bool false, .slice none 0 0, .slice none 0 0] := Blk.at_ (by simp)
  go_enter Try.func87, Try.ntmps87
  go_wp2_with fail
  generalize ((w.alloc (.cells #[.bool s0, .slice A0 l0 c0, .slice B0 m0 k0] 33)).alloc (.cells #[.bool false, .slice none 0 0, .slice none 0 0] 42)) = w1 at hXe kA kR ⊢
  have HX := Lib.hid hXe
  clear hXe
  have KA := Lib.hid kA
  clear kA
  have KR := Lib.hid kR
  clear kR
  replace HI := Lib.hid (HI.out.ext HX.out)
  replace HJ := Lib.hid (HJ.out.ext HX.out)
  have cA0 : w1.cell? ⟨w.heap.size, 0, none⟩ = some (.bool s0) := KA.out.cell 0
  have cA1 : w1.cell? ⟨w.heap.size, 1, none⟩ = some (.slice A0 l0 c0) := KA.out.cell 1
  have cA2 : w1.cell? ⟨w.heap.size, 2, none⟩ = some (.slice B0 m0 k0) := KA.out.cell 2
  go_wp2_with fail
  clear cA0 cA1 cA2
  refine (limbs_b false A0 l0 c0 xs _ HI.out hc1 hc2 ⟨(fun h => by cases h), fun h => absurd h H0.out⟩).mono ?_
  rintro e w2 ⟨v7, rfl, h7, hX⟩
  replace hX : Ext w1 w2 := by with_reducible exact hX
  replace HX := Lib.hid (HX.out.trans hX)
  replace HI := Lib.hid (HI.out.ext hX)
  replace HJ := Lib.hid (HJ.out.ext hX)
  replace KA := Lib.hid (KA.out.ext hX)
  replace KR := Lib.hid (KR.out.ext hX)
  clear hX
  have HV7 : Hid (True) := trivial
  clear h7
  have cA0 : w2.cell? ⟨w.heap.size, 0, none⟩ = some (.bool s0) := KA.out.cell 0
  have cA1 : w2.cell? ⟨w.heap.size, 1, none⟩ = some (.slice A0 l0 c0) := KA.out.cell 1
  have cA2 : w2.cell? ⟨w.heap.size, 2, none⟩ = some (.slice B0 m0 k0) := KA.out.cell 2
  go_wp2_with fail
  clear cA0 cA1 cA2
  refine (limbs_b b1 B0 m0 k0 ys _ HJ.out hk1 hk2 H1.out).mono ?_
  rintro e w3 ⟨v8, rfl, h8, hX⟩
  replace hX : Ext w2 w3 := by with_reducible exact hX
  replace HX := Lib.hid (HX.out.trans hX)
  replace HI := Lib.hid (HI.out.ext hX)
  replace HJ := Lib.hid (HJ.out.ext hX)
  replace KA := Lib.hid (KA.out.ext hX)
  replace KR := Lib.hid (KR.out.ext hX)
  clear hX
  clear h8
  have cR0 : w3.cell? ⟨(w.heap.size + 1), 0, none⟩ = some (.bool false) := KR.out.cell 0
  have fR0 : w3.frozen? ⟨(w.heap.size + 1), 0, none⟩ = false := KR.out.free 0
  have cR1 : w3.cell? ⟨(w.heap.size + 1), 1, none⟩ = some (.slice none 0 0) := KR.out.cell 1
  have fR1 : w3.frozen? ⟨(w.heap.size + 1), 1, none⟩ = false := KR.out.free 1
  have cR2 : w3.cell? ⟨(w.heap.size + 1), 2, none⟩ = some (.slice none 0 0) := KR.out.cell 2
  have fR2 : w3.frozen? ⟨(w.heap.size + 1), 2, none⟩ = false := KR.out.free 2
  go_wp2
  refine bodyPost_ret (v := .tuple #[.agg #[.bool false, .slice none 0 0, .slice none 0 0], .bool false]) (by simp [results, Try.results87, go_sem, *]) rfl ?_
  exact ⟨rfl, Ext.boxed HX.out (by omega) _ _ _⟩

set_option maxRecDepth 100000 in
set_option maxHeartbeats 2000000 in
theorem rof_n1 (s0 : Bool) (A0 B0 : Option Addr) (l0 c0 m0 k0 : Nat) (xs ys : List Int) (w : World) (hI : Ints .u32 w A0 l0 xs) (hc : l0 ≤ c0 ∧ c0 ≤ 9223372036854775807) (hJ : Ints .u32 w B0 m0 ys) (hk : m0 ≤ k0 ∧ k0 ≤ 9223372036854775807) (ha : FitW (wN xs)) (hb : ¬ FitW (wN ys)) :
    Calls Try.prog 87 #[.agg #[.bool s0, .slice A0 l0 c0, .slice B0 m0 k0]] w (fun e w' => e = .returned (.tuple #[.agg #[.bool false, .slice none 0 0, .slice none 0 0], .bool false]) ∧ Ext w w') := by
  have HI := Lib.hid hI
  have HJ := Lib.hid hJ
  clear hI hJ
  obtain ⟨hc1, hc2⟩ := hc
  obtain ⟨hk1, hk2⟩ := hk
  have H0 := Lib.hid ha
  have H1 := Lib.hid hb
  clear ha hb
  have hXe : Ext w ((w.alloc (.cells #[.bool s0, .slice A0 l0 c0, .slice B0 m0 k0] 33)).alloc (.cells #[.bool false, .slice none 0 0, .slice none 0 0] 42)) := (((Ext.refl w).alloc _).alloc _)
  have kA : Blk ((w.alloc (.cells #[.bool s0, .slice A0 l0 c0, .slice B0 m0 k0] 33)).alloc (.cells #[.bool false, .slice none 0 0, .slice none 0 0] 42)) w.heap.size 33 #[.bool s0, .slice A0 l0 c0, .slice B0 m0 k0] := Blk.alloc (Blk.at_ (by simp)) _
  have kR : Blk ((w.alloc (.cells #[.bool s0, .slice A0 l0 c0, .slice B0 m0 k0] 33)).alloc (.cells #[.bool false, .slice none 0 0, .slice none 0 0] 42)) (w.heap.size + 1) 42 #[.bool false, .slice none 0 0, .slice none 0 0] := Blk.at_ (by simp)
  go_enter Try.func87, Try.ntmps87
  go_wp2_with fail
  generalize ((w.alloc (.cells #[.bool s0, .slice A0 l0 c0, .slice B0 m0 k0] 33)).alloc (.cells #[.bool false, .slice none 0 0, .slice none 0 0] 42)) = w1 at hXe kA kR ⊢
  have HX := Lib.hid hXe
  clear hXe
  have KA := Lib.hid kA
  clear kA
  have KR := Lib.hid kR
  clear kR
  replace HI := Lib.hid (HI.out.ext HX.out)
  replace HJ := Lib.hid (HJ.out.ext HX.out)
  have cA0 : w1.cell? ⟨w.heap.size, 0, none⟩ = some (.bool s0) := KA.out.cell 0
  have cA1 : w1.cell? ⟨w.heap.size, 1, none⟩ = some (.slice A0 l0 c0) := KA.out.cell 1
  have cA2 : w1.cell? ⟨w.heap.size, 2, none⟩ = some (.slice B0 m0 k0) := KA.out.cell 2
  go_wp2_with fail
  clear cA0 cA1 cA2
  refine (limbs_b true A0 l0 c0 xs _ HI.out hc1 hc2 ⟨fun _ => H0.out, fun _ => rfl⟩).mono ?_
  rintro e w2 ⟨v7, rfl, h7, hX⟩
  replace hX : Ext w1 w2 := by with_reducible exact hX
  replace HX := Lib.hid (HX.out.trans hX)
  replace HI := Lib.hid (HI.out.ext hX)
  replace HJ := Lib.hid (HJ.out.ext hX)
  replace KA := Lib.hid (KA.out.ext hX)
  replace KR := Lib.hid (KR.out.ext hX)
  clear hX
  have HV7 : Hid (Z16 w2 v7 (wN xs)) := h7 rfl
  clear h7
  have cA0 : w2.cell? ⟨w.heap.size, 0, none⟩ = some (.bool s0) := KA.out.cell 0
  have cA1 : w2.cell? ⟨w.heap.size, 1, none⟩ = some (.slice A0 l0 c0) := KA.out.cell 1
  have cA2 : w2.cell? ⟨w.heap.size, 2, none⟩ = some (.slice B0 m0 k0) := KA.out.cell 2
  go_wp2_with fail
  clear cA0 cA1 cA2
  refine (limbs_b false B0 m0 k0 ys _ HJ.out hk1 hk2 ⟨(fun h => by cases h), fun h => absurd h H1.out⟩).mono ?_
  rintro e w3 ⟨v8, rfl, h8, hX⟩
  replace hX : Ext w2 w3 := by with_reducible exact hX
  replace HX := Lib.hid (HX.out.trans hX)
  replace HI := Lib.hid (HI.out.ext hX)
  replace HJ := Lib.hid (HJ.out.ext hX)
  replace HV7 := Lib.hid (HV7.out.ext hX)
  replace KA := Lib.hid (KA.out.ext hX)
  replace KR := Lib.hid (KR.out.ext hX)
  clear hX
  clear h8
  have cR0 : w3.cell? ⟨(w.heap.size + 1), 0, none⟩ = some (.bool false) := KR.out.cell 0
  have fR0 : w3.frozen? ⟨(w.heap.size + 1), 0, none⟩ = false := KR.out.free 0
  have cR1 : w3.cell? ⟨(w.heap.size + 1), 1, none⟩ = some (.slice none 0 0) := KR.out.cell 1
  have fR1 : w3.frozen? ⟨(w.heap.size + 1), 1, none⟩ = false := KR.out.free 1
  have cR2 : w3.cell? ⟨(w.heap.size + 1), 2, none⟩ = some (.slice none 0 0) := KR.out.cell 2
  have fR2 : w3.frozen? ⟨(w.heap.size + 1), 2, none⟩ = false := KR.out.free 2
  go_wp2
  refine bodyPost_ret (v := .tuple #[.agg #[.bool false, .slice none 0 0, .slice none 0 0], .bool false]) (by simp [results, Try.results87, go_sem, *]) rfl ?_
  exact ⟨rfl, Ext.boxed HX.out (by omega) _ _ _⟩

set_option maxRecDepth 100000 in
set_option maxHeartbeats 2000000 in
theorem rof_fone (A0 B0 : Option Addr) (l0 c0 m0 k0 : Nat) (xs ys : List Int) (w : World) (hI : Ints .u32 w A0 l0 xs) (hc : l0 ≤ c0 ∧ c0 ≤ 9223372036854775807) (hJ : Ints .u32 w B0 m0 ys) (hk : m0 ≤ k0 ∧ k0 ≤ 9223372036854775807) (ha : FitW (wN xs)) (hb : FitW (wN ys))  (hD : wN ys = 0) :
    Calls Try.prog 87 #[.agg #[.bool false, .slice A0 l0 c0, .slice B0 m0 k0]] w (RetOf w (ratOf false xs ys)) := by
  have HI := Lib.hid hI
  have HJ := Lib.hid hJ
  clear hI hJ
  obtain ⟨hc1, hc2⟩ := hc
  obtain ⟨hk1, hk2⟩ := hk
  have H0 := Lib.hid ha
  have H1 := Lib.hid hb
  obtain ⟨L, hL⟩ : ∃ L : Nat, L = 512 := ⟨_, rfl⟩
  have HF0 : Hid (Fit 65536 (wN xs) L) := by rw [hL]; exact fit512 ha.1
  have HF1 : Hid (Fit 65536 (wN ys) L) := by rw [hL]; exact fit512 hb.1
  replace hL : 1 ≤ L ∧ L ≤ 512 := by omega
  obtain ⟨hL0, hL1⟩ := hL
  clear ha hb
  have HE : Hid (ratV false (wN xs) (wD ys) = ratOf false xs ys) := rfl
  rw [wD_zero hD] at HE
  obtain ⟨n, hN⟩ : ∃ n, wN xs = n := ⟨_, rfl⟩
  obtain ⟨d, hDD⟩ : ∃ d, wN ys = d := ⟨_, rfl⟩
  have HN := Lib.hid hN
  have HDD := Lib.hid hDD
  rw [hDD] at hD
  clear hN hDD
  have hXe : Ext w ((w.alloc (.cells #[.bool false, .slice A0 l0 c0, .slice B0 m0 k0] 33)).alloc (.cells #[.bool false, .slice none 0 0, .slice none 0 0] 42)) := (((Ext.refl w).alloc _).alloc _)
  have kA : Blk ((w.alloc (.cells #[.bool false, .slice A0 l0 c0, .slice B0 m0 k0] 33)).alloc (.cells #[.bool false, .slice none 0 0, .slice none 0 0] 42)) w.heap.size 33 #[.bool false, .slice A0 l0 c0, .slice B0 m0 k0] := Blk.alloc (Blk.at_ (by simp)) _
  have kR : Blk ((w.alloc (.cells #[.bool false, .slice A0 l0 c0, .slice B0 m0 k0] 33)).alloc (.cells #[.bool false, .slice none 0 0, .slice none 0 0] 42)) (w.heap.size + 1) 42 #[.bool false, .slice none 0 0, .slice none 0 0] := Blk.at_ (by simp)
  go_enter Try.func87, Try.ntmps87
  go_wp2_with fail
  generalize ((w.alloc (.cells #[.bool false, .slice A0 l0 c0, .slice B0 m0 k0] 33)).alloc (.cells #[.bool false, .slice none 0 0, .slice none 0 0] 42)) = w1 at hXe kA kR ⊢
  have HX := Lib.hid hXe
  clear hXe
  have KA := Lib.hid kA
  clear kA
  have KR := Lib.hid kR
  clear kR
  replace HI := Lib.hid (HI.out.ext HX.out)
  replace HJ := Lib.hid (HJ.out.ext HX.out)
  have cA0 : w1.cell? ⟨w.heap.size, 0, none⟩ = some (.bool false) := KA.out.cell 0
  have cA1 : w1.cell? ⟨w.heap.size, 1, none⟩ = some (.slice A0 l0 c0) := KA.out.cell 1
  have cA2 : w1.cell? ⟨w.heap.size, 2, none⟩ = some (.slice B0 m0 k0) := KA.out.cell 2
  go_wp2_with fail
  clear cA0 cA1 cA2
  refine (limbs_b true A0 l0 c0 xs _ HI.out hc1 hc2 ⟨fun _ => H0.out, fun _ => rfl⟩).mono ?_
  rintro e w2 ⟨v7, rfl, h7, hX⟩
  replace hX : Ext w1 w2 := by with_reducible exact hX
  replace HX := Lib.hid (HX.out.trans hX)
  replace HI := Lib.hid (HI.out.ext hX)
  replace HJ := Lib.hid (HJ.out.ext hX)
  replace KA := Lib.hid (KA.out.ext hX)
  replace KR := Lib.hid (KR.out.ext hX)
  clear hX
  have HV7 : Hid (Z16 w2 v7 (wN xs)) := h7 rfl
  clear h7
  have cA0 : w2.cell? ⟨w.heap.size, 0, none⟩ = some (.bool false) := KA.out.cell 0
  have cA1 : w2.cell? ⟨w.heap.size, 1, none⟩ = some (.slice A0 l0 c0) := KA.out.cell 1
  have cA2 : w2.cell? ⟨w.heap.size, 2, none⟩ = some (.slice B0 m0 k0) := KA.out.cell 2
  go_wp2_with fail
  clear cA0 cA1 cA2
  refine (limbs_b true B0 m0 k0 ys _ HJ.out hk1 hk2 ⟨fun _ => H1.out, fun _ => rfl⟩).mono ?_
  rintro e w3 ⟨v8, rfl, h8, hX⟩
  replace hX : Ext w2 w3 := by with_reducible exact hX
  replace HX := Lib.hid (HX.out.trans hX)
  replace HI := Lib.hid (HI.out.ext hX)
  replace HJ := Lib.hid (HJ.out.ext hX)
  replace HV7 := Lib.hid (HV7.out.ext hX)
  replace KA := Lib.hid (KA.out.ext hX)
  replace KR := Lib.hid (KR.out.ext hX)
  clear hX
  have HV8 := Lib.hid (h8 rfl)
  clear h8
  rw [HN.out] at HV7 HF0 HE
  rw [HDD.out] at HV8 HF1
  obtain ⟨A7, l7, c7, rfl, hv7, hz7⟩ := Z16.open HV7.out
  obtain ⟨A8, l8, c8, rfl, hv8, hz8⟩ := Z16.open HV8.out
  clear hv7 hv8
  obtain rfl : l8 = 0 := hz8.2 hD
  clear hz7 hz8 hD
  have cA0 : w3.cell? ⟨w.heap.size, 0, none⟩ = some (.bool false) := KA.out.cell 0
  have cA1 : w3.cell? ⟨w.heap.size, 1, none⟩ = some (.slice A0 l0 c0) := KA.out.cell 1
  have cA2 : w3.cell? ⟨w.heap.size, 2, none⟩ = some (.slice B0 m0 k0) := KA.out.cell 2
  go_upto_region 7 with (fail)
  clear cA0 cA1 cA2
  have hXa : Ext w3 (w3.alloc (.cells #[.int .i64 1] 3)) := (Ext.refl _).alloc _
  have kO := Blk.new w3 3 #[.int .i64 1]
  have zA := KA.out.lt
  have zR := KR.out.lt
  have zg := HX.out.size
  replace HX := Lib.hid (HX.out.trans hXa)
  replace HI := Lib.hid (HI.out.ext hXa)
  replace HJ := Lib.hid (HJ.out.ext hXa)
  replace HV7 := Lib.hid (HV7.out.ext hXa)
  replace HV8 := Lib.hid (HV8.out.ext hXa)
  replace KA := Lib.hid (KA.out.ext hXa)
  replace KR := Lib.hid (KR.out.ext hXa)
  generalize (w3.alloc (.cells #[.int .i64 1] 3)) = w4 at HX HI HJ HV7 HV8 KA KR kO ⊢
  have KO := Lib.hid kO
  clear kO hXa
  have cA0 : w4.cell? ⟨w.heap.size, 0, none⟩ = some (.bool false) := KA.out.cell 0
  have cA1 : w4.cell? ⟨w.heap.size, 1, none⟩ = some (.slice A0 l0 c0) := KA.out.cell 1
  have cA2 : w4.cell? ⟨w.heap.size, 2, none⟩ = some (.slice B0 m0 k0) := KA.out.cell 2
  go_wp2_with fail
  clear cA0 cA1 cA2
  refine (frac_any false false A7 _ l7 c7 _ _ n 1 L _ HV7.out KO.out.one16 HF0.out (Fit.one (by omega) (by omega)) (by omega) (by omega)).mono ?_
  rw [HE.out]
  rintro e w5 ⟨v9, rfl, hv, hX⟩
  replace hX : Ext w4 w5 := by with_reducible exact hX
  replace HX := Lib.hid (HX.out.trans hX)
  replace HI := Lib.hid (HI.out.ext hX)
  replace HJ := Lib.hid (HJ.out.ext hX)
  replace HV7 := Lib.hid (HV7.out.ext hX)
  replace HV8 := Lib.hid (HV8.out.ext hX)
  replace KA := Lib.hid (KA.out.ext hX)
  replace KR := Lib.hid (KR.out.ext hX)
  replace KO := Lib.hid (KO.out.ext hX)
  clear hX
  obtain ⟨s9, A9, l9, c9, B9, m9, k9, rfl⟩ := QZ.open hv
  have HV := Lib.hid (QZ.past hv (NoInts.three KR.out))
  clear hv
  have cR0 : w5.cell? ⟨(w.heap.size + 1), 0, none⟩ = some (.bool false) := KR.out.cell 0
  have fR0 : w5.frozen? ⟨(w.heap.size + 1), 0, none⟩ = false := KR.out.free 0
  have cR1 : w5.cell? ⟨(w.heap.size + 1), 1, none⟩ = some (.slice none 0 0) := KR.out.cell 1
  have fR1 : w5.frozen? ⟨(w.heap.size + 1), 1, none⟩ = false := KR.out.free 1
  have cR2 : w5.cell? ⟨(w.heap.size + 1), 2, none⟩ = some (.slice none 0 0) := KR.out.cell 2
  have fR2 : w5.frozen? ⟨(w.heap.size + 1), 2, none⟩ = false := KR.out.free 2
  go_wp2
  refine bodyPost_ret (v := .tuple #[.agg #[.bool s9, .slice A9 l9 c9, .slice B9 m9 k9], .bool true]) (by simp [results, Try.results87, go_sem, *]) rfl ?_
  exact ⟨_, rfl, HV.out, Ext.boxed HX.out (by omega) _ _ _⟩

set_option maxRecDepth 100000 in
set_option maxHeartbeats 2000000 in
theorem rof_fden (A0 B0 : Option Addr) (l0 c0 m0 k0 : Nat) (xs ys : List Int) (w : World) (hI : Ints .u32 w A0 l0 xs) (hc : l0 ≤ c0 ∧ c0 ≤ 9223372036854775807) (hJ : Ints .u32 w B0 m0 ys) (hk : m0 ≤ k0 ∧ k0 ≤ 9223372036854775807) (ha : FitW (wN xs)) (hb : FitW (wN ys))  (hD : wN ys ≠ 0) :
    Calls Try.prog 87 #[.agg #[.bool false, .slice A0 l0 c0, .slice B0 m0 k0]] w (RetOf w (ratOf false xs ys)) := by
  have HI := Lib.hid hI
  have HJ := Lib.hid hJ
  clear hI hJ
  obtain ⟨hc1, hc2⟩ := hc
  obtain ⟨hk1, hk2⟩ := hk
  have H0 := Lib.hid ha
  have H1 := Lib.hid hb
  obtain ⟨L, hL⟩ : ∃ L : Nat, L = 512 := ⟨_, rfl⟩
  have HF0 : Hid (Fit 65536 (wN xs) L) := by rw [hL]; exact fit512 ha.1
  have HF1 : Hid (Fit 65536 (wN ys) L) := by rw [hL]; exact fit512 hb.1
  replace hL : 1 ≤ L ∧ L ≤ 512 := by omega
  obtain ⟨hL0, hL1⟩ := hL
  clear ha hb
  have HE : Hid (ratV false (wN xs) (wD ys) = ratOf false xs ys) := rfl
  rw [wD_nz hD] at HE
  obtain ⟨n, hN⟩ : ∃ n, wN xs = n := ⟨_, rfl⟩
  obtain ⟨d, hDD⟩ : ∃ d, wN ys = d := ⟨_, rfl⟩
  have HN := Lib.hid hN
  have HDD := Lib.hid hDD
  rw [hDD] at hD
  clear hN hDD
  have hXe : Ext w ((w.alloc (.cells #[.bool false, .slice A0 l0 c0, .slice B0 m0 k0] 33)).alloc (.cells #[.bool false, .slice none 0 0, .slice none 0 0] 42)) := (((Ext.refl w).alloc _).alloc _)
  have kA : Blk ((w.alloc (.cells #[.bool false, .slice A0 l0 c0, .slice B0 m0 k0] 33)).alloc (.cells #[.bool false, .slice none 0 0, .slice none 0 0] 42)) w.heap.size 33 #[.bool false, .slice A0 l0 c0, .slice B0 m0 k0] := Blk.alloc (Blk.at_ (by simp)) _
  have kR : Blk ((w.alloc (.cells #[.bool false, .slice A0 l0 c0, .slice B0 m0 k0] 33)).alloc (.cells #[.bool false, .slice none 0 0, .slice none 0 0] 42)) (w.heap.size + 1) 42 #[.bool false, .slice none 0 0, .slice none 0 0] := Blk.at_ (by simp)
  go_enter Try.func87, Try.ntmps87
  go_wp2_with fail
  generalize ((w.alloc (.cells #[.bool false, .slice A0 l0 c0, .slice B0 m0 k0] 33)).alloc (.cells #[.bool false, .slice none 0 0, .slice none 0 0] 42)) = w1 at hXe kA kR ⊢
  have HX := Lib.hid hXe
  clear hXe
  have KA := Lib.hid kA
  clear kA
  have KR := Lib.hid kR
  clear kR
  replace HI := Lib.hid (HI.out.ext HX.out)
  replace HJ := Lib.hid (HJ.out.ext HX.out)
  have cA0 : w1.cell? ⟨w.heap.size, 0, none⟩ = some (.bool false) := KA.out.cell 0
  have cA1 : w1.cell? ⟨w.heap.size, 1, none⟩ = some (.slice A0 l0 c0) := KA.out.cell 1
  have cA2 : w1.cell? ⟨w.heap.size, 2, none⟩ = some (.slice B0 m0 k0) := KA.out.cell 2
  go_wp2_with fail
  clear cA0 cA1 cA2
  refine (limbs_b true A0 l0 c0 xs _ HI.out hc1 hc2 ⟨fun _ => H0.out, fun _ => rfl⟩).mono ?_
  rintro e w2 ⟨v7, rfl, h7, hX⟩
  replace hX : Ext w1 w2 := by with_reducible exact hX
  replace HX := Lib.hid (HX.out.trans hX)
  replace HI := Lib.hid (HI.out.ext hX)
  replace HJ := Lib.hid (HJ.out.ext hX)
  replace KA := Lib.hid (KA.out.ext hX)
  replace KR := Lib.hid (KR.out.ext hX)
  clear hX
  have HV7 : Hid (Z16 w2 v7 (wN xs)) := h7 rfl
  clear h7
  have cA0 : w2.cell? ⟨w.heap.size, 0, none⟩ = some (.bool false) := KA.out.cell 0
  have cA1 : w2.cell? ⟨w.heap.size, 1, none⟩ = some (.slice A0 l0 c0) := KA.out.cell 1
  have cA2 : w2.cell? ⟨w.heap.size, 2, none⟩ = some (.slice B0 m0 k0) := KA.out.cell 2
  go_wp2_with fail
  clear cA0 cA1 cA2
  refine (limbs_b true B0 m0 k0 ys _ HJ.out hk1 hk2 ⟨fun _ => H1.out, fun _ => rfl⟩).mono ?_
  rintro e w3 ⟨v8, rfl, h8, hX⟩
  replace hX : Ext w2 w3 := by with_reducible exact hX
  replace HX := Lib.hid (HX.out.trans hX)
  replace HI := Lib.hid (HI.out.ext hX)
  replace HJ := Lib.hid (HJ.out.ext hX)
  replace HV7 := Lib.hid (HV7.out.ext hX)
  replace KA := Lib.hid (KA.out.ext hX)
  replace KR := Lib.hid (KR.out.ext hX)
  clear hX
  have HV8 := Lib.hid (h8 rfl)
  clear h8
  rw [HN.out] at HV7 HF0 HE
  rw [HDD.out] at HV8 HF1 HE
  obtain ⟨A7, l7, c7, rfl, hv7, hz7⟩ := Z16.open HV7.out
  obtain ⟨A8, l8, c8, rfl, hv8, hz8⟩ := Z16.open HV8.out
  clear hv7 hv8
  have hl8 : ¬ l8 = 0 := fun h => hD (hz8.1 h)
  have hl8' : ((l8 : Int) == 0) = false := by simp; omega
  have HDP : Hid (0 < d) := by show 0 < _; omega
  clear hz7 hz8 hD
  have cA0 : w3.cell? ⟨w.heap.size, 0, none⟩ = some (.bool false) := KA.out.cell 0
  have cA1 : w3.cell? ⟨w.heap.size, 1, none⟩ = some (.slice A0 l0 c0) := KA.out.cell 1
  have cA2 : w3.cell? ⟨w.heap.size, 2, none⟩ = some (.slice B0 m0 k0) := KA.out.cell 2
  go_wp2_with fail
  clear cA0 cA1 cA2
  refine (frac_any false false A7 _ l7 c7 _ _ n d L _ HV7.out HV8.out HF0.out HF1.out (by omega) HDP.out).mono ?_
  rw [HE.out]
  rintro e w4 ⟨v9, rfl, hv, hX⟩
  replace hX : Ext w3 w4 := by with_reducible exact hX
  replace HX := Lib.hid (HX.out.trans hX)
  replace HI := Lib.hid (HI.out.ext hX)
  replace HJ := Lib.hid (HJ.out.ext hX)
  replace HV7 := Lib.hid (HV7.out.ext hX)
  replace HV8 := Lib.hid (HV8.out.ext hX)
  replace KA := Lib.hid (KA.out.ext hX)
  replace KR := Lib.hid (KR.out.ext hX)
  clear hX
  obtain ⟨s9, A9, l9, c9, B9, m9, k9, rfl⟩ := QZ.open hv
  have HV := Lib.hid (QZ.past hv (NoInts.three KR.out))
  clear hv
  have cR0 : w4.cell? ⟨(w.heap.size + 1), 0, none⟩ = some (.bool false) := KR.out.cell 0
  have fR0 : w4.frozen? ⟨(w.heap.size + 1), 0, none⟩ = false := KR.out.free 0
  have cR1 : w4.cell? ⟨(w.heap.size + 1), 1, none⟩ = some (.slice none 0 0) := KR.out.cell 1
  have fR1 : w4.frozen? ⟨(w.heap.size + 1), 1, none⟩ = false := KR.out.free 1
  have cR2 : w4.cell? ⟨(w.heap.size + 1), 2, none⟩ = some (.slice none 0 0) := KR.out.cell 2
  have fR2 : w4.frozen? ⟨(w.heap.size + 1), 2, none⟩ = false := KR.out.free 2
  go_wp2
  refine bodyPost_ret (v := .tuple #[.agg #[.bool s9, .slice A9 l9 c9, .slice B9 m9 k9], .bool true]) (by simp [results, Try.results87, go_sem, *]) rfl ?_
  exact ⟨_, rfl, HV.out, Ext.boxed HX.out (by omega) _ _ _⟩

set_option maxRecDepth 100000 in
set_option maxHeartbeats 2000000 in
theorem rof_tone (A0 B0 : Option Addr) (l0 c0 m0 k0 : Nat) (xs ys : List Int) (w : World) (hI : Ints .u32 w A0 l0 xs) (hc : l0 ≤ c0 ∧ c0 ≤ 9223372036854775807) (hJ : Ints .u32 w B0 m0 ys) (hk : m0 ≤ k0 ∧ k0 ≤ 9223372036854775807) (ha : FitW (wN xs)) (hb : FitW (wN ys)) (hn : wN xs ≠ 0) (hD : wN ys = 0) :
    Calls Try.prog 87 #[.agg #[.bool true, .slice A0 l0 c0, .slice B0 m0 k0]] w (RetOf w (ratOf true xs ys)) := by
  have HI := Lib.hid hI
  have HJ := Lib.hid hJ
  clear hI hJ
  obtain ⟨hc1, hc2⟩ := hc
  obtain ⟨hk1, hk2⟩ := hk
  have H0 := Lib.hid ha
  have H1 := Lib.hid hb
  obtain ⟨L, hL⟩ : ∃ L : Nat, L = 512 := ⟨_, rfl⟩
  have HF0 : Hid (Fit 65536 (wN xs) L) := by rw [hL]; exact fit512 ha.1
  have HF1 : Hid (Fit 65536 (wN ys) L) := by rw [hL]; exact fit512 hb.1
  replace hL : 1 ≤ L ∧ L ≤ 512 := by omega
  obtain ⟨hL0, hL1⟩ := hL
  clear ha hb
  have HE : Hid (ratV true (wN xs) (wD ys) = ratOf true xs ys) := rfl
  rw [wD_zero hD] at HE
  obtain ⟨n, hN⟩ : ∃ n, wN xs = n := ⟨_, rfl⟩
  obtain ⟨d, hDD⟩ : ∃ d, wN ys = d := ⟨_, rfl⟩
  have HN := Lib.hid hN
  have HDD := Lib.hid hDD
  rw [hDD] at hD
  rw [hN] at hn
  clear hN hDD
  have hXe : Ext w ((w.alloc (.cells #[.bool true, .slice A0 l0 c0, .slice B0 m0 k0] 33)).alloc (.cells #[.bool false, .slice none 0 0, .slice none 0 0] 42)) := (((Ext.refl w).alloc _).alloc _)
  have kA : Blk ((w.alloc (.cells #[.bool true, .slice A0 l0 c0, .slice B0 m0 k0] 33)).alloc (.cells #[.bool false, .slice none 0 0, .slice none 0 0] 42)) w.heap.size 33 #[.bool true, .slice A0 l0 c0, .slice B0 m0 k0] := Blk.alloc (Blk.at_ (by simp)) _
  have kR : Blk ((w.alloc (.cells #[.bool true, .slice A0 l0 c0, .slice B0 m0 k0] 33)).alloc (.cells #[.bool false, .slice none 0 0, .slice none 0 0] 42)) (w.heap.size + 1) 42 #[.bool false, .slice none 0 0, .slice none 0 0] := Blk.at_ (by simp)
  go_enter Try.func87, Try.ntmps87
  go_wp2_with fail
  generalize ((w.alloc (.cells #[.bool true, .slice A0 l0 c0, .slice B0 m0 k0] 33)).alloc (.cells #[.bool false, .slice none 0 0, .slice none 0 0] 42)) = w1 at hXe kA kR ⊢
  have HX := Lib.hid hXe
  clear hXe
  have KA := Lib.hid kA
  clear kA
  have KR := Lib.hid kR
  clear kR
  replace HI := Lib.hid (HI.out.ext HX.out)
  replace HJ := Lib.hid (HJ.out.ext HX.out)
  have cA0 : w1.cell? ⟨w.heap.size, 0, none⟩ = some (.bool true) := KA.out.cell 0
  have cA1 : w1.cell? ⟨w.heap.size, 1, none⟩ = some (.slice A0 l0 c0) := KA.out.cell 1
  have cA2 : w1.cell? ⟨w.heap.size, 2, none⟩ = some (.slice B0 m0 k0) := KA.out.cell 2
  go_wp2_with fail
  clear cA0 cA1 cA2
  refine (limbs_b true A0 l0 c0 xs _ HI.out hc1 hc2 ⟨fun _ => H0.out, fun _ => rfl⟩).mono ?_
  rintro e w2 ⟨v7, rfl, h7, hX⟩
  replace hX : Ext w1 w2 := by with_reducible exact hX
  replace HX := Lib.hid (HX.out.trans hX)
  replace HI := Lib.hid (HI.out.ext hX)
  replace HJ := Lib.hid (HJ.out.ext hX)
  replace KA := Lib.hid (KA.out.ext hX)
  replace KR := Lib.hid (KR.out.ext hX)
  clear hX
  have HV7 : Hid (Z16 w2 v7 (wN xs)) := h7 rfl
  clear h7
  have cA0 : w2.cell? ⟨w.heap.size, 0, none⟩ = some (.bool true) := KA.out.cell 0
  have cA1 : w2.cell? ⟨w.heap.size, 1, none⟩ = some (.slice A0 l0 c0) := KA.out.cell 1
  have cA2 : w2.cell? ⟨w.heap.size, 2, none⟩ = some (.slice B0 m0 k0) := KA.out.cell 2
  go_wp2_with fail
  clear cA0 cA1 cA2
  refine (limbs_b true B0 m0 k0 ys _ HJ.out hk1 hk2 ⟨fun _ => H1.out, fun _ => rfl⟩).mono ?_
  rintro e w3 ⟨v8, rfl, h8, hX⟩
  replace hX : Ext w2 w3 := by with_reducible exact hX
  replace HX := Lib.hid (HX.out.trans hX)
  replace HI := Lib.hid (HI.out.ext hX)
  replace HJ := Lib.hid (HJ.out.ext hX)
  replace HV7 := Lib.hid (HV7.out.ext hX)
  replace KA := Lib.hid (KA.out.ext hX)
  replace KR := Lib.hid (KR.out.ext hX)
  clear hX
  have HV8 := Lib.hid (h8 rfl)
  clear h8
  rw [HN.out] at HV7 HF0 HE
  rw [HDD.out] at HV8 HF1
  obtain ⟨A7, l7, c7, rfl, hv7, hz7⟩ := Z16.open HV7.out
  obtain ⟨A8, l8, c8, rfl, hv8, hz8⟩ := Z16.open HV8.out
  clear hv7 hv8
  have hl7 : (0 : Int) < (l7 : Int) := by
    rcases Nat.eq_zero_or_pos l7 with h | h
    · exact absurd (hz7.1 h) hn
    · omega
  have hl7' : 0 < l7 := by omega
  obtain rfl : l8 = 0 := hz8.2 hD
  clear hz7 hz8 hD hn
  have cA0 : w3.cell? ⟨w.heap.size, 0, none⟩ = some (.bool true) := KA.out.cell 0
  have cA1 : w3.cell? ⟨w.heap.size, 1, none⟩ = some (.slice A0 l0 c0) := KA.out.cell 1
  have cA2 : w3.cell? ⟨w.heap.size, 2, none⟩ = some (.slice B0 m0 k0) := KA.out.cell 2
  go_upto_region 7 with (fail)
  clear cA0 cA1 cA2
  have hXa : Ext w3 (w3.alloc (.cells #[.int .i64 1] 3)) := (Ext.refl _).alloc _
  have kO := Blk.new w3 3 #[.int .i64 1]
  have zA := KA.out.lt
  have zR := KR.out.lt
  have zg := HX.out.size
  replace HX := Lib.hid (HX.out.trans hXa)
  replace HI := Lib.hid (HI.out.ext hXa)
  replace HJ := Lib.hid (HJ.out.ext hXa)
  replace HV7 := Lib.hid (HV7.out.ext hXa)
  replace HV8 := Lib.hid (HV8.out.ext hXa)
  replace KA := Lib.hid (KA.out.ext hXa)
  replace KR := Lib.hid (KR.out.ext hXa)
  generalize (w3.alloc (.cells #[.int .i64 1] 3)) = w4 at HX HI HJ HV7 HV8 KA KR kO ⊢
  have KO := Lib.hid kO
  clear kO hXa
  have cA0 : w4.cell? ⟨w.heap.size, 0, none⟩ = some (.bool true) := KA.out.cell 0
  have cA1 : w4.cell? ⟨w.heap.size, 1, none⟩ = some (.slice A0 l0 c0) := KA.out.cell 1
  have cA2 : w4.cell? ⟨w.heap.size, 2, none⟩ = some (.slice B0 m0 k0) := KA.out.cell 2
  go_wp2_with fail
  clear cA0 cA1 cA2
  refine (frac_any true false A7 _ l7 c7 _ _ n 1 L _ HV7.out KO.out.one16 HF0.out (Fit.one (by omega) (by omega)) (by omega) (by omega)).mono ?_
  rw [HE.out]
  rintro e w5 ⟨v9, rfl, hv, hX⟩
  replace hX : Ext w4 w5 := by with_reducible exact hX
  replace HX := Lib.hid (HX.out.trans hX)
  replace HI := Lib.hid (HI.out.ext hX)
  replace HJ := Lib.hid (HJ.out.ext hX)
  replace HV7 := Lib.hid (HV7.out.ext hX)
  replace HV8 := Lib.hid (HV8.out.ext hX)
  replace KA := Lib.hid (KA.out.ext hX)
  replace KR := Lib.hid (KR.out.ext hX)
  replace KO := Lib.hid (KO.out.ext hX)
  clear hX
  obtain ⟨s9, A9, l9, c9, B9, m9, k9, rfl⟩ := QZ.open hv
  have HV := Lib.hid (QZ.past hv (NoInts.three KR.out))
  clear hv
  have cR0 : w5.cell? ⟨(w.heap.size + 1), 0, none⟩ = some (.bool false) := KR.out.cell 0
  have fR0 : w5.frozen? ⟨(w.heap.size + 1), 0, none⟩ = false := KR.out.free 0
  have cR1 : w5.cell? ⟨(w.heap.size + 1), 1, none⟩ = some (.slice none 0 0) := KR.out.cell 1
  have fR1 : w5.frozen? ⟨(w.heap.size + 1), 1, none⟩ = false := KR.out.free 1
  have cR2 : w5.cell? ⟨(w.heap.size + 1), 2, none⟩ = some (.slice none 0 0) := KR.out.cell 2
  have fR2 : w5.frozen? ⟨(w.heap.size + 1), 2, none⟩ = false := KR.out.free 2
  go_wp2
  refine bodyPost_ret (v := .tuple #[.agg #[.bool s9, .slice A9 l9 c9, .slice B9 m9 k9], .bool true]) (by simp [results, Try.results87, go_sem, *]) rfl ?_
  exact ⟨_, rfl, HV.out, Ext.boxed HX.out (by omega) _ _ _⟩

set_option maxRecDepth 100000 in
set_option maxHeartbeats 2000000 in
theorem rof_tden (A0 B0 : Option Addr) (l0 c0 m0 k0 : Nat) (xs ys : List Int) (w : World) (hI : Ints .u32 w A0 l0 xs) (hc : l0 ≤ c0 ∧ c0 ≤ 9223372036854775807) (hJ : Ints .u32 w B0 m0 ys) (hk : m0 ≤ k0 ∧ k0 ≤ 9223372036854775807) (ha : FitW (wN xs)) (hb : FitW (wN ys)) (hn : wN xs ≠ 0) (hD : wN ys ≠ 0) :
    Calls Try.prog 87 #[.agg #[.bool true, .slice A0 l0 c0, .slice B0 m0 k0]] w (RetOf w (ratOf true xs ys)) := by
  have HI := Lib.hid hI
  have HJ := Lib.hid hJ
  clear hI hJ
  obtain ⟨hc1, hc2⟩ := hc
  obtain ⟨hk1, hk2⟩ := hk
  have H0 := Lib.hid ha
  have H1 := Lib.hid hb
  obtain ⟨L, hL⟩ : ∃ L : Nat, L = 512 := ⟨_, rfl⟩
  have HF0 : Hid (Fit 65536 (wN xs) L) := by rw [hL]; exact fit512 ha.1
  have HF1 : Hid (Fit 65536 (wN ys) L) := by rw [hL]; exact fit512 hb.1
  replace hL : 1 ≤ L ∧ L ≤ 512 := by omega
  obtain ⟨hL0, hL1⟩ := hL
  clear ha hb
  have HE : Hid (ratV true (wN xs) (wD ys) = ratOf true xs ys) := rfl
  rw [wD_nz hD] at HE
  obtain ⟨n, hN⟩ : ∃ n, wN xs = n := ⟨_, rfl⟩
  obtain ⟨d, hDD⟩ : ∃ d, wN ys = d := ⟨_, rfl⟩
  have HN := Lib.hid hN
  have HDD := Lib.hid hDD
  rw [hDD] at hD
  rw [hN] at hn
  clear hN hDD
  have hXe : Ext w ((w.alloc (.cells #[.bool true, .slice A0 l0 c0, .slice B0 m0 k0] 33)).alloc (.cells #[.bool false, .slice none 0 0, .slice none 0 0] 42)) := (((Ext.refl w).alloc _).alloc _)
  have kA : Blk ((w.alloc (.cells #[.bool true, .slice A0 l0 c0, .slice B0 m0 k0] 33)).alloc (.cells #[.bool false, .slice none 0 0, .slice none 0 0] 42)) w.heap.size 33 #[.bool true, .slice A0 l0 c0, .slice B0 m0 k0] := Blk.alloc (Blk.at_ (by simp)) _
  have kR : Blk ((w.alloc (.cells #[.bool true, .slice A0 l0 c0, .slice B0 m0 k0] 33)).alloc (.cells #[.bool false, .slice none 0 0, .slice none 0 0] 42)) (w.heap.size + 1) 42 #[.bool false, .slice none 0 0, .slice none 0 0] := Blk.at_ (by simp)
  go_enter Try.func87, Try.ntmps87
  go_wp2_with fail
  generalize ((w.alloc (.cells #[.bool true, .slice A0 l0 c0, .slice B0 m0 k0] 33)).alloc (.cells #[.bool false, .slice none 0 0, .slice none 0 0] 42)) = w1 at hXe kA kR ⊢
  have HX := Lib.hid hXe
  clear hXe
  have KA := Lib.hid kA
  clear kA
  have KR := Lib.hid kR
  clear kR
  replace HI := Lib.hid (HI.out.ext HX.out)
  replace HJ := Lib.hid (HJ.out.ext HX.out)
  have cA0 : w1.cell? ⟨w.heap.size, 0, none⟩ = some (.bool true) := KA.out.cell 0
  have cA1 : w1.cell? ⟨w.heap.size, 1, none⟩ = some (.slice A0 l0 c0) := KA.out.cell 1
  have cA2 : w1.cell? ⟨w.heap.size, 2, none⟩ = some (.slice B0 m0 k0) := KA.out.cell 2
  go_wp2_with fail
  clear cA0 cA1 cA2
  refine (limbs_b true A0 l0 c0 xs _ HI.out hc1 hc2 ⟨fun _ => H0.out, fun _ => rfl⟩).mono ?_
  rintro e w2 ⟨v7, rfl, h7, hX⟩
  replace hX : Ext w1 w2 := by with_reducible exact hX
  replace HX := Lib.hid (HX.out.trans hX)
  replace HI := Lib.hid (HI.out.ext hX)
  replace HJ := Lib.hid (HJ.out.ext hX)
  replace KA := Lib.hid (KA.out.ext hX)
  replace KR := Lib.hid (KR.out.ext hX)
  clear hX
  have HV7 : Hid (Z16 w2 v7 (wN xs)) := h7 rfl
  clear h7
  have cA0 : w2.cell? ⟨w.heap.size, 0, none⟩ = some (.bool true) := KA.out.cell 0
  have cA1 : w2.cell? ⟨w.heap.size, 1, none⟩ = some (.slice A0 l0 c0) := KA.out.cell 1
  have cA2 : w2.cell? ⟨w.heap.size, 2, none⟩ = some (.slice B0 m0 k0) := KA.out.cell 2
  go_wp2_with fail
  clear cA0 cA1 cA2
  refine (limbs_b true B0 m0 k0 ys _ HJ.out hk1 hk2 ⟨fun _ => H1.out, fun _ => rfl⟩).mono ?_
  rintro e w3 ⟨v8, rfl, h8, hX⟩
  replace hX : Ext w2 w3 := by with_reducible exact hX
  replace HX := Lib.hid (HX.out.trans hX)
  replace HI := Lib.hid (HI.out.ext hX)
  replace HJ := Lib.hid (HJ.out.ext hX)
  replace HV7 := Lib.hid (HV7.out.ext hX)
  replace KA := Lib.hid (KA.out.ext hX)
  replace KR := Lib.hid (KR.out.ext hX)
  clear hX
  have HV8 := Lib.hid (h8 rfl)
  clear h8
  rw [HN.out] at HV7 HF0 HE
  rw [HDD.out] at HV8 HF1 HE
  obtain ⟨A7, l7, c7, rfl, hv7, hz7⟩ := Z16.open HV7.out
  obtain ⟨A8, l8, c8, rfl, hv8, hz8⟩ := Z16.open HV8.out
  clear hv7 hv8
  have hl7 : (0 : Int) < (l7 : Int) := by
    rcases Nat.eq_zero_or_pos l7 with h | h
    · exact absurd (hz7.1 h) hn
    · omega
  have hl7' : 0 < l7 := by omega
  have hl8 : ¬ l8 = 0 := fun h => hD (hz8.1 h)
  have hl8' : ((l8 : Int) == 0) = false := by simp; omega
  have HDP : Hid (0 < d) := by show 0 < _; omega
  clear hz7 hz8 hD hn
  have cA0 : w3.cell? ⟨w.heap.size, 0, none⟩ = some (.bool true) := KA.out.cell 0
  have cA1 : w3.cell? ⟨w.heap.size, 1, none⟩ = some (.slice A0 l0 c0) := KA.out.cell 1
  have cA2 : w3.cell? ⟨w.heap.size, 2, none⟩ = some (.slice B0 m0 k0) := KA.out.cell 2
  go_wp2_with fail
  clear cA0 cA1 cA2
  refine (frac_any true false A7 _ l7 c7 _ _ n d L _ HV7.out HV8.out HF0.out HF1.out (by omega) HDP.out).mono ?_
  rw [HE.out]
  rintro e w4 ⟨v9, rfl, hv, hX⟩
  replace hX : Ext w3 w4 := by with_reducible exact hX
  replace HX := Lib.hid (HX.out.trans hX)
  replace HI := Lib.hid (HI.out.ext hX)
  replace HJ := Lib.hid (HJ.out.ext hX)
  replace HV7 := Lib.hid (HV7.out.ext hX)
  replace HV8 := Lib.hid (HV8.out.ext hX)
  replace KA := Lib.hid (KA.out.ext hX)
  replace KR := Lib.hid (KR.out.ext hX)
  clear hX
  obtain ⟨s9, A9, l9, c9, B9, m9, k9, rfl⟩ := QZ.open hv
  have HV := Lib.hid (QZ.past hv (NoInts.three KR.out))
  clear hv
  have cR0 : w4.cell? ⟨(w.heap.size + 1), 0, none⟩ = some (.bool false) := KR.out.cell 0
  have fR0 : w4.frozen? ⟨(w.heap.size + 1), 0, none⟩ = false := KR.out.free 0
  have cR1 : w4.cell? ⟨(w.heap.size + 1), 1, none⟩ = some (.slice none 0 0) := KR.out.cell 1
  have fR1 : w4.frozen? ⟨(w.heap.size + 1), 1, none⟩ = false := KR.out.free 1
  have cR2 : w4.cell? ⟨(w.heap.size + 1), 2, none⟩ = some (.slice none 0 0) := KR.out.cell 2
  have fR2 : w4.frozen? ⟨(w.heap.size + 1), 2, none⟩ = false := KR.out.free 2
  go_wp2
  refine bodyPost_ret (v := .tuple #[.agg #[.bool s9, .slice A9 l9 c9, .slice B9 m9 k9], .bool true]) (by simp [results, Try.results87, go_sem, *]) rfl ?_
  exact ⟨_, rfl, HV.out, Ext.boxed HX.out (by omega) _ _ _⟩

set_option maxRecDepth 100000 in
set_option maxHeartbeats 2000000 in
theorem rof_zone (A0 B0 : Option Addr) (l0 c0 m0 k0 : Nat) (xs ys : List Int) (w : World) (hI : Ints .u32 w A0 l0 xs) (hc : l0 ≤ c0 ∧ c0 ≤ 9223372036854775807) (hJ : Ints .u32 w B0 m0 ys) (hk : m0 ≤ k0 ∧ k0 ≤ 9223372036854775807) (ha : FitW (wN xs)) (hb : FitW (wN ys)) (hn : wN xs = 0) (hD : wN ys = 0) :
    Calls Try.prog 87 #[.agg #[.bool true, .slice A0 l0 c0, .slice B0 m0 k0]] w (RetOf w (ratOf true xs ys)) := by
  have HI := Lib.hid hI
  have HJ := Lib.hid hJ
  clear hI hJ
  obtain ⟨hc1, hc2⟩ := hc
  obtain ⟨hk1, hk2⟩ := hk
  have H0 := Lib.hid ha
  have H1 := Lib.hid hb
  obtain ⟨L, hL⟩ : ∃ L : Nat, L = 512 := ⟨_, rfl⟩
  have HF0 : Hid (Fit 65536 (wN xs) L) := by rw [hL]; exact fit512 ha.1
  have HF1 : Hid (Fit 65536 (wN ys) L) := by rw [hL]; exact fit512 hb.1
  replace hL : 1 ≤ L ∧ L ≤ 512 := by omega
  obtain ⟨hL0, hL1⟩ := hL
  clear ha hb
  have HE : Hid (ratV false (wN xs) (wD ys) = ratOf true xs ys) := ratV_z _ _ (wD_pos ys) hn
  rw [wD_zero hD] at HE
  obtain ⟨n, hN⟩ : ∃ n, wN xs = n := ⟨_, rfl⟩
  obtain ⟨d, hDD⟩ : ∃ d, wN ys = d := ⟨_, rfl⟩
  have HN := Lib.hid hN
  have HDD := Lib.hid hDD
  rw [hDD] at hD
  rw [hN] at hn
  clear hN hDD
  have hXe : Ext w ((w.alloc (.cells #[.bool true, .slice A0 l0 c0, .slice B0 m0 k0] 33)).alloc (.cells #[.bool false, .slice none 0 0, .slice none 0 0] 42)) := (((Ext.refl w).alloc _).alloc _)
  have kA : Blk ((w.alloc (.cells #[.bool true, .slice A0 l0 c0, .slice B0 m0 k0] 33)).alloc (.cells #[.bool false, .slice none 0 0, .slice none 0 0] 42)) w.heap.size 33 #[.bool true, .slice A0 l0 c0, .slice B0 m0 k0] := Blk.alloc (Blk.at_ (by simp)) _
  have kR : Blk ((w.alloc (.cells #[.bool true, .slice A0 l0 c0, .slice B0 m0 k0] 33)).alloc (.cells #[.bool false, .slice none 0 0, .slice none 0 0] 42)) (w.heap.size + 1) 42 #[.bool false, .slice none 0 0, .slice none 0 0] := Blk.at_ (by simp)
  go_enter Try.func87, Try.ntmps87
  go_wp2_with fail
  generalize ((w.alloc (.cells #[.bool true, .slice A0 l0 c0, .slice B0 m0 k0] 33)).alloc (.cells #[.bool false, .slice none 0 0, .slice none 0 0] 42)) = w1 at hXe kA kR ⊢
  have HX := Lib.hid hXe
  clear hXe
  have KA := Lib.hid kA
  clear kA
  have KR := Lib.hid kR
  clear kR
  replace HI := Lib.hid (HI.out.ext HX.out)
  replace HJ := Lib.hid (HJ.out.ext HX.out)
  have cA0 : w1.cell? ⟨w.heap.size, 0, none⟩ = some (.bool true) := KA.out.cell 0
  have cA1 : w1.cell? ⟨w.heap.size, 1, none⟩ = some (.slice A0 l0 c0) := KA.out.cell 1
  have cA2 : w1.cell? ⟨w.heap.size, 2, none⟩ = some (.slice B0 m0 k0) := KA.out.cell 2
  go_wp2_with fail
  clear cA0 cA1 cA2
  refine (limbs_b true A0 l0 c0 xs _ HI.out hc1 hc2 ⟨fun _ => H0.out, fun _ => rfl⟩).mono ?_
  rintro e w2 ⟨v7, rfl, h7, hX⟩
  replace hX : Ext w1 w2 := by with_reducible exact hX
  replace HX := Lib.hid (HX.out.trans hX)
  replace HI := Lib.hid (HI.out.ext hX)
  replace HJ := Lib.hid (HJ.out.ext hX)
  replace KA := Lib.hid (KA.out.ext hX)
  replace KR := Lib.hid (KR.out.ext hX)
  clear hX
  have HV7 : Hid (Z16 w2 v7 (wN xs)) := h7 rfl
  clear h7
  have cA0 : w2.cell? ⟨w.heap.size, 0, none⟩ = some (.bool true) := KA.out.cell 0
  have cA1 : w2.cell? ⟨w.heap.size, 1, none⟩ = some (.slice A0 l0 c0) := KA.out.cell 1
  have cA2 : w2.cell? ⟨w.heap.size, 2, none⟩ = some (.slice B0 m0 k0) := KA.out.cell 2
  go_wp2_with fail
  clear cA0 cA1 cA2
  refine (limbs_b true B0 m0 k0 ys _ HJ.out hk1 hk2 ⟨fun _ => H1.out, fun _ => rfl⟩).mono ?_
  rintro e w3 ⟨v8, rfl, h8, hX⟩
  replace hX : Ext w2 w3 := by with_reducible exact hX
  replace HX := Lib.hid (HX.out.trans hX)
  replace HI := Lib.hid (HI.out.ext hX)
  replace HJ := Lib.hid (HJ.out.ext hX)
  replace HV7 := Lib.hid (HV7.out.ext hX)
  replace KA := Lib.hid (KA.out.ext hX)
  replace KR := Lib.hid (KR.out.ext hX)
  clear hX
  have HV8 := Lib.hid (h8 rfl)
  clear h8
  rw [HN.out] at HV7 HF0 HE
  rw [HDD.out] at HV8 HF1
  obtain ⟨A7, l7, c7, rfl, hv7, hz7⟩ := Z16.open HV7.out
  obtain ⟨A8, l8, c8, rfl, hv8, hz8⟩ := Z16.open HV8.out
  clear hv7 hv8
  obtain rfl : l7 = 0 := hz7.2 hn
  obtain rfl : l8 = 0 := hz8.2 hD
  clear hz7 hz8 hD hn
  have cA0 : w3.cell? ⟨w.heap.size, 0, none⟩ = some (.bool true) := KA.out.cell 0
  have cA1 : w3.cell? ⟨w.heap.size, 1, none⟩ = some (.slice A0 l0 c0) := KA.out.cell 1
  have cA2 : w3.cell? ⟨w.heap.size, 2, none⟩ = some (.slice B0 m0 k0) := KA.out.cell 2
  go_upto_region 7 with (fail)
  clear cA0 cA1 cA2
  have hXa : Ext w3 (w3.alloc (.cells #[.int .i64 1] 3)) := (Ext.refl _).alloc _
  have kO := Blk.new w3 3 #[.int .i64 1]
  have zA := KA.out.lt
  have zR := KR.out.lt
  have zg := HX.out.size
  replace HX := Lib.hid (HX.out.trans hXa)
  replace HI := Lib.hid (HI.out.ext hXa)
  replace HJ := Lib.hid (HJ.out.ext hXa)
  replace HV7 := Lib.hid (HV7.out.ext hXa)
  replace HV8 := Lib.hid (HV8.out.ext hXa)
  replace KA := Lib.hid (KA.out.ext hXa)
  replace KR := Lib.hid (KR.out.ext hXa)
  generalize (w3.alloc (.cells #[.int .i64 1] 3)) = w4 at HX HI HJ HV7 HV8 KA KR kO ⊢
  have KO := Lib.hid kO
  clear kO hXa
  have cA0 : w4.cell? ⟨w.heap.size, 0, none⟩ = some (.bool true) := KA.out.cell 0
  have cA1 : w4.cell? ⟨w.heap.size, 1, none⟩ = some (.slice A0 l0 c0) := KA.out.cell 1
  have cA2 : w4.cell? ⟨w.heap.size, 2, none⟩ = some (.slice B0 m0 k0) := KA.out.cell 2
  go_wp2_with fail
  clear cA0 cA1 cA2
  refine (frac_any false false A7 _ 0 c7 _ _ n 1 L _ HV7.out KO.out.one16 HF0.out (Fit.one (by omega) (by omega)) (by omega) (by omega)).mono ?_
  rw [HE.out]
  rintro e w5 ⟨v9, rfl, hv, hX⟩
  replace hX : Ext w4 w5 := by with_reducible exact hX
  replace HX := Lib.hid (HX.out.trans hX)
  replace HI := Lib.hid (HI.out.ext hX)
  replace HJ := Lib.hid (HJ.out.ext hX)
  replace HV7 := Lib.hid (HV7.out.ext hX)
  replace HV8 := Lib.hid (HV8.out.ext hX)
  replace KA := Lib.hid (KA.out.ext hX)
  replace KR := Lib.hid (KR.out.ext hX)
  replace KO := Lib.hid (KO.out.ext hX)
  clear hX
  obtain ⟨s9, A9, l9, c9, B9, m9, k9, rfl⟩ := QZ.open hv
  have HV := Lib.hid (QZ.past hv (NoInts.three KR.out))
  clear hv
  have cR0 : w5.cell? ⟨(w.heap.size + 1), 0, none⟩ = some (.bool false) := KR.out.cell 0
  have fR0 : w5.frozen? ⟨(w.heap.size + 1), 0, none⟩ = false := KR.out.free 0
  have cR1 : w5.cell? ⟨(w.heap.size + 1), 1, none⟩ = some (.slice none 0 0) := KR.out.cell 1
  have fR1 : w5.frozen? ⟨(w.heap.size + 1), 1, none⟩ = false := KR.out.free 1
  have cR2 : w5.cell? ⟨(w.heap.size + 1), 2, none⟩ = some (.slice none 0 0) := KR.out.cell 2
  have fR2 : w5.frozen? ⟨(w.heap.size + 1), 2, none⟩ = false := KR.out.free 2
  go_wp2
  refine bodyPost_ret (v := .tuple #[.agg #[.bool s9, .slice A9 l9 c9, .slice B9 m9 k9], .bool true]) (by simp [results, Try.results87, go_sem, *]) rfl ?_
  exact ⟨_, rfl, HV.out, Ext.boxed HX.out (by omega) _ _ _⟩

set_option maxRecDepth 100000 in
set_option maxHeartbeats 2000000 in
theorem rof_zden (A0 B0 : Option Addr) (l0 c0 m0 k0 : Nat) (xs ys : List Int) (w : World) (hI : Ints .u32 w A0 l0 xs) (hc : l0 ≤ c0 ∧ c0 ≤ 9223372036854775807) (hJ : Ints .u32 w B0 m0 ys) (hk : m0 ≤ k0 ∧ k0 ≤ 9223372036854775807) (ha : FitW (wN xs)) (hb : FitW (wN ys)) (hn : wN xs = 0) (hD : wN ys ≠ 0) :
    Calls Try.prog 87 #[.agg #[.bool true, .slice A0 l0 c0, .slice B0 m0 k0]] w (RetOf w (ratOf true xs ys)) := by
  have HI := Lib.hid hI
  have HJ := Lib.hid hJ
  clear hI hJ
  obtain ⟨hc1, hc2⟩ := hc
  obtain ⟨hk1, hk2⟩ := hk
  have H0 := Lib.hid ha
  have H1 := Lib.hid hb
  obtain ⟨L, hL⟩ : ∃ L : Nat, L = 512 := ⟨_, rfl⟩
  have HF0 : Hid (Fit 65536 (wN xs) L) := by rw [hL]; exact fit512 ha.1
  have HF1 : Hid (Fit 65536 (wN ys) L) := by rw [hL]; exact fit512 hb.1
  replace hL : 1 ≤ L ∧ L ≤ 512 := by omega
  obtain ⟨hL0, hL1⟩ := hL
  clear ha hb
  have HE : Hid (ratV false (wN xs) (wD ys) = ratOf true xs ys) := ratV_z _ _ (wD_pos ys) hn
  rw [wD_nz hD] at HE
  obtain ⟨n, hN⟩ : ∃ n, wN xs = n := ⟨_, rfl⟩
  obtain ⟨d, hDD⟩ : ∃ d, wN ys = d := ⟨_, rfl⟩
  have HN := Lib.hid hN
  have HDD := Lib.hid hDD
  rw [hDD] at hD
  rw [hN] at hn
  clear hN hDD
  have hXe : Ext w ((w.alloc (.cells #[.bool true, .slice A0 l0 c0, .slice B0 m0 k0] 33)).alloc (.cells #[.bool false, .slice none 0 0, .slice none 0 0] 42)) := (((Ext.refl w).alloc _).alloc _)
  have kA : Blk ((w.alloc (.cells #[.bool true, .slice A0 l0 c0, .slice B0 m0 k0] 33)).alloc (.cells #[.bool false, .slice none 0 0, .slice none 0 0] 42)) w.heap.size 33 #[.bool true, .slice A0 l0 c0, .slice B0 m0 k0] := Blk.alloc (Blk.at_ (by simp)) _
  have kR : Blk ((w.alloc (.cells #[.bool true, .slice A0 l0 c0, .slice B0 m0 k0] 33)).alloc (.cells #[.bool false, .slice none 0 0, .slice none 0 0] 42)) (w.heap.size + 1) 42 #[.bool false, .slice none 0 0, .slice none 0 0] := Blk.at_ (by simp)
  go_enter Try.func87, Try.ntmps87
  go_wp2_with fail
  generalize ((w.alloc (.cells #[.bool true, .slice A0 l0 c0, .slice B0 m0 k0] 33)).alloc (.cells #[.bool false, .slice none 0 0, .slice none 0 0] 42)) = w1 at hXe kA kR ⊢
  have HX := Lib.hid hXe
  clear hXe
  have KA := Lib.hid kA
  clear kA
  have KR := Lib.hid kR
  clear kR
  replace HI := Lib.hid (HI.out.ext HX.out)
  replace HJ := Lib.hid (HJ.out.ext HX.out)
  have cA0 : w1.cell? ⟨w.heap.size, 0, none⟩ = some (.bool true) := KA.out.cell 0
  have cA1 : w1.cell? ⟨w.heap.size, 1, none⟩ = some (.slice A0 l0 c0) := KA.out.cell 1
  have cA2 : w1.cell? ⟨w.heap.size, 2, none⟩ = some (.slice B0 m0 k0) := KA.out.cell 2
  go_wp2_with fail
  clear cA0 cA1 cA2
  refine (limbs_b true A0 l0 c0 xs _ HI.out hc1 hc2 ⟨fun _ => H0.out, fun _ => rfl⟩).mono ?_
  rintro e w2 ⟨v7, rfl, h7, hX⟩
  replace hX : Ext w1 w2 := by with_reducible exact hX
  replace HX := Lib.hid (HX.out.trans hX)
  replace HI := Lib.hid (HI.out.ext hX)
  replace HJ := Lib.hid (HJ.out.ext hX)
  replace KA := Lib.hid (KA.out.ext hX)
  replace KR := Lib.hid (KR.out.ext hX)
  clear hX
  have HV7 : Hid (Z16 w2 v7 (wN xs)) := h7 rfl
  clear h7
  have cA0 : w2.cell? ⟨w.heap.size, 0, none⟩ = some (.bool true) := KA.out.cell 0
  have cA1 : w2.cell? ⟨w.heap.size, 1, none⟩ = some (.slice A0 l0 c0) := KA.out.cell 1
  have cA2 : w2.cell? ⟨w.heap.size, 2, none⟩ = some (.slice B0 m0 k0) := KA.out.cell 2
  go_wp2_with fail
  clear cA0 cA1 cA2
  refine (limbs_b true B0 m0 k0 ys _ HJ.out hk1 hk2 ⟨fun _ => H1.out, fun _ => rfl⟩).mono ?_
  rintro e w3 ⟨v8, rfl, h8, hX⟩
  replace hX : Ext w2 w3 := by with_reducible exact hX
  replace HX := Lib.hid (HX.out.trans hX)
  replace HI := Lib.hid (HI.out.ext hX)
  replace HJ := Lib.hid (HJ.out.ext hX)
  replace HV7 := Lib.hid (HV7.out.ext hX)
  replace KA := Lib.hid (KA.out.ext hX)
  replace KR := Lib.hid (KR.out.ext hX)
  clear hX
  have HV8 := Lib.hid (h8 rfl)
  clear h8
  rw [HN.out] at HV7 HF0 HE
  rw [HDD.out] at HV8 HF1 HE
  obtain ⟨A7, l7, c7, rfl, hv7, hz7⟩ := Z16.open HV7.out
  obtain ⟨A8, l8, c8, rfl, hv8, hz8⟩ := Z16.open HV8.out
  clear hv7 hv8
  obtain rfl : l7 = 0 := hz7.2 hn
  have hl8 : ¬ l8 = 0 := fun h => hD (hz8.1 h)
  have hl8' : ((l8 : Int) == 0) = false := by simp; omega
  have HDP : Hid (0 < d) := by show 0 < _; omega
  clear hz7 hz8 hD hn
  have cA0 : w3.cell? ⟨w.heap.size, 0, none⟩ = some (.bool true) := KA.out.cell 0
  have cA1 : w3.cell? ⟨w.heap.size, 1, none⟩ = some (.slice A0 l0 c0) := KA.out.cell 1
  have cA2 : w3.cell? ⟨w.heap.size, 2, none⟩ = some (.slice B0 m0 k0) := KA.out.cell 2
  go_wp2_with fail
  clear cA0 cA1 cA2
  refine (frac_any false false A7 _ 0 c7 _ _ n d L _ HV7.out HV8.out HF0.out HF1.out (by omega) HDP.out).mono ?_
  rw [HE.out]
  rintro e w4 ⟨v9, rfl, hv, hX⟩
  replace hX : Ext w3 w4 := by with_reducible exact hX
  replace HX := Lib.hid (HX.out.trans hX)
  replace HI := Lib.hid (HI.out.ext hX)
  replace HJ := Lib.hid (HJ.out.ext hX)
  replace HV7 := Lib.hid (HV7.out.ext hX)
  replace HV8 := Lib.hid (HV8.out.ext hX)
  replace KA := Lib.hid (KA.out.ext hX)
  replace KR := Lib.hid (KR.out.ext hX)
  clear hX
  obtain ⟨s9, A9, l9, c9, B9, m9, k9, rfl⟩ := QZ.open hv
  have HV := Lib.hid (QZ.past hv (NoInts.three KR.out))
  clear hv
  have cR0 : w4.cell? ⟨(w.heap.size + 1), 0, none⟩ = some (.bool false) := KR.out.cell 0
  have fR0 : w4.frozen? ⟨(w.heap.size + 1), 0, none⟩ = false := KR.out.free 0
  have cR1 : w4.cell? ⟨(w.heap.size + 1), 1, none⟩ = some (.slice none 0 0) := KR.out.cell 1
  have fR1 : w4.frozen? ⟨(w.heap.size + 1), 1, none⟩ = false := KR.out.free 1
  have cR2 : w4.cell? ⟨(w.heap.size + 1), 2, none⟩ = some (.slice none 0 0) := KR.out.cell 2
  have fR2 : w4.frozen? ⟨(w.heap.size + 1), 2, none⟩ = false := KR.out.free 2
  go_wp2
  refine bodyPost_ret (v := .tuple #[.agg #[.bool s9, .slice A9 l9 c9, .slice B9 m9 k9], .bool true]) (by simp [results, Try.results87, go_sem, *]) rfl ?_
  exact ⟨_, rfl, HV.out, Ext.boxed HX.out (by omega) _ _ _⟩


theorem rof_yes {w : World} {v : Value} {q : Rat} (h : RatG w v q) : Calls Try.prog 87 #[v] w (RetOf w q) := by
  obtain ⟨neg, xs, ys, ⟨A, l, c, B, m, k, rfl, h1, h2, h3, h4, h5, h6⟩, ⟨ha, hb⟩, rfl⟩ := h
  cases neg
  · by_cases hD : wN ys = 0
    · exact rof_fone A B l c m k xs ys w h1 ⟨h2, h3⟩ h4 ⟨h5, h6⟩ ha hb hD
    · exact rof_fden A B l c m k xs ys w h1 ⟨h2, h3⟩ h4 ⟨h5, h6⟩ ha hb hD
  · by_cases hn : wN xs = 0
    · by_cases hD : wN ys = 0
      · exact rof_zone A B l c m k xs ys w h1 ⟨h2, h3⟩ h4 ⟨h5, h6⟩ ha hb hn hD
      · exact rof_zden A B l c m k xs ys w h1 ⟨h2, h3⟩ h4 ⟨h5, h6⟩ ha hb hn hD
    · by_cases hD : wN ys = 0
      · exact rof_tone A B l c m k xs ys w h1 ⟨h2, h3⟩ h4 ⟨h5, h6⟩ ha hb hn hD
      · exact rof_tden A B l c m k xs ys w h1 ⟨h2, h3⟩ h4 ⟨h5, h6⟩ ha hb hn hD
theorem rof_no {w : World} {v : Value} (h : RatL w v true) : Calls Try.prog 87 #[v] w fun e w' => e = .returned (.tuple #[.agg #[.bool false, .slice none 0 0, .slice none 0 0], .bool false]) ∧ Ext w w' := by
  obtain ⟨neg, xs, ys, ⟨A, l, c, B, m, k, rfl, h1, h2, h3, h4, h5, h6⟩, hs⟩ := h
  by_cases ha : FitW (wN xs)
  · exact rof_n1 _ A B l c m k xs ys w h1 ⟨h2, h3⟩ h4 ⟨h5, h6⟩ ha (fun hb => (hs.1 rfl) ⟨ha, hb⟩)
  · exact rof_n0 _ A B l c m k xs ys w h1 ⟨h2, h3⟩ h4 ⟨h5, h6⟩ ha

end Go.Proofs.Yteoijnaljkagfaa
namespace Go.Proofs.Yteoijnaljkagfaa
open Go.RowKit

set_option maxRecDepth 100000 in
set_option maxHeartbeats 400000 in
theorem length_any (A : Option Addr) (n c : Nat) (xs : List Int) (w : World) (h : Ints .u32 w A n xs) (hnm : n ≤ 9223372036854775807) :
    Calls Try.prog 82 #[.slice A n c] w fun e w' => ∃ m : Nat, e = .returned (.int .i64 (m : Int)) ∧ m ≤ n ∧ w = w' := by
  have H := Lib.hid h
  clear h
  go_enter Try.func82, Try.ntmps82
  go_wp2
  go_loopg [3] n (fun g v wr => ∃ m : Nat, m = g ∧ m ≤ n ∧ v = .int .i64 (m : Int) ∧ w = wr)
  case atStart => exact ⟨n, rfl, Nat.le_refl _, rfl, rfl⟩
  case round =>
    obtain ⟨m, rfl, hm, rfl, rfl⟩ := hrel
    rcases Nat.eq_zero_or_pos m with h0 | h0
    · subst h0
      go_wp2
      go_ret
      exact ⟨0, rfl, by omega, rfl⟩
    · obtain ⟨k, rfl⟩ : ∃ k, m = k + 1 := ⟨m - 1, by omega⟩
      obtain ⟨b, off, x, rfl, hx, hwf, hc⟩ := H.out.get (j := k) (by omega)
      obtain ⟨hx0, hx1⟩ := u32_bounds hwf
      have hkc : ((k + 1 : Nat) : Int) = (k : Int) + 1 := by omega
      have hk0 : (0 : Int) ≤ (k : Int) := by omega
      have hkn : (k : Int) < (n : Int) := by omega
      rw [hkc]
      clear hx hwf
      by_cases hz : x = 0
      · have hzb : (x == 0) = true := by simpa using hz
        clear hz hkc
        go_wp2
        go_roundg k
        case rel => exact ⟨k, rfl, by omega, rfl, rfl⟩
        case measure => omega
      · have hzb : (x == 0) = false := by simpa using hz
        have HC := Lib.hid hkc
        clear hz hkc
        go_wp2
        go_ret
        exact ⟨k + 1, by rw [HC.out]; rfl, hm, rfl⟩
/-- Some numbers in a block. -/
def RatsAt (w : World) (g n : Nat) : Prop := ∀ j, j < n → ∃ A l c xs B m k ys, w.cell? ⟨g, j * 3 + 1, none⟩ = some (.slice A l c) ∧ w.cell? ⟨g, j * 3 + 2, none⟩ = some (.slice B m k) ∧ Ints .u32 w A l xs ∧ Ints .u32 w B m ys ∧ l ≤ 9223372036854775807 ∧ m ≤ 9223372036854775807
theorem RatsAt.ext {w w' : World} {g n : Nat} (h : RatsAt w g n) (he : Ext w w') : RatsAt w' g n := fun j hj => by
  obtain ⟨A, l, c, xs, B, m, k, ys, h1, h2, h3, h4, h5⟩ := h j hj
  exact ⟨A, l, c, xs, B, m, k, ys, he.cell h1, he.cell h2, h3.ext he, h4.ext he, h5⟩


set_option maxRecDepth 100000 in
set_option maxHeartbeats 4000000 in
theorem heavy_any (g n : Nat) (w : World) (h : RatsAt w g n) (hn : n ≤ 1000) :
    Calls Try.prog 27 #[.slice (some ⟨g, 0, none⟩) n n] w fun e w' => ∃ b : Bool, e = .returned (.bool b) ∧ Ext w w' := by
  have H := Lib.hid h
  clear h
  go_enter Try.func27, Try.ntmps27
  go_wp2
  go_loopg [3, 4] n (fun g' s3 s4 wr => ∃ (k : Nat) (b : Bool), g' = n - k ∧ k ≤ n ∧ s4 = .int .i64 (k : Int) ∧ s3 = .bool b ∧ Hid (Ext w wr))
  case atStart => exact ⟨0, false, rfl, by omega, rfl, rfl, Ext.refl w⟩
  case round =>
    obtain ⟨k, b, rfl, hk, rfl, rfl, HX⟩ := hrel
    by_cases hlt : k < n
    · have hkn : (k : Int) < (n : Int) := by omega
      have hk0 : (0 : Int) ≤ (k : Int) := by omega
      obtain ⟨A, l, c, xs, B, m, c2, ys, y1, y2, ha, hb, hl, hm⟩ := H.out.ext HX.out k hlt
      have HA := Lib.hid ha
      have HB := Lib.hid hb
      clear ha hb
      by_cases h1 : (400 : Int) < (l : Int)
      · go_wp2
        go_ret
        first | exact ⟨_, rfl, HX.out⟩ | exact ⟨.inr rfl, HX.out⟩ | exact ⟨.inl rfl, HX.out⟩
      by_cases h2 : (400 : Int) < (m : Int)
      · go_wp2
        go_ret
        first | exact ⟨_, rfl, HX.out⟩ | exact ⟨.inr rfl, HX.out⟩ | exact ⟨.inl rfl, HX.out⟩
      cases b
      · go_wp2_with fail
        refine (length_any A l c xs _ HA.out hl).mono ?_
        rintro e _ ⟨x1, rfl, hx1, rfl⟩
        by_cases h3 : (12 : Int) < (x1 : Int)
        · go_wp2
          go_roundg (n - (k + 1))
          case rel => exact ⟨k + 1, _, rfl, by omega, by go_num, rfl, HX.out⟩
          case measure => omega
        go_wp2_with fail
        refine (length_any B m c2 ys _ HB.out hm).mono ?_
        rintro e _ ⟨x2, rfl, hx2, rfl⟩
        by_cases h4 : (12 : Int) < (x2 : Int)
        · go_wp2
          go_roundg (n - (k + 1))
          case rel => exact ⟨k + 1, _, rfl, by omega, by go_num, rfl, HX.out⟩
          case measure => omega
        · go_wp2
          go_roundg (n - (k + 1))
          case rel => exact ⟨k + 1, _, rfl, by omega, by go_num, rfl, HX.out⟩
          case measure => omega
      · go_wp2
        go_roundg (n - (k + 1))
        case rel => exact ⟨k + 1, _, rfl, by omega, by go_num, rfl, HX.out⟩
        case measure => omega
    · obtain rfl : n = k := by omega
      cases b
      · go_wp2
        go_ret
        first | exact ⟨_, rfl, HX.out⟩ | exact ⟨.inr rfl, HX.out⟩ | exact ⟨.inl rfl, HX.out⟩
      · go_wp2
        obtain ⟨wo, rfl⟩ : ∃ wo : World, wo = wr := ⟨_, rfl⟩
        go_loopg [5] n (fun g' s5 wr => ∃ k : Nat, g' = n - k ∧ k ≤ n ∧ s5 = .int .i64 (k : Int) ∧ Hid (Ext w wr))
        case atStart => exact ⟨0, rfl, by omega, rfl, HX.out⟩
        case round =>
          clear HX
          obtain ⟨k, rfl, hk, rfl, HX⟩ := hrel
          by_cases hlt : k < n
          · have hkn : (k : Int) < (n : Int) := by omega
            have hk0 : (0 : Int) ≤ (k : Int) := by omega
            obtain ⟨A, l, c, xs, B, m, c2, ys, y1, y2, ha, hb, hl, hm⟩ := H.out.ext HX.out k hlt
            have HA := Lib.hid ha
            have HB := Lib.hid hb
            clear ha hb
            go_wp2_with fail
            refine (length_any B m c2 ys _ HB.out hm).mono ?_
            rintro e _ ⟨x2, rfl, hx2, rfl⟩
            by_cases h3 : (2 : Int) < (x2 : Int)
            · by_cases h4 : (1 : Int) < (n : Int)
              · go_wp2
                go_ret
                first | exact ⟨_, rfl, HX.out⟩ | exact ⟨.inr rfl, HX.out⟩ | exact ⟨.inl rfl, HX.out⟩
              · go_wp2_with fail
                refine (length_any A l c xs _ HA.out hl).mono ?_
                rintro e _ ⟨x1, rfl, hx1, rfl⟩
                by_cases h5 : (2 : Int) < (x1 : Int)
                · go_wp2
                  go_ret
                  first | exact ⟨_, rfl, HX.out⟩ | exact ⟨.inr rfl, HX.out⟩ | exact ⟨.inl rfl, HX.out⟩
                · go_wp2
                  go_roundg (n - (k + 1))
                  case rel => exact ⟨k + 1, rfl, by omega, by go_num, HX.out⟩
                  case measure => omega
            · go_wp2
              go_roundg (n - (k + 1))
              case rel => exact ⟨k + 1, rfl, by omega, by go_num, HX.out⟩
              case measure => omega
          · obtain rfl : n = k := by omega
            go_wp2
            go_ret
            first | exact ⟨_, rfl, HX.out⟩ | exact ⟨.inr rfl, HX.out⟩ | exact ⟨.inl rfl, HX.out⟩
end Go.Proofs.Yteoijnaljkagfaa
namespace Go.Proofs.Yteoijnaljkagfaa
open Go.RowKit

/-- An integer as an end of a span, and its error. -/
def endV (z : Int) : Int := if -1152921504606846976 ≤ z ∧ z ≤ 1152921504606846976 then z else 0
def endE (z : Int) : Int := if -1152921504606846976 ≤ z ∧ z ≤ 1152921504606846976 then 0 else 3
theorem end_in {z : Int} (h : -1152921504606846976 ≤ z ∧ z ≤ 1152921504606846976) : endV z = z ∧ endE z = 0 := ⟨if_pos h, if_pos h⟩
theorem end_out {z : Int} (h : ¬ (-1152921504606846976 ≤ z ∧ z ≤ 1152921504606846976)) : endV z = 0 ∧ endE z = 3 := ⟨if_neg h, if_neg h⟩
theorem fit_in {z : Int} (h : -4611686018427387904 ≤ z ∧ z ≤ 4611686018427387904) : fitI z = z ∧ fitB z = true := ⟨by rw [fitI, if_pos h], decide_eq_true h⟩
theorem fit_out {z : Int} (h : ¬ (-4611686018427387904 ≤ z ∧ z ≤ 4611686018427387904)) : fitI z = 0 ∧ fitB z = false := ⟨by rw [fitI, if_neg h], decide_eq_false h⟩
set_option maxRecDepth 100000 in
set_option maxHeartbeats 2000000 in
theorem rend_in (s : Bool) (A : Option Addr) (l c : Nat) (z : Int) (w : World) (hx : IntZ w (.agg #[.bool s, .slice A l c]) z) (hz : -1152921504606846976 ≤ z ∧ z ≤ 1152921504606846976) :
    Calls Try.prog 88 #[.agg #[.bool s, .slice A l c]] w (fun e w' => e = .returned (.tuple #[.int .i64 z, .int .i64 0]) ∧ Ext w w') := by
  have HXX := Lib.hid hx
  clear hx
  obtain ⟨e1, e2⟩ := fit_in (z := z) (by omega)
  have E1 := Lib.hid e1
  have E2 := Lib.hid e2
  clear e1 e2
  have hXe : Ext w (w.alloc (.cells #[.bool s, .slice A l c] 40)) := ((Ext.refl w).alloc _)
  have kA : Blk (w.alloc (.cells #[.bool s, .slice A l c] 40)) w.heap.size 40 #[.bool s, .slice A l c] := Blk.at_ (by simp)
  go_enter Try.func88, Try.ntmps88
  go_wp2_with fail
  generalize (w.alloc (.cells #[.bool s, .slice A l c] 40)) = w1 at hXe kA ⊢
  have HX := Lib.hid hXe
  clear hXe
  have KA := Lib.hid kA
  clear kA
  replace HXX := Lib.hid (HXX.out.ext HX.out)
  have cA0 : w1.cell? ⟨w.heap.size, 0, none⟩ = some (.bool s) := KA.out.cell 0
  have cA1 : w1.cell? ⟨w.heap.size, 1, none⟩ = some (.slice A l c) := KA.out.cell 1
  obtain ⟨hz0, hz1⟩ := hz
  have hz2 : ¬ z < -1152921504606846976 := by omega
  have hz3 : ¬ 1152921504606846976 < z := by omega
  go_wp2_with fail
  clear cA0 cA1
  refine (zfits_any _ z _ HXX.out).mono ?_
  rw [E1.out, E2.out]
  rintro e w2 ⟨rfl, hX⟩
  replace hX : Ext w1 w2 := by with_reducible exact hX
  replace HX := Lib.hid (HX.out.trans hX)
  replace KA := Lib.hid (KA.out.ext hX)
  clear hX
  go_wp2
  go_ret2
  exact ⟨rfl, HX.out⟩

set_option maxRecDepth 100000 in
set_option maxHeartbeats 2000000 in
theorem rend_mid (s : Bool) (A : Option Addr) (l c : Nat) (z : Int) (w : World) (hx : IntZ w (.agg #[.bool s, .slice A l c]) z) (hz : z < -1152921504606846976 ∨ 1152921504606846976 < z) (hf : -4611686018427387904 ≤ z ∧ z ≤ 4611686018427387904) :
    Calls Try.prog 88 #[.agg #[.bool s, .slice A l c]] w (fun e w' => e = .returned (.tuple #[.int .i64 0, .int .i64 3]) ∧ Ext w w') := by
  have HXX := Lib.hid hx
  clear hx
  obtain ⟨e1, e2⟩ := fit_in hf
  have E1 := Lib.hid e1
  have E2 := Lib.hid e2
  clear e1 e2
  have hXe : Ext w (w.alloc (.cells #[.bool s, .slice A l c] 40)) := ((Ext.refl w).alloc _)
  have kA : Blk (w.alloc (.cells #[.bool s, .slice A l c] 40)) w.heap.size 40 #[.bool s, .slice A l c] := Blk.at_ (by simp)
  go_enter Try.func88, Try.ntmps88
  go_wp2_with fail
  generalize (w.alloc (.cells #[.bool s, .slice A l c] 40)) = w1 at hXe kA ⊢
  have HX := Lib.hid hXe
  clear hXe
  have KA := Lib.hid kA
  clear kA
  replace HXX := Lib.hid (HXX.out.ext HX.out)
  have cA0 : w1.cell? ⟨w.heap.size, 0, none⟩ = some (.bool s) := KA.out.cell 0
  have cA1 : w1.cell? ⟨w.heap.size, 1, none⟩ = some (.slice A l c) := KA.out.cell 1
  rcases hz with hz | hz
  · go_wp2_with fail
    clear cA0 cA1
    refine (zfits_any _ z _ HXX.out).mono ?_
    rw [E1.out, E2.out]
    rintro e w2 ⟨rfl, hX⟩
    replace hX : Ext w1 w2 := by with_reducible exact hX
    replace HX := Lib.hid (HX.out.trans hX)
    replace KA := Lib.hid (KA.out.ext hX)
    clear hX
    go_wp2
    go_ret2
    exact ⟨rfl, HX.out⟩
  · go_wp2_with fail
    clear cA0 cA1
    refine (zfits_any _ z _ HXX.out).mono ?_
    rw [E1.out, E2.out]
    rintro e w2 ⟨rfl, hX⟩
    replace hX : Ext w1 w2 := by with_reducible exact hX
    replace HX := Lib.hid (HX.out.trans hX)
    replace KA := Lib.hid (KA.out.ext hX)
    clear hX
    have hz2 : ¬ z < -1152921504606846976 := by omega
    go_wp2
    go_ret2
    exact ⟨rfl, HX.out⟩

set_option maxRecDepth 100000 in
set_option maxHeartbeats 2000000 in
theorem rend_far (s : Bool) (A : Option Addr) (l c : Nat) (z : Int) (w : World) (hx : IntZ w (.agg #[.bool s, .slice A l c]) z) (hf : ¬ (-4611686018427387904 ≤ z ∧ z ≤ 4611686018427387904)) :
    Calls Try.prog 88 #[.agg #[.bool s, .slice A l c]] w (fun e w' => e = .returned (.tuple #[.int .i64 0, .int .i64 3]) ∧ Ext w w') := by
  have HXX := Lib.hid hx
  clear hx
  obtain ⟨e1, e2⟩ := fit_out hf
  have E1 := Lib.hid e1
  have E2 := Lib.hid e2
  clear e1 e2
  have hXe : Ext w (w.alloc (.cells #[.bool s, .slice A l c] 40)) := ((Ext.refl w).alloc _)
  have kA : Blk (w.alloc (.cells #[.bool s, .slice A l c] 40)) w.heap.size 40 #[.bool s, .slice A l c] := Blk.at_ (by simp)
  go_enter Try.func88, Try.ntmps88
  go_wp2_with fail
  generalize (w.alloc (.cells #[.bool s, .slice A l c] 40)) = w1 at hXe kA ⊢
  have HX := Lib.hid hXe
  clear hXe
  have KA := Lib.hid kA
  clear kA
  replace HXX := Lib.hid (HXX.out.ext HX.out)
  have cA0 : w1.cell? ⟨w.heap.size, 0, none⟩ = some (.bool s) := KA.out.cell 0
  have cA1 : w1.cell? ⟨w.heap.size, 1, none⟩ = some (.slice A l c) := KA.out.cell 1
  go_wp2_with fail
  clear cA0 cA1
  refine (zfits_any _ z _ HXX.out).mono ?_
  rw [E1.out, E2.out]
  rintro e w2 ⟨rfl, hX⟩
  replace hX : Ext w1 w2 := by with_reducible exact hX
  replace HX := Lib.hid (HX.out.trans hX)
  replace KA := Lib.hid (KA.out.ext hX)
  clear hX
  go_wp2
  go_ret2
  exact ⟨rfl, HX.out⟩

theorem rend_any {w : World} {v : Value} {z : Int} (h : IntZ w v z) : Calls Try.prog 88 #[v] w fun e w' => e = .returned (.tuple #[.int .i64 (endV z), .int .i64 (endE z)]) ∧ Ext w w' := by
  obtain ⟨A, l, c, rfl, hz⟩ := h
  by_cases hr : -1152921504606846976 ≤ z ∧ z ≤ 1152921504606846976
  · rw [(end_in hr).1, (end_in hr).2]; exact rend_in _ A l c z w ⟨A, l, c, rfl, hz⟩ hr
  · rw [(end_out hr).1, (end_out hr).2]
    by_cases hf : -4611686018427387904 ≤ z ∧ z ≤ 4611686018427387904
    · exact rend_mid _ A l c z w ⟨A, l, c, rfl, hz⟩ (by omega) hf
    · exact rend_far _ A l c z w ⟨A, l, c, rfl, hz⟩ hf

end Go.Proofs.Yteoijnaljkagfaa
namespace Go.Proofs.Yteoijnaljkagfaa
open Go.RowKit

theorem fitQ_int {n : Int} {L : Nat} (h : Fit 4294967296 n.natAbs L) (hL : 0 < L) : FitQ ((n : Int) : Rat) L := by
  refine ⟨by rw [Rat.num_intCast]; exact h, ?_⟩
  rw [Rat.den_intCast]
  exact Fit.one (by omega) hL
theorem fitQ_small {n : Int} (h0 : -9223372036854775808 ≤ n) (h1 : n ≤ 9223372036854775807) : FitQ ((n : Int) : Rat) 2 := by
  refine fitQ_int ?_ (by omega)
  unfold Fit
  have : (4294967296 : Int) ^ 2 = 18446744073709551616 := by decide
  omega
end Go.Proofs.Yteoijnaljkagfaa
