/- ExactField: its walk, second part. -/
import Derived.Test.YteoijnaljkagfaaL16
namespace Go.Proofs.Yteoijnaljkagfaa
open Go.RowKit

set_option maxRecDepth 100000 in
set_option maxHeartbeats 2000000 in
theorem field_zero (s0 : Bool) (A0 B0 : Option Addr) (l0 c0 m0 k0 : Nat) (s1 : Bool) (A1 B1 : Option Addr) (l1 c1 m1 k1 : Nat) (s2 : Bool) (A2 B2 : Option Addr) (l2 c2 m2 k2 : Nat) (q r t : Rat) (w : World) (g0 : l0 ≤ 60) (g0' : m0 ≤ 60) (g1 : l1 ≤ 60) (g1' : m1 ≤ 60) (g2 : l2 ≤ 60) (g2' : m2 ≤ 60) (h : l0 + l1 + l2 + m0 + m1 + m2 ≤ 40) (hx : RatG w (.agg #[.bool s0, .slice A0 l0 c0, .slice B0 m0 k0]) q) (hy : RatG w (.agg #[.bool s1, .slice A1 l1 c1, .slice B1 m1 k1]) r) (hz : RatG w (.agg #[.bool s2, .slice A2 l2 c2, .slice B2 m2 k2]) t) (fq : FitQ q 41) (fr : FitQ r 41) (ft : FitQ t 41) (hr : r = 0) :
    Calls Try.prog 16 #[.agg #[.bool s0, .slice A0 l0 c0, .slice B0 m0 k0], .agg #[.bool s1, .slice A1 l1 c1, .slice B1 m1 k1], .agg #[.bool s2, .slice A2 l2 c2, .slice B2 m2 k2]] w (fun e w' => e = .returned (.bool true) ∧ Ext w w') := by
  have HG0 := Lib.hid hx
  have HG1 := Lib.hid hy
  have HG2 := Lib.hid hz
  obtain ⟨e1, e2, e3, e4, e5⟩ := qfield q r t
  have HE1 := Lib.hid e1
  have HE2 := Lib.hid e2
  have HE3 := Lib.hid e3
  have HE4 := Lib.hid e4
  have HE5 := Lib.hid e5
  clear e1 e2 e3 e4 e5
  have HFxy := Lib.hid (FitQW.of ((fitQ_add fq fr).mono (by omega)))
  have HFyx := Lib.hid (FitQW.of ((fitQ_add fr fq).mono (by omega)))
  have HFyz := Lib.hid (FitQW.of ((fitQ_add fr ft).mono (by omega)))
  have HFleft := Lib.hid (FitQW.of ((fitQ_add (fitQ_add fq fr) ft).mono (by omega)))
  have HFright := Lib.hid (FitQW.of ((fitQ_add fq (fitQ_add fr ft)).mono (by omega)))
  have HFall := Lib.hid (FitQW.of ((fitQ_mul fq (fitQ_add fr ft)).mono (by omega)))
  have HFp := Lib.hid (FitQW.of ((fitQ_mul fq fr).mono (by omega)))
  have HFq := Lib.hid (FitQW.of ((fitQ_mul fq ft).mono (by omega)))
  have HFboth := Lib.hid (FitQW.of ((fitQ_add (fitQ_mul fq fr) (fitQ_mul fq ft)).mono (by omega)))
  have HFback := Lib.hid (FitQW.of ((fitQ_sub (fitQ_add fq fr) fr).mono (by omega)))
  have HFx := Lib.hid (FitQW.of (fq.mono (by omega)))
  have HZ := Lib.hid hr
  have HS : Hid (sgnQ r = 0) := by show _ = _; rw [hr]; rfl
  clear hr
  clear hx hy hz fq fr ft
  have hXe : Ext w (((w.alloc (.cells #[.bool s0, .slice A0 l0 c0, .slice B0 m0 k0] 33)).alloc (.cells #[.bool s1, .slice A1 l1 c1, .slice B1 m1 k1] 33)).alloc (.cells #[.bool s2, .slice A2 l2 c2, .slice B2 m2 k2] 33)) := ((((Ext.refl w).alloc _).alloc _).alloc _)
  have kA : Blk (((w.alloc (.cells #[.bool s0, .slice A0 l0 c0, .slice B0 m0 k0] 33)).alloc (.cells #[.bool s1, .slice A1 l1 c1, .slice B1 m1 k1] 33)).alloc (.cells #[.bool s2, .slice A2 l2 c2, .slice B2 m2 k2] 33)) w.heap.size 33 #[.bool s0, .slice A0 l0 c0, .slice B0 m0 k0] := Blk.alloc (Blk.alloc (Blk.at_ (by simp)) _) _
  have kB : Blk (((w.alloc (.cells #[.bool s0, .slice A0 l0 c0, .slice B0 m0 k0] 33)).alloc (.cells #[.bool s1, .slice A1 l1 c1, .slice B1 m1 k1] 33)).alloc (.cells #[.bool s2, .slice A2 l2 c2, .slice B2 m2 k2] 33)) (w.heap.size + 1) 33 #[.bool s1, .slice A1 l1 c1, .slice B1 m1 k1] := Blk.alloc (Blk.at_ (by simp)) _
  have kC : Blk (((w.alloc (.cells #[.bool s0, .slice A0 l0 c0, .slice B0 m0 k0] 33)).alloc (.cells #[.bool s1, .slice A1 l1 c1, .slice B1 m1 k1] 33)).alloc (.cells #[.bool s2, .slice A2 l2 c2, .slice B2 m2 k2] 33)) (w.heap.size + 2) 33 #[.bool s2, .slice A2 l2 c2, .slice B2 m2 k2] := Blk.at_ (by simp)
  go_enter Try.func16, Try.ntmps16
  go_wp2_with fail
  generalize (((w.alloc (.cells #[.bool s0, .slice A0 l0 c0, .slice B0 m0 k0] 33)).alloc (.cells #[.bool s1, .slice A1 l1 c1, .slice B1 m1 k1] 33)).alloc (.cells #[.bool s2, .slice A2 l2 c2, .slice B2 m2 k2] 33)) = w1 at hXe kA kB kC ⊢
  have HX := Lib.hid hXe
  clear hXe
  have KA := Lib.hid kA
  clear kA
  have KB := Lib.hid kB
  clear kB
  have KC := Lib.hid kC
  clear kC
  replace HG0 := Lib.hid (HG0.out.ext HX.out)
  replace HG1 := Lib.hid (HG1.out.ext HX.out)
  replace HG2 := Lib.hid (HG2.out.ext HX.out)
  refine (short_yes _ _ _ _ _ _ _ _ g0 g0').mono ?_
  rintro e w2 ⟨rfl, hX⟩
  replace HX := Lib.hid (HX.out.trans hX)
  replace HG0 := Lib.hid (HG0.out.ext hX)
  replace HG1 := Lib.hid (HG1.out.ext hX)
  replace HG2 := Lib.hid (HG2.out.ext hX)
  replace KA := Lib.hid (KA.out.ext hX)
  replace KB := Lib.hid (KB.out.ext hX)
  replace KC := Lib.hid (KC.out.ext hX)
  clear hX
  have cA0 : w2.cell? ⟨w.heap.size, 0, none⟩ = some (.bool s0) := KA.out.cell 0
  have cA1 : w2.cell? ⟨w.heap.size, 1, none⟩ = some (.slice A0 l0 c0) := KA.out.cell 1
  have cA2 : w2.cell? ⟨w.heap.size, 2, none⟩ = some (.slice B0 m0 k0) := KA.out.cell 2
  have cB0 : w2.cell? ⟨(w.heap.size + 1), 0, none⟩ = some (.bool s1) := KB.out.cell 0
  have cB1 : w2.cell? ⟨(w.heap.size + 1), 1, none⟩ = some (.slice A1 l1 c1) := KB.out.cell 1
  have cB2 : w2.cell? ⟨(w.heap.size + 1), 2, none⟩ = some (.slice B1 m1 k1) := KB.out.cell 2
  have cC0 : w2.cell? ⟨(w.heap.size + 2), 0, none⟩ = some (.bool s2) := KC.out.cell 0
  have cC1 : w2.cell? ⟨(w.heap.size + 2), 1, none⟩ = some (.slice A2 l2 c2) := KC.out.cell 1
  have cC2 : w2.cell? ⟨(w.heap.size + 2), 2, none⟩ = some (.slice B2 m2 k2) := KC.out.cell 2
  go_wp2_with fail
  clear cA0 cA1 cA2 cB0 cB1 cB2 cC0 cC1 cC2
  refine (short_yes _ _ _ _ _ _ _ _ g1 g1').mono ?_
  rintro e w3 ⟨rfl, hX⟩
  replace HX := Lib.hid (HX.out.trans hX)
  replace HG0 := Lib.hid (HG0.out.ext hX)
  replace HG1 := Lib.hid (HG1.out.ext hX)
  replace HG2 := Lib.hid (HG2.out.ext hX)
  replace KA := Lib.hid (KA.out.ext hX)
  replace KB := Lib.hid (KB.out.ext hX)
  replace KC := Lib.hid (KC.out.ext hX)
  clear hX
  have cA0 : w3.cell? ⟨w.heap.size, 0, none⟩ = some (.bool s0) := KA.out.cell 0
  have cA1 : w3.cell? ⟨w.heap.size, 1, none⟩ = some (.slice A0 l0 c0) := KA.out.cell 1
  have cA2 : w3.cell? ⟨w.heap.size, 2, none⟩ = some (.slice B0 m0 k0) := KA.out.cell 2
  have cB0 : w3.cell? ⟨(w.heap.size + 1), 0, none⟩ = some (.bool s1) := KB.out.cell 0
  have cB1 : w3.cell? ⟨(w.heap.size + 1), 1, none⟩ = some (.slice A1 l1 c1) := KB.out.cell 1
  have cB2 : w3.cell? ⟨(w.heap.size + 1), 2, none⟩ = some (.slice B1 m1 k1) := KB.out.cell 2
  have cC0 : w3.cell? ⟨(w.heap.size + 2), 0, none⟩ = some (.bool s2) := KC.out.cell 0
  have cC1 : w3.cell? ⟨(w.heap.size + 2), 1, none⟩ = some (.slice A2 l2 c2) := KC.out.cell 1
  have cC2 : w3.cell? ⟨(w.heap.size + 2), 2, none⟩ = some (.slice B2 m2 k2) := KC.out.cell 2
  go_wp2_with fail
  clear cA0 cA1 cA2 cB0 cB1 cB2 cC0 cC1 cC2
  refine (short_yes _ _ _ _ _ _ _ _ g2 g2').mono ?_
  rintro e w4 ⟨rfl, hX⟩
  replace HX := Lib.hid (HX.out.trans hX)
  replace HG0 := Lib.hid (HG0.out.ext hX)
  replace HG1 := Lib.hid (HG1.out.ext hX)
  replace HG2 := Lib.hid (HG2.out.ext hX)
  replace KA := Lib.hid (KA.out.ext hX)
  replace KB := Lib.hid (KB.out.ext hX)
  replace KC := Lib.hid (KC.out.ext hX)
  clear hX
  have cA0 : w4.cell? ⟨w.heap.size, 0, none⟩ = some (.bool s0) := KA.out.cell 0
  have cA1 : w4.cell? ⟨w.heap.size, 1, none⟩ = some (.slice A0 l0 c0) := KA.out.cell 1
  have cA2 : w4.cell? ⟨w.heap.size, 2, none⟩ = some (.slice B0 m0 k0) := KA.out.cell 2
  have cB0 : w4.cell? ⟨(w.heap.size + 1), 0, none⟩ = some (.bool s1) := KB.out.cell 0
  have cB1 : w4.cell? ⟨(w.heap.size + 1), 1, none⟩ = some (.slice A1 l1 c1) := KB.out.cell 1
  have cB2 : w4.cell? ⟨(w.heap.size + 1), 2, none⟩ = some (.slice B1 m1 k1) := KB.out.cell 2
  have cC0 : w4.cell? ⟨(w.heap.size + 2), 0, none⟩ = some (.bool s2) := KC.out.cell 0
  have cC1 : w4.cell? ⟨(w.heap.size + 2), 1, none⟩ = some (.slice A2 l2 c2) := KC.out.cell 1
  have cC2 : w4.cell? ⟨(w.heap.size + 2), 2, none⟩ = some (.slice B2 m2 k2) := KC.out.cell 2
  as_aux_lemma =>
    clear cA0 cA1 cA2 cB0 cB1 cB2 cC0 cC1 cC2
    have cA0 : w4.cell? ⟨w.heap.size, 0, none⟩ = some (.bool s0) := KA.out.cell 0
    have cA1 : w4.cell? ⟨w.heap.size, 1, none⟩ = some (.slice A0 l0 c0) := KA.out.cell 1
    have cA2 : w4.cell? ⟨w.heap.size, 2, none⟩ = some (.slice B0 m0 k0) := KA.out.cell 2
    have cB0 : w4.cell? ⟨(w.heap.size + 1), 0, none⟩ = some (.bool s1) := KB.out.cell 0
    have cB1 : w4.cell? ⟨(w.heap.size + 1), 1, none⟩ = some (.slice A1 l1 c1) := KB.out.cell 1
    have cB2 : w4.cell? ⟨(w.heap.size + 1), 2, none⟩ = some (.slice B1 m1 k1) := KB.out.cell 2
    have cC0 : w4.cell? ⟨(w.heap.size + 2), 0, none⟩ = some (.bool s2) := KC.out.cell 0
    have cC1 : w4.cell? ⟨(w.heap.size + 2), 1, none⟩ = some (.slice A2 l2 c2) := KC.out.cell 1
    have cC2 : w4.cell? ⟨(w.heap.size + 2), 2, none⟩ = some (.slice B2 m2 k2) := KC.out.cell 2
    go_upto_region 3 with (fail)
    clear cA0 cA1 cA2 cB0 cB1 cB2 cC0 cC1 cC2
    have cA0 : w4.cell? ⟨w.heap.size, 0, none⟩ = some (.bool s0) := KA.out.cell 0
    have cA1 : w4.cell? ⟨w.heap.size, 1, none⟩ = some (.slice A0 l0 c0) := KA.out.cell 1
    have cA2 : w4.cell? ⟨w.heap.size, 2, none⟩ = some (.slice B0 m0 k0) := KA.out.cell 2
    have cB0 : w4.cell? ⟨(w.heap.size + 1), 0, none⟩ = some (.bool s1) := KB.out.cell 0
    have cB1 : w4.cell? ⟨(w.heap.size + 1), 1, none⟩ = some (.slice A1 l1 c1) := KB.out.cell 1
    have cB2 : w4.cell? ⟨(w.heap.size + 1), 2, none⟩ = some (.slice B1 m1 k1) := KB.out.cell 2
    go_wp2_with fail
    clear cA0 cA1 cA2 cB0 cB1 cB2
    refine (addG HG0.out HG1.out HFxy.out).mono ?_
    rintro e w5 ⟨v3, rfl, hv, hX⟩
    replace HX := Lib.hid (HX.out.trans hX)
    replace HG0 := Lib.hid (HG0.out.ext hX)
    replace HG1 := Lib.hid (HG1.out.ext hX)
    replace HG2 := Lib.hid (HG2.out.ext hX)
    replace KA := Lib.hid (KA.out.ext hX)
    replace KB := Lib.hid (KB.out.ext hX)
    replace KC := Lib.hid (KC.out.ext hX)
    clear hX
    obtain ⟨s3, A3, l3, c3, B3, m3, k3, rfl⟩ := hv.open
    have HC3 := Lib.hid hv
    clear hv
    go_upto_region 4 with (fail)
    have hXa : Ext w5 (w5.alloc (.cells #[.bool s3, .slice A3 l3 c3, .slice B3 m3 k3] 33)) := (Ext.refl _).alloc _
    have kXY := Blk.new w5 33 #[.bool s3, .slice A3 l3 c3, .slice B3 m3 k3]
    have zA := KA.out.lt
    have zB := KB.out.lt
    have zC := KC.out.lt
    have zg := HX.out.size
    replace HX := Lib.hid (HX.out.trans hXa)
    replace HG0 := Lib.hid (HG0.out.ext hXa)
    replace HG1 := Lib.hid (HG1.out.ext hXa)
    replace HG2 := Lib.hid (HG2.out.ext hXa)
    replace HC3 := Lib.hid (HC3.out.ext hXa)
    replace KA := Lib.hid (KA.out.ext hXa)
    replace KB := Lib.hid (KB.out.ext hXa)
    replace KC := Lib.hid (KC.out.ext hXa)
    generalize (w5.alloc (.cells #[.bool s3, .slice A3 l3 c3, .slice B3 m3 k3] 33)) = w6 at HX HG0 HG1 HG2 HC3 KA KB KC kXY ⊢
    have KXY := Lib.hid kXY
    clear kXY hXa
    as_aux_lemma =>
      have cA0 : w6.cell? ⟨w.heap.size, 0, none⟩ = some (.bool s0) := KA.out.cell 0
      have cA1 : w6.cell? ⟨w.heap.size, 1, none⟩ = some (.slice A0 l0 c0) := KA.out.cell 1
      have cA2 : w6.cell? ⟨w.heap.size, 2, none⟩ = some (.slice B0 m0 k0) := KA.out.cell 2
      have cB0 : w6.cell? ⟨(w.heap.size + 1), 0, none⟩ = some (.bool s1) := KB.out.cell 0
      have cB1 : w6.cell? ⟨(w.heap.size + 1), 1, none⟩ = some (.slice A1 l1 c1) := KB.out.cell 1
      have cB2 : w6.cell? ⟨(w.heap.size + 1), 2, none⟩ = some (.slice B1 m1 k1) := KB.out.cell 2
      go_wp2_with fail
      clear cA0 cA1 cA2 cB0 cB1 cB2
      refine (addG HG1.out HG0.out HFyx.out).mono ?_
      rintro e w7 ⟨v4, rfl, hv, hX⟩
      replace HX := Lib.hid (HX.out.trans hX)
      replace HG0 := Lib.hid (HG0.out.ext hX)
      replace HG1 := Lib.hid (HG1.out.ext hX)
      replace HG2 := Lib.hid (HG2.out.ext hX)
      replace HC3 := Lib.hid (HC3.out.ext hX)
      replace KA := Lib.hid (KA.out.ext hX)
      replace KB := Lib.hid (KB.out.ext hX)
      replace KC := Lib.hid (KC.out.ext hX)
      replace KXY := Lib.hid (KXY.out.ext hX)
      clear hX
      obtain ⟨s4, A4, l4, c4, B4, m4, k4, rfl⟩ := hv.open
      have HC4 := Lib.hid hv
      clear hv
      go_upto_region 5 with (fail)
      have hXa : Ext w7 (w7.alloc (.cells #[.bool s4, .slice A4 l4 c4, .slice B4 m4 k4] 33)) := (Ext.refl _).alloc _
      have kYX := Blk.new w7 33 #[.bool s4, .slice A4 l4 c4, .slice B4 m4 k4]
      have zA := KA.out.lt
      have zB := KB.out.lt
      have zC := KC.out.lt
      have zXY := KXY.out.lt
      have zg := HX.out.size
      replace HX := Lib.hid (HX.out.trans hXa)
      replace HG0 := Lib.hid (HG0.out.ext hXa)
      replace HG1 := Lib.hid (HG1.out.ext hXa)
      replace HG2 := Lib.hid (HG2.out.ext hXa)
      replace HC3 := Lib.hid (HC3.out.ext hXa)
      replace HC4 := Lib.hid (HC4.out.ext hXa)
      replace KA := Lib.hid (KA.out.ext hXa)
      replace KB := Lib.hid (KB.out.ext hXa)
      replace KC := Lib.hid (KC.out.ext hXa)
      replace KXY := Lib.hid (KXY.out.ext hXa)
      generalize (w7.alloc (.cells #[.bool s4, .slice A4 l4 c4, .slice B4 m4 k4] 33)) = w8 at HX HG0 HG1 HG2 HC3 HC4 KA KB KC KXY kYX ⊢
      have KYX := Lib.hid kYX
      clear kYX hXa
      as_aux_lemma =>
        have cB0 : w8.cell? ⟨(w.heap.size + 1), 0, none⟩ = some (.bool s1) := KB.out.cell 0
        have cB1 : w8.cell? ⟨(w.heap.size + 1), 1, none⟩ = some (.slice A1 l1 c1) := KB.out.cell 1
        have cB2 : w8.cell? ⟨(w.heap.size + 1), 2, none⟩ = some (.slice B1 m1 k1) := KB.out.cell 2
        have cC0 : w8.cell? ⟨(w.heap.size + 2), 0, none⟩ = some (.bool s2) := KC.out.cell 0
        have cC1 : w8.cell? ⟨(w.heap.size + 2), 1, none⟩ = some (.slice A2 l2 c2) := KC.out.cell 1
        have cC2 : w8.cell? ⟨(w.heap.size + 2), 2, none⟩ = some (.slice B2 m2 k2) := KC.out.cell 2
        go_wp2_with fail
        clear cB0 cB1 cB2 cC0 cC1 cC2
        refine (addG HG1.out HG2.out HFyz.out).mono ?_
        rintro e w9 ⟨v5, rfl, hv, hX⟩
        replace HX := Lib.hid (HX.out.trans hX)
        replace HG0 := Lib.hid (HG0.out.ext hX)
        replace HG1 := Lib.hid (HG1.out.ext hX)
        replace HG2 := Lib.hid (HG2.out.ext hX)
        replace HC3 := Lib.hid (HC3.out.ext hX)
        replace HC4 := Lib.hid (HC4.out.ext hX)
        replace KA := Lib.hid (KA.out.ext hX)
        replace KB := Lib.hid (KB.out.ext hX)
        replace KC := Lib.hid (KC.out.ext hX)
        replace KXY := Lib.hid (KXY.out.ext hX)
        replace KYX := Lib.hid (KYX.out.ext hX)
        clear hX
        obtain ⟨s5, A5, l5, c5, B5, m5, k5, rfl⟩ := hv.open
        have HC5 := Lib.hid hv
        clear hv
        go_upto_region 6 with (fail)
        have hXa : Ext w9 (w9.alloc (.cells #[.bool s5, .slice A5 l5 c5, .slice B5 m5 k5] 33)) := (Ext.refl _).alloc _
        have kYZ := Blk.new w9 33 #[.bool s5, .slice A5 l5 c5, .slice B5 m5 k5]
        have zA := KA.out.lt
        have zB := KB.out.lt
        have zC := KC.out.lt
        have zXY := KXY.out.lt
        have zYX := KYX.out.lt
        have zg := HX.out.size
        replace HX := Lib.hid (HX.out.trans hXa)
        replace HG0 := Lib.hid (HG0.out.ext hXa)
        replace HG1 := Lib.hid (HG1.out.ext hXa)
        replace HG2 := Lib.hid (HG2.out.ext hXa)
        replace HC3 := Lib.hid (HC3.out.ext hXa)
        replace HC4 := Lib.hid (HC4.out.ext hXa)
        replace HC5 := Lib.hid (HC5.out.ext hXa)
        replace KA := Lib.hid (KA.out.ext hXa)
        replace KB := Lib.hid (KB.out.ext hXa)
        replace KC := Lib.hid (KC.out.ext hXa)
        replace KXY := Lib.hid (KXY.out.ext hXa)
        replace KYX := Lib.hid (KYX.out.ext hXa)
        generalize (w9.alloc (.cells #[.bool s5, .slice A5 l5 c5, .slice B5 m5 k5] 33)) = w10 at HX HG0 HG1 HG2 HC3 HC4 HC5 KA KB KC KXY KYX kYZ ⊢
        have KYZ := Lib.hid kYZ
        clear kYZ hXa
        as_aux_lemma =>
          have cXY0 : w10.cell? ⟨w5.heap.size, 0, none⟩ = some (.bool s3) := KXY.out.cell 0
          have cXY1 : w10.cell? ⟨w5.heap.size, 1, none⟩ = some (.slice A3 l3 c3) := KXY.out.cell 1
          have cXY2 : w10.cell? ⟨w5.heap.size, 2, none⟩ = some (.slice B3 m3 k3) := KXY.out.cell 2
          have cYX0 : w10.cell? ⟨w7.heap.size, 0, none⟩ = some (.bool s4) := KYX.out.cell 0
          have cYX1 : w10.cell? ⟨w7.heap.size, 1, none⟩ = some (.slice A4 l4 c4) := KYX.out.cell 1
          have cYX2 : w10.cell? ⟨w7.heap.size, 2, none⟩ = some (.slice B4 m4 k4) := KYX.out.cell 2
          go_wp2_with fail
          clear cXY0 cXY1 cXY2 cYX0 cYX1 cYX2
          refine (equalC HC3.out HC4.out HE1.out).mono ?_
          rintro e w11 ⟨rfl, hX⟩
          replace HX := Lib.hid (HX.out.trans hX)
          replace HG0 := Lib.hid (HG0.out.ext hX)
          replace HG1 := Lib.hid (HG1.out.ext hX)
          replace HG2 := Lib.hid (HG2.out.ext hX)
          replace HC3 := Lib.hid (HC3.out.ext hX)
          replace HC4 := Lib.hid (HC4.out.ext hX)
          replace HC5 := Lib.hid (HC5.out.ext hX)
          replace KA := Lib.hid (KA.out.ext hX)
          replace KB := Lib.hid (KB.out.ext hX)
          replace KC := Lib.hid (KC.out.ext hX)
          replace KXY := Lib.hid (KXY.out.ext hX)
          replace KYX := Lib.hid (KYX.out.ext hX)
          replace KYZ := Lib.hid (KYZ.out.ext hX)
          clear hX
          clear HC4
          clear KYX
          have cC0 : w11.cell? ⟨(w.heap.size + 2), 0, none⟩ = some (.bool s2) := KC.out.cell 0
          have cC1 : w11.cell? ⟨(w.heap.size + 2), 1, none⟩ = some (.slice A2 l2 c2) := KC.out.cell 1
          have cC2 : w11.cell? ⟨(w.heap.size + 2), 2, none⟩ = some (.slice B2 m2 k2) := KC.out.cell 2
          have cXY0 : w11.cell? ⟨w5.heap.size, 0, none⟩ = some (.bool s3) := KXY.out.cell 0
          have cXY1 : w11.cell? ⟨w5.heap.size, 1, none⟩ = some (.slice A3 l3 c3) := KXY.out.cell 1
          have cXY2 : w11.cell? ⟨w5.heap.size, 2, none⟩ = some (.slice B3 m3 k3) := KXY.out.cell 2
          go_wp2_with fail
          clear cC0 cC1 cC2 cXY0 cXY1 cXY2
          refine (addG (HC3.out.good HFxy.out) HG2.out HFleft.out).mono ?_
          rintro e w12 ⟨v6, rfl, hv, hX⟩
          replace HX := Lib.hid (HX.out.trans hX)
          replace HG0 := Lib.hid (HG0.out.ext hX)
          replace HG1 := Lib.hid (HG1.out.ext hX)
          replace HG2 := Lib.hid (HG2.out.ext hX)
          replace HC3 := Lib.hid (HC3.out.ext hX)
          replace HC5 := Lib.hid (HC5.out.ext hX)
          replace KA := Lib.hid (KA.out.ext hX)
          replace KB := Lib.hid (KB.out.ext hX)
          replace KC := Lib.hid (KC.out.ext hX)
          replace KXY := Lib.hid (KXY.out.ext hX)
          replace KYZ := Lib.hid (KYZ.out.ext hX)
          clear hX
          obtain ⟨s6, A6, l6, c6, B6, m6, k6, rfl⟩ := hv.open
          have HC6 := Lib.hid hv
          clear hv
          go_upto_region 9 with (fail)
          have hXa : Ext w12 (w12.alloc (.cells #[.bool s6, .slice A6 l6 c6, .slice B6 m6 k6] 33)) := (Ext.refl _).alloc _
          have kL := Blk.new w12 33 #[.bool s6, .slice A6 l6 c6, .slice B6 m6 k6]
          have zA := KA.out.lt
          have zB := KB.out.lt
          have zC := KC.out.lt
          have zXY := KXY.out.lt
          have zYZ := KYZ.out.lt
          have zg := HX.out.size
          replace HX := Lib.hid (HX.out.trans hXa)
          replace HG0 := Lib.hid (HG0.out.ext hXa)
          replace HG1 := Lib.hid (HG1.out.ext hXa)
          replace HG2 := Lib.hid (HG2.out.ext hXa)
          replace HC3 := Lib.hid (HC3.out.ext hXa)
          replace HC5 := Lib.hid (HC5.out.ext hXa)
          replace HC6 := Lib.hid (HC6.out.ext hXa)
          replace KA := Lib.hid (KA.out.ext hXa)
          replace KB := Lib.hid (KB.out.ext hXa)
          replace KC := Lib.hid (KC.out.ext hXa)
          replace KXY := Lib.hid (KXY.out.ext hXa)
          replace KYZ := Lib.hid (KYZ.out.ext hXa)
          generalize (w12.alloc (.cells #[.bool s6, .slice A6 l6 c6, .slice B6 m6 k6] 33)) = w13 at HX HG0 HG1 HG2 HC3 HC5 HC6 KA KB KC KXY KYZ kL ⊢
          have KL := Lib.hid kL
          clear kL hXa
          as_aux_lemma =>
            have cA0 : w13.cell? ⟨w.heap.size, 0, none⟩ = some (.bool s0) := KA.out.cell 0
            have cA1 : w13.cell? ⟨w.heap.size, 1, none⟩ = some (.slice A0 l0 c0) := KA.out.cell 1
            have cA2 : w13.cell? ⟨w.heap.size, 2, none⟩ = some (.slice B0 m0 k0) := KA.out.cell 2
            have cYZ0 : w13.cell? ⟨w9.heap.size, 0, none⟩ = some (.bool s5) := KYZ.out.cell 0
            have cYZ1 : w13.cell? ⟨w9.heap.size, 1, none⟩ = some (.slice A5 l5 c5) := KYZ.out.cell 1
            have cYZ2 : w13.cell? ⟨w9.heap.size, 2, none⟩ = some (.slice B5 m5 k5) := KYZ.out.cell 2
            go_wp2_with fail
            clear cA0 cA1 cA2 cYZ0 cYZ1 cYZ2
            refine (addG HG0.out (HC5.out.good HFyz.out) HFright.out).mono ?_
            rintro e w14 ⟨v7, rfl, hv, hX⟩
            replace HX := Lib.hid (HX.out.trans hX)
            replace HG0 := Lib.hid (HG0.out.ext hX)
            replace HG1 := Lib.hid (HG1.out.ext hX)
            replace HG2 := Lib.hid (HG2.out.ext hX)
            replace HC3 := Lib.hid (HC3.out.ext hX)
            replace HC5 := Lib.hid (HC5.out.ext hX)
            replace HC6 := Lib.hid (HC6.out.ext hX)
            replace KA := Lib.hid (KA.out.ext hX)
            replace KB := Lib.hid (KB.out.ext hX)
            replace KC := Lib.hid (KC.out.ext hX)
            replace KXY := Lib.hid (KXY.out.ext hX)
            replace KYZ := Lib.hid (KYZ.out.ext hX)
            replace KL := Lib.hid (KL.out.ext hX)
            clear hX
            obtain ⟨s7, A7, l7, c7, B7, m7, k7, rfl⟩ := hv.open
            have HC7 := Lib.hid hv
            clear hv
            go_upto_region 10 with (fail)
            have hXa : Ext w14 (w14.alloc (.cells #[.bool s7, .slice A7 l7 c7, .slice B7 m7 k7] 33)) := (Ext.refl _).alloc _
            have kR := Blk.new w14 33 #[.bool s7, .slice A7 l7 c7, .slice B7 m7 k7]
            have zA := KA.out.lt
            have zB := KB.out.lt
            have zC := KC.out.lt
            have zXY := KXY.out.lt
            have zYZ := KYZ.out.lt
            have zL := KL.out.lt
            have zg := HX.out.size
            replace HX := Lib.hid (HX.out.trans hXa)
            replace HG0 := Lib.hid (HG0.out.ext hXa)
            replace HG1 := Lib.hid (HG1.out.ext hXa)
            replace HG2 := Lib.hid (HG2.out.ext hXa)
            replace HC3 := Lib.hid (HC3.out.ext hXa)
            replace HC5 := Lib.hid (HC5.out.ext hXa)
            replace HC6 := Lib.hid (HC6.out.ext hXa)
            replace HC7 := Lib.hid (HC7.out.ext hXa)
            replace KA := Lib.hid (KA.out.ext hXa)
            replace KB := Lib.hid (KB.out.ext hXa)
            replace KC := Lib.hid (KC.out.ext hXa)
            replace KXY := Lib.hid (KXY.out.ext hXa)
            replace KYZ := Lib.hid (KYZ.out.ext hXa)
            replace KL := Lib.hid (KL.out.ext hXa)
            generalize (w14.alloc (.cells #[.bool s7, .slice A7 l7 c7, .slice B7 m7 k7] 33)) = w15 at HX HG0 HG1 HG2 HC3 HC5 HC6 HC7 KA KB KC KXY KYZ KL kR ⊢
            have KR := Lib.hid kR
            clear kR hXa
            as_aux_lemma =>
              have cL0 : w15.cell? ⟨w12.heap.size, 0, none⟩ = some (.bool s6) := KL.out.cell 0
              have cL1 : w15.cell? ⟨w12.heap.size, 1, none⟩ = some (.slice A6 l6 c6) := KL.out.cell 1
              have cL2 : w15.cell? ⟨w12.heap.size, 2, none⟩ = some (.slice B6 m6 k6) := KL.out.cell 2
              have cR0 : w15.cell? ⟨w14.heap.size, 0, none⟩ = some (.bool s7) := KR.out.cell 0
              have cR1 : w15.cell? ⟨w14.heap.size, 1, none⟩ = some (.slice A7 l7 c7) := KR.out.cell 1
              have cR2 : w15.cell? ⟨w14.heap.size, 2, none⟩ = some (.slice B7 m7 k7) := KR.out.cell 2
              go_wp2_with fail
              clear cL0 cL1 cL2 cR0 cR1 cR2
              refine (equalC HC6.out HC7.out HE2.out).mono ?_
              rintro e w16 ⟨rfl, hX⟩
              replace HX := Lib.hid (HX.out.trans hX)
              replace HG0 := Lib.hid (HG0.out.ext hX)
              replace HG1 := Lib.hid (HG1.out.ext hX)
              replace HG2 := Lib.hid (HG2.out.ext hX)
              replace HC3 := Lib.hid (HC3.out.ext hX)
              replace HC5 := Lib.hid (HC5.out.ext hX)
              replace HC6 := Lib.hid (HC6.out.ext hX)
              replace HC7 := Lib.hid (HC7.out.ext hX)
              replace KA := Lib.hid (KA.out.ext hX)
              replace KB := Lib.hid (KB.out.ext hX)
              replace KC := Lib.hid (KC.out.ext hX)
              replace KXY := Lib.hid (KXY.out.ext hX)
              replace KYZ := Lib.hid (KYZ.out.ext hX)
              replace KL := Lib.hid (KL.out.ext hX)
              replace KR := Lib.hid (KR.out.ext hX)
              clear hX
              clear HC6
              clear HC7
              clear KL
              clear KR
              have cA0 : w16.cell? ⟨w.heap.size, 0, none⟩ = some (.bool s0) := KA.out.cell 0
              have cA1 : w16.cell? ⟨w.heap.size, 1, none⟩ = some (.slice A0 l0 c0) := KA.out.cell 1
              have cA2 : w16.cell? ⟨w.heap.size, 2, none⟩ = some (.slice B0 m0 k0) := KA.out.cell 2
              have cYZ0 : w16.cell? ⟨w9.heap.size, 0, none⟩ = some (.bool s5) := KYZ.out.cell 0
              have cYZ1 : w16.cell? ⟨w9.heap.size, 1, none⟩ = some (.slice A5 l5 c5) := KYZ.out.cell 1
              have cYZ2 : w16.cell? ⟨w9.heap.size, 2, none⟩ = some (.slice B5 m5 k5) := KYZ.out.cell 2
              go_wp2_with fail
              clear cA0 cA1 cA2 cYZ0 cYZ1 cYZ2
              refine (mulG HG0.out (HC5.out.good HFyz.out) HFall.out).mono ?_
              rintro e w17 ⟨v8, rfl, hv, hX⟩
              replace HX := Lib.hid (HX.out.trans hX)
              replace HG0 := Lib.hid (HG0.out.ext hX)
              replace HG1 := Lib.hid (HG1.out.ext hX)
              replace HG2 := Lib.hid (HG2.out.ext hX)
              replace HC3 := Lib.hid (HC3.out.ext hX)
              replace HC5 := Lib.hid (HC5.out.ext hX)
              replace KA := Lib.hid (KA.out.ext hX)
              replace KB := Lib.hid (KB.out.ext hX)
              replace KC := Lib.hid (KC.out.ext hX)
              replace KXY := Lib.hid (KXY.out.ext hX)
              replace KYZ := Lib.hid (KYZ.out.ext hX)
              clear hX
              obtain ⟨s8, A8, l8, c8, B8, m8, k8, rfl⟩ := hv.open
              have HC8 := Lib.hid hv
              clear hv
              go_upto_region 13 with (fail)
              have hXa : Ext w17 (w17.alloc (.cells #[.bool s8, .slice A8 l8 c8, .slice B8 m8 k8] 33)) := (Ext.refl _).alloc _
              have kAL := Blk.new w17 33 #[.bool s8, .slice A8 l8 c8, .slice B8 m8 k8]
              have zA := KA.out.lt
              have zB := KB.out.lt
              have zC := KC.out.lt
              have zXY := KXY.out.lt
              have zYZ := KYZ.out.lt
              have zg := HX.out.size
              replace HX := Lib.hid (HX.out.trans hXa)
              replace HG0 := Lib.hid (HG0.out.ext hXa)
              replace HG1 := Lib.hid (HG1.out.ext hXa)
              replace HG2 := Lib.hid (HG2.out.ext hXa)
              replace HC3 := Lib.hid (HC3.out.ext hXa)
              replace HC5 := Lib.hid (HC5.out.ext hXa)
              replace HC8 := Lib.hid (HC8.out.ext hXa)
              replace KA := Lib.hid (KA.out.ext hXa)
              replace KB := Lib.hid (KB.out.ext hXa)
              replace KC := Lib.hid (KC.out.ext hXa)
              replace KXY := Lib.hid (KXY.out.ext hXa)
              replace KYZ := Lib.hid (KYZ.out.ext hXa)
              generalize (w17.alloc (.cells #[.bool s8, .slice A8 l8 c8, .slice B8 m8 k8] 33)) = w18 at HX HG0 HG1 HG2 HC3 HC5 HC8 KA KB KC KXY KYZ kAL ⊢
              have KAL := Lib.hid kAL
              clear kAL hXa
              as_aux_lemma =>
                have cA0 : w18.cell? ⟨w.heap.size, 0, none⟩ = some (.bool s0) := KA.out.cell 0
                have cA1 : w18.cell? ⟨w.heap.size, 1, none⟩ = some (.slice A0 l0 c0) := KA.out.cell 1
                have cA2 : w18.cell? ⟨w.heap.size, 2, none⟩ = some (.slice B0 m0 k0) := KA.out.cell 2
                have cB0 : w18.cell? ⟨(w.heap.size + 1), 0, none⟩ = some (.bool s1) := KB.out.cell 0
                have cB1 : w18.cell? ⟨(w.heap.size + 1), 1, none⟩ = some (.slice A1 l1 c1) := KB.out.cell 1
                have cB2 : w18.cell? ⟨(w.heap.size + 1), 2, none⟩ = some (.slice B1 m1 k1) := KB.out.cell 2
                go_wp2_with fail
                clear cA0 cA1 cA2 cB0 cB1 cB2
                refine (mulG HG0.out HG1.out HFp.out).mono ?_
                rintro e w19 ⟨v9, rfl, hv, hX⟩
                replace HX := Lib.hid (HX.out.trans hX)
                replace HG0 := Lib.hid (HG0.out.ext hX)
                replace HG1 := Lib.hid (HG1.out.ext hX)
                replace HG2 := Lib.hid (HG2.out.ext hX)
                replace HC3 := Lib.hid (HC3.out.ext hX)
                replace HC5 := Lib.hid (HC5.out.ext hX)
                replace HC8 := Lib.hid (HC8.out.ext hX)
                replace KA := Lib.hid (KA.out.ext hX)
                replace KB := Lib.hid (KB.out.ext hX)
                replace KC := Lib.hid (KC.out.ext hX)
                replace KXY := Lib.hid (KXY.out.ext hX)
                replace KYZ := Lib.hid (KYZ.out.ext hX)
                replace KAL := Lib.hid (KAL.out.ext hX)
                clear hX
                obtain ⟨s9, A9, l9, c9, B9, m9, k9, rfl⟩ := hv.open
                have HC9 := Lib.hid hv
                clear hv
                go_upto_region 14 with (fail)
                have hXa : Ext w19 (w19.alloc (.cells #[.bool s9, .slice A9 l9 c9, .slice B9 m9 k9] 33)) := (Ext.refl _).alloc _
                have kP := Blk.new w19 33 #[.bool s9, .slice A9 l9 c9, .slice B9 m9 k9]
                have zA := KA.out.lt
                have zB := KB.out.lt
                have zC := KC.out.lt
                have zXY := KXY.out.lt
                have zYZ := KYZ.out.lt
                have zAL := KAL.out.lt
                have zg := HX.out.size
                replace HX := Lib.hid (HX.out.trans hXa)
                replace HG0 := Lib.hid (HG0.out.ext hXa)
                replace HG1 := Lib.hid (HG1.out.ext hXa)
                replace HG2 := Lib.hid (HG2.out.ext hXa)
                replace HC3 := Lib.hid (HC3.out.ext hXa)
                replace HC5 := Lib.hid (HC5.out.ext hXa)
                replace HC8 := Lib.hid (HC8.out.ext hXa)
                replace HC9 := Lib.hid (HC9.out.ext hXa)
                replace KA := Lib.hid (KA.out.ext hXa)
                replace KB := Lib.hid (KB.out.ext hXa)
                replace KC := Lib.hid (KC.out.ext hXa)
                replace KXY := Lib.hid (KXY.out.ext hXa)
                replace KYZ := Lib.hid (KYZ.out.ext hXa)
                replace KAL := Lib.hid (KAL.out.ext hXa)
                generalize (w19.alloc (.cells #[.bool s9, .slice A9 l9 c9, .slice B9 m9 k9] 33)) = w20 at HX HG0 HG1 HG2 HC3 HC5 HC8 HC9 KA KB KC KXY KYZ KAL kP ⊢
                have KP := Lib.hid kP
                clear kP hXa
                as_aux_lemma =>
                  have cA0 : w20.cell? ⟨w.heap.size, 0, none⟩ = some (.bool s0) := KA.out.cell 0
                  have cA1 : w20.cell? ⟨w.heap.size, 1, none⟩ = some (.slice A0 l0 c0) := KA.out.cell 1
                  have cA2 : w20.cell? ⟨w.heap.size, 2, none⟩ = some (.slice B0 m0 k0) := KA.out.cell 2
                  have cC0 : w20.cell? ⟨(w.heap.size + 2), 0, none⟩ = some (.bool s2) := KC.out.cell 0
                  have cC1 : w20.cell? ⟨(w.heap.size + 2), 1, none⟩ = some (.slice A2 l2 c2) := KC.out.cell 1
                  have cC2 : w20.cell? ⟨(w.heap.size + 2), 2, none⟩ = some (.slice B2 m2 k2) := KC.out.cell 2
                  go_wp2_with fail
                  clear cA0 cA1 cA2 cC0 cC1 cC2
                  refine (mulG HG0.out HG2.out HFq.out).mono ?_
                  rintro e w21 ⟨v10, rfl, hv, hX⟩
                  replace HX := Lib.hid (HX.out.trans hX)
                  replace HG0 := Lib.hid (HG0.out.ext hX)
                  replace HG1 := Lib.hid (HG1.out.ext hX)
                  replace HG2 := Lib.hid (HG2.out.ext hX)
                  replace HC3 := Lib.hid (HC3.out.ext hX)
                  replace HC5 := Lib.hid (HC5.out.ext hX)
                  replace HC8 := Lib.hid (HC8.out.ext hX)
                  replace HC9 := Lib.hid (HC9.out.ext hX)
                  replace KA := Lib.hid (KA.out.ext hX)
                  replace KB := Lib.hid (KB.out.ext hX)
                  replace KC := Lib.hid (KC.out.ext hX)
                  replace KXY := Lib.hid (KXY.out.ext hX)
                  replace KYZ := Lib.hid (KYZ.out.ext hX)
                  replace KAL := Lib.hid (KAL.out.ext hX)
                  replace KP := Lib.hid (KP.out.ext hX)
                  clear hX
                  obtain ⟨s10, A10, l10, c10, B10, m10, k10, rfl⟩ := hv.open
                  have HC10 := Lib.hid hv
                  clear hv
                  go_upto_region 15 with (fail)
                  have hXa : Ext w21 (w21.alloc (.cells #[.bool s10, .slice A10 l10 c10, .slice B10 m10 k10] 33)) := (Ext.refl _).alloc _
                  have kQ := Blk.new w21 33 #[.bool s10, .slice A10 l10 c10, .slice B10 m10 k10]
                  have zA := KA.out.lt
                  have zB := KB.out.lt
                  have zC := KC.out.lt
                  have zXY := KXY.out.lt
                  have zYZ := KYZ.out.lt
                  have zAL := KAL.out.lt
                  have zP := KP.out.lt
                  have zg := HX.out.size
                  replace HX := Lib.hid (HX.out.trans hXa)
                  replace HG0 := Lib.hid (HG0.out.ext hXa)
                  replace HG1 := Lib.hid (HG1.out.ext hXa)
                  replace HG2 := Lib.hid (HG2.out.ext hXa)
                  replace HC3 := Lib.hid (HC3.out.ext hXa)
                  replace HC5 := Lib.hid (HC5.out.ext hXa)
                  replace HC8 := Lib.hid (HC8.out.ext hXa)
                  replace HC9 := Lib.hid (HC9.out.ext hXa)
                  replace HC10 := Lib.hid (HC10.out.ext hXa)
                  replace KA := Lib.hid (KA.out.ext hXa)
                  replace KB := Lib.hid (KB.out.ext hXa)
                  replace KC := Lib.hid (KC.out.ext hXa)
                  replace KXY := Lib.hid (KXY.out.ext hXa)
                  replace KYZ := Lib.hid (KYZ.out.ext hXa)
                  replace KAL := Lib.hid (KAL.out.ext hXa)
                  replace KP := Lib.hid (KP.out.ext hXa)
                  generalize (w21.alloc (.cells #[.bool s10, .slice A10 l10 c10, .slice B10 m10 k10] 33)) = w22 at HX HG0 HG1 HG2 HC3 HC5 HC8 HC9 HC10 KA KB KC KXY KYZ KAL KP kQ ⊢
                  have KQ := Lib.hid kQ
                  clear kQ hXa
                  as_aux_lemma =>
                    have cP0 : w22.cell? ⟨w19.heap.size, 0, none⟩ = some (.bool s9) := KP.out.cell 0
                    have cP1 : w22.cell? ⟨w19.heap.size, 1, none⟩ = some (.slice A9 l9 c9) := KP.out.cell 1
                    have cP2 : w22.cell? ⟨w19.heap.size, 2, none⟩ = some (.slice B9 m9 k9) := KP.out.cell 2
                    have cQ0 : w22.cell? ⟨w21.heap.size, 0, none⟩ = some (.bool s10) := KQ.out.cell 0
                    have cQ1 : w22.cell? ⟨w21.heap.size, 1, none⟩ = some (.slice A10 l10 c10) := KQ.out.cell 1
                    have cQ2 : w22.cell? ⟨w21.heap.size, 2, none⟩ = some (.slice B10 m10 k10) := KQ.out.cell 2
                    go_wp2_with fail
                    clear cP0 cP1 cP2 cQ0 cQ1 cQ2
                    refine (addG (HC9.out.good HFp.out) (HC10.out.good HFq.out) HFboth.out).mono ?_
                    rintro e w23 ⟨v11, rfl, hv, hX⟩
                    replace HX := Lib.hid (HX.out.trans hX)
                    replace HG0 := Lib.hid (HG0.out.ext hX)
                    replace HG1 := Lib.hid (HG1.out.ext hX)
                    replace HG2 := Lib.hid (HG2.out.ext hX)
                    replace HC3 := Lib.hid (HC3.out.ext hX)
                    replace HC5 := Lib.hid (HC5.out.ext hX)
                    replace HC8 := Lib.hid (HC8.out.ext hX)
                    replace HC9 := Lib.hid (HC9.out.ext hX)
                    replace HC10 := Lib.hid (HC10.out.ext hX)
                    replace KA := Lib.hid (KA.out.ext hX)
                    replace KB := Lib.hid (KB.out.ext hX)
                    replace KC := Lib.hid (KC.out.ext hX)
                    replace KXY := Lib.hid (KXY.out.ext hX)
                    replace KYZ := Lib.hid (KYZ.out.ext hX)
                    replace KAL := Lib.hid (KAL.out.ext hX)
                    replace KP := Lib.hid (KP.out.ext hX)
                    replace KQ := Lib.hid (KQ.out.ext hX)
                    clear hX
                    obtain ⟨s11, A11, l11, c11, B11, m11, k11, rfl⟩ := hv.open
                    have HC11 := Lib.hid hv
                    clear hv
                    go_upto_region 18 with (fail)
                    have hXa : Ext w23 (w23.alloc (.cells #[.bool s11, .slice A11 l11 c11, .slice B11 m11 k11] 33)) := (Ext.refl _).alloc _
                    have kBO := Blk.new w23 33 #[.bool s11, .slice A11 l11 c11, .slice B11 m11 k11]
                    have zA := KA.out.lt
                    have zB := KB.out.lt
                    have zC := KC.out.lt
                    have zXY := KXY.out.lt
                    have zYZ := KYZ.out.lt
                    have zAL := KAL.out.lt
                    have zP := KP.out.lt
                    have zQ := KQ.out.lt
                    have zg := HX.out.size
                    replace HX := Lib.hid (HX.out.trans hXa)
                    replace HG0 := Lib.hid (HG0.out.ext hXa)
                    replace HG1 := Lib.hid (HG1.out.ext hXa)
                    replace HG2 := Lib.hid (HG2.out.ext hXa)
                    replace HC3 := Lib.hid (HC3.out.ext hXa)
                    replace HC5 := Lib.hid (HC5.out.ext hXa)
                    replace HC8 := Lib.hid (HC8.out.ext hXa)
                    replace HC9 := Lib.hid (HC9.out.ext hXa)
                    replace HC10 := Lib.hid (HC10.out.ext hXa)
                    replace HC11 := Lib.hid (HC11.out.ext hXa)
                    replace KA := Lib.hid (KA.out.ext hXa)
                    replace KB := Lib.hid (KB.out.ext hXa)
                    replace KC := Lib.hid (KC.out.ext hXa)
                    replace KXY := Lib.hid (KXY.out.ext hXa)
                    replace KYZ := Lib.hid (KYZ.out.ext hXa)
                    replace KAL := Lib.hid (KAL.out.ext hXa)
                    replace KP := Lib.hid (KP.out.ext hXa)
                    replace KQ := Lib.hid (KQ.out.ext hXa)
                    generalize (w23.alloc (.cells #[.bool s11, .slice A11 l11 c11, .slice B11 m11 k11] 33)) = w24 at HX HG0 HG1 HG2 HC3 HC5 HC8 HC9 HC10 HC11 KA KB KC KXY KYZ KAL KP KQ kBO ⊢
                    have KBO := Lib.hid kBO
                    clear kBO hXa
                    as_aux_lemma =>
                      have cAL0 : w24.cell? ⟨w17.heap.size, 0, none⟩ = some (.bool s8) := KAL.out.cell 0
                      have cAL1 : w24.cell? ⟨w17.heap.size, 1, none⟩ = some (.slice A8 l8 c8) := KAL.out.cell 1
                      have cAL2 : w24.cell? ⟨w17.heap.size, 2, none⟩ = some (.slice B8 m8 k8) := KAL.out.cell 2
                      have cBO0 : w24.cell? ⟨w23.heap.size, 0, none⟩ = some (.bool s11) := KBO.out.cell 0
                      have cBO1 : w24.cell? ⟨w23.heap.size, 1, none⟩ = some (.slice A11 l11 c11) := KBO.out.cell 1
                      have cBO2 : w24.cell? ⟨w23.heap.size, 2, none⟩ = some (.slice B11 m11 k11) := KBO.out.cell 2
                      go_wp2_with fail
                      clear cAL0 cAL1 cAL2 cBO0 cBO1 cBO2
                      refine (equalC HC8.out HC11.out HE3.out).mono ?_
                      rintro e w25 ⟨rfl, hX⟩
                      replace HX := Lib.hid (HX.out.trans hX)
                      replace HG0 := Lib.hid (HG0.out.ext hX)
                      replace HG1 := Lib.hid (HG1.out.ext hX)
                      replace HG2 := Lib.hid (HG2.out.ext hX)
                      replace HC3 := Lib.hid (HC3.out.ext hX)
                      replace HC5 := Lib.hid (HC5.out.ext hX)
                      replace HC8 := Lib.hid (HC8.out.ext hX)
                      replace HC9 := Lib.hid (HC9.out.ext hX)
                      replace HC10 := Lib.hid (HC10.out.ext hX)
                      replace HC11 := Lib.hid (HC11.out.ext hX)
                      replace KA := Lib.hid (KA.out.ext hX)
                      replace KB := Lib.hid (KB.out.ext hX)
                      replace KC := Lib.hid (KC.out.ext hX)
                      replace KXY := Lib.hid (KXY.out.ext hX)
                      replace KYZ := Lib.hid (KYZ.out.ext hX)
                      replace KAL := Lib.hid (KAL.out.ext hX)
                      replace KP := Lib.hid (KP.out.ext hX)
                      replace KQ := Lib.hid (KQ.out.ext hX)
                      replace KBO := Lib.hid (KBO.out.ext hX)
                      clear hX
                      clear HC8
                      clear HC11
                      clear HC10
                      clear KAL
                      clear KBO
                      clear KQ
                      have cB0 : w25.cell? ⟨(w.heap.size + 1), 0, none⟩ = some (.bool s1) := KB.out.cell 0
                      have cB1 : w25.cell? ⟨(w.heap.size + 1), 1, none⟩ = some (.slice A1 l1 c1) := KB.out.cell 1
                      have cB2 : w25.cell? ⟨(w.heap.size + 1), 2, none⟩ = some (.slice B1 m1 k1) := KB.out.cell 2
                      have cXY0 : w25.cell? ⟨w5.heap.size, 0, none⟩ = some (.bool s3) := KXY.out.cell 0
                      have cXY1 : w25.cell? ⟨w5.heap.size, 1, none⟩ = some (.slice A3 l3 c3) := KXY.out.cell 1
                      have cXY2 : w25.cell? ⟨w5.heap.size, 2, none⟩ = some (.slice B3 m3 k3) := KXY.out.cell 2
                      go_wp2_with fail
                      clear cB0 cB1 cB2 cXY0 cXY1 cXY2
                      refine (subG (HC3.out.good HFxy.out) HG1.out HFback.out).mono ?_
                      rintro e w26 ⟨v12, rfl, hv, hX⟩
                      replace HX := Lib.hid (HX.out.trans hX)
                      replace HG0 := Lib.hid (HG0.out.ext hX)
                      replace HG1 := Lib.hid (HG1.out.ext hX)
                      replace HG2 := Lib.hid (HG2.out.ext hX)
                      replace HC3 := Lib.hid (HC3.out.ext hX)
                      replace HC5 := Lib.hid (HC5.out.ext hX)
                      replace HC9 := Lib.hid (HC9.out.ext hX)
                      replace KA := Lib.hid (KA.out.ext hX)
                      replace KB := Lib.hid (KB.out.ext hX)
                      replace KC := Lib.hid (KC.out.ext hX)
                      replace KXY := Lib.hid (KXY.out.ext hX)
                      replace KYZ := Lib.hid (KYZ.out.ext hX)
                      replace KP := Lib.hid (KP.out.ext hX)
                      clear hX
                      obtain ⟨s12, A12, l12, c12, B12, m12, k12, rfl⟩ := hv.open
                      have HC12 := Lib.hid hv
                      clear hv
                      go_upto_region 21 with (fail)
                      have hXa : Ext w26 (w26.alloc (.cells #[.bool s12, .slice A12 l12 c12, .slice B12 m12 k12] 33)) := (Ext.refl _).alloc _
                      have kBA := Blk.new w26 33 #[.bool s12, .slice A12 l12 c12, .slice B12 m12 k12]
                      have zA := KA.out.lt
                      have zB := KB.out.lt
                      have zC := KC.out.lt
                      have zXY := KXY.out.lt
                      have zYZ := KYZ.out.lt
                      have zP := KP.out.lt
                      have zg := HX.out.size
                      replace HX := Lib.hid (HX.out.trans hXa)
                      replace HG0 := Lib.hid (HG0.out.ext hXa)
                      replace HG1 := Lib.hid (HG1.out.ext hXa)
                      replace HG2 := Lib.hid (HG2.out.ext hXa)
                      replace HC3 := Lib.hid (HC3.out.ext hXa)
                      replace HC5 := Lib.hid (HC5.out.ext hXa)
                      replace HC9 := Lib.hid (HC9.out.ext hXa)
                      replace HC12 := Lib.hid (HC12.out.ext hXa)
                      replace KA := Lib.hid (KA.out.ext hXa)
                      replace KB := Lib.hid (KB.out.ext hXa)
                      replace KC := Lib.hid (KC.out.ext hXa)
                      replace KXY := Lib.hid (KXY.out.ext hXa)
                      replace KYZ := Lib.hid (KYZ.out.ext hXa)
                      replace KP := Lib.hid (KP.out.ext hXa)
                      generalize (w26.alloc (.cells #[.bool s12, .slice A12 l12 c12, .slice B12 m12 k12] 33)) = w27 at HX HG0 HG1 HG2 HC3 HC5 HC9 HC12 KA KB KC KXY KYZ KP kBA ⊢
                      have KBA := Lib.hid kBA
                      clear kBA hXa
                      as_aux_lemma =>
                        have cA0 : w27.cell? ⟨w.heap.size, 0, none⟩ = some (.bool s0) := KA.out.cell 0
                        have cA1 : w27.cell? ⟨w.heap.size, 1, none⟩ = some (.slice A0 l0 c0) := KA.out.cell 1
                        have cA2 : w27.cell? ⟨w.heap.size, 2, none⟩ = some (.slice B0 m0 k0) := KA.out.cell 2
                        go_wp2_with fail
                        clear cA0 cA1 cA2
                        refine (canonG HG0.out).mono ?_
                        rintro e w28 ⟨v13, rfl, hv, hX⟩
                        replace HX := Lib.hid (HX.out.trans hX)
                        replace HG0 := Lib.hid (HG0.out.ext hX)
                        replace HG1 := Lib.hid (HG1.out.ext hX)
                        replace HG2 := Lib.hid (HG2.out.ext hX)
                        replace HC3 := Lib.hid (HC3.out.ext hX)
                        replace HC5 := Lib.hid (HC5.out.ext hX)
                        replace HC9 := Lib.hid (HC9.out.ext hX)
                        replace HC12 := Lib.hid (HC12.out.ext hX)
                        replace KA := Lib.hid (KA.out.ext hX)
                        replace KB := Lib.hid (KB.out.ext hX)
                        replace KC := Lib.hid (KC.out.ext hX)
                        replace KXY := Lib.hid (KXY.out.ext hX)
                        replace KYZ := Lib.hid (KYZ.out.ext hX)
                        replace KP := Lib.hid (KP.out.ext hX)
                        replace KBA := Lib.hid (KBA.out.ext hX)
                        clear hX
                        obtain ⟨s13, A13, l13, c13, B13, m13, k13, rfl⟩ := hv.open
                        have HC13 := Lib.hid hv
                        clear hv
                        go_upto_region 22 with (fail)
                        have hXa : Ext w28 (w28.alloc (.cells #[.bool s13, .slice A13 l13 c13, .slice B13 m13 k13] 33)) := (Ext.refl _).alloc _
                        have kSA := Blk.new w28 33 #[.bool s13, .slice A13 l13 c13, .slice B13 m13 k13]
                        have zA := KA.out.lt
                        have zB := KB.out.lt
                        have zC := KC.out.lt
                        have zXY := KXY.out.lt
                        have zYZ := KYZ.out.lt
                        have zP := KP.out.lt
                        have zBA := KBA.out.lt
                        have zg := HX.out.size
                        replace HX := Lib.hid (HX.out.trans hXa)
                        replace HG0 := Lib.hid (HG0.out.ext hXa)
                        replace HG1 := Lib.hid (HG1.out.ext hXa)
                        replace HG2 := Lib.hid (HG2.out.ext hXa)
                        replace HC3 := Lib.hid (HC3.out.ext hXa)
                        replace HC5 := Lib.hid (HC5.out.ext hXa)
                        replace HC9 := Lib.hid (HC9.out.ext hXa)
                        replace HC12 := Lib.hid (HC12.out.ext hXa)
                        replace HC13 := Lib.hid (HC13.out.ext hXa)
                        replace KA := Lib.hid (KA.out.ext hXa)
                        replace KB := Lib.hid (KB.out.ext hXa)
                        replace KC := Lib.hid (KC.out.ext hXa)
                        replace KXY := Lib.hid (KXY.out.ext hXa)
                        replace KYZ := Lib.hid (KYZ.out.ext hXa)
                        replace KP := Lib.hid (KP.out.ext hXa)
                        replace KBA := Lib.hid (KBA.out.ext hXa)
                        generalize (w28.alloc (.cells #[.bool s13, .slice A13 l13 c13, .slice B13 m13 k13] 33)) = w29 at HX HG0 HG1 HG2 HC3 HC5 HC9 HC12 HC13 KA KB KC KXY KYZ KP KBA kSA ⊢
                        have KSA := Lib.hid kSA
                        clear kSA hXa
                        as_aux_lemma =>
                          have cBA0 : w29.cell? ⟨w26.heap.size, 0, none⟩ = some (.bool s12) := KBA.out.cell 0
                          have cBA1 : w29.cell? ⟨w26.heap.size, 1, none⟩ = some (.slice A12 l12 c12) := KBA.out.cell 1
                          have cBA2 : w29.cell? ⟨w26.heap.size, 2, none⟩ = some (.slice B12 m12 k12) := KBA.out.cell 2
                          have cSA0 : w29.cell? ⟨w28.heap.size, 0, none⟩ = some (.bool s13) := KSA.out.cell 0
                          have cSA1 : w29.cell? ⟨w28.heap.size, 1, none⟩ = some (.slice A13 l13 c13) := KSA.out.cell 1
                          have cSA2 : w29.cell? ⟨w28.heap.size, 2, none⟩ = some (.slice B13 m13 k13) := KSA.out.cell 2
                          go_wp2_with fail
                          clear cBA0 cBA1 cBA2 cSA0 cSA1 cSA2
                          refine (equalC HC12.out HC13.out HE4.out).mono ?_
                          rintro e w30 ⟨rfl, hX⟩
                          replace HX := Lib.hid (HX.out.trans hX)
                          replace HG0 := Lib.hid (HG0.out.ext hX)
                          replace HG1 := Lib.hid (HG1.out.ext hX)
                          replace HG2 := Lib.hid (HG2.out.ext hX)
                          replace HC3 := Lib.hid (HC3.out.ext hX)
                          replace HC5 := Lib.hid (HC5.out.ext hX)
                          replace HC9 := Lib.hid (HC9.out.ext hX)
                          replace HC12 := Lib.hid (HC12.out.ext hX)
                          replace HC13 := Lib.hid (HC13.out.ext hX)
                          replace KA := Lib.hid (KA.out.ext hX)
                          replace KB := Lib.hid (KB.out.ext hX)
                          replace KC := Lib.hid (KC.out.ext hX)
                          replace KXY := Lib.hid (KXY.out.ext hX)
                          replace KYZ := Lib.hid (KYZ.out.ext hX)
                          replace KP := Lib.hid (KP.out.ext hX)
                          replace KBA := Lib.hid (KBA.out.ext hX)
                          replace KSA := Lib.hid (KSA.out.ext hX)
                          clear hX
                          have cB0 : w30.cell? ⟨(w.heap.size + 1), 0, none⟩ = some (.bool s1) := KB.out.cell 0
                          have cB1 : w30.cell? ⟨(w.heap.size + 1), 1, none⟩ = some (.slice A1 l1 c1) := KB.out.cell 1
                          have cB2 : w30.cell? ⟨(w.heap.size + 1), 2, none⟩ = some (.slice B1 m1 k1) := KB.out.cell 2
                          go_wp2_with fail
                          clear cB0 cB1 cB2
                          refine (signG HG1.out).mono ?_
                          rw [HS.out]
                          rintro e w31 ⟨rfl, hX⟩
                          replace HX := Lib.hid (HX.out.trans hX)
                          replace HG0 := Lib.hid (HG0.out.ext hX)
                          replace HG1 := Lib.hid (HG1.out.ext hX)
                          replace HG2 := Lib.hid (HG2.out.ext hX)
                          replace HC3 := Lib.hid (HC3.out.ext hX)
                          replace HC5 := Lib.hid (HC5.out.ext hX)
                          replace HC9 := Lib.hid (HC9.out.ext hX)
                          replace HC12 := Lib.hid (HC12.out.ext hX)
                          replace HC13 := Lib.hid (HC13.out.ext hX)
                          replace KA := Lib.hid (KA.out.ext hX)
                          replace KB := Lib.hid (KB.out.ext hX)
                          replace KC := Lib.hid (KC.out.ext hX)
                          replace KXY := Lib.hid (KXY.out.ext hX)
                          replace KYZ := Lib.hid (KYZ.out.ext hX)
                          replace KP := Lib.hid (KP.out.ext hX)
                          replace KBA := Lib.hid (KBA.out.ext hX)
                          replace KSA := Lib.hid (KSA.out.ext hX)
                          clear hX
                          have cB0 : w31.cell? ⟨(w.heap.size + 1), 0, none⟩ = some (.bool s1) := KB.out.cell 0
                          have cB1 : w31.cell? ⟨(w.heap.size + 1), 1, none⟩ = some (.slice A1 l1 c1) := KB.out.cell 1
                          have cB2 : w31.cell? ⟨(w.heap.size + 1), 2, none⟩ = some (.slice B1 m1 k1) := KB.out.cell 2
                          have cP0 : w31.cell? ⟨w19.heap.size, 0, none⟩ = some (.bool s9) := KP.out.cell 0
                          have cP1 : w31.cell? ⟨w19.heap.size, 1, none⟩ = some (.slice A9 l9 c9) := KP.out.cell 1
                          have cP2 : w31.cell? ⟨w19.heap.size, 2, none⟩ = some (.slice B9 m9 k9) := KP.out.cell 2
                          go_wp2_with fail
                          clear cB0 cB1 cB2 cP0 cP1 cP2
                          refine (divG0 (HC9.out.good HFp.out) HG1.out HZ.out).mono ?_
                          unfold RetE zeroR
                          rintro e w32 ⟨rfl, hX⟩
                          replace HX := Lib.hid (HX.out.trans hX)
                          replace HG0 := Lib.hid (HG0.out.ext hX)
                          replace HG1 := Lib.hid (HG1.out.ext hX)
                          replace HG2 := Lib.hid (HG2.out.ext hX)
                          replace HC3 := Lib.hid (HC3.out.ext hX)
                          replace HC5 := Lib.hid (HC5.out.ext hX)
                          replace HC9 := Lib.hid (HC9.out.ext hX)
                          replace HC12 := Lib.hid (HC12.out.ext hX)
                          replace HC13 := Lib.hid (HC13.out.ext hX)
                          replace KA := Lib.hid (KA.out.ext hX)
                          replace KB := Lib.hid (KB.out.ext hX)
                          replace KC := Lib.hid (KC.out.ext hX)
                          replace KXY := Lib.hid (KXY.out.ext hX)
                          replace KYZ := Lib.hid (KYZ.out.ext hX)
                          replace KP := Lib.hid (KP.out.ext hX)
                          replace KBA := Lib.hid (KBA.out.ext hX)
                          replace KSA := Lib.hid (KSA.out.ext hX)
                          clear hX
                          go_upto_region 26 with (fail)
                          have hXa : Ext w32 (w32.alloc (.cells #[.bool false, .slice none 0 0, .slice none 0 0] 33)) := (Ext.refl _).alloc _
                          have kAG := Blk.new w32 33 #[.bool false, .slice none 0 0, .slice none 0 0]
                          have zA := KA.out.lt
                          have zB := KB.out.lt
                          have zC := KC.out.lt
                          have zXY := KXY.out.lt
                          have zYZ := KYZ.out.lt
                          have zP := KP.out.lt
                          have zBA := KBA.out.lt
                          have zSA := KSA.out.lt
                          have zg := HX.out.size
                          replace HX := Lib.hid (HX.out.trans hXa)
                          replace HG0 := Lib.hid (HG0.out.ext hXa)
                          replace HG1 := Lib.hid (HG1.out.ext hXa)
                          replace HG2 := Lib.hid (HG2.out.ext hXa)
                          replace HC3 := Lib.hid (HC3.out.ext hXa)
                          replace HC5 := Lib.hid (HC5.out.ext hXa)
                          replace HC9 := Lib.hid (HC9.out.ext hXa)
                          replace HC12 := Lib.hid (HC12.out.ext hXa)
                          replace HC13 := Lib.hid (HC13.out.ext hXa)
                          replace KA := Lib.hid (KA.out.ext hXa)
                          replace KB := Lib.hid (KB.out.ext hXa)
                          replace KC := Lib.hid (KC.out.ext hXa)
                          replace KXY := Lib.hid (KXY.out.ext hXa)
                          replace KYZ := Lib.hid (KYZ.out.ext hXa)
                          replace KP := Lib.hid (KP.out.ext hXa)
                          replace KBA := Lib.hid (KBA.out.ext hXa)
                          replace KSA := Lib.hid (KSA.out.ext hXa)
                          generalize (w32.alloc (.cells #[.bool false, .slice none 0 0, .slice none 0 0] 33)) = w33 at HX HG0 HG1 HG2 HC3 HC5 HC9 HC12 HC13 KA KB KC KXY KYZ KP KBA KSA kAG ⊢
                          have KAG := Lib.hid kAG
                          clear kAG hXa
                          go_wp2_with fail
                          refine (first_any _).mono ?_
                          rintro e w34 ⟨rfl, hX⟩
                          replace HX := Lib.hid (HX.out.trans hX)
                          replace HG0 := Lib.hid (HG0.out.ext hX)
                          replace HG1 := Lib.hid (HG1.out.ext hX)
                          replace HG2 := Lib.hid (HG2.out.ext hX)
                          replace HC3 := Lib.hid (HC3.out.ext hX)
                          replace HC5 := Lib.hid (HC5.out.ext hX)
                          replace HC9 := Lib.hid (HC9.out.ext hX)
                          replace HC12 := Lib.hid (HC12.out.ext hX)
                          replace HC13 := Lib.hid (HC13.out.ext hX)
                          replace KA := Lib.hid (KA.out.ext hX)
                          replace KB := Lib.hid (KB.out.ext hX)
                          replace KC := Lib.hid (KC.out.ext hX)
                          replace KXY := Lib.hid (KXY.out.ext hX)
                          replace KYZ := Lib.hid (KYZ.out.ext hX)
                          replace KP := Lib.hid (KP.out.ext hX)
                          replace KBA := Lib.hid (KBA.out.ext hX)
                          replace KSA := Lib.hid (KSA.out.ext hX)
                          replace KAG := Lib.hid (KAG.out.ext hX)
                          clear hX
                          go_wp2
                          go_ret
                          exact ⟨rfl, HX.out⟩

end Go.Proofs.Yteoijnaljkagfaa
