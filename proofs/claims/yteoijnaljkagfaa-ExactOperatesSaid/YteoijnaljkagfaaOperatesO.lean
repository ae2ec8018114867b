/- Lemmas of the proof that follows (Operates, part 15): walks of functions by contract, and plain lemmas. Conditions: none. -/
import Derived.Test.YteoijnaljkagfaaOperatesN
namespace Go.Proofs.Yteoijnaljkagfaa
open Go.RowKit

theorem two_div_any {w : World} {s0 s1 : Bool} {A0 B0 A1 B1 : Option Addr} {l0 c0 m0 k0 l1 c1 m1 k1 : Nat} {q r : Rat} {er : Int} (h : RatG w (.agg #[.bool s0, .slice A0 l0 c0, .slice B0 m0 k0]) q) (k : RatG w (.agg #[.bool s1, .slice A1 l1 c1, .slice B1 m1 k1]) r) (he : DivE q r er) : Calls Try.prog 61 #[.int .i64 3, .agg #[.bool s0, .slice A0 l0 c0, .slice B0 m0 k0], .agg #[.bool s1, .slice A1 l1 c1, .slice B1 m1 k1]] w (RetQr w er (q / r)) := by
  rcases he with ⟨hz, h0⟩ | ⟨hz, he⟩
  · exact two_zero s0 A0 B0 l0 c0 m0 k0 s1 A1 B1 l1 c1 m1 k1 q r er w h k hz h0
  · exact two_div s0 A0 B0 l0 c0 m0 k0 s1 A1 B1 l1 c1 m1 k1 q r er w h k hz he

set_option maxRecDepth 100000 in
set_option maxHeartbeats 2000000 in
theorem operates_ss (s0 : Bool) (A0 B0 : Option Addr) (l0 c0 m0 k0 : Nat) (s1 : Bool) (A1 B1 : Option Addr) (l1 c1 m1 k1 : Nat) (n0 n1 : Bool) (xs ys xs' ys' : List Int) (q r : Rat) (e1 e2 e3 e4 : Int) (w : World) (v0 : RatV w (.agg #[.bool s0, .slice A0 l0 c0, .slice B0 m0 k0]) n0 xs ys) (v1 : RatV w (.agg #[.bool s1, .slice A1 l1 c1, .slice B1 m1 k1]) n1 xs' ys') (hx : RatG w (.agg #[.bool s0, .slice A0 l0 c0, .slice B0 m0 k0]) q) (hy : RatG w (.agg #[.bool s1, .slice A1 l1 c1, .slice B1 m1 k1]) r) (ha : SizeE (q + r) e1) (hs : SizeE (q - r) e2) (hm : SizeE (q * r) e3) (hd : DivE q r e4) :
    Calls Try.prog 14 #[.agg #[.bool s0, .slice A0 l0 c0, .slice B0 m0 k0], .agg #[.bool s1, .slice A1 l1 c1, .slice B1 m1 k1]] w (fun e w' => e = .returned (.bool true) ∧ Ext w w') := by
  have HV0 := Lib.hid v0
  have HV1 := Lib.hid v1
  have HXX := Lib.hid hx
  have HYY := Lib.hid hy
  clear v0 v1 hx hy
  have HE1 := Lib.hid ha
  have HE2 := Lib.hid hs
  have HE3 := Lib.hid hm
  have HE4 := Lib.hid hd
  clear ha hs hm hd
  have HFQ := Lib.hid (fitR_512 HXX.out.fit)
  have HFR := Lib.hid (fitR_512 HYY.out.fit)
  obtain ⟨L, hL⟩ : ∃ L : Nat, L = 512 := ⟨_, rfl⟩
  rw [← hL] at HFQ HFR
  have hL2 : L + L + 1 ≤ 400000 := by omega
  clear hL
  obtain ⟨cq, hcq⟩ : ∃ c, sgnQ (q - r) = c := ⟨_, rfl⟩
  have HCQ := Lib.hid hcq
  clear hcq
  have hXe : Ext w (((w.alloc (.cells #[.bool s0, .slice A0 l0 c0, .slice B0 m0 k0] 33)).alloc (.cells #[.bool s1, .slice A1 l1 c1, .slice B1 m1 k1] 33)).alloc (.cells #[.bool s0, .slice A0 l0 c0, .slice B0 m0 k0, .bool s1, .slice A1 l1 c1, .slice B1 m1 k1] 33)) := ((((Ext.refl w).alloc _).alloc _).alloc _)
  have kA : Blk (((w.alloc (.cells #[.bool s0, .slice A0 l0 c0, .slice B0 m0 k0] 33)).alloc (.cells #[.bool s1, .slice A1 l1 c1, .slice B1 m1 k1] 33)).alloc (.cells #[.bool s0, .slice A0 l0 c0, .slice B0 m0 k0, .bool s1, .slice A1 l1 c1, .slice B1 m1 k1] 33)) w.heap.size 33 #[.bool s0, .slice A0 l0 c0, .slice B0 m0 k0] := Blk.alloc (Blk.alloc (Blk.at_ (by simp)) _) _
  have kB : Blk (((w.alloc (.cells #[.bool s0, .slice A0 l0 c0, .slice B0 m0 k0] 33)).alloc (.cells #[.bool s1, .slice A1 l1 c1, .slice B1 m1 k1] 33)).alloc (.cells #[.bool s0, .slice A0 l0 c0, .slice B0 m0 k0, .bool s1, .slice A1 l1 c1, .slice B1 m1 k1] 33)) (w.heap.size + 1) 33 #[.bool s1, .slice A1 l1 c1, .slice B1 m1 k1] := Blk.alloc (Blk.at_ (by simp)) _
  have kH : Blk (((w.alloc (.cells #[.bool s0, .slice A0 l0 c0, .slice B0 m0 k0] 33)).alloc (.cells #[.bool s1, .slice A1 l1 c1, .slice B1 m1 k1] 33)).alloc (.cells #[.bool s0, .slice A0 l0 c0, .slice B0 m0 k0, .bool s1, .slice A1 l1 c1, .slice B1 m1 k1] 33)) (w.heap.size + 2) 33 #[.bool s0, .slice A0 l0 c0, .slice B0 m0 k0, .bool s1, .slice A1 l1 c1, .slice B1 m1 k1] := Blk.at_ (by simp)
  go_enter Try.func14, Try.ntmps14
  go_wp2_with fail
  generalize (((w.alloc (.cells #[.bool s0, .slice A0 l0 c0, .slice B0 m0 k0] 33)).alloc (.cells #[.bool s1, .slice A1 l1 c1, .slice B1 m1 k1] 33)).alloc (.cells #[.bool s0, .slice A0 l0 c0, .slice B0 m0 k0, .bool s1, .slice A1 l1 c1, .slice B1 m1 k1] 33)) = w1 at hXe kA kB kH ⊢
  have HX := Lib.hid hXe
  clear hXe
  have KA := Lib.hid kA
  clear kA
  have KB := Lib.hid kB
  clear kB
  have KH := Lib.hid kH
  clear kH
  replace HV0 := Lib.hid (HV0.out.ext HX.out)
  replace HV1 := Lib.hid (HV1.out.ext HX.out)
  replace HXX := Lib.hid (HXX.out.ext HX.out)
  replace HYY := Lib.hid (HYY.out.ext HX.out)
  refine (heavy_any _ 2 _ (ratsAt_two KH.out HV0.out HV1.out) (by omega)).mono ?_
  rintro e w2 ⟨b9, rfl, hX⟩
  replace hX : Ext w1 w2 := by with_reducible exact hX
  replace HX := Lib.hid (HX.out.trans hX)
  replace HV0 := Lib.hid (HV0.out.ext hX)
  replace HV1 := Lib.hid (HV1.out.ext hX)
  replace HXX := Lib.hid (HXX.out.ext hX)
  replace HYY := Lib.hid (HYY.out.ext hX)
  replace KA := Lib.hid (KA.out.ext hX)
  replace KB := Lib.hid (KB.out.ext hX)
  replace KH := Lib.hid (KH.out.ext hX)
  clear hX
  clear KH
  clear HV0
  clear HV1
  by_cases hb9 : b9 = true
  · subst hb9
    go_wp2_with fail
    refine (first_any _).mono ?_
    rintro e w3 ⟨rfl, hX⟩
    replace hX : Ext w2 w3 := by with_reducible exact hX
    replace HX := Lib.hid (HX.out.trans hX)
    replace HXX := Lib.hid (HXX.out.ext hX)
    replace HYY := Lib.hid (HYY.out.ext hX)
    replace KA := Lib.hid (KA.out.ext hX)
    replace KB := Lib.hid (KB.out.ext hX)
    clear hX
    go_wp2
    go_ret
    exact ⟨rfl, HX.out⟩
  · have hb8 : b9 = false := by simpa using hb9
    clear hb9
    subst hb8
    have cA0 : w2.cell? ⟨w.heap.size, 0, none⟩ = some (.bool s0) := KA.out.cell 0
    have cA1 : w2.cell? ⟨w.heap.size, 1, none⟩ = some (.slice A0 l0 c0) := KA.out.cell 1
    have cA2 : w2.cell? ⟨w.heap.size, 2, none⟩ = some (.slice B0 m0 k0) := KA.out.cell 2
    have cB0 : w2.cell? ⟨(w.heap.size + 1), 0, none⟩ = some (.bool s1) := KB.out.cell 0
    have cB1 : w2.cell? ⟨(w.heap.size + 1), 1, none⟩ = some (.slice A1 l1 c1) := KB.out.cell 1
    have cB2 : w2.cell? ⟨(w.heap.size + 1), 2, none⟩ = some (.slice B1 m1 k1) := KB.out.cell 2
    go_wp2_with fail
    clear cA0 cA1 cA2 cB0 cB1 cB2
    refine (addE HXX.out HYY.out HE1.out).mono ?_
    rintro e w3 ⟨v2, rfl, hv, hX⟩
    replace hX : Ext w2 w3 := by with_reducible exact hX
    replace HX := Lib.hid (HX.out.trans hX)
    replace HXX := Lib.hid (HXX.out.ext hX)
    replace HYY := Lib.hid (HYY.out.ext hX)
    replace KA := Lib.hid (KA.out.ext hX)
    replace KB := Lib.hid (KB.out.ext hX)
    clear hX
    obtain ⟨s2, A2, l2, c2, B2, m2, k2, rfl⟩ := hv.open
    have HC2 := Lib.hid hv
    clear hv
    go_upto_region 4 with (fail)
    have hXa : Ext w3 (w3.alloc (.cells #[.bool s2, .slice A2 l2 c2, .slice B2 m2 k2] 33)) := (Ext.refl _).alloc _
    have kS := Blk.new w3 33 #[.bool s2, .slice A2 l2 c2, .slice B2 m2 k2]
    have zA := KA.out.lt
    have zB := KB.out.lt
    have zg := HX.out.size
    replace HX := Lib.hid (HX.out.trans hXa)
    replace HXX := Lib.hid (HXX.out.ext hXa)
    replace HYY := Lib.hid (HYY.out.ext hXa)
    replace HC2 := Lib.hid (HC2.out.ext hXa)
    replace KA := Lib.hid (KA.out.ext hXa)
    replace KB := Lib.hid (KB.out.ext hXa)
    generalize (w3.alloc (.cells #[.bool s2, .slice A2 l2 c2, .slice B2 m2 k2] 33)) = w4 at HX HXX HYY HC2 KA KB kS ⊢
    have KS := Lib.hid kS
    clear kS hXa
    as_aux_lemma =>
      have cA0 : w4.cell? ⟨w.heap.size, 0, none⟩ = some (.bool s0) := KA.out.cell 0
      have cA1 : w4.cell? ⟨w.heap.size, 1, none⟩ = some (.slice A0 l0 c0) := KA.out.cell 1
      have cA2 : w4.cell? ⟨w.heap.size, 2, none⟩ = some (.slice B0 m0 k0) := KA.out.cell 2
      have cB0 : w4.cell? ⟨(w.heap.size + 1), 0, none⟩ = some (.bool s1) := KB.out.cell 0
      have cB1 : w4.cell? ⟨(w.heap.size + 1), 1, none⟩ = some (.slice A1 l1 c1) := KB.out.cell 1
      have cB2 : w4.cell? ⟨(w.heap.size + 1), 2, none⟩ = some (.slice B1 m1 k1) := KB.out.cell 2
      go_wp2_with fail
      clear cA0 cA1 cA2 cB0 cB1 cB2
      refine (subE HXX.out HYY.out HE2.out).mono ?_
      rintro e w5 ⟨v3, rfl, hv, hX⟩
      replace hX : Ext w4 w5 := by with_reducible exact hX
      replace HX := Lib.hid (HX.out.trans hX)
      replace HXX := Lib.hid (HXX.out.ext hX)
      replace HYY := Lib.hid (HYY.out.ext hX)
      replace HC2 := Lib.hid (HC2.out.ext hX)
      replace KA := Lib.hid (KA.out.ext hX)
      replace KB := Lib.hid (KB.out.ext hX)
      replace KS := Lib.hid (KS.out.ext hX)
      clear hX
      obtain ⟨s3, A3, l3, c3, B3, m3, k3, rfl⟩ := hv.open
      have HC3 := Lib.hid hv
      clear hv
      go_upto_region 5 with (fail)
      have hXa : Ext w5 (w5.alloc (.cells #[.bool s3, .slice A3 l3 c3, .slice B3 m3 k3] 33)) := (Ext.refl _).alloc _
      have kD := Blk.new w5 33 #[.bool s3, .slice A3 l3 c3, .slice B3 m3 k3]
      have zA := KA.out.lt
      have zB := KB.out.lt
      have zS := KS.out.lt
      have zg := HX.out.size
      replace HX := Lib.hid (HX.out.trans hXa)
      replace HXX := Lib.hid (HXX.out.ext hXa)
      replace HYY := Lib.hid (HYY.out.ext hXa)
      replace HC2 := Lib.hid (HC2.out.ext hXa)
      replace HC3 := Lib.hid (HC3.out.ext hXa)
      replace KA := Lib.hid (KA.out.ext hXa)
      replace KB := Lib.hid (KB.out.ext hXa)
      replace KS := Lib.hid (KS.out.ext hXa)
      generalize (w5.alloc (.cells #[.bool s3, .slice A3 l3 c3, .slice B3 m3 k3] 33)) = w6 at HX HXX HYY HC2 HC3 KA KB KS kD ⊢
      have KD := Lib.hid kD
      clear kD hXa
      as_aux_lemma =>
        have cA0 : w6.cell? ⟨w.heap.size, 0, none⟩ = some (.bool s0) := KA.out.cell 0
        have cA1 : w6.cell? ⟨w.heap.size, 1, none⟩ = some (.slice A0 l0 c0) := KA.out.cell 1
        have cA2 : w6.cell? ⟨w.heap.size, 2, none⟩ = some (.slice B0 m0 k0) := KA.out.cell 2
        have cB0 : w6.cell? ⟨(w.heap.size + 1), 0, none⟩ = some (.bool s1) := KB.out.cell 0
        have cB1 : w6.cell? ⟨(w.heap.size + 1), 1, none⟩ = some (.slice A1 l1 c1) := KB.out.cell 1
        have cB2 : w6.cell? ⟨(w.heap.size + 1), 2, none⟩ = some (.slice B1 m1 k1) := KB.out.cell 2
        go_wp2_with fail
        clear cA0 cA1 cA2 cB0 cB1 cB2
        refine (mulE HXX.out HYY.out HE3.out).mono ?_
        rintro e w7 ⟨v4, rfl, hv, hX⟩
        replace hX : Ext w6 w7 := by with_reducible exact hX
        replace HX := Lib.hid (HX.out.trans hX)
        replace HXX := Lib.hid (HXX.out.ext hX)
        replace HYY := Lib.hid (HYY.out.ext hX)
        replace HC2 := Lib.hid (HC2.out.ext hX)
        replace HC3 := Lib.hid (HC3.out.ext hX)
        replace KA := Lib.hid (KA.out.ext hX)
        replace KB := Lib.hid (KB.out.ext hX)
        replace KS := Lib.hid (KS.out.ext hX)
        replace KD := Lib.hid (KD.out.ext hX)
        clear hX
        obtain ⟨s4, A4, l4, c4, B4, m4, k4, rfl⟩ := hv.open
        have HC4 := Lib.hid hv
        clear hv
        go_upto_region 6 with (fail)
        have hXa : Ext w7 (w7.alloc (.cells #[.bool s4, .slice A4 l4 c4, .slice B4 m4 k4] 33)) := (Ext.refl _).alloc _
        have kM := Blk.new w7 33 #[.bool s4, .slice A4 l4 c4, .slice B4 m4 k4]
        have zA := KA.out.lt
        have zB := KB.out.lt
        have zS := KS.out.lt
        have zD := KD.out.lt
        have zg := HX.out.size
        replace HX := Lib.hid (HX.out.trans hXa)
        replace HXX := Lib.hid (HXX.out.ext hXa)
        replace HYY := Lib.hid (HYY.out.ext hXa)
        replace HC2 := Lib.hid (HC2.out.ext hXa)
        replace HC3 := Lib.hid (HC3.out.ext hXa)
        replace HC4 := Lib.hid (HC4.out.ext hXa)
        replace KA := Lib.hid (KA.out.ext hXa)
        replace KB := Lib.hid (KB.out.ext hXa)
        replace KS := Lib.hid (KS.out.ext hXa)
        replace KD := Lib.hid (KD.out.ext hXa)
        generalize (w7.alloc (.cells #[.bool s4, .slice A4 l4 c4, .slice B4 m4 k4] 33)) = w8 at HX HXX HYY HC2 HC3 HC4 KA KB KS KD kM ⊢
        have KM := Lib.hid kM
        clear kM hXa
        as_aux_lemma =>
          have cA0 : w8.cell? ⟨w.heap.size, 0, none⟩ = some (.bool s0) := KA.out.cell 0
          have cA1 : w8.cell? ⟨w.heap.size, 1, none⟩ = some (.slice A0 l0 c0) := KA.out.cell 1
          have cA2 : w8.cell? ⟨w.heap.size, 2, none⟩ = some (.slice B0 m0 k0) := KA.out.cell 2
          have cB0 : w8.cell? ⟨(w.heap.size + 1), 0, none⟩ = some (.bool s1) := KB.out.cell 0
          have cB1 : w8.cell? ⟨(w.heap.size + 1), 1, none⟩ = some (.slice A1 l1 c1) := KB.out.cell 1
          have cB2 : w8.cell? ⟨(w.heap.size + 1), 2, none⟩ = some (.slice B1 m1 k1) := KB.out.cell 2
          go_wp2_with fail
          clear cA0 cA1 cA2 cB0 cB1 cB2
          refine (divEr HXX.out HYY.out HE4.out).mono ?_
          rintro e w9 ⟨v5, rfl, hv, hX⟩
          replace hX : Ext w8 w9 := by with_reducible exact hX
          replace HX := Lib.hid (HX.out.trans hX)
          replace HXX := Lib.hid (HXX.out.ext hX)
          replace HYY := Lib.hid (HYY.out.ext hX)
          replace HC2 := Lib.hid (HC2.out.ext hX)
          replace HC3 := Lib.hid (HC3.out.ext hX)
          replace HC4 := Lib.hid (HC4.out.ext hX)
          replace KA := Lib.hid (KA.out.ext hX)
          replace KB := Lib.hid (KB.out.ext hX)
          replace KS := Lib.hid (KS.out.ext hX)
          replace KD := Lib.hid (KD.out.ext hX)
          replace KM := Lib.hid (KM.out.ext hX)
          clear hX
          obtain ⟨s5, A5, l5, c5, B5, m5, k5, rfl⟩ := hv.open
          have HC5 := Lib.hid hv
          clear hv
          go_upto_region 7 with (fail)
          have hXa : Ext w9 (w9.alloc (.cells #[.bool s5, .slice A5 l5 c5, .slice B5 m5 k5] 33)) := (Ext.refl _).alloc _
          have kQ := Blk.new w9 33 #[.bool s5, .slice A5 l5 c5, .slice B5 m5 k5]
          have zA := KA.out.lt
          have zB := KB.out.lt
          have zS := KS.out.lt
          have zD := KD.out.lt
          have zM := KM.out.lt
          have zg := HX.out.size
          replace HX := Lib.hid (HX.out.trans hXa)
          replace HXX := Lib.hid (HXX.out.ext hXa)
          replace HYY := Lib.hid (HYY.out.ext hXa)
          replace HC2 := Lib.hid (HC2.out.ext hXa)
          replace HC3 := Lib.hid (HC3.out.ext hXa)
          replace HC4 := Lib.hid (HC4.out.ext hXa)
          replace HC5 := Lib.hid (HC5.out.ext hXa)
          replace KA := Lib.hid (KA.out.ext hXa)
          replace KB := Lib.hid (KB.out.ext hXa)
          replace KS := Lib.hid (KS.out.ext hXa)
          replace KD := Lib.hid (KD.out.ext hXa)
          replace KM := Lib.hid (KM.out.ext hXa)
          generalize (w9.alloc (.cells #[.bool s5, .slice A5 l5 c5, .slice B5 m5 k5] 33)) = w10 at HX HXX HYY HC2 HC3 HC4 HC5 KA KB KS KD KM kQ ⊢
          have KQ := Lib.hid kQ
          clear kQ hXa
          as_aux_lemma =>
            have cA0 : w10.cell? ⟨w.heap.size, 0, none⟩ = some (.bool s0) := KA.out.cell 0
            have cA1 : w10.cell? ⟨w.heap.size, 1, none⟩ = some (.slice A0 l0 c0) := KA.out.cell 1
            have cA2 : w10.cell? ⟨w.heap.size, 2, none⟩ = some (.slice B0 m0 k0) := KA.out.cell 2
            have cB0 : w10.cell? ⟨(w.heap.size + 1), 0, none⟩ = some (.bool s1) := KB.out.cell 0
            have cB1 : w10.cell? ⟨(w.heap.size + 1), 1, none⟩ = some (.slice A1 l1 c1) := KB.out.cell 1
            have cB2 : w10.cell? ⟨(w.heap.size + 1), 2, none⟩ = some (.slice B1 m1 k1) := KB.out.cell 2
            go_wp2_with fail
            clear cA0 cA1 cA2 cB0 cB1 cB2
            refine (cmpG HXX.out HYY.out).mono ?_
            rw [HCQ.out]
            unfold RetE
            rintro e w11 ⟨rfl, hX⟩
            replace hX : Ext w10 w11 := by with_reducible exact hX
            replace HX := Lib.hid (HX.out.trans hX)
            replace HXX := Lib.hid (HXX.out.ext hX)
            replace HYY := Lib.hid (HYY.out.ext hX)
            replace HC2 := Lib.hid (HC2.out.ext hX)
            replace HC3 := Lib.hid (HC3.out.ext hX)
            replace HC4 := Lib.hid (HC4.out.ext hX)
            replace HC5 := Lib.hid (HC5.out.ext hX)
            replace KA := Lib.hid (KA.out.ext hX)
            replace KB := Lib.hid (KB.out.ext hX)
            replace KS := Lib.hid (KS.out.ext hX)
            replace KD := Lib.hid (KD.out.ext hX)
            replace KM := Lib.hid (KM.out.ext hX)
            replace KQ := Lib.hid (KQ.out.ext hX)
            clear hX
            as_aux_lemma =>
              have cA0 : w11.cell? ⟨w.heap.size, 0, none⟩ = some (.bool s0) := KA.out.cell 0
              have cA1 : w11.cell? ⟨w.heap.size, 1, none⟩ = some (.slice A0 l0 c0) := KA.out.cell 1
              have cA2 : w11.cell? ⟨w.heap.size, 2, none⟩ = some (.slice B0 m0 k0) := KA.out.cell 2
              have cB0 : w11.cell? ⟨(w.heap.size + 1), 0, none⟩ = some (.bool s1) := KB.out.cell 0
              have cB1 : w11.cell? ⟨(w.heap.size + 1), 1, none⟩ = some (.slice A1 l1 c1) := KB.out.cell 1
              have cB2 : w11.cell? ⟨(w.heap.size + 1), 2, none⟩ = some (.slice B1 m1 k1) := KB.out.cell 2
              go_wp2_with fail
              clear cA0 cA1 cA2 cB0 cB1 cB2
              refine (two_add s0 A0 B0 l0 c0 m0 k0 s1 A1 B1 l1 c1 m1 k1 q r e1 _ HXX.out HYY.out HE1.out).mono ?_
              rintro e w12 ⟨v6, rfl, hv, hX⟩
              replace hX : Ext w11 w12 := by with_reducible exact hX
              replace HX := Lib.hid (HX.out.trans hX)
              replace HXX := Lib.hid (HXX.out.ext hX)
              replace HYY := Lib.hid (HYY.out.ext hX)
              replace HC2 := Lib.hid (HC2.out.ext hX)
              replace HC3 := Lib.hid (HC3.out.ext hX)
              replace HC4 := Lib.hid (HC4.out.ext hX)
              replace HC5 := Lib.hid (HC5.out.ext hX)
              replace KA := Lib.hid (KA.out.ext hX)
              replace KB := Lib.hid (KB.out.ext hX)
              replace KS := Lib.hid (KS.out.ext hX)
              replace KD := Lib.hid (KD.out.ext hX)
              replace KM := Lib.hid (KM.out.ext hX)
              replace KQ := Lib.hid (KQ.out.ext hX)
              clear hX
              replace hv : ResQ w12 v6 e1 (q + r) := hv
              obtain ⟨s6, A6, l6, c6, B6, m6, k6, rfl⟩ := hv.open
              have HD6 := Lib.hid hv
              clear hv
              go_upto_region 9 with (fail)
              have hXa : Ext w12 (w12.alloc (.cells #[.bool s6, .slice A6 l6 c6, .slice B6 m6 k6] 42)) := (Ext.refl _).alloc _
              have kSQ := Blk.new w12 42 #[.bool s6, .slice A6 l6 c6, .slice B6 m6 k6]
              have zA := KA.out.lt
              have zB := KB.out.lt
              have zS := KS.out.lt
              have zD := KD.out.lt
              have zM := KM.out.lt
              have zQ := KQ.out.lt
              have zg := HX.out.size
              replace HX := Lib.hid (HX.out.trans hXa)
              replace HXX := Lib.hid (HXX.out.ext hXa)
              replace HYY := Lib.hid (HYY.out.ext hXa)
              replace HC2 := Lib.hid (HC2.out.ext hXa)
              replace HC3 := Lib.hid (HC3.out.ext hXa)
              replace HC4 := Lib.hid (HC4.out.ext hXa)
              replace HC5 := Lib.hid (HC5.out.ext hXa)
              replace HD6 := Lib.hid (HD6.out.ext hXa)
              replace KA := Lib.hid (KA.out.ext hXa)
              replace KB := Lib.hid (KB.out.ext hXa)
              replace KS := Lib.hid (KS.out.ext hXa)
              replace KD := Lib.hid (KD.out.ext hXa)
              replace KM := Lib.hid (KM.out.ext hXa)
              replace KQ := Lib.hid (KQ.out.ext hXa)
              generalize (w12.alloc (.cells #[.bool s6, .slice A6 l6 c6, .slice B6 m6 k6] 42)) = w13 at HX HXX HYY HC2 HC3 HC4 HC5 HD6 KA KB KS KD KM KQ kSQ ⊢
              have KSQ := Lib.hid kSQ
              clear kSQ hXa
              as_aux_lemma =>
                have cA0 : w13.cell? ⟨w.heap.size, 0, none⟩ = some (.bool s0) := KA.out.cell 0
                have cA1 : w13.cell? ⟨w.heap.size, 1, none⟩ = some (.slice A0 l0 c0) := KA.out.cell 1
                have cA2 : w13.cell? ⟨w.heap.size, 2, none⟩ = some (.slice B0 m0 k0) := KA.out.cell 2
                have cB0 : w13.cell? ⟨(w.heap.size + 1), 0, none⟩ = some (.bool s1) := KB.out.cell 0
                have cB1 : w13.cell? ⟨(w.heap.size + 1), 1, none⟩ = some (.slice A1 l1 c1) := KB.out.cell 1
                have cB2 : w13.cell? ⟨(w.heap.size + 1), 2, none⟩ = some (.slice B1 m1 k1) := KB.out.cell 2
                go_wp2_with fail
                clear cA0 cA1 cA2 cB0 cB1 cB2
                refine (two_sub s0 A0 B0 l0 c0 m0 k0 s1 A1 B1 l1 c1 m1 k1 q r e2 _ HXX.out HYY.out HE2.out).mono ?_
                rintro e w14 ⟨v7, rfl, hv, hX⟩
                replace hX : Ext w13 w14 := by with_reducible exact hX
                replace HX := Lib.hid (HX.out.trans hX)
                replace HXX := Lib.hid (HXX.out.ext hX)
                replace HYY := Lib.hid (HYY.out.ext hX)
                replace HC2 := Lib.hid (HC2.out.ext hX)
                replace HC3 := Lib.hid (HC3.out.ext hX)
                replace HC4 := Lib.hid (HC4.out.ext hX)
                replace HC5 := Lib.hid (HC5.out.ext hX)
                replace HD6 := Lib.hid (HD6.out.ext hX)
                replace KA := Lib.hid (KA.out.ext hX)
                replace KB := Lib.hid (KB.out.ext hX)
                replace KS := Lib.hid (KS.out.ext hX)
                replace KD := Lib.hid (KD.out.ext hX)
                replace KM := Lib.hid (KM.out.ext hX)
                replace KQ := Lib.hid (KQ.out.ext hX)
                replace KSQ := Lib.hid (KSQ.out.ext hX)
                clear hX
                replace hv : ResQ w14 v7 e2 (q - r) := hv
                obtain ⟨s7, A7, l7, c7, B7, m7, k7, rfl⟩ := hv.open
                have HD7 := Lib.hid hv
                clear hv
                go_upto_region 10 with (fail)
                have hXa : Ext w14 (w14.alloc (.cells #[.bool s7, .slice A7 l7 c7, .slice B7 m7 k7] 42)) := (Ext.refl _).alloc _
                have kDQ := Blk.new w14 42 #[.bool s7, .slice A7 l7 c7, .slice B7 m7 k7]
                have zA := KA.out.lt
                have zB := KB.out.lt
                have zS := KS.out.lt
                have zD := KD.out.lt
                have zM := KM.out.lt
                have zQ := KQ.out.lt
                have zSQ := KSQ.out.lt
                have zg := HX.out.size
                replace HX := Lib.hid (HX.out.trans hXa)
                replace HXX := Lib.hid (HXX.out.ext hXa)
                replace HYY := Lib.hid (HYY.out.ext hXa)
                replace HC2 := Lib.hid (HC2.out.ext hXa)
                replace HC3 := Lib.hid (HC3.out.ext hXa)
                replace HC4 := Lib.hid (HC4.out.ext hXa)
                replace HC5 := Lib.hid (HC5.out.ext hXa)
                replace HD6 := Lib.hid (HD6.out.ext hXa)
                replace HD7 := Lib.hid (HD7.out.ext hXa)
                replace KA := Lib.hid (KA.out.ext hXa)
                replace KB := Lib.hid (KB.out.ext hXa)
                replace KS := Lib.hid (KS.out.ext hXa)
                replace KD := Lib.hid (KD.out.ext hXa)
                replace KM := Lib.hid (KM.out.ext hXa)
                replace KQ := Lib.hid (KQ.out.ext hXa)
                replace KSQ := Lib.hid (KSQ.out.ext hXa)
                generalize (w14.alloc (.cells #[.bool s7, .slice A7 l7 c7, .slice B7 m7 k7] 42)) = w15 at HX HXX HYY HC2 HC3 HC4 HC5 HD6 HD7 KA KB KS KD KM KQ KSQ kDQ ⊢
                have KDQ := Lib.hid kDQ
                clear kDQ hXa
                as_aux_lemma =>
                  have cA0 : w15.cell? ⟨w.heap.size, 0, none⟩ = some (.bool s0) := KA.out.cell 0
                  have cA1 : w15.cell? ⟨w.heap.size, 1, none⟩ = some (.slice A0 l0 c0) := KA.out.cell 1
                  have cA2 : w15.cell? ⟨w.heap.size, 2, none⟩ = some (.slice B0 m0 k0) := KA.out.cell 2
                  have cB0 : w15.cell? ⟨(w.heap.size + 1), 0, none⟩ = some (.bool s1) := KB.out.cell 0
                  have cB1 : w15.cell? ⟨(w.heap.size + 1), 1, none⟩ = some (.slice A1 l1 c1) := KB.out.cell 1
                  have cB2 : w15.cell? ⟨(w.heap.size + 1), 2, none⟩ = some (.slice B1 m1 k1) := KB.out.cell 2
                  go_wp2_with fail
                  clear cA0 cA1 cA2 cB0 cB1 cB2
                  refine (two_mul s0 A0 B0 l0 c0 m0 k0 s1 A1 B1 l1 c1 m1 k1 q r e3 _ HXX.out HYY.out HE3.out).mono ?_
                  rintro e w16 ⟨v8, rfl, hv, hX⟩
                  replace hX : Ext w15 w16 := by with_reducible exact hX
                  replace HX := Lib.hid (HX.out.trans hX)
                  replace HXX := Lib.hid (HXX.out.ext hX)
                  replace HYY := Lib.hid (HYY.out.ext hX)
                  replace HC2 := Lib.hid (HC2.out.ext hX)
                  replace HC3 := Lib.hid (HC3.out.ext hX)
                  replace HC4 := Lib.hid (HC4.out.ext hX)
                  replace HC5 := Lib.hid (HC5.out.ext hX)
                  replace HD6 := Lib.hid (HD6.out.ext hX)
                  replace HD7 := Lib.hid (HD7.out.ext hX)
                  replace KA := Lib.hid (KA.out.ext hX)
                  replace KB := Lib.hid (KB.out.ext hX)
                  replace KS := Lib.hid (KS.out.ext hX)
                  replace KD := Lib.hid (KD.out.ext hX)
                  replace KM := Lib.hid (KM.out.ext hX)
                  replace KQ := Lib.hid (KQ.out.ext hX)
                  replace KSQ := Lib.hid (KSQ.out.ext hX)
                  replace KDQ := Lib.hid (KDQ.out.ext hX)
                  clear hX
                  replace hv : ResQ w16 v8 e3 (q * r) := hv
                  obtain ⟨s8, A8, l8, c8, B8, m8, k8, rfl⟩ := hv.open
                  have HD8 := Lib.hid hv
                  clear hv
                  go_upto_region 11 with (fail)
                  have hXa : Ext w16 (w16.alloc (.cells #[.bool s8, .slice A8 l8 c8, .slice B8 m8 k8] 42)) := (Ext.refl _).alloc _
                  have kMQ := Blk.new w16 42 #[.bool s8, .slice A8 l8 c8, .slice B8 m8 k8]
                  have zA := KA.out.lt
                  have zB := KB.out.lt
                  have zS := KS.out.lt
                  have zD := KD.out.lt
                  have zM := KM.out.lt
                  have zQ := KQ.out.lt
                  have zSQ := KSQ.out.lt
                  have zDQ := KDQ.out.lt
                  have zg := HX.out.size
                  replace HX := Lib.hid (HX.out.trans hXa)
                  replace HXX := Lib.hid (HXX.out.ext hXa)
                  replace HYY := Lib.hid (HYY.out.ext hXa)
                  replace HC2 := Lib.hid (HC2.out.ext hXa)
                  replace HC3 := Lib.hid (HC3.out.ext hXa)
                  replace HC4 := Lib.hid (HC4.out.ext hXa)
                  replace HC5 := Lib.hid (HC5.out.ext hXa)
                  replace HD6 := Lib.hid (HD6.out.ext hXa)
                  replace HD7 := Lib.hid (HD7.out.ext hXa)
                  replace HD8 := Lib.hid (HD8.out.ext hXa)
                  replace KA := Lib.hid (KA.out.ext hXa)
                  replace KB := Lib.hid (KB.out.ext hXa)
                  replace KS := Lib.hid (KS.out.ext hXa)
                  replace KD := Lib.hid (KD.out.ext hXa)
                  replace KM := Lib.hid (KM.out.ext hXa)
                  replace KQ := Lib.hid (KQ.out.ext hXa)
                  replace KSQ := Lib.hid (KSQ.out.ext hXa)
                  replace KDQ := Lib.hid (KDQ.out.ext hXa)
                  generalize (w16.alloc (.cells #[.bool s8, .slice A8 l8 c8, .slice B8 m8 k8] 42)) = w17 at HX HXX HYY HC2 HC3 HC4 HC5 HD6 HD7 HD8 KA KB KS KD KM KQ KSQ KDQ kMQ ⊢
                  have KMQ := Lib.hid kMQ
                  clear kMQ hXa
                  as_aux_lemma =>
                    have cA0 : w17.cell? ⟨w.heap.size, 0, none⟩ = some (.bool s0) := KA.out.cell 0
                    have cA1 : w17.cell? ⟨w.heap.size, 1, none⟩ = some (.slice A0 l0 c0) := KA.out.cell 1
                    have cA2 : w17.cell? ⟨w.heap.size, 2, none⟩ = some (.slice B0 m0 k0) := KA.out.cell 2
                    have cB0 : w17.cell? ⟨(w.heap.size + 1), 0, none⟩ = some (.bool s1) := KB.out.cell 0
                    have cB1 : w17.cell? ⟨(w.heap.size + 1), 1, none⟩ = some (.slice A1 l1 c1) := KB.out.cell 1
                    have cB2 : w17.cell? ⟨(w.heap.size + 1), 2, none⟩ = some (.slice B1 m1 k1) := KB.out.cell 2
                    go_wp2_with fail
                    clear cA0 cA1 cA2 cB0 cB1 cB2
                    refine (two_div_any HXX.out HYY.out HE4.out).mono ?_
                    rintro e w18 ⟨v9, rfl, hv, hX⟩
                    replace hX : Ext w17 w18 := by with_reducible exact hX
                    replace HX := Lib.hid (HX.out.trans hX)
                    replace HXX := Lib.hid (HXX.out.ext hX)
                    replace HYY := Lib.hid (HYY.out.ext hX)
                    replace HC2 := Lib.hid (HC2.out.ext hX)
                    replace HC3 := Lib.hid (HC3.out.ext hX)
                    replace HC4 := Lib.hid (HC4.out.ext hX)
                    replace HC5 := Lib.hid (HC5.out.ext hX)
                    replace HD6 := Lib.hid (HD6.out.ext hX)
                    replace HD7 := Lib.hid (HD7.out.ext hX)
                    replace HD8 := Lib.hid (HD8.out.ext hX)
                    replace KA := Lib.hid (KA.out.ext hX)
                    replace KB := Lib.hid (KB.out.ext hX)
                    replace KS := Lib.hid (KS.out.ext hX)
                    replace KD := Lib.hid (KD.out.ext hX)
                    replace KM := Lib.hid (KM.out.ext hX)
                    replace KQ := Lib.hid (KQ.out.ext hX)
                    replace KSQ := Lib.hid (KSQ.out.ext hX)
                    replace KDQ := Lib.hid (KDQ.out.ext hX)
                    replace KMQ := Lib.hid (KMQ.out.ext hX)
                    clear hX
                    replace hv : ResQ w18 v9 e4 (q / r) := hv
                    obtain ⟨s9, A9, l9, c9, B9, m9, k9, rfl⟩ := hv.open
                    have HD9 := Lib.hid hv
                    clear hv
                    go_upto_region 12 with (fail)
                    have hXa : Ext w18 (w18.alloc (.cells #[.bool s9, .slice A9 l9 c9, .slice B9 m9 k9] 42)) := (Ext.refl _).alloc _
                    have kQQ := Blk.new w18 42 #[.bool s9, .slice A9 l9 c9, .slice B9 m9 k9]
                    have zA := KA.out.lt
                    have zB := KB.out.lt
                    have zS := KS.out.lt
                    have zD := KD.out.lt
                    have zM := KM.out.lt
                    have zQ := KQ.out.lt
                    have zSQ := KSQ.out.lt
                    have zDQ := KDQ.out.lt
                    have zMQ := KMQ.out.lt
                    have zg := HX.out.size
                    replace HX := Lib.hid (HX.out.trans hXa)
                    replace HXX := Lib.hid (HXX.out.ext hXa)
                    replace HYY := Lib.hid (HYY.out.ext hXa)
                    replace HC2 := Lib.hid (HC2.out.ext hXa)
                    replace HC3 := Lib.hid (HC3.out.ext hXa)
                    replace HC4 := Lib.hid (HC4.out.ext hXa)
                    replace HC5 := Lib.hid (HC5.out.ext hXa)
                    replace HD6 := Lib.hid (HD6.out.ext hXa)
                    replace HD7 := Lib.hid (HD7.out.ext hXa)
                    replace HD8 := Lib.hid (HD8.out.ext hXa)
                    replace HD9 := Lib.hid (HD9.out.ext hXa)
                    replace KA := Lib.hid (KA.out.ext hXa)
                    replace KB := Lib.hid (KB.out.ext hXa)
                    replace KS := Lib.hid (KS.out.ext hXa)
                    replace KD := Lib.hid (KD.out.ext hXa)
                    replace KM := Lib.hid (KM.out.ext hXa)
                    replace KQ := Lib.hid (KQ.out.ext hXa)
                    replace KSQ := Lib.hid (KSQ.out.ext hXa)
                    replace KDQ := Lib.hid (KDQ.out.ext hXa)
                    replace KMQ := Lib.hid (KMQ.out.ext hXa)
                    generalize (w18.alloc (.cells #[.bool s9, .slice A9 l9 c9, .slice B9 m9 k9] 42)) = w19 at HX HXX HYY HC2 HC3 HC4 HC5 HD6 HD7 HD8 HD9 KA KB KS KD KM KQ KSQ KDQ KMQ kQQ ⊢
                    have KQQ := Lib.hid kQQ
                    clear kQQ hXa
                    as_aux_lemma =>
                      have cA0 : w19.cell? ⟨w.heap.size, 0, none⟩ = some (.bool s0) := KA.out.cell 0
                      have cA1 : w19.cell? ⟨w.heap.size, 1, none⟩ = some (.slice A0 l0 c0) := KA.out.cell 1
                      have cA2 : w19.cell? ⟨w.heap.size, 2, none⟩ = some (.slice B0 m0 k0) := KA.out.cell 2
                      go_wp2_with fail
                      clear cA0 cA1 cA2
                      refine (read_ok HXX.out).mono ?_
                      rintro e w20 ⟨v10, rfl, hv, hX⟩
                      replace hX : Ext w19 w20 := by with_reducible exact hX
                      replace HX := Lib.hid (HX.out.trans hX)
                      replace HXX := Lib.hid (HXX.out.ext hX)
                      replace HYY := Lib.hid (HYY.out.ext hX)
                      replace HC2 := Lib.hid (HC2.out.ext hX)
                      replace HC3 := Lib.hid (HC3.out.ext hX)
                      replace HC4 := Lib.hid (HC4.out.ext hX)
                      replace HC5 := Lib.hid (HC5.out.ext hX)
                      replace HD6 := Lib.hid (HD6.out.ext hX)
                      replace HD7 := Lib.hid (HD7.out.ext hX)
                      replace HD8 := Lib.hid (HD8.out.ext hX)
                      replace HD9 := Lib.hid (HD9.out.ext hX)
                      replace KA := Lib.hid (KA.out.ext hX)
                      replace KB := Lib.hid (KB.out.ext hX)
                      replace KS := Lib.hid (KS.out.ext hX)
                      replace KD := Lib.hid (KD.out.ext hX)
                      replace KM := Lib.hid (KM.out.ext hX)
                      replace KQ := Lib.hid (KQ.out.ext hX)
                      replace KSQ := Lib.hid (KSQ.out.ext hX)
                      replace KDQ := Lib.hid (KDQ.out.ext hX)
                      replace KMQ := Lib.hid (KMQ.out.ext hX)
                      replace KQQ := Lib.hid (KQQ.out.ext hX)
                      clear hX
                      replace hv : QZ w20 v10 q := hv
                      obtain ⟨s10, A10, l10, c10, B10, m10, k10, rfl⟩ := hv.open
                      have HZ10 := Lib.hid hv
                      clear hv
                      go_upto_region 13 with (fail)
                      have hXa : Ext w20 (w20.alloc (.cells #[.bool s10, .slice A10 l10 c10, .slice B10 m10 k10] 42)) := (Ext.refl _).alloc _
                      have kXX := Blk.new w20 42 #[.bool s10, .slice A10 l10 c10, .slice B10 m10 k10]
                      have zA := KA.out.lt
                      have zB := KB.out.lt
                      have zS := KS.out.lt
                      have zD := KD.out.lt
                      have zM := KM.out.lt
                      have zQ := KQ.out.lt
                      have zSQ := KSQ.out.lt
                      have zDQ := KDQ.out.lt
                      have zMQ := KMQ.out.lt
                      have zQQ := KQQ.out.lt
                      have zg := HX.out.size
                      replace HX := Lib.hid (HX.out.trans hXa)
                      replace HXX := Lib.hid (HXX.out.ext hXa)
                      replace HYY := Lib.hid (HYY.out.ext hXa)
                      replace HC2 := Lib.hid (HC2.out.ext hXa)
                      replace HC3 := Lib.hid (HC3.out.ext hXa)
                      replace HC4 := Lib.hid (HC4.out.ext hXa)
                      replace HC5 := Lib.hid (HC5.out.ext hXa)
                      replace HD6 := Lib.hid (HD6.out.ext hXa)
                      replace HD7 := Lib.hid (HD7.out.ext hXa)
                      replace HD8 := Lib.hid (HD8.out.ext hXa)
                      replace HD9 := Lib.hid (HD9.out.ext hXa)
                      replace HZ10 := Lib.hid (HZ10.out.ext hXa)
                      replace KA := Lib.hid (KA.out.ext hXa)
                      replace KB := Lib.hid (KB.out.ext hXa)
                      replace KS := Lib.hid (KS.out.ext hXa)
                      replace KD := Lib.hid (KD.out.ext hXa)
                      replace KM := Lib.hid (KM.out.ext hXa)
                      replace KQ := Lib.hid (KQ.out.ext hXa)
                      replace KSQ := Lib.hid (KSQ.out.ext hXa)
                      replace KDQ := Lib.hid (KDQ.out.ext hXa)
                      replace KMQ := Lib.hid (KMQ.out.ext hXa)
                      replace KQQ := Lib.hid (KQQ.out.ext hXa)
                      generalize (w20.alloc (.cells #[.bool s10, .slice A10 l10 c10, .slice B10 m10 k10] 42)) = w21 at HX HXX HYY HC2 HC3 HC4 HC5 HD6 HD7 HD8 HD9 HZ10 KA KB KS KD KM KQ KSQ KDQ KMQ KQQ kXX ⊢
                      have KXX := Lib.hid kXX
                      clear kXX hXa
                      as_aux_lemma =>
                        have cB0 : w21.cell? ⟨(w.heap.size + 1), 0, none⟩ = some (.bool s1) := KB.out.cell 0
                        have cB1 : w21.cell? ⟨(w.heap.size + 1), 1, none⟩ = some (.slice A1 l1 c1) := KB.out.cell 1
                        have cB2 : w21.cell? ⟨(w.heap.size + 1), 2, none⟩ = some (.slice B1 m1 k1) := KB.out.cell 2
                        go_wp2_with fail
                        clear cB0 cB1 cB2
                        refine (read_ok HYY.out).mono ?_
                        rintro e w22 ⟨v11, rfl, hv, hX⟩
                        replace hX : Ext w21 w22 := by with_reducible exact hX
                        replace HX := Lib.hid (HX.out.trans hX)
                        replace HXX := Lib.hid (HXX.out.ext hX)
                        replace HYY := Lib.hid (HYY.out.ext hX)
                        replace HC2 := Lib.hid (HC2.out.ext hX)
                        replace HC3 := Lib.hid (HC3.out.ext hX)
                        replace HC4 := Lib.hid (HC4.out.ext hX)
                        replace HC5 := Lib.hid (HC5.out.ext hX)
                        replace HD6 := Lib.hid (HD6.out.ext hX)
                        replace HD7 := Lib.hid (HD7.out.ext hX)
                        replace HD8 := Lib.hid (HD8.out.ext hX)
                        replace HD9 := Lib.hid (HD9.out.ext hX)
                        replace HZ10 := Lib.hid (HZ10.out.ext hX)
                        replace KA := Lib.hid (KA.out.ext hX)
                        replace KB := Lib.hid (KB.out.ext hX)
                        replace KS := Lib.hid (KS.out.ext hX)
                        replace KD := Lib.hid (KD.out.ext hX)
                        replace KM := Lib.hid (KM.out.ext hX)
                        replace KQ := Lib.hid (KQ.out.ext hX)
                        replace KSQ := Lib.hid (KSQ.out.ext hX)
                        replace KDQ := Lib.hid (KDQ.out.ext hX)
                        replace KMQ := Lib.hid (KMQ.out.ext hX)
                        replace KQQ := Lib.hid (KQQ.out.ext hX)
                        replace KXX := Lib.hid (KXX.out.ext hX)
                        clear hX
                        replace hv : QZ w22 v11 r := hv
                        obtain ⟨s11, A11, l11, c11, B11, m11, k11, rfl⟩ := hv.open
                        have HZ11 := Lib.hid hv
                        clear hv
                        go_upto_region 14 with (fail)
                        have hXa : Ext w22 (w22.alloc (.cells #[.bool s11, .slice A11 l11 c11, .slice B11 m11 k11] 42)) := (Ext.refl _).alloc _
                        have kYY := Blk.new w22 42 #[.bool s11, .slice A11 l11 c11, .slice B11 m11 k11]
                        have zA := KA.out.lt
                        have zB := KB.out.lt
                        have zS := KS.out.lt
                        have zD := KD.out.lt
                        have zM := KM.out.lt
                        have zQ := KQ.out.lt
                        have zSQ := KSQ.out.lt
                        have zDQ := KDQ.out.lt
                        have zMQ := KMQ.out.lt
                        have zQQ := KQQ.out.lt
                        have zXX := KXX.out.lt
                        have zg := HX.out.size
                        replace HX := Lib.hid (HX.out.trans hXa)
                        replace HXX := Lib.hid (HXX.out.ext hXa)
                        replace HYY := Lib.hid (HYY.out.ext hXa)
                        replace HC2 := Lib.hid (HC2.out.ext hXa)
                        replace HC3 := Lib.hid (HC3.out.ext hXa)
                        replace HC4 := Lib.hid (HC4.out.ext hXa)
                        replace HC5 := Lib.hid (HC5.out.ext hXa)
                        replace HD6 := Lib.hid (HD6.out.ext hXa)
                        replace HD7 := Lib.hid (HD7.out.ext hXa)
                        replace HD8 := Lib.hid (HD8.out.ext hXa)
                        replace HD9 := Lib.hid (HD9.out.ext hXa)
                        replace HZ10 := Lib.hid (HZ10.out.ext hXa)
                        replace HZ11 := Lib.hid (HZ11.out.ext hXa)
                        replace KA := Lib.hid (KA.out.ext hXa)
                        replace KB := Lib.hid (KB.out.ext hXa)
                        replace KS := Lib.hid (KS.out.ext hXa)
                        replace KD := Lib.hid (KD.out.ext hXa)
                        replace KM := Lib.hid (KM.out.ext hXa)
                        replace KQ := Lib.hid (KQ.out.ext hXa)
                        replace KSQ := Lib.hid (KSQ.out.ext hXa)
                        replace KDQ := Lib.hid (KDQ.out.ext hXa)
                        replace KMQ := Lib.hid (KMQ.out.ext hXa)
                        replace KQQ := Lib.hid (KQQ.out.ext hXa)
                        replace KXX := Lib.hid (KXX.out.ext hXa)
                        generalize (w22.alloc (.cells #[.bool s11, .slice A11 l11 c11, .slice B11 m11 k11] 42)) = w23 at HX HXX HYY HC2 HC3 HC4 HC5 HD6 HD7 HD8 HD9 HZ10 HZ11 KA KB KS KD KM KQ KSQ KDQ KMQ KQQ KXX kYY ⊢
                        have KYY := Lib.hid kYY
                        clear kYY hXa
                        as_aux_lemma =>
                          clear KA
                          clear KB
                          clear HXX
                          clear HYY
                          have cS0 : w23.cell? ⟨w3.heap.size, 0, none⟩ = some (.bool s2) := KS.out.cell 0
                          have cS1 : w23.cell? ⟨w3.heap.size, 1, none⟩ = some (.slice A2 l2 c2) := KS.out.cell 1
                          have cS2 : w23.cell? ⟨w3.heap.size, 2, none⟩ = some (.slice B2 m2 k2) := KS.out.cell 2
                          have cSQ0 : w23.cell? ⟨w12.heap.size, 0, none⟩ = some (.bool s6) := KSQ.out.cell 0
                          have cSQ1 : w23.cell? ⟨w12.heap.size, 1, none⟩ = some (.slice A6 l6 c6) := KSQ.out.cell 1
                          have cSQ2 : w23.cell? ⟨w12.heap.size, 2, none⟩ = some (.slice B6 m6 k6) := KSQ.out.cell 2
                          go_wp2_with fail
                          clear cS0 cS1 cS2 cSQ0 cSQ1 cSQ2
                          refine (is_res HC2.out HD6.out).mono ?_
                          rintro e w24 ⟨rfl, hX⟩
                          replace hX : Ext w23 w24 := by with_reducible exact hX
                          replace HX := Lib.hid (HX.out.trans hX)
                          replace HC2 := Lib.hid (HC2.out.ext hX)
                          replace HC3 := Lib.hid (HC3.out.ext hX)
                          replace HC4 := Lib.hid (HC4.out.ext hX)
                          replace HC5 := Lib.hid (HC5.out.ext hX)
                          replace HD6 := Lib.hid (HD6.out.ext hX)
                          replace HD7 := Lib.hid (HD7.out.ext hX)
                          replace HD8 := Lib.hid (HD8.out.ext hX)
                          replace HD9 := Lib.hid (HD9.out.ext hX)
                          replace HZ10 := Lib.hid (HZ10.out.ext hX)
                          replace HZ11 := Lib.hid (HZ11.out.ext hX)
                          replace KS := Lib.hid (KS.out.ext hX)
                          replace KD := Lib.hid (KD.out.ext hX)
                          replace KM := Lib.hid (KM.out.ext hX)
                          replace KQ := Lib.hid (KQ.out.ext hX)
                          replace KSQ := Lib.hid (KSQ.out.ext hX)
                          replace KDQ := Lib.hid (KDQ.out.ext hX)
                          replace KMQ := Lib.hid (KMQ.out.ext hX)
                          replace KQQ := Lib.hid (KQQ.out.ext hX)
                          replace KXX := Lib.hid (KXX.out.ext hX)
                          replace KYY := Lib.hid (KYY.out.ext hX)
                          clear hX
                          clear KS
                          clear KSQ
                          clear HC2
                          clear HD6
                          as_aux_lemma =>
                            have cD0 : w24.cell? ⟨w5.heap.size, 0, none⟩ = some (.bool s3) := KD.out.cell 0
                            have cD1 : w24.cell? ⟨w5.heap.size, 1, none⟩ = some (.slice A3 l3 c3) := KD.out.cell 1
                            have cD2 : w24.cell? ⟨w5.heap.size, 2, none⟩ = some (.slice B3 m3 k3) := KD.out.cell 2
                            have cDQ0 : w24.cell? ⟨w14.heap.size, 0, none⟩ = some (.bool s7) := KDQ.out.cell 0
                            have cDQ1 : w24.cell? ⟨w14.heap.size, 1, none⟩ = some (.slice A7 l7 c7) := KDQ.out.cell 1
                            have cDQ2 : w24.cell? ⟨w14.heap.size, 2, none⟩ = some (.slice B7 m7 k7) := KDQ.out.cell 2
                            go_wp2_with fail
                            clear cD0 cD1 cD2 cDQ0 cDQ1 cDQ2
                            refine (is_res HC3.out HD7.out).mono ?_
                            rintro e w25 ⟨rfl, hX⟩
                            replace hX : Ext w24 w25 := by with_reducible exact hX
                            replace HX := Lib.hid (HX.out.trans hX)
                            replace HC3 := Lib.hid (HC3.out.ext hX)
                            replace HC4 := Lib.hid (HC4.out.ext hX)
                            replace HC5 := Lib.hid (HC5.out.ext hX)
                            replace HD7 := Lib.hid (HD7.out.ext hX)
                            replace HD8 := Lib.hid (HD8.out.ext hX)
                            replace HD9 := Lib.hid (HD9.out.ext hX)
                            replace HZ10 := Lib.hid (HZ10.out.ext hX)
                            replace HZ11 := Lib.hid (HZ11.out.ext hX)
                            replace KD := Lib.hid (KD.out.ext hX)
                            replace KM := Lib.hid (KM.out.ext hX)
                            replace KQ := Lib.hid (KQ.out.ext hX)
                            replace KDQ := Lib.hid (KDQ.out.ext hX)
                            replace KMQ := Lib.hid (KMQ.out.ext hX)
                            replace KQQ := Lib.hid (KQQ.out.ext hX)
                            replace KXX := Lib.hid (KXX.out.ext hX)
                            replace KYY := Lib.hid (KYY.out.ext hX)
                            clear hX
                            clear KD
                            clear KDQ
                            clear HC3
                            clear HD7
                            as_aux_lemma =>
                              have cM0 : w25.cell? ⟨w7.heap.size, 0, none⟩ = some (.bool s4) := KM.out.cell 0
                              have cM1 : w25.cell? ⟨w7.heap.size, 1, none⟩ = some (.slice A4 l4 c4) := KM.out.cell 1
                              have cM2 : w25.cell? ⟨w7.heap.size, 2, none⟩ = some (.slice B4 m4 k4) := KM.out.cell 2
                              have cMQ0 : w25.cell? ⟨w16.heap.size, 0, none⟩ = some (.bool s8) := KMQ.out.cell 0
                              have cMQ1 : w25.cell? ⟨w16.heap.size, 1, none⟩ = some (.slice A8 l8 c8) := KMQ.out.cell 1
                              have cMQ2 : w25.cell? ⟨w16.heap.size, 2, none⟩ = some (.slice B8 m8 k8) := KMQ.out.cell 2
                              go_wp2_with fail
                              clear cM0 cM1 cM2 cMQ0 cMQ1 cMQ2
                              refine (is_res HC4.out HD8.out).mono ?_
                              rintro e w26 ⟨rfl, hX⟩
                              replace hX : Ext w25 w26 := by with_reducible exact hX
                              replace HX := Lib.hid (HX.out.trans hX)
                              replace HC4 := Lib.hid (HC4.out.ext hX)
                              replace HC5 := Lib.hid (HC5.out.ext hX)
                              replace HD8 := Lib.hid (HD8.out.ext hX)
                              replace HD9 := Lib.hid (HD9.out.ext hX)
                              replace HZ10 := Lib.hid (HZ10.out.ext hX)
                              replace HZ11 := Lib.hid (HZ11.out.ext hX)
                              replace KM := Lib.hid (KM.out.ext hX)
                              replace KQ := Lib.hid (KQ.out.ext hX)
                              replace KMQ := Lib.hid (KMQ.out.ext hX)
                              replace KQQ := Lib.hid (KQQ.out.ext hX)
                              replace KXX := Lib.hid (KXX.out.ext hX)
                              replace KYY := Lib.hid (KYY.out.ext hX)
                              clear hX
                              clear KM
                              clear KMQ
                              clear HC4
                              clear HD8
                              as_aux_lemma =>
                                have cQ0 : w26.cell? ⟨w9.heap.size, 0, none⟩ = some (.bool s5) := KQ.out.cell 0
                                have cQ1 : w26.cell? ⟨w9.heap.size, 1, none⟩ = some (.slice A5 l5 c5) := KQ.out.cell 1
                                have cQ2 : w26.cell? ⟨w9.heap.size, 2, none⟩ = some (.slice B5 m5 k5) := KQ.out.cell 2
                                have cQQ0 : w26.cell? ⟨w18.heap.size, 0, none⟩ = some (.bool s9) := KQQ.out.cell 0
                                have cQQ1 : w26.cell? ⟨w18.heap.size, 1, none⟩ = some (.slice A9 l9 c9) := KQQ.out.cell 1
                                have cQQ2 : w26.cell? ⟨w18.heap.size, 2, none⟩ = some (.slice B9 m9 k9) := KQQ.out.cell 2
                                go_wp2_with fail
                                clear cQ0 cQ1 cQ2 cQQ0 cQQ1 cQQ2
                                refine (is_res HC5.out HD9.out).mono ?_
                                rintro e w27 ⟨rfl, hX⟩
                                replace hX : Ext w26 w27 := by with_reducible exact hX
                                replace HX := Lib.hid (HX.out.trans hX)
                                replace HC5 := Lib.hid (HC5.out.ext hX)
                                replace HD9 := Lib.hid (HD9.out.ext hX)
                                replace HZ10 := Lib.hid (HZ10.out.ext hX)
                                replace HZ11 := Lib.hid (HZ11.out.ext hX)
                                replace KQ := Lib.hid (KQ.out.ext hX)
                                replace KQQ := Lib.hid (KQQ.out.ext hX)
                                replace KXX := Lib.hid (KXX.out.ext hX)
                                replace KYY := Lib.hid (KYY.out.ext hX)
                                clear hX
                                clear KQ
                                clear KQQ
                                clear HC5
                                clear HD9
                                as_aux_lemma =>
                                  have cXX0 : w27.cell? ⟨w20.heap.size, 0, none⟩ = some (.bool s10) := KXX.out.cell 0
                                  have cXX1 : w27.cell? ⟨w20.heap.size, 1, none⟩ = some (.slice A10 l10 c10) := KXX.out.cell 1
                                  have cXX2 : w27.cell? ⟨w20.heap.size, 2, none⟩ = some (.slice B10 m10 k10) := KXX.out.cell 2
                                  have cYY0 : w27.cell? ⟨w22.heap.size, 0, none⟩ = some (.bool s11) := KYY.out.cell 0
                                  have cYY1 : w27.cell? ⟨w22.heap.size, 1, none⟩ = some (.slice A11 l11 c11) := KYY.out.cell 1
                                  have cYY2 : w27.cell? ⟨w22.heap.size, 2, none⟩ = some (.slice B11 m11 k11) := KYY.out.cell 2
                                  go_wp2_with fail
                                  clear cXX0 cXX1 cXX2 cYY0 cYY1 cYY2
                                  refine (qcmp_any _ _ q r L L _ HZ10.out HZ11.out HFQ.out HFR.out hL2).mono ?_
                                  rw [HCQ.out]
                                  rintro e w28 ⟨rfl, hX⟩
                                  replace hX : Ext w27 w28 := by with_reducible exact hX
                                  replace HX := Lib.hid (HX.out.trans hX)
                                  replace HZ10 := Lib.hid (HZ10.out.ext hX)
                                  replace HZ11 := Lib.hid (HZ11.out.ext hX)
                                  replace KXX := Lib.hid (KXX.out.ext hX)
                                  replace KYY := Lib.hid (KYY.out.ext hX)
                                  clear hX
                                  go_wp2_with fail
                                  refine (first_any _).mono ?_
                                  rintro e w29 ⟨rfl, hX⟩
                                  replace hX : Ext w28 w29 := by with_reducible exact hX
                                  replace HX := Lib.hid (HX.out.trans hX)
                                  replace HZ10 := Lib.hid (HZ10.out.ext hX)
                                  replace HZ11 := Lib.hid (HZ11.out.ext hX)
                                  replace KXX := Lib.hid (KXX.out.ext hX)
                                  replace KYY := Lib.hid (KYY.out.ext hX)
                                  clear hX
                                  go_wp2
                                  go_ret
                                  exact ⟨rfl, HX.out⟩

theorem exactOperates_walk (vx : Value) (f : Bool × List Int × List Int) (vy : Value) (g : Bool × List Int × List Int) (w : World) (hx : RatV_ w vx f) (hy : RatV_ w vy g) :
    Calls Try.prog 14 #[vx, vy] w fun e w' => e = .returned (.bool true) ∧ Ext w w' := by
  obtain ⟨s0, xs0, ys0⟩ := f
  obtain ⟨s1, xs1, ys1⟩ := g
  obtain ⟨A0, l0, c0, B0, m0, k0, rfl, ⟨hA0, hl0, hc0⟩, ⟨hB0, hm0, hk0⟩⟩ := hx
  obtain ⟨A1, l1, c1, B1, m1, k1, rfl, ⟨hA1, hl1, hc1⟩, ⟨hB1, hm1, hk1⟩⟩ := hy
  have v0 : RatV w (.agg #[.bool s0, .slice A0 l0 c0, .slice B0 m0 k0]) s0 xs0 ys0 := ⟨A0, l0, c0, B0, m0, k0, rfl, hA0, hl0, hc0, hB0, hm0, hk0⟩
  have v1 : RatV w (.agg #[.bool s1, .slice A1 l1 c1, .slice B1 m1 k1]) s1 xs1 ys1 := ⟨A1, l1, c1, B1, m1, k1, rfl, hA1, hl1, hc1, hB1, hm1, hk1⟩
  rcases v0.cases with h | ⟨_, h⟩
  · rcases v1.cases with k | ⟨_, k⟩
    · exact operates_ll s0 A0 B0 l0 c0 m0 k0 s1 A1 B1 l1 c1 m1 k1 _ _ _ _ _ _ 0 w v0 v1 h k
    · exact operates_ls s0 A0 B0 l0 c0 m0 k0 s1 A1 B1 l1 c1 m1 k1 _ _ _ _ _ _ _ w v0 v1 h k
  · rcases v1.cases with k | ⟨_, k⟩
    · exact operates_sl s0 A0 B0 l0 c0 m0 k0 s1 A1 B1 l1 c1 m1 k1 _ _ _ _ _ _ _ w v0 v1 h k
    · obtain ⟨e1, h1⟩ := sizeE (ratOf s0 xs0 ys0 + ratOf s1 xs1 ys1)
      obtain ⟨e2, h2⟩ := sizeE (ratOf s0 xs0 ys0 - ratOf s1 xs1 ys1)
      obtain ⟨e3, h3⟩ := sizeE (ratOf s0 xs0 ys0 * ratOf s1 xs1 ys1)
      obtain ⟨e4, h4⟩ := divE (ratOf s0 xs0 ys0) (ratOf s1 xs1 ys1)
      exact operates_ss s0 A0 B0 l0 c0 m0 k0 s1 A1 B1 l1 c1 m1 k1 _ _ _ _ _ _ _ _ e1 e2 e3 e4 w v0 v1 h k h1 h2 h3 h4
end Go.Proofs.Yteoijnaljkagfaa
