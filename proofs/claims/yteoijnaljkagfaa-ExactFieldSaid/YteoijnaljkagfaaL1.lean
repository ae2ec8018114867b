/- ExactTurns: its walk, with Place and Turn of the reference. -/
import Derived.Test.YteoijnaljkagfaaE8
import Derived.Test.YteoijnaljkagfaaOpenX
namespace Go.Proofs.Yteoijnaljkagfaa
open Go.RowKit

theorem place_cases (x y : Int) : (okP (x, y) = true ∧ -268435456 ≤ x ∧ x ≤ 268435456 ∧ -268435456 ≤ y ∧ y ≤ 268435456) ∨ (okP (x, y) = false ∧ (x < -268435456 ∨ (-268435456 ≤ x ∧ 268435456 < x) ∨ (-268435456 ≤ x ∧ x ≤ 268435456 ∧ y < -268435456) ∨ (-268435456 ≤ x ∧ x ≤ 268435456 ∧ -268435456 ≤ y ∧ 268435456 < y))) := by
  by_cases hb : okP (x, y) = true
  · have hb' := hb
    simp only [okP, decide_eq_true_eq] at hb'
    exact .inl ⟨hb, hb'⟩
  · refine .inr ⟨by simpa using hb, ?_⟩
    simp only [okP, decide_eq_true_eq] at hb; omega

set_option maxHeartbeats 1000000 in
theorem place_any (x y : Int) (w : World) : Calls Try.prog 19 #[.agg #[.int .i64 x, .int .i64 y]] w fun e w' => e = .returned (.bool (okP (x, y))) ∧ Ext w w' := by
  have HX := Lib.hid ((Ext.refl w).alloc (.cells #[.int .i64 x, .int .i64 y] 23))
  rcases place_cases x y with ⟨hb, b1, b2, b3, b4⟩ | ⟨hb, b1 | ⟨b1, b2⟩ | ⟨b1, b2, b3⟩ | ⟨b1, b2, b3, b4⟩⟩
  all_goals
    rw [hb]
    clear hb
    go_enter Try.func19, Try.ntmps19
    go_wp2
    go_ret
    refine ⟨?_, HX.out⟩
    first
    | rfl
    | (show Ending.returned (.bool (decide (y ≤ 268435456))) = Ending.returned (.bool false); rw [decide_eq_false (by omega)])

set_option maxHeartbeats 1000000 in
theorem rturn_any (a1 a2 b1 b2 c1 c2 : Int) (w : World) (ha : okP (a1, a2) = true) (hb : okP (b1, b2) = true) (hc : okP (c1, c2) = true) :
    Calls Try.prog 21 #[.agg #[.int .i64 a1, .int .i64 a2], .agg #[.int .i64 b1, .int .i64 b2], .agg #[.int .i64 c1, .int .i64 c2]] w fun e w' => e = .returned (.int .i64 (sgI (crossI (a1, a2) (b1, b2) (c1, c2)))) ∧ Ext w w' := by
  obtain ⟨ha1, ha2⟩ := okP_in ha
  obtain ⟨hb1, hb2⟩ := okP_in hb
  obtain ⟨hc1, hc2⟩ := okP_in hc
  obtain ⟨p1, p2⟩ := mul_in (diff_in hb1 ha1) (diff_in hc2 ha2)
  obtain ⟨q1, q2⟩ := mul_in (diff_in hb2 ha2) (diff_in hc1 ha1)
  obtain ⟨d1, d1'⟩ := diff_in hb1 ha1
  obtain ⟨d2, d2'⟩ := diff_in hc2 ha2
  obtain ⟨d3, d3'⟩ := diff_in hb2 ha2
  obtain ⟨d4, d4'⟩ := diff_in hc1 ha1
  rw [show (536870912 : Int) * 536870912 = 288230376151711744 by decide] at p1 p2 q1 q2
  clear ha hb hc ha1 ha2 hb1 hb2 hc1 hc2
  have HX := Lib.hid ((((Ext.refl w).alloc (.cells #[.int .i64 a1, .int .i64 a2] 23)).alloc (.cells #[.int .i64 b1, .int .i64 b2] 23)).alloc (.cells #[.int .i64 c1, .int .i64 c2] 23))
  obtain ⟨N, hN⟩ : ∃ N, crossI (a1, a2) (b1, b2) (c1, c2) = N := ⟨_, rfl⟩
  have e : (b1 - a1) * (c2 - a2) - (b2 - a2) * (c1 - a1) = N := hN
  rw [hN]
  clear hN
  by_cases h1 : N < 0
  · rw [show sgI N = -1 by simp [sgI, h1]]
    rw [← e] at h1
    clear e
    go_enter Try.func21, Try.ntmps21
    go_wp2
    go_ret
    exact ⟨rfl, HX.out⟩
  · by_cases h2 : 0 < N
    · rw [show sgI N = 1 by simp [sgI, h1, h2]]
      rw [← e] at h1 h2
      clear e
      go_enter Try.func21, Try.ntmps21
      go_wp2
      go_ret
      exact ⟨rfl, HX.out⟩
    · rw [show sgI N = 0 by simp [sgI, h1, h2]]
      rw [← e] at h1 h2
      clear e
      go_enter Try.func21, Try.ntmps21
      go_wp2
      go_ret
      exact ⟨rfl, HX.out⟩
theorem turn_good {a b c : Int × Int} (ha : okP a = true) (hb : okP b = true) (hc : okP c = true) : turnI a b c = sgI (crossI a b c) ∧ turnE a b c = 0 := by
  simp [turnI, turnE, okPs, ha, hb, hc]
theorem turn_bad {a b c : Int × Int} (h : okP a = false ∨ okP b = false ∨ okP c = false) : turnI a b c = 0 ∧ turnE a b c = 11 := by
  have : okPs [a, b, c] = false := by
    rcases h with h | h | h <;> simp [okPs, h]
  simp [turnI, turnE, this]

theorem first_end (w0 w : World) (hX : Ext w0 w) : Calls Try.prog 20 #[] w fun e w' => e = .returned (.bool true) ∧ Ext w0 w' :=
  (first_any w).mono fun _ _ ⟨he, h⟩ => ⟨he, hX.trans h⟩

set_option maxRecDepth 100000 in
set_option maxHeartbeats 2000000 in
theorem exactTurns_walk (va : Value) (a : Int × Int) (vb : Value) (b : Int × Int) (vc : Value) (c : Int × Int) (w : World) (ha : Two64 va a) (hb : Two64 vb b) (hc : Two64 vc c) :
    Calls Try.prog 3 #[va, vb, vc] w fun e w' => e = .returned (.bool true) ∧ Ext w w' := by
  obtain ⟨a1, a2⟩ := a
  obtain ⟨b1, b2⟩ := b
  obtain ⟨c1, c2⟩ := c
  obtain ⟨rfl, _⟩ := ha
  obtain ⟨rfl, _⟩ := hb
  obtain ⟨rfl, _⟩ := hc
  simp only
  have hXw : Ext w (((w.alloc (.cells #[.int .i64 a1, .int .i64 a2] 23)).alloc (.cells #[.int .i64 b1, .int .i64 b2] 23)).alloc (.cells #[.int .i64 c1, .int .i64 c2] 23)) := (((Ext.refl w).alloc _).alloc _).alloc _
  have k1 := ((Blk.new w 23 #[.int .i64 a1, .int .i64 a2]).alloc (.cells #[.int .i64 b1, .int .i64 b2] 23)).alloc (.cells #[.int .i64 c1, .int .i64 c2] 23)
  have k2 := (Blk.new (w.alloc (.cells #[.int .i64 a1, .int .i64 a2] 23)) 23 #[.int .i64 b1, .int .i64 b2]).alloc (.cells #[.int .i64 c1, .int .i64 c2] 23)
  have k3 := Blk.new ((w.alloc (.cells #[.int .i64 a1, .int .i64 a2] 23)).alloc (.cells #[.int .i64 b1, .int .i64 b2] 23)) 23 #[.int .i64 c1, .int .i64 c2]
  have es : ∀ (W : World) (o : Obj), (W.alloc o).heap.size = W.heap.size + 1 := fun W o => by simp
  simp only [es] at k2 k3
  clear es
  go_enter Try.func3, Try.ntmps3
  go_wp2_with fail
  generalize (((w.alloc (.cells #[.int .i64 a1, .int .i64 a2] 23)).alloc (.cells #[.int .i64 b1, .int .i64 b2] 23)).alloc (.cells #[.int .i64 c1, .int .i64 c2] 23)) = w1 at hXw k1 k2 k3 ⊢
  refine (turn_any a1 a2 b1 b2 c1 c2 _).mono ?_
  rintro e w2 ⟨rfl, hX2⟩
  have HX2 := Lib.hid (hXw.trans hX2)
  have K1 := Lib.hid (k1.ext hX2)
  have K2 := Lib.hid (k2.ext hX2)
  have K3 := Lib.hid (k3.ext hX2)
  clear hXw hX2 k1 k2 k3
  have x1 := K1.out.cell 0
  have x2 := K1.out.cell 1
  have x3 := K2.out.cell 0
  have x4 := K2.out.cell 1
  have x5 := K3.out.cell 0
  have x6 := K3.out.cell 1
  simp only [List.getElem?_toArray, List.getElem?_cons_zero, List.getElem?_cons_succ] at x1 x2 x3 x4 x5 x6
  rcases hA : okP (a1, a2) with _ | _
  · obtain ⟨e1, e2⟩ := turn_bad (a := (a1, a2)) (b := (b1, b2)) (c := (c1, c2)) (.inl hA)
    rw [e1, e2]
    have HA := Lib.hid hA
    clear e1 e2 hA
    go_wp2_with fail
    refine (place_any a1 a2 _).mono ?_
    rw [HA.out]
    rintro e w3 ⟨rfl, hX3⟩
    have HX3 := Lib.hid (HX2.out.trans hX3)
    clear hX3
    go_wp2_with fail
    refine (first_end w _ HX3.out).mono ?_
    rintro e w4 ⟨rfl, hX4⟩
    have HX4 := Lib.hid hX4
    clear hX4
    go_wp2
    go_ret
    exact ⟨rfl, HX4.out⟩
  · rcases hB : okP (b1, b2) with _ | _
    · obtain ⟨e1, e2⟩ := turn_bad (a := (a1, a2)) (b := (b1, b2)) (c := (c1, c2)) (.inr (.inl hB))
      rw [e1, e2]
      have HA := Lib.hid hA
      have HB := Lib.hid hB
      clear e1 e2 hA hB
      go_wp2_with fail
      refine (place_any a1 a2 _).mono ?_
      rw [HA.out]
      rintro e w3 ⟨rfl, hX3⟩
      have HX3 := Lib.hid (HX2.out.trans hX3)
      have y3 := hX3.cell x3
      have y4 := hX3.cell x4
      clear hX3 x1 x2 x3 x4 x5 x6
      go_wp2_with fail
      refine (place_any b1 b2 _).mono ?_
      rw [HB.out]
      rintro e w4 ⟨rfl, hX4⟩
      have HX4 := Lib.hid (HX3.out.trans hX4)
      clear hX4
      go_wp2_with fail
      refine (first_end w _ HX4.out).mono ?_
      rintro e w5 ⟨rfl, hX5⟩
      have HX5 := Lib.hid hX5
      clear hX5
      go_wp2
      go_ret
      exact ⟨rfl, HX5.out⟩
    · have HA := Lib.hid hA
      have HB := Lib.hid hB
      rcases hC : okP (c1, c2) with _ | _
      · obtain ⟨e1, e2⟩ := turn_bad (a := (a1, a2)) (b := (b1, b2)) (c := (c1, c2)) (.inr (.inr hC))
        rw [e1, e2]
        have HC := Lib.hid hC
        clear e1 e2 hA hB hC
        go_wp2_with fail
        refine (place_any a1 a2 _).mono ?_
        rw [HA.out]
        rintro e w3 ⟨rfl, hX3⟩
        have HX3 := Lib.hid (HX2.out.trans hX3)
        have y3 := hX3.cell x3
        have y4 := hX3.cell x4
        have y5 := hX3.cell x5
        have y6 := hX3.cell x6
        clear hX3 x1 x2 x3 x4 x5 x6
        go_wp2_with fail
        refine (place_any b1 b2 _).mono ?_
        rw [HB.out]
        rintro e w4 ⟨rfl, hX4⟩
        have HX4 := Lib.hid (HX3.out.trans hX4)
        have z5 := hX4.cell y5
        have z6 := hX4.cell y6
        clear hX4 y3 y4 y5 y6
        go_wp2_with fail
        refine (place_any c1 c2 _).mono ?_
        rw [HC.out]
        rintro e w5 ⟨rfl, hX5⟩
        have HX5 := Lib.hid (HX4.out.trans hX5)
        clear hX5
        go_wp2_with fail
        refine (first_end w _ HX5.out).mono ?_
        rintro e w6 ⟨rfl, hX6⟩
        have HX6 := Lib.hid hX6
        clear hX6
        go_wp2
        go_ret
        exact ⟨rfl, HX6.out⟩
      · obtain ⟨e1, e2⟩ := turn_good (a := (a1, a2)) (b := (b1, b2)) (c := (c1, c2)) hA hB hC
        rw [e1, e2]
        have HC := Lib.hid hC
        clear e1 e2 hA hB hC
        generalize hN : sgI (crossI (a1, a2) (b1, b2) (c1, c2)) = N
        have HN := Lib.hid hN
        clear hN
        go_wp2_with fail
        refine (place_any a1 a2 _).mono ?_
        rw [HA.out]
        rintro e w3 ⟨rfl, hX3⟩
        have HX3 := Lib.hid (HX2.out.trans hX3)
        have HX23 := Lib.hid hX3
        have y3 := hX3.cell x3
        have y4 := hX3.cell x4
        clear hX3 x1 x2 x3 x4 x5 x6
        go_wp2_with fail
        refine (place_any b1 b2 _).mono ?_
        rw [HB.out]
        rintro e w4 ⟨rfl, hX4⟩
        have HX4 := Lib.hid (HX3.out.trans hX4)
        have HX24 := Lib.hid (HX23.out.trans hX4)
        have z5 := (K3.out.ext HX24.out).cell 0
        have z6 := (K3.out.ext HX24.out).cell 1
        simp only [List.getElem?_toArray, List.getElem?_cons_zero, List.getElem?_cons_succ] at z5 z6
        clear hX4 y3 y4
        go_wp2_with fail
        refine (place_any c1 c2 _).mono ?_
        rw [HC.out]
        rintro e w5 ⟨rfl, hX5⟩
        have HX5 := Lib.hid (HX4.out.trans hX5)
        have HX25 := Lib.hid (HX24.out.trans hX5)
        clear hX5 z5 z6
        have x1 := (K1.out.ext HX25.out).cell 0
        have x2 := (K1.out.ext HX25.out).cell 1
        have x3 := (K2.out.ext HX25.out).cell 0
        have x4 := (K2.out.ext HX25.out).cell 1
        have x5 := (K3.out.ext HX25.out).cell 0
        have x6 := (K3.out.ext HX25.out).cell 1
        simp only [List.getElem?_toArray, List.getElem?_cons_zero, List.getElem?_cons_succ] at x1 x2 x3 x4 x5 x6
        go_wp2_with fail
        refine (rturn_any a1 a2 b1 b2 c1 c2 _ HA.out HB.out HC.out).mono ?_
        rw [HN.out]
        rintro e w6 ⟨rfl, hX6⟩
        have HX6 := Lib.hid (HX5.out.trans hX6)
        clear hX6
        go_wp2_with fail
        refine (first_end w _ HX6.out).mono ?_
        rintro e w7 ⟨rfl, hX7⟩
        have HX7 := Lib.hid hX7
        clear hX7
        go_wp2
        go_ret
        exact ⟨rfl, HX7.out⟩
end Go.Proofs.Yteoijnaljkagfaa
