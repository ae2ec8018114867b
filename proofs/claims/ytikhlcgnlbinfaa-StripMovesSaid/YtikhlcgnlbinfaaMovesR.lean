/- Lemmas of the proof that follows (Moves, part 18): walks of functions by contract, and plain lemmas. Conditions: none. -/
import Derived.Test.YtikhlcgnlbinfaaMovesQ
namespace Go.Proofs.Ytikhlcgnlbinfaa
open Lib (hid)
open Go.RowKit
theorem nums_of {w : World} {v : Value} {neg : Bool} {xs ys : List Int} (h : RatV w v neg xs ys) : ∃ o, NumS w v o := by
 by_cases hs : SmallR xs ys
 ·
  exact ⟨some (ratOf neg xs ys), neg, xs, ys, h, hs, rfl⟩
 ·
  exact ⟨none, neg, xs, ys, h, by simp [hs]⟩
set_option maxRecDepth 100000 in
set_option maxHeartbeats 16000000 in
theorem stripMoves_v (lo hi : Nat → Int) (o : Nat → Option Rat) (s0 : Bool) (A0 B0 : Option Addr) (l0 c0 m0 k0 : Nat) (s1 : Bool) (A1 B1 : Option Addr) (l1 c1 m1 k1 : Nat) (s2 : Bool) (A2 B2 : Option Addr) (l2 c2 m2 k2 : Nat) (w : World) (h0 : NumS w (.agg #[.bool s0, .slice A0 l0 c0, .slice B0 m0 k0]) (o 0)) (h1 : NumS w (.agg #[.bool s1, .slice A1 l1 c1, .slice B1 m1 k1]) (o 1)) (h2 : NumS w (.agg #[.bool s2, .slice A2 l2 c2, .slice B2 m2 k2]) (o 2)) :
  Calls Try.prog 10 #[.agg #[.int .i64 (lo 0), .int .i64 (hi 0), .int .i64 (lo 1), .int .i64 (hi 1), .int .i64 (lo 2), .int .i64 (hi 2)], .agg #[.bool s0, .slice A0 l0 c0, .slice B0 m0 k0, .bool s1, .slice A1 l1 c1, .slice B1 m1 k1, .bool s2, .slice A2 l2 c2, .slice B2 m2 k2]] w (fun e w' => e = .returned (.bool true) ∧ Ext w w') := by
 have hXe : Ext w ((w.alloc (.cells #[.int .i64 (lo 0), .int .i64 (hi 0), .int .i64 (lo 1), .int .i64 (hi 1), .int .i64 (lo 2), .int .i64 (hi 2)] 54)).alloc (.cells #[.bool s0, .slice A0 l0 c0, .slice B0 m0 k0, .bool s1, .slice A1 l1 c1, .slice B1 m1 k1, .bool s2, .slice A2 l2 c2, .slice B2 m2 k2] 98)) := ((Ext.refl w).alloc _).alloc _
 have kB : Blk ((w.alloc (.cells #[.int .i64 (lo 0), .int .i64 (hi 0), .int .i64 (lo 1), .int .i64 (hi 1), .int .i64 (lo 2), .int .i64 (hi 2)] 54)).alloc (.cells #[.bool s0, .slice A0 l0 c0, .slice B0 m0 k0, .bool s1, .slice A1 l1 c1, .slice B1 m1 k1, .bool s2, .slice A2 l2 c2, .slice B2 m2 k2] 98)) w.heap.size 54 #[.int .i64 (lo 0), .int .i64 (hi 0), .int .i64 (lo 1), .int .i64 (hi 1), .int .i64 (lo 2), .int .i64 (hi 2)] := Blk.alloc (Blk.new w _ _) _
 have kT : Blk ((w.alloc (.cells #[.int .i64 (lo 0), .int .i64 (hi 0), .int .i64 (lo 1), .int .i64 (hi 1), .int .i64 (lo 2), .int .i64 (hi 2)] 54)).alloc (.cells #[.bool s0, .slice A0 l0 c0, .slice B0 m0 k0, .bool s1, .slice A1 l1 c1, .slice B1 m1 k1, .bool s2, .slice A2 l2 c2, .slice B2 m2 k2] 98)) (w.heap.size + 1) 98 #[.bool s0, .slice A0 l0 c0, .slice B0 m0 k0, .bool s1, .slice A1 l1 c1, .slice B1 m1 k1, .bool s2, .slice A2 l2 c2, .slice B2 m2 k2] := Blk.at_ (by simp)
 have H0 := hid h0
 have H1 := hid h1
 have H2 := hid h2
 clear h0 h1 h2
 go_enter Try.func10, Try.ntmps10
 go_upto_region 1 with (fail)
 generalize (w.alloc (.cells #[.int .i64 (lo 0), .int .i64 (hi 0), .int .i64 (lo 1), .int .i64 (hi 1), .int .i64 (lo 2), .int .i64 (hi 2)] 54)).alloc (.cells #[.bool s0, .slice A0 l0 c0, .slice B0 m0 k0, .bool s1, .slice A1 l1 c1, .slice B1 m1 k1, .bool s2, .slice A2 l2 c2, .slice B2 m2 k2] 98) = w1 at hXe kB kT ⊢
 have HX := hid hXe
 have HB := hid kB
 have HT := hid kT
 clear hXe kB kT
 go_wp2_with fail
 go_loopg [5] 3 (fun fu iv wr => ∃ k : Nat, fu = 3 - k ∧ k ≤ 3 ∧ iv = .int .i64 (k : Int) ∧ wr = w1)
 case atStart => exact ⟨0, rfl, by omega, rfl, rfl⟩
 case round =>
  obtain ⟨k, rfl, hk, rfl, rfl⟩ := hrel
  by_cases hk3 : k < 3
  ·
   have q2 : decide ((k : Int) < 3) = true := decide_eq_true (by omega)
   have hk3z : (k : Int) < 3 := by omega
   obtain ⟨s9, A9, l9, c9, B9, m9, k9, g1, g2, g3, hq⟩ := pick_aggO (P := NumS) (w := wr) (q := o) hk3 (H0.out.ext HX.out) (H1.out.ext HX.out) (H2.out.ext HX.out)
   have x0 : wr.cell? ⟨w.heap.size + 1, k * 3, none⟩ = some (pick3 (.bool s0) (.bool s1) (.bool s2) k) := by
    rw [HT.out.cell]
    match k, hk3 with
    | 0, _ => rfl
    | 1, _ => rfl
    | 2, _ => rfl
   have x1 : wr.cell? ⟨w.heap.size + 1, k * 3 + 1, none⟩ = some (pick3 (.slice A0 l0 c0) (.slice A1 l1 c1) (.slice A2 l2 c2) k) := by
    rw [HT.out.cell]
    match k, hk3 with
    | 0, _ => rfl
    | 1, _ => rfl
    | 2, _ => rfl
   have x2 : wr.cell? ⟨w.heap.size + 1, k * 3 + 2, none⟩ = some (pick3 (.slice B0 m0 k0) (.slice B1 m1 k1) (.slice B2 m2 k2) k) := by
    rw [HT.out.cell]
    match k, hk3 with
    | 0, _ => rfl
    | 1, _ => rfl
    | 2, _ => rfl
   rw [g1] at x0
   rw [g2] at x1
   rw [g3] at x2
   clear g1 g2 g3 hq
   by_cases h8 : 8 < l9
   ·
    have q8 : decide (8 < l9) = true := decide_eq_true (by omega)
    have q8b : decide ((8 : Int) < (l9 : Int)) = true := decide_eq_true (by omega)
    by_cases h256 : l9 ≤ 256
    ·
     have q6 : decide (l9 ≤ 256) = true := decide_eq_true (by omega)
     have q6b : decide ((l9 : Int) ≤ (256 : Int)) = true := decide_eq_true (by omega)
     go_wp2_with fail
     refine (first_any _).mono ?_
     rintro e w19 ⟨rfl, hX⟩
     replace HX := hid (HX.out.trans hX)
     clear hX
     go_wp2
     go_ret
     exact ⟨rfl, HX.out⟩
    ·
     have q6 : decide (l9 ≤ 256) = false := decide_eq_false (by omega)
     have q6b : decide ((l9 : Int) ≤ (256 : Int)) = false := decide_eq_false (by omega)
     by_cases hm : 8 < m9
     ·
      have q4 : decide (8 < m9) = true := decide_eq_true (by omega)
      have q4b : decide ((8 : Int) < (m9 : Int)) = true := decide_eq_true (by omega)
      clear h8 h256 hm
      go_wp2_with fail
      refine (first_any _).mono ?_
      rintro e w19 ⟨rfl, hX⟩
      replace HX := hid (HX.out.trans hX)
      clear hX
      go_wp2
      go_ret
      exact ⟨rfl, HX.out⟩
     ·
      have q4 : decide (8 < m9) = false := decide_eq_false (by omega)
      have q4b : decide ((8 : Int) < (m9 : Int)) = false := decide_eq_false (by omega)
      by_cases h1k : 1000 < l9
      ·
       have q5 : decide (1000 < l9) = true := decide_eq_true (by omega)
       have q5b : decide ((1000 : Int) < (l9 : Int)) = true := decide_eq_true (by omega)
       clear h8 h256 hm h1k
       go_wp2_with fail
       refine (first_any _).mono ?_
       rintro e w19 ⟨rfl, hX⟩
       replace HX := hid (HX.out.trans hX)
       clear hX
       go_wp2
       go_ret
       exact ⟨rfl, HX.out⟩
      ·
       have q5 : decide (1000 < l9) = false := decide_eq_false (by omega)
       have q5b : decide ((1000 : Int) < (l9 : Int)) = false := decide_eq_false (by omega)
       clear h8 h256 hm h1k
       go_wp2
       clear x0 x1 x2
       go_roundg (3 - (k + 1))
       case rel => exact ⟨k + 1, rfl, by omega, by go_num, rfl⟩
       case measure => omega
   ·
    have q8 : decide (8 < l9) = false := decide_eq_false (by omega)
    have q8b : decide ((8 : Int) < (l9 : Int)) = false := decide_eq_false (by omega)
    have h256 : l9 ≤ 256 := by omega
    by_cases hm : 8 < m9
    ·
     have q4 : decide (8 < m9) = true := decide_eq_true (by omega)
     have q4b : decide ((8 : Int) < (m9 : Int)) = true := decide_eq_true (by omega)
     clear h8 h256 hm
     go_wp2_with fail
     refine (first_any _).mono ?_
     rintro e w19 ⟨rfl, hX⟩
     replace HX := hid (HX.out.trans hX)
     clear hX
     go_wp2
     go_ret
     exact ⟨rfl, HX.out⟩
    ·
     have q4 : decide (8 < m9) = false := decide_eq_false (by omega)
     have q4b : decide ((8 : Int) < (m9 : Int)) = false := decide_eq_false (by omega)
     by_cases h1k : 1000 < l9
     ·
      have q5 : decide (1000 < l9) = true := decide_eq_true (by omega)
      have q5b : decide ((1000 : Int) < (l9 : Int)) = true := decide_eq_true (by omega)
      clear h8 h256 hm h1k
      go_wp2_with fail
      refine (first_any _).mono ?_
      rintro e w19 ⟨rfl, hX⟩
      replace HX := hid (HX.out.trans hX)
      clear hX
      go_wp2
      go_ret
      exact ⟨rfl, HX.out⟩
     ·
      have q5 : decide (1000 < l9) = false := decide_eq_false (by omega)
      have q5b : decide ((1000 : Int) < (l9 : Int)) = false := decide_eq_false (by omega)
      clear h8 h256 hm h1k
      go_wp2
      clear x0 x1 x2
      go_roundg (3 - (k + 1))
      case rel => exact ⟨k + 1, rfl, by omega, by go_num, rfl⟩
      case measure => omega
  ·
   obtain rfl : k = 3 := by omega
   have q2 : decide (((3 : Nat) : Int) < 3) = false := by decide
   obtain ⟨r, hr⟩ : ∃ r, mvA lo hi o = r := ⟨_, rfl⟩
   have HMV := hid hr
   clear hr
   have hcp := moveP_any lo hi o s0 A0 B0 l0 c0 m0 k0 s1 A1 B1 l1 c1 m1 k1 s2 A2 B2 l2 c2 m2 k2 wr (H0.out.ext HX.out) (H1.out.ext HX.out) (H2.out.ext HX.out)
   rw [HMV.out] at hcp
   unfold boxV at hcp
   have b0 := HB.out.cell 0
   have b1 := HB.out.cell 1
   have b2 := HB.out.cell 2
   have b3 := HB.out.cell 3
   have b4 := HB.out.cell 4
   have b5 := HB.out.cell 5
   simp only [List.getElem?_toArray, List.getElem?_cons_zero, List.getElem?_cons_succ] at b0 b1 b2 b3 b4 b5
   have t0 := HT.out.cell 0
   have t1 := HT.out.cell 1
   have t2 := HT.out.cell 2
   have t3 := HT.out.cell 3
   have t4 := HT.out.cell 4
   have t5 := HT.out.cell 5
   have t6 := HT.out.cell 6
   have t7 := HT.out.cell 7
   have t8 := HT.out.cell 8
   simp only [List.getElem?_toArray, List.getElem?_cons_zero, List.getElem?_cons_succ] at t0 t1 t2 t3 t4 t5 t6 t7 t8
   go_wp2_with fail
   refine hcp.mono ?_
   rintro e w3 ⟨rfl, hX⟩
   clear hcp b0 b1 b2 b3 b4 b5 t0 t1 t2 t3 t4 t5 t6 t7 t8
   replace HX := hid (HX.out.trans hX)
   replace HB := hid (HB.out.ext hX)
   replace HT := hid (HT.out.ext hX)
   clear hX
   go_upto_region 7 with (fail)
   have hXa : Ext w3 (w3.alloc (.cells #[.int .i64 (r.1 0), .int .i64 (r.2.1 0), .int .i64 (r.1 1), .int .i64 (r.2.1 1), .int .i64 (r.1 2), .int .i64 (r.2.1 2)] 54)) := (Ext.refl _).alloc _
   have hB := Blk.new w3 54 #[.int .i64 (r.1 0), .int .i64 (r.2.1 0), .int .i64 (r.1 1), .int .i64 (r.2.1 1), .int .i64 (r.1 2), .int .i64 (r.2.1 2)]
   replace HX := hid (HX.out.trans hXa)
   replace HB := hid (HB.out.ext hXa)
   replace HT := hid (HT.out.ext hXa)
   clear hXa
   generalize w3.heap.size = gx at hB ⊢
   generalize w3.alloc (.cells #[.int .i64 (r.1 0), .int .i64 (r.2.1 0), .int .i64 (r.1 1), .int .i64 (r.2.1 1), .int .i64 (r.1 2), .int .i64 (r.2.1 2)] 54) = w4 at hB HX HB HT ⊢
   have HY := hid hB
   clear hB
   have hcp := moveR_any lo hi o s0 A0 B0 l0 c0 m0 k0 s1 A1 B1 l1 c1 m1 k1 s2 A2 B2 l2 c2 m2 k2 w4 (H0.out.ext HX.out) (H1.out.ext HX.out) (H2.out.ext HX.out)
   rw [HMV.out] at hcp
   unfold boxV at hcp
   have b0 := HB.out.cell 0
   have b1 := HB.out.cell 1
   have b2 := HB.out.cell 2
   have b3 := HB.out.cell 3
   have b4 := HB.out.cell 4
   have b5 := HB.out.cell 5
   simp only [List.getElem?_toArray, List.getElem?_cons_zero, List.getElem?_cons_succ] at b0 b1 b2 b3 b4 b5
   have t0 := HT.out.cell 0
   have t1 := HT.out.cell 1
   have t2 := HT.out.cell 2
   have t3 := HT.out.cell 3
   have t4 := HT.out.cell 4
   have t5 := HT.out.cell 5
   have t6 := HT.out.cell 6
   have t7 := HT.out.cell 7
   have t8 := HT.out.cell 8
   simp only [List.getElem?_toArray, List.getElem?_cons_zero, List.getElem?_cons_succ] at t0 t1 t2 t3 t4 t5 t6 t7 t8
   go_wp2_with fail
   refine hcp.mono ?_
   rintro e w5 ⟨rfl, hX⟩
   clear hcp b0 b1 b2 b3 b4 b5 t0 t1 t2 t3 t4 t5 t6 t7 t8
   replace HX := hid (HX.out.trans hX)
   replace HY := hid (HY.out.ext hX)
   clear hX
   go_upto_region 8 with (fail)
   have hXa : Ext w5 (w5.alloc (.cells #[.int .i64 (r.1 0), .int .i64 (r.2.1 0), .int .i64 (r.1 1), .int .i64 (r.2.1 1), .int .i64 (r.1 2), .int .i64 (r.2.1 2)] 54)) := (Ext.refl _).alloc _
   have hB := Blk.new w5 54 #[.int .i64 (r.1 0), .int .i64 (r.2.1 0), .int .i64 (r.1 1), .int .i64 (r.2.1 1), .int .i64 (r.1 2), .int .i64 (r.2.1 2)]
   replace HX := hid (HX.out.trans hXa)
   replace HY := hid (HY.out.ext hXa)
   clear hXa
   generalize w5.heap.size = gy at hB ⊢
   generalize w5.alloc (.cells #[.int .i64 (r.1 0), .int .i64 (r.2.1 0), .int .i64 (r.1 1), .int .i64 (r.2.1 1), .int .i64 (r.1 2), .int .i64 (r.2.1 2)] 54) = w6 at hB HX HY ⊢
   have HZ := hid hB
   clear hB
   have y0 := HY.out.cell 0
   have y1 := HY.out.cell 1
   have y2 := HY.out.cell 2
   have y3 := HY.out.cell 3
   have y4 := HY.out.cell 4
   have y5 := HY.out.cell 5
   simp only [List.getElem?_toArray, List.getElem?_cons_zero, List.getElem?_cons_succ] at y0 y1 y2 y3 y4 y5
   have z0 := HZ.out.cell 0
   have z1 := HZ.out.cell 1
   have z2 := HZ.out.cell 2
   have z3 := HZ.out.cell 3
   have z4 := HZ.out.cell 4
   have z5 := HZ.out.cell 5
   simp only [List.getElem?_toArray, List.getElem?_cons_zero, List.getElem?_cons_succ] at z0 z1 z2 z3 z4 z5
   go_wp2_with fail
   refine (first_any _).mono ?_
   rintro e w19 ⟨rfl, hX⟩
   replace HX := hid (HX.out.trans hX)
   clear hX
   go_wp2
   go_ret
   exact ⟨rfl, HX.out⟩
theorem stripMoves_walk (f0 f1 f2 f3 f4 f5 : Int) (cs : Array Value) (w : World) (h : Cs9 w cs.toList) :
  Calls Try.prog 10 #[.agg #[.int .i64 f0, .int .i64 f1, .int .i64 f2, .int .i64 f3, .int .i64 f4, .int .i64 f5], .agg cs] w (fun e w' => e = .returned (.bool true) ∧ Ext w w') := by
 obtain ⟨s0, A0, l0, c0, B0, m0, k0, xs0, ys0, s1, A1, l1, c1, B1, m1, k1, xs1, ys1, s2, A2, l2, c2, B2, m2, k2, xs2, ys2, e, h0, h1, h2⟩ := h
 obtain ⟨o0, n0⟩ := nums_of h0
 obtain ⟨o1, n1⟩ := nums_of h1
 obtain ⟨o2, n2⟩ := nums_of h2
 have e2 : cs = #[.bool s0, .slice A0 l0 c0, .slice B0 m0 k0, .bool s1, .slice A1 l1 c1, .slice B1 m1 k1, .bool s2, .slice A2 l2 c2, .slice B2 m2 k2] := Array.toList_inj.1 e
 subst e2
 exact stripMoves_v (pick3 f0 f2 f4) (pick3 f1 f3 f5) (pick3 o0 o1 o2) s0 A0 B0 l0 c0 m0 k0 s1 A1 B1 l1 c1 m1 k1 s2 A2 B2 l2 c2 m2 k2 w n0 n1 n2
end Go.Proofs.Ytikhlcgnlbinfaa
