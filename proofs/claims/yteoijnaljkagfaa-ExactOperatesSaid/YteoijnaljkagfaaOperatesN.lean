/- Lemmas of the proof that follows (Operates, part 14): walks of functions by contract, and plain lemmas. Conditions: none. -/
import Derived.Test.YteoijnaljkagfaaOperatesM
namespace Go.Proofs.Yteoijnaljkagfaa
open Go.RowKit

theorem ratsAt_two {w : World} {g : Nat} {T : TypeId} {s0 s1 : Bool} {A0 B0 A1 B1 : Option Addr} {l0 c0 m0 k0 l1 c1 m1 k1 : Nat} {n0 n1 : Bool} {xs ys xs' ys' : List Int} (hB : Blk w g T #[.bool s0, .slice A0 l0 c0, .slice B0 m0 k0, .bool s1, .slice A1 l1 c1, .slice B1 m1 k1])
    (h : RatV w (.agg #[.bool s0, .slice A0 l0 c0, .slice B0 m0 k0]) n0 xs ys) (k : RatV w (.agg #[.bool s1, .slice A1 l1 c1, .slice B1 m1 k1]) n1 xs' ys') : RatsAt w g 2 := by
  obtain ⟨A, l, c, B, m, kk, e, h1, h2, h3, h4, h5, h6⟩ := h
  obtain ⟨A', l', c', B', m', k', e', g1, g2, g3, g4, g5, g6⟩ := k
  simp only [Value.agg.injEq, Array.mk.injEq, List.cons.injEq, Value.bool.injEq, Value.slice.injEq, and_true] at e e'
  obtain ⟨rfl, ⟨rfl, rfl, rfl⟩, rfl, rfl, rfl⟩ := e
  obtain ⟨rfl, ⟨rfl, rfl, rfl⟩, rfl, rfl, rfl⟩ := e'
  intro j hj
  rcases (show j = 0 ∨ j = 1 by omega) with rfl | rfl
  · exact ⟨_, _, _, _, _, _, _, _, hB.cell 1, hB.cell 2, h1, h4, by omega, by omega⟩
  · exact ⟨_, _, _, _, _, _, _, _, hB.cell 4, hB.cell 5, g1, g4, by omega, by omega⟩
section
variable {w : World} {va vb : Value} {b0 b1 : Bool}
theorem RatL.open {w : World} {v : Value} {b : Bool} (h : RatL w v b) : ∃ s A l c B m k, v = .agg #[.bool s, .slice A l c, .slice B m k] := by
  obtain ⟨neg, xs, ys, ⟨A, l, c, B, m, k, rfl, _⟩, _⟩ := h
  exact ⟨_, _, _, _, _, _, _, rfl⟩

theorem addL (h : RatL w va b0) (k : RatL w vb b1) (hb : (b0 || b1) = true) : Calls Try.prog 58 #[va, vb] w (RetE w (zeroR) 1) := by
  obtain ⟨s0, A0, l0, c0, B0, m0, k0, rfl⟩ := h.open
  obtain ⟨s1, A1, l1, c1, B1, m1, k1, rfl⟩ := k.open
  exact eadd_no s0 s1 A0 B0 A1 B1 l0 c0 m0 k0 l1 c1 m1 k1 b0 b1 w h k hb

theorem subL (h : RatL w va b0) (k : RatL w vb b1) (hb : (b0 || b1) = true) : Calls Try.prog 51 #[va, vb] w (RetE w (zeroR) 1) := by
  obtain ⟨s0, A0, l0, c0, B0, m0, k0, rfl⟩ := h.open
  obtain ⟨s1, A1, l1, c1, B1, m1, k1, rfl⟩ := k.open
  exact esub_no s0 s1 A0 B0 A1 B1 l0 c0 m0 k0 l1 c1 m1 k1 b0 b1 w h k hb

theorem mulL (h : RatL w va b0) (k : RatL w vb b1) (hb : (b0 || b1) = true) : Calls Try.prog 59 #[va, vb] w (RetE w (zeroR) 1) := by
  obtain ⟨s0, A0, l0, c0, B0, m0, k0, rfl⟩ := h.open
  obtain ⟨s1, A1, l1, c1, B1, m1, k1, rfl⟩ := k.open
  exact emul_no s0 s1 A0 B0 A1 B1 l0 c0 m0 k0 l1 c1 m1 k1 b0 b1 w h k hb

theorem divL (h : RatL w va b0) (k : RatL w vb b1) (hb : (b0 || b1) = true) : Calls Try.prog 60 #[va, vb] w (RetE w (zeroR) 1) := by
  obtain ⟨s0, A0, l0, c0, B0, m0, k0, rfl⟩ := h.open
  obtain ⟨s1, A1, l1, c1, B1, m1, k1, rfl⟩ := k.open
  exact ediv_no s0 s1 A0 B0 A1 B1 l0 c0 m0 k0 l1 c1 m1 k1 b0 b1 w h k hb

theorem cmpL (h : RatL w va b0) (k : RatL w vb b1) (hb : (b0 || b1) = true) : Calls Try.prog 50 #[va, vb] w (RetE w (.int .i64 0) 1) := by
  obtain ⟨s0, A0, l0, c0, B0, m0, k0, rfl⟩ := h.open
  obtain ⟨s1, A1, l1, c1, B1, m1, k1, rfl⟩ := k.open
  exact ecmp_no s0 s1 A0 B0 A1 B1 l0 c0 m0 k0 l1 c1 m1 k1 b0 b1 w h k hb

end

set_option maxRecDepth 100000 in
set_option maxHeartbeats 2000000 in
theorem operates_ll (s0 : Bool) (A0 B0 : Option Addr) (l0 c0 m0 k0 : Nat) (s1 : Bool) (A1 B1 : Option Addr) (l1 c1 m1 k1 : Nat) (n0 n1 : Bool) (xs ys xs' ys' : List Int) (q : Rat) (w : World) (v0 : RatV w (.agg #[.bool s0, .slice A0 l0 c0, .slice B0 m0 k0]) n0 xs ys) (v1 : RatV w (.agg #[.bool s1, .slice A1 l1 c1, .slice B1 m1 k1]) n1 xs' ys') (hx : RatL w (.agg #[.bool s0, .slice A0 l0 c0, .slice B0 m0 k0]) true) (hy : RatL w (.agg #[.bool s1, .slice A1 l1 c1, .slice B1 m1 k1]) true) :
    Calls Try.prog 14 #[.agg #[.bool s0, .slice A0 l0 c0, .slice B0 m0 k0], .agg #[.bool s1, .slice A1 l1 c1, .slice B1 m1 k1]] w (fun e w' => e = .returned (.bool true) ∧ Ext w w') := by
  have HV0 := Lib.hid v0
  have HV1 := Lib.hid v1
  have HXX := Lib.hid hx
  have HYY := Lib.hid hy
  clear v0 v1 hx hy
  have hXe : Ext w (((w.alloc (.cells #[.bool s0, .slice A0 l0 c0, .slice B0 m0 k0] 33)).alloc (.cells #[.bool s1, .slice A1 l1 c1, .slice B1 m1 k1] 33)).alloc (.cells #[.bool s0, .slice A0 l0 c0, .slice B0 m0 k0, .bool s1, .slice A1 l1 c1, .slice B1 m1 k1] 33)) := ((((Ext.refl w).alloc _).alloc _).alloc _)
  have kA : Blk (((w.alloc (.cells #[.bool s0, .slice A0 l0 c0, .slice B0 m0 k0] 33)).alloc (.cells #[.bool s1, .slice A1 l1 c1, .slice B1 m1 k1] 33)).alloc (.cells #[.bool s0, .slice A0 l0 c0, .slice B0 m0 k0, .bool s1, .slice A1 l1 c1, .slice B1 m1 k1] 33)) w.heap.size 33 #[.bool s0, .slice A0 l0 c0, .slice B0 m0 k0] := Blk.alloc (Blk.alloc (Blk.at_ (by simp)) _) _
  have kB : Blk (((w.alloc (.cells #[.bool s0, .slice A0 l0 c0, .slice B0 m0 k0] 33)).alloc (.cells #[.bool s1, .slice A1 l1 c1, .slice B1 m1 k1] 33)).alloc (.cells #[.bool s0, .slice A0 l0 c0, .slice B0 m0 k0, .bool s1, .slice A1 l1 c1, .slice B1 m1 k1] 33)) (w.heap.size + 1) 33 #[.bool s1, .slice A1 l1 c1, .slice B1 m1 k1] := Blk.alloc (Blk.at_ (by simp)) _
  have kH : Blk (((w.alloc (.cells #[.bool s0, .slice A0 l0 c0, .slice B0 m0 k0] 33)).alloc (.cells #[.bool s1, .slice A1 l1 c1, .slice B1 m1 k1] 33)).alloc (.cells #[.bool s0, .slice A0 l0 c0, .slice B0 m0 k0, .bool s1, .slice A1 l1 c1, .slice B1 m1 k1] 33)) (w.heap.size + 2) 33 #[.bool s0, .slice A0 l0 c0, .slice B0 m0 k0, .bool s1, .slice A1 l1 c1, .slice B1 m1 k1] := Blk.at_ (by simp)
  go_enter Try.func14, Try.ntmps14
  go_wp2_with fail
  generalize (((w.alloc (.cells #[.bool s0, .slice A0 l0 c0, .slice B0 m0 k0] 33)).alloc (.cells #[.bool s1, .slice A1 l1 c1, .slice B1 m1 k1] 33)).alloc (.cells #[.bool s0, .slice A0 l0 c0, .slice B0 m0 k0, .bool s1, .slice A1 l1 c1, .slice B1 m1 k1] 33)) = w1 at hXe kA kB kH ⊢
  have HX := Lib.hid hXe
  clear hXe
  have KA := Lib.hid kA
  clear kA
  have KB := Lib.hid kB
  clear kB
  have KH := Lib.hid kH
  clear kH
  replace HV0 := Lib.hid (HV0.out.ext HX.out)
  replace HV1 := Lib.hid (HV1.out.ext HX.out)
  replace HXX := Lib.hid (HXX.out.ext HX.out)
  replace HYY := Lib.hid (HYY.out.ext HX.out)
  refine (heavy_any _ 2 _ (ratsAt_two KH.out HV0.out HV1.out) (by omega)).mono ?_
  rintro e w2 ⟨b9, rfl, hX⟩
  replace hX : Ext w1 w2 := by with_reducible exact hX
  replace HX := Lib.hid (HX.out.trans hX)
  replace HV0 := Lib.hid (HV0.out.ext hX)
  replace HV1 := Lib.hid (HV1.out.ext hX)
  replace HXX := Lib.hid (HXX.out.ext hX)
  replace HYY := Lib.hid (HYY.out.ext hX)
  replace KA := Lib.hid (KA.out.ext hX)
  replace KB := Lib.hid (KB.out.ext hX)
  replace KH := Lib.hid (KH.out.ext hX)
  clear hX
  clear KH
  clear HV0
  clear HV1
  by_cases hb9 : b9 = true
  · subst hb9
    go_wp2_with fail
    refine (first_any _).mono ?_
    rintro e w3 ⟨rfl, hX⟩
    replace hX : Ext w2 w3 := by with_reducible exact hX
    replace HX := Lib.hid (HX.out.trans hX)
    replace HXX := Lib.hid (HXX.out.ext hX)
    replace HYY := Lib.hid (HYY.out.ext hX)
    replace KA := Lib.hid (KA.out.ext hX)
    replace KB := Lib.hid (KB.out.ext hX)
    clear hX
    go_wp2
    go_ret
    exact ⟨rfl, HX.out⟩
  · have hb8 : b9 = false := by simpa using hb9
    clear hb9
    subst hb8
    have cA0 : w2.cell? ⟨w.heap.size, 0, none⟩ = some (.bool s0) := KA.out.cell 0
    have cA1 : w2.cell? ⟨w.heap.size, 1, none⟩ = some (.slice A0 l0 c0) := KA.out.cell 1
    have cA2 : w2.cell? ⟨w.heap.size, 2, none⟩ = some (.slice B0 m0 k0) := KA.out.cell 2
    have cB0 : w2.cell? ⟨(w.heap.size + 1), 0, none⟩ = some (.bool s1) := KB.out.cell 0
    have cB1 : w2.cell? ⟨(w.heap.size + 1), 1, none⟩ = some (.slice A1 l1 c1) := KB.out.cell 1
    have cB2 : w2.cell? ⟨(w.heap.size + 1), 2, none⟩ = some (.slice B1 m1 k1) := KB.out.cell 2
    go_wp2_with fail
    clear cA0 cA1 cA2 cB0 cB1 cB2
    refine (addL HXX.out HYY.out rfl).mono ?_
    unfold RetE zeroR
    rintro e w3 ⟨rfl, hX⟩
    replace hX : Ext w2 w3 := by with_reducible exact hX
    replace HX := Lib.hid (HX.out.trans hX)
    replace HXX := Lib.hid (HXX.out.ext hX)
    replace HYY := Lib.hid (HYY.out.ext hX)
    replace KA := Lib.hid (KA.out.ext hX)
    replace KB := Lib.hid (KB.out.ext hX)
    clear hX
    go_upto_region 4 with (fail)
    have hXa : Ext w3 (w3.alloc (.cells #[.bool false, .slice none 0 0, .slice none 0 0] 33)) := (Ext.refl _).alloc _
    have kS := Blk.new w3 33 #[.bool false, .slice none 0 0, .slice none 0 0]
    have zA := KA.out.lt
    have zB := KB.out.lt
    have zg := HX.out.size
    replace HX := Lib.hid (HX.out.trans hXa)
    replace HXX := Lib.hid (HXX.out.ext hXa)
    replace HYY := Lib.hid (HYY.out.ext hXa)
    replace KA := Lib.hid (KA.out.ext hXa)
    replace KB := Lib.hid (KB.out.ext hXa)
    generalize (w3.alloc (.cells #[.bool false, .slice none 0 0, .slice none 0 0] 33)) = w4 at HX HXX HYY KA KB kS ⊢
    have KS := Lib.hid kS
    clear kS hXa
    clear KS
    have cA0 : w4.cell? ⟨w.heap.size, 0, none⟩ = some (.bool s0) := KA.out.cell 0
    have cA1 : w4.cell? ⟨w.heap.size, 1, none⟩ = some (.slice A0 l0 c0) := KA.out.cell 1
    have cA2 : w4.cell? ⟨w.heap.size, 2, none⟩ = some (.slice B0 m0 k0) := KA.out.cell 2
    have cB0 : w4.cell? ⟨(w.heap.size + 1), 0, none⟩ = some (.bool s1) := KB.out.cell 0
    have cB1 : w4.cell? ⟨(w.heap.size + 1), 1, none⟩ = some (.slice A1 l1 c1) := KB.out.cell 1
    have cB2 : w4.cell? ⟨(w.heap.size + 1), 2, none⟩ = some (.slice B1 m1 k1) := KB.out.cell 2
    go_wp2_with fail
    clear cA0 cA1 cA2 cB0 cB1 cB2
    refine (subL HXX.out HYY.out rfl).mono ?_
    unfold RetE zeroR
    rintro e w5 ⟨rfl, hX⟩
    replace hX : Ext w4 w5 := by with_reducible exact hX
    replace HX := Lib.hid (HX.out.trans hX)
    replace HXX := Lib.hid (HXX.out.ext hX)
    replace HYY := Lib.hid (HYY.out.ext hX)
    replace KA := Lib.hid (KA.out.ext hX)
    replace KB := Lib.hid (KB.out.ext hX)
    clear hX
    go_upto_region 5 with (fail)
    have hXa : Ext w5 (w5.alloc (.cells #[.bool false, .slice none 0 0, .slice none 0 0] 33)) := (Ext.refl _).alloc _
    have kD := Blk.new w5 33 #[.bool false, .slice none 0 0, .slice none 0 0]
    have zA := KA.out.lt
    have zB := KB.out.lt
    have zg := HX.out.size
    replace HX := Lib.hid (HX.out.trans hXa)
    replace HXX := Lib.hid (HXX.out.ext hXa)
    replace HYY := Lib.hid (HYY.out.ext hXa)
    replace KA := Lib.hid (KA.out.ext hXa)
    replace KB := Lib.hid (KB.out.ext hXa)
    generalize (w5.alloc (.cells #[.bool false, .slice none 0 0, .slice none 0 0] 33)) = w6 at HX HXX HYY KA KB kD ⊢
    have KD := Lib.hid kD
    clear kD hXa
    clear KD
    have cA0 : w6.cell? ⟨w.heap.size, 0, none⟩ = some (.bool s0) := KA.out.cell 0
    have cA1 : w6.cell? ⟨w.heap.size, 1, none⟩ = some (.slice A0 l0 c0) := KA.out.cell 1
    have cA2 : w6.cell? ⟨w.heap.size, 2, none⟩ = some (.slice B0 m0 k0) := KA.out.cell 2
    have cB0 : w6.cell? ⟨(w.heap.size + 1), 0, none⟩ = some (.bool s1) := KB.out.cell 0
    have cB1 : w6.cell? ⟨(w.heap.size + 1), 1, none⟩ = some (.slice A1 l1 c1) := KB.out.cell 1
    have cB2 : w6.cell? ⟨(w.heap.size + 1), 2, none⟩ = some (.slice B1 m1 k1) := KB.out.cell 2
    go_wp2_with fail
    clear cA0 cA1 cA2 cB0 cB1 cB2
    refine (mulL HXX.out HYY.out rfl).mono ?_
    unfold RetE zeroR
    rintro e w7 ⟨rfl, hX⟩
    replace hX : Ext w6 w7 := by with_reducible exact hX
    replace HX := Lib.hid (HX.out.trans hX)
    replace HXX := Lib.hid (HXX.out.ext hX)
    replace HYY := Lib.hid (HYY.out.ext hX)
    replace KA := Lib.hid (KA.out.ext hX)
    replace KB := Lib.hid (KB.out.ext hX)
    clear hX
    go_upto_region 6 with (fail)
    have hXa : Ext w7 (w7.alloc (.cells #[.bool false, .slice none 0 0, .slice none 0 0] 33)) := (Ext.refl _).alloc _
    have kM := Blk.new w7 33 #[.bool false, .slice none 0 0, .slice none 0 0]
    have zA := KA.out.lt
    have zB := KB.out.lt
    have zg := HX.out.size
    replace HX := Lib.hid (HX.out.trans hXa)
    replace HXX := Lib.hid (HXX.out.ext hXa)
    replace HYY := Lib.hid (HYY.out.ext hXa)
    replace KA := Lib.hid (KA.out.ext hXa)
    replace KB := Lib.hid (KB.out.ext hXa)
    generalize (w7.alloc (.cells #[.bool false, .slice none 0 0, .slice none 0 0] 33)) = w8 at HX HXX HYY KA KB kM ⊢
    have KM := Lib.hid kM
    clear kM hXa
    clear KM
    have cA0 : w8.cell? ⟨w.heap.size, 0, none⟩ = some (.bool s0) := KA.out.cell 0
    have cA1 : w8.cell? ⟨w.heap.size, 1, none⟩ = some (.slice A0 l0 c0) := KA.out.cell 1
    have cA2 : w8.cell? ⟨w.heap.size, 2, none⟩ = some (.slice B0 m0 k0) := KA.out.cell 2
    have cB0 : w8.cell? ⟨(w.heap.size + 1), 0, none⟩ = some (.bool s1) := KB.out.cell 0
    have cB1 : w8.cell? ⟨(w.heap.size + 1), 1, none⟩ = some (.slice A1 l1 c1) := KB.out.cell 1
    have cB2 : w8.cell? ⟨(w.heap.size + 1), 2, none⟩ = some (.slice B1 m1 k1) := KB.out.cell 2
    go_wp2_with fail
    clear cA0 cA1 cA2 cB0 cB1 cB2
    refine (divL HXX.out HYY.out rfl).mono ?_
    unfold RetE zeroR
    rintro e w9 ⟨rfl, hX⟩
    replace hX : Ext w8 w9 := by with_reducible exact hX
    replace HX := Lib.hid (HX.out.trans hX)
    replace HXX := Lib.hid (HXX.out.ext hX)
    replace HYY := Lib.hid (HYY.out.ext hX)
    replace KA := Lib.hid (KA.out.ext hX)
    replace KB := Lib.hid (KB.out.ext hX)
    clear hX
    go_upto_region 7 with (fail)
    have hXa : Ext w9 (w9.alloc (.cells #[.bool false, .slice none 0 0, .slice none 0 0] 33)) := (Ext.refl _).alloc _
    have kQ := Blk.new w9 33 #[.bool false, .slice none 0 0, .slice none 0 0]
    have zA := KA.out.lt
    have zB := KB.out.lt
    have zg := HX.out.size
    replace HX := Lib.hid (HX.out.trans hXa)
    replace HXX := Lib.hid (HXX.out.ext hXa)
    replace HYY := Lib.hid (HYY.out.ext hXa)
    replace KA := Lib.hid (KA.out.ext hXa)
    replace KB := Lib.hid (KB.out.ext hXa)
    generalize (w9.alloc (.cells #[.bool false, .slice none 0 0, .slice none 0 0] 33)) = w10 at HX HXX HYY KA KB kQ ⊢
    have KQ := Lib.hid kQ
    clear kQ hXa
    clear KQ
    have cA0 : w10.cell? ⟨w.heap.size, 0, none⟩ = some (.bool s0) := KA.out.cell 0
    have cA1 : w10.cell? ⟨w.heap.size, 1, none⟩ = some (.slice A0 l0 c0) := KA.out.cell 1
    have cA2 : w10.cell? ⟨w.heap.size, 2, none⟩ = some (.slice B0 m0 k0) := KA.out.cell 2
    have cB0 : w10.cell? ⟨(w.heap.size + 1), 0, none⟩ = some (.bool s1) := KB.out.cell 0
    have cB1 : w10.cell? ⟨(w.heap.size + 1), 1, none⟩ = some (.slice A1 l1 c1) := KB.out.cell 1
    have cB2 : w10.cell? ⟨(w.heap.size + 1), 2, none⟩ = some (.slice B1 m1 k1) := KB.out.cell 2
    go_wp2_with fail
    clear cA0 cA1 cA2 cB0 cB1 cB2
    refine (cmpL HXX.out HYY.out rfl).mono ?_
    unfold RetE
    rintro e w11 ⟨rfl, hX⟩
    replace hX : Ext w10 w11 := by with_reducible exact hX
    replace HX := Lib.hid (HX.out.trans hX)
    replace HXX := Lib.hid (HXX.out.ext hX)
    replace HYY := Lib.hid (HYY.out.ext hX)
    replace KA := Lib.hid (KA.out.ext hX)
    replace KB := Lib.hid (KB.out.ext hX)
    clear hX
    as_aux_lemma =>
      have cA0 : w11.cell? ⟨w.heap.size, 0, none⟩ = some (.bool s0) := KA.out.cell 0
      have cA1 : w11.cell? ⟨w.heap.size, 1, none⟩ = some (.slice A0 l0 c0) := KA.out.cell 1
      have cA2 : w11.cell? ⟨w.heap.size, 2, none⟩ = some (.slice B0 m0 k0) := KA.out.cell 2
      have cB0 : w11.cell? ⟨(w.heap.size + 1), 0, none⟩ = some (.bool s1) := KB.out.cell 0
      have cB1 : w11.cell? ⟨(w.heap.size + 1), 1, none⟩ = some (.slice A1 l1 c1) := KB.out.cell 1
      have cB2 : w11.cell? ⟨(w.heap.size + 1), 2, none⟩ = some (.slice B1 m1 k1) := KB.out.cell 2
      go_wp2_with fail
      clear cA0 cA1 cA2 cB0 cB1 cB2
      refine (two_nxb s0 A0 B0 l0 c0 m0 k0 s1 A1 B1 l1 c1 m1 k1 0 0 _ HXX.out HYY.out).mono ?_
      unfold RetE
      rintro e w12 ⟨rfl, hX⟩
      replace hX : Ext w11 w12 := by with_reducible exact hX
      replace HX := Lib.hid (HX.out.trans hX)
      replace HXX := Lib.hid (HXX.out.ext hX)
      replace HYY := Lib.hid (HYY.out.ext hX)
      replace KA := Lib.hid (KA.out.ext hX)
      replace KB := Lib.hid (KB.out.ext hX)
      clear hX
      go_upto_region 9 with (fail)
      have hXa : Ext w12 (w12.alloc (.cells #[.bool false, .slice none 0 0, .slice none 0 0] 42)) := (Ext.refl _).alloc _
      have kS := Blk.new w12 42 #[.bool false, .slice none 0 0, .slice none 0 0]
      have zA := KA.out.lt
      have zB := KB.out.lt
      have zg := HX.out.size
      replace HX := Lib.hid (HX.out.trans hXa)
      replace HXX := Lib.hid (HXX.out.ext hXa)
      replace HYY := Lib.hid (HYY.out.ext hXa)
      replace KA := Lib.hid (KA.out.ext hXa)
      replace KB := Lib.hid (KB.out.ext hXa)
      generalize (w12.alloc (.cells #[.bool false, .slice none 0 0, .slice none 0 0] 42)) = w13 at HX HXX HYY KA KB kS ⊢
      have KS := Lib.hid kS
      clear kS hXa
      clear KS
      have cA0 : w13.cell? ⟨w.heap.size, 0, none⟩ = some (.bool s0) := KA.out.cell 0
      have cA1 : w13.cell? ⟨w.heap.size, 1, none⟩ = some (.slice A0 l0 c0) := KA.out.cell 1
      have cA2 : w13.cell? ⟨w.heap.size, 2, none⟩ = some (.slice B0 m0 k0) := KA.out.cell 2
      have cB0 : w13.cell? ⟨(w.heap.size + 1), 0, none⟩ = some (.bool s1) := KB.out.cell 0
      have cB1 : w13.cell? ⟨(w.heap.size + 1), 1, none⟩ = some (.slice A1 l1 c1) := KB.out.cell 1
      have cB2 : w13.cell? ⟨(w.heap.size + 1), 2, none⟩ = some (.slice B1 m1 k1) := KB.out.cell 2
      go_wp2_with fail
      clear cA0 cA1 cA2 cB0 cB1 cB2
      refine (two_nxb s0 A0 B0 l0 c0 m0 k0 s1 A1 B1 l1 c1 m1 k1 0 1 _ HXX.out HYY.out).mono ?_
      unfold RetE
      rintro e w14 ⟨rfl, hX⟩
      replace hX : Ext w13 w14 := by with_reducible exact hX
      replace HX := Lib.hid (HX.out.trans hX)
      replace HXX := Lib.hid (HXX.out.ext hX)
      replace HYY := Lib.hid (HYY.out.ext hX)
      replace KA := Lib.hid (KA.out.ext hX)
      replace KB := Lib.hid (KB.out.ext hX)
      clear hX
      go_upto_region 10 with (fail)
      have hXa : Ext w14 (w14.alloc (.cells #[.bool false, .slice none 0 0, .slice none 0 0] 42)) := (Ext.refl _).alloc _
      have kD := Blk.new w14 42 #[.bool false, .slice none 0 0, .slice none 0 0]
      have zA := KA.out.lt
      have zB := KB.out.lt
      have zg := HX.out.size
      replace HX := Lib.hid (HX.out.trans hXa)
      replace HXX := Lib.hid (HXX.out.ext hXa)
      replace HYY := Lib.hid (HYY.out.ext hXa)
      replace KA := Lib.hid (KA.out.ext hXa)
      replace KB := Lib.hid (KB.out.ext hXa)
      generalize (w14.alloc (.cells #[.bool false, .slice none 0 0, .slice none 0 0] 42)) = w15 at HX HXX HYY KA KB kD ⊢
      have KD := Lib.hid kD
      clear kD hXa
      clear KD
      have cA0 : w15.cell? ⟨w.heap.size, 0, none⟩ = some (.bool s0) := KA.out.cell 0
      have cA1 : w15.cell? ⟨w.heap.size, 1, none⟩ = some (.slice A0 l0 c0) := KA.out.cell 1
      have cA2 : w15.cell? ⟨w.heap.size, 2, none⟩ = some (.slice B0 m0 k0) := KA.out.cell 2
      have cB0 : w15.cell? ⟨(w.heap.size + 1), 0, none⟩ = some (.bool s1) := KB.out.cell 0
      have cB1 : w15.cell? ⟨(w.heap.size + 1), 1, none⟩ = some (.slice A1 l1 c1) := KB.out.cell 1
      have cB2 : w15.cell? ⟨(w.heap.size + 1), 2, none⟩ = some (.slice B1 m1 k1) := KB.out.cell 2
      go_wp2_with fail
      clear cA0 cA1 cA2 cB0 cB1 cB2
      refine (two_nxb s0 A0 B0 l0 c0 m0 k0 s1 A1 B1 l1 c1 m1 k1 0 2 _ HXX.out HYY.out).mono ?_
      unfold RetE
      rintro e w16 ⟨rfl, hX⟩
      replace hX : Ext w15 w16 := by with_reducible exact hX
      replace HX := Lib.hid (HX.out.trans hX)
      replace HXX := Lib.hid (HXX.out.ext hX)
      replace HYY := Lib.hid (HYY.out.ext hX)
      replace KA := Lib.hid (KA.out.ext hX)
      replace KB := Lib.hid (KB.out.ext hX)
      clear hX
      go_upto_region 11 with (fail)
      have hXa : Ext w16 (w16.alloc (.cells #[.bool false, .slice none 0 0, .slice none 0 0] 42)) := (Ext.refl _).alloc _
      have kM := Blk.new w16 42 #[.bool false, .slice none 0 0, .slice none 0 0]
      have zA := KA.out.lt
      have zB := KB.out.lt
      have zg := HX.out.size
      replace HX := Lib.hid (HX.out.trans hXa)
      replace HXX := Lib.hid (HXX.out.ext hXa)
      replace HYY := Lib.hid (HYY.out.ext hXa)
      replace KA := Lib.hid (KA.out.ext hXa)
      replace KB := Lib.hid (KB.out.ext hXa)
      generalize (w16.alloc (.cells #[.bool false, .slice none 0 0, .slice none 0 0] 42)) = w17 at HX HXX HYY KA KB kM ⊢
      have KM := Lib.hid kM
      clear kM hXa
      clear KM
      have cA0 : w17.cell? ⟨w.heap.size, 0, none⟩ = some (.bool s0) := KA.out.cell 0
      have cA1 : w17.cell? ⟨w.heap.size, 1, none⟩ = some (.slice A0 l0 c0) := KA.out.cell 1
      have cA2 : w17.cell? ⟨w.heap.size, 2, none⟩ = some (.slice B0 m0 k0) := KA.out.cell 2
      have cB0 : w17.cell? ⟨(w.heap.size + 1), 0, none⟩ = some (.bool s1) := KB.out.cell 0
      have cB1 : w17.cell? ⟨(w.heap.size + 1), 1, none⟩ = some (.slice A1 l1 c1) := KB.out.cell 1
      have cB2 : w17.cell? ⟨(w.heap.size + 1), 2, none⟩ = some (.slice B1 m1 k1) := KB.out.cell 2
      go_wp2_with fail
      clear cA0 cA1 cA2 cB0 cB1 cB2
      refine (two_nxb s0 A0 B0 l0 c0 m0 k0 s1 A1 B1 l1 c1 m1 k1 0 3 _ HXX.out HYY.out).mono ?_
      unfold RetE
      rintro e w18 ⟨rfl, hX⟩
      replace hX : Ext w17 w18 := by with_reducible exact hX
      replace HX := Lib.hid (HX.out.trans hX)
      replace HXX := Lib.hid (HXX.out.ext hX)
      replace HYY := Lib.hid (HYY.out.ext hX)
      replace KA := Lib.hid (KA.out.ext hX)
      replace KB := Lib.hid (KB.out.ext hX)
      clear hX
      go_upto_region 12 with (fail)
      have hXa : Ext w18 (w18.alloc (.cells #[.bool false, .slice none 0 0, .slice none 0 0] 42)) := (Ext.refl _).alloc _
      have kQ := Blk.new w18 42 #[.bool false, .slice none 0 0, .slice none 0 0]
      have zA := KA.out.lt
      have zB := KB.out.lt
      have zg := HX.out.size
      replace HX := Lib.hid (HX.out.trans hXa)
      replace HXX := Lib.hid (HXX.out.ext hXa)
      replace HYY := Lib.hid (HYY.out.ext hXa)
      replace KA := Lib.hid (KA.out.ext hXa)
      replace KB := Lib.hid (KB.out.ext hXa)
      generalize (w18.alloc (.cells #[.bool false, .slice none 0 0, .slice none 0 0] 42)) = w19 at HX HXX HYY KA KB kQ ⊢
      have KQ := Lib.hid kQ
      clear kQ hXa
      clear KQ
      as_aux_lemma =>
        have cA0 : w19.cell? ⟨w.heap.size, 0, none⟩ = some (.bool s0) := KA.out.cell 0
        have cA1 : w19.cell? ⟨w.heap.size, 1, none⟩ = some (.slice A0 l0 c0) := KA.out.cell 1
        have cA2 : w19.cell? ⟨w.heap.size, 2, none⟩ = some (.slice B0 m0 k0) := KA.out.cell 2
        go_wp2_with fail
        clear cA0 cA1 cA2
        refine (read_no HXX.out).mono ?_
        rintro e w20 ⟨rfl, hX⟩
        replace hX : Ext w19 w20 := by with_reducible exact hX
        replace HX := Lib.hid (HX.out.trans hX)
        replace HXX := Lib.hid (HXX.out.ext hX)
        replace HYY := Lib.hid (HYY.out.ext hX)
        replace KA := Lib.hid (KA.out.ext hX)
        replace KB := Lib.hid (KB.out.ext hX)
        clear hX
        go_upto_region 13 with (fail)
        have hXa : Ext w20 (w20.alloc (.cells #[.bool false, .slice none 0 0, .slice none 0 0] 42)) := (Ext.refl _).alloc _
        have kM := Blk.new w20 42 #[.bool false, .slice none 0 0, .slice none 0 0]
        have zA := KA.out.lt
        have zB := KB.out.lt
        have zg := HX.out.size
        replace HX := Lib.hid (HX.out.trans hXa)
        replace HXX := Lib.hid (HXX.out.ext hXa)
        replace HYY := Lib.hid (HYY.out.ext hXa)
        replace KA := Lib.hid (KA.out.ext hXa)
        replace KB := Lib.hid (KB.out.ext hXa)
        generalize (w20.alloc (.cells #[.bool false, .slice none 0 0, .slice none 0 0] 42)) = w21 at HX HXX HYY KA KB kM ⊢
        have KM := Lib.hid kM
        clear kM hXa
        clear KM
        have cB0 : w21.cell? ⟨(w.heap.size + 1), 0, none⟩ = some (.bool s1) := KB.out.cell 0
        have cB1 : w21.cell? ⟨(w.heap.size + 1), 1, none⟩ = some (.slice A1 l1 c1) := KB.out.cell 1
        have cB2 : w21.cell? ⟨(w.heap.size + 1), 2, none⟩ = some (.slice B1 m1 k1) := KB.out.cell 2
        go_wp2_with fail
        clear cB0 cB1 cB2
        refine (read_no HYY.out).mono ?_
        rintro e w22 ⟨rfl, hX⟩
        replace hX : Ext w21 w22 := by with_reducible exact hX
        replace HX := Lib.hid (HX.out.trans hX)
        replace HXX := Lib.hid (HXX.out.ext hX)
        replace HYY := Lib.hid (HYY.out.ext hX)
        replace KA := Lib.hid (KA.out.ext hX)
        replace KB := Lib.hid (KB.out.ext hX)
        clear hX
        go_upto_region 14 with (fail)
        have hXa : Ext w22 (w22.alloc (.cells #[.bool false, .slice none 0 0, .slice none 0 0] 42)) := (Ext.refl _).alloc _
        have kN := Blk.new w22 42 #[.bool false, .slice none 0 0, .slice none 0 0]
        have zA := KA.out.lt
        have zB := KB.out.lt
        have zg := HX.out.size
        replace HX := Lib.hid (HX.out.trans hXa)
        replace HXX := Lib.hid (HXX.out.ext hXa)
        replace HYY := Lib.hid (HYY.out.ext hXa)
        replace KA := Lib.hid (KA.out.ext hXa)
        replace KB := Lib.hid (KB.out.ext hXa)
        generalize (w22.alloc (.cells #[.bool false, .slice none 0 0, .slice none 0 0] 42)) = w23 at HX HXX HYY KA KB kN ⊢
        have KN := Lib.hid kN
        clear kN hXa
        clear KN
        go_wp2_with fail
        refine (first_any _).mono ?_
        rintro e w24 ⟨rfl, hX⟩
        replace hX : Ext w23 w24 := by with_reducible exact hX
        replace HX := Lib.hid (HX.out.trans hX)
        replace HXX := Lib.hid (HXX.out.ext hX)
        replace HYY := Lib.hid (HYY.out.ext hX)
        replace KA := Lib.hid (KA.out.ext hX)
        replace KB := Lib.hid (KB.out.ext hX)
        clear hX
        go_wp2
        go_ret
        exact ⟨rfl, HX.out⟩

set_option maxRecDepth 100000 in
set_option maxHeartbeats 2000000 in
theorem operates_ls (s0 : Bool) (A0 B0 : Option Addr) (l0 c0 m0 k0 : Nat) (s1 : Bool) (A1 B1 : Option Addr) (l1 c1 m1 k1 : Nat) (n0 n1 : Bool) (xs ys xs' ys' : List Int) (q : Rat) (w : World) (v0 : RatV w (.agg #[.bool s0, .slice A0 l0 c0, .slice B0 m0 k0]) n0 xs ys) (v1 : RatV w (.agg #[.bool s1, .slice A1 l1 c1, .slice B1 m1 k1]) n1 xs' ys') (hx : RatL w (.agg #[.bool s0, .slice A0 l0 c0, .slice B0 m0 k0]) true) (hy : RatG w (.agg #[.bool s1, .slice A1 l1 c1, .slice B1 m1 k1]) q) :
    Calls Try.prog 14 #[.agg #[.bool s0, .slice A0 l0 c0, .slice B0 m0 k0], .agg #[.bool s1, .slice A1 l1 c1, .slice B1 m1 k1]] w (fun e w' => e = .returned (.bool true) ∧ Ext w w') := by
  have HV0 := Lib.hid v0
  have HV1 := Lib.hid v1
  have HXX := Lib.hid hx
  have HYY := Lib.hid hy
  clear v0 v1 hx hy
  have hXe : Ext w (((w.alloc (.cells #[.bool s0, .slice A0 l0 c0, .slice B0 m0 k0] 33)).alloc (.cells #[.bool s1, .slice A1 l1 c1, .slice B1 m1 k1] 33)).alloc (.cells #[.bool s0, .slice A0 l0 c0, .slice B0 m0 k0, .bool s1, .slice A1 l1 c1, .slice B1 m1 k1] 33)) := ((((Ext.refl w).alloc _).alloc _).alloc _)
  have kA : Blk (((w.alloc (.cells #[.bool s0, .slice A0 l0 c0, .slice B0 m0 k0] 33)).alloc (.cells #[.bool s1, .slice A1 l1 c1, .slice B1 m1 k1] 33)).alloc (.cells #[.bool s0, .slice A0 l0 c0, .slice B0 m0 k0, .bool s1, .slice A1 l1 c1, .slice B1 m1 k1] 33)) w.heap.size 33 #[.bool s0, .slice A0 l0 c0, .slice B0 m0 k0] := Blk.alloc (Blk.alloc (Blk.at_ (by simp)) _) _
  have kB : Blk (((w.alloc (.cells #[.bool s0, .slice A0 l0 c0, .slice B0 m0 k0] 33)).alloc (.cells #[.bool s1, .slice A1 l1 c1, .slice B1 m1 k1] 33)).alloc (.cells #[.bool s0, .slice A0 l0 c0, .slice B0 m0 k0, .bool s1, .slice A1 l1 c1, .slice B1 m1 k1] 33)) (w.heap.size + 1) 33 #[.bool s1, .slice A1 l1 c1, .slice B1 m1 k1] := Blk.alloc (Blk.at_ (by simp)) _
  have kH : Blk (((w.alloc (.cells #[.bool s0, .slice A0 l0 c0, .slice B0 m0 k0] 33)).alloc (.cells #[.bool s1, .slice A1 l1 c1, .slice B1 m1 k1] 33)).alloc (.cells #[.bool s0, .slice A0 l0 c0, .slice B0 m0 k0, .bool s1, .slice A1 l1 c1, .slice B1 m1 k1] 33)) (w.heap.size + 2) 33 #[.bool s0, .slice A0 l0 c0, .slice B0 m0 k0, .bool s1, .slice A1 l1 c1, .slice B1 m1 k1] := Blk.at_ (by simp)
  go_enter Try.func14, Try.ntmps14
  go_wp2_with fail
  generalize (((w.alloc (.cells #[.bool s0, .slice A0 l0 c0, .slice B0 m0 k0] 33)).alloc (.cells #[.bool s1, .slice A1 l1 c1, .slice B1 m1 k1] 33)).alloc (.cells #[.bool s0, .slice A0 l0 c0, .slice B0 m0 k0, .bool s1, .slice A1 l1 c1, .slice B1 m1 k1] 33)) = w1 at hXe kA kB kH ⊢
  have HX := Lib.hid hXe
  clear hXe
  have KA := Lib.hid kA
  clear kA
  have KB := Lib.hid kB
  clear kB
  have KH := Lib.hid kH
  clear kH
  replace HV0 := Lib.hid (HV0.out.ext HX.out)
  replace HV1 := Lib.hid (HV1.out.ext HX.out)
  replace HXX := Lib.hid (HXX.out.ext HX.out)
  replace HYY := Lib.hid (HYY.out.ext HX.out)
  refine (heavy_any _ 2 _ (ratsAt_two KH.out HV0.out HV1.out) (by omega)).mono ?_
  rintro e w2 ⟨b9, rfl, hX⟩
  replace hX : Ext w1 w2 := by with_reducible exact hX
  replace HX := Lib.hid (HX.out.trans hX)
  replace HV0 := Lib.hid (HV0.out.ext hX)
  replace HV1 := Lib.hid (HV1.out.ext hX)
  replace HXX := Lib.hid (HXX.out.ext hX)
  replace HYY := Lib.hid (HYY.out.ext hX)
  replace KA := Lib.hid (KA.out.ext hX)
  replace KB := Lib.hid (KB.out.ext hX)
  replace KH := Lib.hid (KH.out.ext hX)
  clear hX
  clear KH
  clear HV0
  clear HV1
  by_cases hb9 : b9 = true
  · subst hb9
    go_wp2_with fail
    refine (first_any _).mono ?_
    rintro e w3 ⟨rfl, hX⟩
    replace hX : Ext w2 w3 := by with_reducible exact hX
    replace HX := Lib.hid (HX.out.trans hX)
    replace HXX := Lib.hid (HXX.out.ext hX)
    replace HYY := Lib.hid (HYY.out.ext hX)
    replace KA := Lib.hid (KA.out.ext hX)
    replace KB := Lib.hid (KB.out.ext hX)
    clear hX
    go_wp2
    go_ret
    exact ⟨rfl, HX.out⟩
  · have hb8 : b9 = false := by simpa using hb9
    clear hb9
    subst hb8
    have cA0 : w2.cell? ⟨w.heap.size, 0, none⟩ = some (.bool s0) := KA.out.cell 0
    have cA1 : w2.cell? ⟨w.heap.size, 1, none⟩ = some (.slice A0 l0 c0) := KA.out.cell 1
    have cA2 : w2.cell? ⟨w.heap.size, 2, none⟩ = some (.slice B0 m0 k0) := KA.out.cell 2
    have cB0 : w2.cell? ⟨(w.heap.size + 1), 0, none⟩ = some (.bool s1) := KB.out.cell 0
    have cB1 : w2.cell? ⟨(w.heap.size + 1), 1, none⟩ = some (.slice A1 l1 c1) := KB.out.cell 1
    have cB2 : w2.cell? ⟨(w.heap.size + 1), 2, none⟩ = some (.slice B1 m1 k1) := KB.out.cell 2
    go_wp2_with fail
    clear cA0 cA1 cA2 cB0 cB1 cB2
    refine (addL HXX.out HYY.out.small rfl).mono ?_
    unfold RetE zeroR
    rintro e w3 ⟨rfl, hX⟩
    replace hX : Ext w2 w3 := by with_reducible exact hX
    replace HX := Lib.hid (HX.out.trans hX)
    replace HXX := Lib.hid (HXX.out.ext hX)
    replace HYY := Lib.hid (HYY.out.ext hX)
    replace KA := Lib.hid (KA.out.ext hX)
    replace KB := Lib.hid (KB.out.ext hX)
    clear hX
    go_upto_region 4 with (fail)
    have hXa : Ext w3 (w3.alloc (.cells #[.bool false, .slice none 0 0, .slice none 0 0] 33)) := (Ext.refl _).alloc _
    have kS := Blk.new w3 33 #[.bool false, .slice none 0 0, .slice none 0 0]
    have zA := KA.out.lt
    have zB := KB.out.lt
    have zg := HX.out.size
    replace HX := Lib.hid (HX.out.trans hXa)
    replace HXX := Lib.hid (HXX.out.ext hXa)
    replace HYY := Lib.hid (HYY.out.ext hXa)
    replace KA := Lib.hid (KA.out.ext hXa)
    replace KB := Lib.hid (KB.out.ext hXa)
    generalize (w3.alloc (.cells #[.bool false, .slice none 0 0, .slice none 0 0] 33)) = w4 at HX HXX HYY KA KB kS ⊢
    have KS := Lib.hid kS
    clear kS hXa
    clear KS
    have cA0 : w4.cell? ⟨w.heap.size, 0, none⟩ = some (.bool s0) := KA.out.cell 0
    have cA1 : w4.cell? ⟨w.heap.size, 1, none⟩ = some (.slice A0 l0 c0) := KA.out.cell 1
    have cA2 : w4.cell? ⟨w.heap.size, 2, none⟩ = some (.slice B0 m0 k0) := KA.out.cell 2
    have cB0 : w4.cell? ⟨(w.heap.size + 1), 0, none⟩ = some (.bool s1) := KB.out.cell 0
    have cB1 : w4.cell? ⟨(w.heap.size + 1), 1, none⟩ = some (.slice A1 l1 c1) := KB.out.cell 1
    have cB2 : w4.cell? ⟨(w.heap.size + 1), 2, none⟩ = some (.slice B1 m1 k1) := KB.out.cell 2
    go_wp2_with fail
    clear cA0 cA1 cA2 cB0 cB1 cB2
    refine (subL HXX.out HYY.out.small rfl).mono ?_
    unfold RetE zeroR
    rintro e w5 ⟨rfl, hX⟩
    replace hX : Ext w4 w5 := by with_reducible exact hX
    replace HX := Lib.hid (HX.out.trans hX)
    replace HXX := Lib.hid (HXX.out.ext hX)
    replace HYY := Lib.hid (HYY.out.ext hX)
    replace KA := Lib.hid (KA.out.ext hX)
    replace KB := Lib.hid (KB.out.ext hX)
    clear hX
    go_upto_region 5 with (fail)
    have hXa : Ext w5 (w5.alloc (.cells #[.bool false, .slice none 0 0, .slice none 0 0] 33)) := (Ext.refl _).alloc _
    have kD := Blk.new w5 33 #[.bool false, .slice none 0 0, .slice none 0 0]
    have zA := KA.out.lt
    have zB := KB.out.lt
    have zg := HX.out.size
    replace HX := Lib.hid (HX.out.trans hXa)
    replace HXX := Lib.hid (HXX.out.ext hXa)
    replace HYY := Lib.hid (HYY.out.ext hXa)
    replace KA := Lib.hid (KA.out.ext hXa)
    replace KB := Lib.hid (KB.out.ext hXa)
    generalize (w5.alloc (.cells #[.bool false, .slice none 0 0, .slice none 0 0] 33)) = w6 at HX HXX HYY KA KB kD ⊢
    have KD := Lib.hid kD
    clear kD hXa
    clear KD
    have cA0 : w6.cell? ⟨w.heap.size, 0, none⟩ = some (.bool s0) := KA.out.cell 0
    have cA1 : w6.cell? ⟨w.heap.size, 1, none⟩ = some (.slice A0 l0 c0) := KA.out.cell 1
    have cA2 : w6.cell? ⟨w.heap.size, 2, none⟩ = some (.slice B0 m0 k0) := KA.out.cell 2
    have cB0 : w6.cell? ⟨(w.heap.size + 1), 0, none⟩ = some (.bool s1) := KB.out.cell 0
    have cB1 : w6.cell? ⟨(w.heap.size + 1), 1, none⟩ = some (.slice A1 l1 c1) := KB.out.cell 1
    have cB2 : w6.cell? ⟨(w.heap.size + 1), 2, none⟩ = some (.slice B1 m1 k1) := KB.out.cell 2
    go_wp2_with fail
    clear cA0 cA1 cA2 cB0 cB1 cB2
    refine (mulL HXX.out HYY.out.small rfl).mono ?_
    unfold RetE zeroR
    rintro e w7 ⟨rfl, hX⟩
    replace hX : Ext w6 w7 := by with_reducible exact hX
    replace HX := Lib.hid (HX.out.trans hX)
    replace HXX := Lib.hid (HXX.out.ext hX)
    replace HYY := Lib.hid (HYY.out.ext hX)
    replace KA := Lib.hid (KA.out.ext hX)
    replace KB := Lib.hid (KB.out.ext hX)
    clear hX
    go_upto_region 6 with (fail)
    have hXa : Ext w7 (w7.alloc (.cells #[.bool false, .slice none 0 0, .slice none 0 0] 33)) := (Ext.refl _).alloc _
    have kM := Blk.new w7 33 #[.bool false, .slice none 0 0, .slice none 0 0]
    have zA := KA.out.lt
    have zB := KB.out.lt
    have zg := HX.out.size
    replace HX := Lib.hid (HX.out.trans hXa)
    replace HXX := Lib.hid (HXX.out.ext hXa)
    replace HYY := Lib.hid (HYY.out.ext hXa)
    replace KA := Lib.hid (KA.out.ext hXa)
    replace KB := Lib.hid (KB.out.ext hXa)
    generalize (w7.alloc (.cells #[.bool false, .slice none 0 0, .slice none 0 0] 33)) = w8 at HX HXX HYY KA KB kM ⊢
    have KM := Lib.hid kM
    clear kM hXa
    clear KM
    have cA0 : w8.cell? ⟨w.heap.size, 0, none⟩ = some (.bool s0) := KA.out.cell 0
    have cA1 : w8.cell? ⟨w.heap.size, 1, none⟩ = some (.slice A0 l0 c0) := KA.out.cell 1
    have cA2 : w8.cell? ⟨w.heap.size, 2, none⟩ = some (.slice B0 m0 k0) := KA.out.cell 2
    have cB0 : w8.cell? ⟨(w.heap.size + 1), 0, none⟩ = some (.bool s1) := KB.out.cell 0
    have cB1 : w8.cell? ⟨(w.heap.size + 1), 1, none⟩ = some (.slice A1 l1 c1) := KB.out.cell 1
    have cB2 : w8.cell? ⟨(w.heap.size + 1), 2, none⟩ = some (.slice B1 m1 k1) := KB.out.cell 2
    go_wp2_with fail
    clear cA0 cA1 cA2 cB0 cB1 cB2
    refine (divL HXX.out HYY.out.small rfl).mono ?_
    unfold RetE zeroR
    rintro e w9 ⟨rfl, hX⟩
    replace hX : Ext w8 w9 := by with_reducible exact hX
    replace HX := Lib.hid (HX.out.trans hX)
    replace HXX := Lib.hid (HXX.out.ext hX)
    replace HYY := Lib.hid (HYY.out.ext hX)
    replace KA := Lib.hid (KA.out.ext hX)
    replace KB := Lib.hid (KB.out.ext hX)
    clear hX
    go_upto_region 7 with (fail)
    have hXa : Ext w9 (w9.alloc (.cells #[.bool false, .slice none 0 0, .slice none 0 0] 33)) := (Ext.refl _).alloc _
    have kQ := Blk.new w9 33 #[.bool false, .slice none 0 0, .slice none 0 0]
    have zA := KA.out.lt
    have zB := KB.out.lt
    have zg := HX.out.size
    replace HX := Lib.hid (HX.out.trans hXa)
    replace HXX := Lib.hid (HXX.out.ext hXa)
    replace HYY := Lib.hid (HYY.out.ext hXa)
    replace KA := Lib.hid (KA.out.ext hXa)
    replace KB := Lib.hid (KB.out.ext hXa)
    generalize (w9.alloc (.cells #[.bool false, .slice none 0 0, .slice none 0 0] 33)) = w10 at HX HXX HYY KA KB kQ ⊢
    have KQ := Lib.hid kQ
    clear kQ hXa
    clear KQ
    have cA0 : w10.cell? ⟨w.heap.size, 0, none⟩ = some (.bool s0) := KA.out.cell 0
    have cA1 : w10.cell? ⟨w.heap.size, 1, none⟩ = some (.slice A0 l0 c0) := KA.out.cell 1
    have cA2 : w10.cell? ⟨w.heap.size, 2, none⟩ = some (.slice B0 m0 k0) := KA.out.cell 2
    have cB0 : w10.cell? ⟨(w.heap.size + 1), 0, none⟩ = some (.bool s1) := KB.out.cell 0
    have cB1 : w10.cell? ⟨(w.heap.size + 1), 1, none⟩ = some (.slice A1 l1 c1) := KB.out.cell 1
    have cB2 : w10.cell? ⟨(w.heap.size + 1), 2, none⟩ = some (.slice B1 m1 k1) := KB.out.cell 2
    go_wp2_with fail
    clear cA0 cA1 cA2 cB0 cB1 cB2
    refine (cmpL HXX.out HYY.out.small rfl).mono ?_
    unfold RetE
    rintro e w11 ⟨rfl, hX⟩
    replace hX : Ext w10 w11 := by with_reducible exact hX
    replace HX := Lib.hid (HX.out.trans hX)
    replace HXX := Lib.hid (HXX.out.ext hX)
    replace HYY := Lib.hid (HYY.out.ext hX)
    replace KA := Lib.hid (KA.out.ext hX)
    replace KB := Lib.hid (KB.out.ext hX)
    clear hX
    as_aux_lemma =>
      have cA0 : w11.cell? ⟨w.heap.size, 0, none⟩ = some (.bool s0) := KA.out.cell 0
      have cA1 : w11.cell? ⟨w.heap.size, 1, none⟩ = some (.slice A0 l0 c0) := KA.out.cell 1
      have cA2 : w11.cell? ⟨w.heap.size, 2, none⟩ = some (.slice B0 m0 k0) := KA.out.cell 2
      have cB0 : w11.cell? ⟨(w.heap.size + 1), 0, none⟩ = some (.bool s1) := KB.out.cell 0
      have cB1 : w11.cell? ⟨(w.heap.size + 1), 1, none⟩ = some (.slice A1 l1 c1) := KB.out.cell 1
      have cB2 : w11.cell? ⟨(w.heap.size + 1), 2, none⟩ = some (.slice B1 m1 k1) := KB.out.cell 2
      go_wp2_with fail
      clear cA0 cA1 cA2 cB0 cB1 cB2
      refine (two_nxs s0 A0 B0 l0 c0 m0 k0 s1 A1 B1 l1 c1 m1 k1 q 0 _ HXX.out HYY.out).mono ?_
      unfold RetE
      rintro e w12 ⟨rfl, hX⟩
      replace hX : Ext w11 w12 := by with_reducible exact hX
      replace HX := Lib.hid (HX.out.trans hX)
      replace HXX := Lib.hid (HXX.out.ext hX)
      replace HYY := Lib.hid (HYY.out.ext hX)
      replace KA := Lib.hid (KA.out.ext hX)
      replace KB := Lib.hid (KB.out.ext hX)
      clear hX
      go_upto_region 9 with (fail)
      have hXa : Ext w12 (w12.alloc (.cells #[.bool false, .slice none 0 0, .slice none 0 0] 42)) := (Ext.refl _).alloc _
      have kS := Blk.new w12 42 #[.bool false, .slice none 0 0, .slice none 0 0]
      have zA := KA.out.lt
      have zB := KB.out.lt
      have zg := HX.out.size
      replace HX := Lib.hid (HX.out.trans hXa)
      replace HXX := Lib.hid (HXX.out.ext hXa)
      replace HYY := Lib.hid (HYY.out.ext hXa)
      replace KA := Lib.hid (KA.out.ext hXa)
      replace KB := Lib.hid (KB.out.ext hXa)
      generalize (w12.alloc (.cells #[.bool false, .slice none 0 0, .slice none 0 0] 42)) = w13 at HX HXX HYY KA KB kS ⊢
      have KS := Lib.hid kS
      clear kS hXa
      clear KS
      have cA0 : w13.cell? ⟨w.heap.size, 0, none⟩ = some (.bool s0) := KA.out.cell 0
      have cA1 : w13.cell? ⟨w.heap.size, 1, none⟩ = some (.slice A0 l0 c0) := KA.out.cell 1
      have cA2 : w13.cell? ⟨w.heap.size, 2, none⟩ = some (.slice B0 m0 k0) := KA.out.cell 2
      have cB0 : w13.cell? ⟨(w.heap.size + 1), 0, none⟩ = some (.bool s1) := KB.out.cell 0
      have cB1 : w13.cell? ⟨(w.heap.size + 1), 1, none⟩ = some (.slice A1 l1 c1) := KB.out.cell 1
      have cB2 : w13.cell? ⟨(w.heap.size + 1), 2, none⟩ = some (.slice B1 m1 k1) := KB.out.cell 2
      go_wp2_with fail
      clear cA0 cA1 cA2 cB0 cB1 cB2
      refine (two_nxs s0 A0 B0 l0 c0 m0 k0 s1 A1 B1 l1 c1 m1 k1 q 1 _ HXX.out HYY.out).mono ?_
      unfold RetE
      rintro e w14 ⟨rfl, hX⟩
      replace hX : Ext w13 w14 := by with_reducible exact hX
      replace HX := Lib.hid (HX.out.trans hX)
      replace HXX := Lib.hid (HXX.out.ext hX)
      replace HYY := Lib.hid (HYY.out.ext hX)
      replace KA := Lib.hid (KA.out.ext hX)
      replace KB := Lib.hid (KB.out.ext hX)
      clear hX
      go_upto_region 10 with (fail)
      have hXa : Ext w14 (w14.alloc (.cells #[.bool false, .slice none 0 0, .slice none 0 0] 42)) := (Ext.refl _).alloc _
      have kD := Blk.new w14 42 #[.bool false, .slice none 0 0, .slice none 0 0]
      have zA := KA.out.lt
      have zB := KB.out.lt
      have zg := HX.out.size
      replace HX := Lib.hid (HX.out.trans hXa)
      replace HXX := Lib.hid (HXX.out.ext hXa)
      replace HYY := Lib.hid (HYY.out.ext hXa)
      replace KA := Lib.hid (KA.out.ext hXa)
      replace KB := Lib.hid (KB.out.ext hXa)
      generalize (w14.alloc (.cells #[.bool false, .slice none 0 0, .slice none 0 0] 42)) = w15 at HX HXX HYY KA KB kD ⊢
      have KD := Lib.hid kD
      clear kD hXa
      clear KD
      have cA0 : w15.cell? ⟨w.heap.size, 0, none⟩ = some (.bool s0) := KA.out.cell 0
      have cA1 : w15.cell? ⟨w.heap.size, 1, none⟩ = some (.slice A0 l0 c0) := KA.out.cell 1
      have cA2 : w15.cell? ⟨w.heap.size, 2, none⟩ = some (.slice B0 m0 k0) := KA.out.cell 2
      have cB0 : w15.cell? ⟨(w.heap.size + 1), 0, none⟩ = some (.bool s1) := KB.out.cell 0
      have cB1 : w15.cell? ⟨(w.heap.size + 1), 1, none⟩ = some (.slice A1 l1 c1) := KB.out.cell 1
      have cB2 : w15.cell? ⟨(w.heap.size + 1), 2, none⟩ = some (.slice B1 m1 k1) := KB.out.cell 2
      go_wp2_with fail
      clear cA0 cA1 cA2 cB0 cB1 cB2
      refine (two_nxs s0 A0 B0 l0 c0 m0 k0 s1 A1 B1 l1 c1 m1 k1 q 2 _ HXX.out HYY.out).mono ?_
      unfold RetE
      rintro e w16 ⟨rfl, hX⟩
      replace hX : Ext w15 w16 := by with_reducible exact hX
      replace HX := Lib.hid (HX.out.trans hX)
      replace HXX := Lib.hid (HXX.out.ext hX)
      replace HYY := Lib.hid (HYY.out.ext hX)
      replace KA := Lib.hid (KA.out.ext hX)
      replace KB := Lib.hid (KB.out.ext hX)
      clear hX
      go_upto_region 11 with (fail)
      have hXa : Ext w16 (w16.alloc (.cells #[.bool false, .slice none 0 0, .slice none 0 0] 42)) := (Ext.refl _).alloc _
      have kM := Blk.new w16 42 #[.bool false, .slice none 0 0, .slice none 0 0]
      have zA := KA.out.lt
      have zB := KB.out.lt
      have zg := HX.out.size
      replace HX := Lib.hid (HX.out.trans hXa)
      replace HXX := Lib.hid (HXX.out.ext hXa)
      replace HYY := Lib.hid (HYY.out.ext hXa)
      replace KA := Lib.hid (KA.out.ext hXa)
      replace KB := Lib.hid (KB.out.ext hXa)
      generalize (w16.alloc (.cells #[.bool false, .slice none 0 0, .slice none 0 0] 42)) = w17 at HX HXX HYY KA KB kM ⊢
      have KM := Lib.hid kM
      clear kM hXa
      clear KM
      have cA0 : w17.cell? ⟨w.heap.size, 0, none⟩ = some (.bool s0) := KA.out.cell 0
      have cA1 : w17.cell? ⟨w.heap.size, 1, none⟩ = some (.slice A0 l0 c0) := KA.out.cell 1
      have cA2 : w17.cell? ⟨w.heap.size, 2, none⟩ = some (.slice B0 m0 k0) := KA.out.cell 2
      have cB0 : w17.cell? ⟨(w.heap.size + 1), 0, none⟩ = some (.bool s1) := KB.out.cell 0
      have cB1 : w17.cell? ⟨(w.heap.size + 1), 1, none⟩ = some (.slice A1 l1 c1) := KB.out.cell 1
      have cB2 : w17.cell? ⟨(w.heap.size + 1), 2, none⟩ = some (.slice B1 m1 k1) := KB.out.cell 2
      go_wp2_with fail
      clear cA0 cA1 cA2 cB0 cB1 cB2
      refine (two_nxs s0 A0 B0 l0 c0 m0 k0 s1 A1 B1 l1 c1 m1 k1 q 3 _ HXX.out HYY.out).mono ?_
      unfold RetE
      rintro e w18 ⟨rfl, hX⟩
      replace hX : Ext w17 w18 := by with_reducible exact hX
      replace HX := Lib.hid (HX.out.trans hX)
      replace HXX := Lib.hid (HXX.out.ext hX)
      replace HYY := Lib.hid (HYY.out.ext hX)
      replace KA := Lib.hid (KA.out.ext hX)
      replace KB := Lib.hid (KB.out.ext hX)
      clear hX
      go_upto_region 12 with (fail)
      have hXa : Ext w18 (w18.alloc (.cells #[.bool false, .slice none 0 0, .slice none 0 0] 42)) := (Ext.refl _).alloc _
      have kQ := Blk.new w18 42 #[.bool false, .slice none 0 0, .slice none 0 0]
      have zA := KA.out.lt
      have zB := KB.out.lt
      have zg := HX.out.size
      replace HX := Lib.hid (HX.out.trans hXa)
      replace HXX := Lib.hid (HXX.out.ext hXa)
      replace HYY := Lib.hid (HYY.out.ext hXa)
      replace KA := Lib.hid (KA.out.ext hXa)
      replace KB := Lib.hid (KB.out.ext hXa)
      generalize (w18.alloc (.cells #[.bool false, .slice none 0 0, .slice none 0 0] 42)) = w19 at HX HXX HYY KA KB kQ ⊢
      have KQ := Lib.hid kQ
      clear kQ hXa
      clear KQ
      as_aux_lemma =>
        have cA0 : w19.cell? ⟨w.heap.size, 0, none⟩ = some (.bool s0) := KA.out.cell 0
        have cA1 : w19.cell? ⟨w.heap.size, 1, none⟩ = some (.slice A0 l0 c0) := KA.out.cell 1
        have cA2 : w19.cell? ⟨w.heap.size, 2, none⟩ = some (.slice B0 m0 k0) := KA.out.cell 2
        go_wp2_with fail
        clear cA0 cA1 cA2
        refine (read_no HXX.out).mono ?_
        rintro e w20 ⟨rfl, hX⟩
        replace hX : Ext w19 w20 := by with_reducible exact hX
        replace HX := Lib.hid (HX.out.trans hX)
        replace HXX := Lib.hid (HXX.out.ext hX)
        replace HYY := Lib.hid (HYY.out.ext hX)
        replace KA := Lib.hid (KA.out.ext hX)
        replace KB := Lib.hid (KB.out.ext hX)
        clear hX
        go_upto_region 13 with (fail)
        have hXa : Ext w20 (w20.alloc (.cells #[.bool false, .slice none 0 0, .slice none 0 0] 42)) := (Ext.refl _).alloc _
        have kM := Blk.new w20 42 #[.bool false, .slice none 0 0, .slice none 0 0]
        have zA := KA.out.lt
        have zB := KB.out.lt
        have zg := HX.out.size
        replace HX := Lib.hid (HX.out.trans hXa)
        replace HXX := Lib.hid (HXX.out.ext hXa)
        replace HYY := Lib.hid (HYY.out.ext hXa)
        replace KA := Lib.hid (KA.out.ext hXa)
        replace KB := Lib.hid (KB.out.ext hXa)
        generalize (w20.alloc (.cells #[.bool false, .slice none 0 0, .slice none 0 0] 42)) = w21 at HX HXX HYY KA KB kM ⊢
        have KM := Lib.hid kM
        clear kM hXa
        clear KM
        have cB0 : w21.cell? ⟨(w.heap.size + 1), 0, none⟩ = some (.bool s1) := KB.out.cell 0
        have cB1 : w21.cell? ⟨(w.heap.size + 1), 1, none⟩ = some (.slice A1 l1 c1) := KB.out.cell 1
        have cB2 : w21.cell? ⟨(w.heap.size + 1), 2, none⟩ = some (.slice B1 m1 k1) := KB.out.cell 2
        go_wp2_with fail
        clear cB0 cB1 cB2
        refine (read_ok HYY.out).mono ?_
        rintro e w22 ⟨v6, rfl, hv, hX⟩
        replace hX : Ext w21 w22 := by with_reducible exact hX
        replace HX := Lib.hid (HX.out.trans hX)
        replace HXX := Lib.hid (HXX.out.ext hX)
        replace HYY := Lib.hid (HYY.out.ext hX)
        replace KA := Lib.hid (KA.out.ext hX)
        replace KB := Lib.hid (KB.out.ext hX)
        clear hX
        obtain ⟨s6, A6, l6, c6, B6, m6, k6, rfl⟩ := QZ.open hv
        clear hv
        go_upto_region 14 with (fail)
        have hXa : Ext w22 (w22.alloc (.cells #[.bool s6, .slice A6 l6 c6, .slice B6 m6 k6] 42)) := (Ext.refl _).alloc _
        have kN := Blk.new w22 42 #[.bool s6, .slice A6 l6 c6, .slice B6 m6 k6]
        have zA := KA.out.lt
        have zB := KB.out.lt
        have zg := HX.out.size
        replace HX := Lib.hid (HX.out.trans hXa)
        replace HXX := Lib.hid (HXX.out.ext hXa)
        replace HYY := Lib.hid (HYY.out.ext hXa)
        replace KA := Lib.hid (KA.out.ext hXa)
        replace KB := Lib.hid (KB.out.ext hXa)
        generalize (w22.alloc (.cells #[.bool s6, .slice A6 l6 c6, .slice B6 m6 k6] 42)) = w23 at HX HXX HYY KA KB kN ⊢
        have KN := Lib.hid kN
        clear kN hXa
        clear KN
        go_wp2_with fail
        refine (first_any _).mono ?_
        rintro e w24 ⟨rfl, hX⟩
        replace hX : Ext w23 w24 := by with_reducible exact hX
        replace HX := Lib.hid (HX.out.trans hX)
        replace HXX := Lib.hid (HXX.out.ext hX)
        replace HYY := Lib.hid (HYY.out.ext hX)
        replace KA := Lib.hid (KA.out.ext hX)
        replace KB := Lib.hid (KB.out.ext hX)
        clear hX
        go_wp2
        go_ret
        exact ⟨rfl, HX.out⟩

set_option maxRecDepth 100000 in
set_option maxHeartbeats 2000000 in
theorem operates_sl (s0 : Bool) (A0 B0 : Option Addr) (l0 c0 m0 k0 : Nat) (s1 : Bool) (A1 B1 : Option Addr) (l1 c1 m1 k1 : Nat) (n0 n1 : Bool) (xs ys xs' ys' : List Int) (q : Rat) (w : World) (v0 : RatV w (.agg #[.bool s0, .slice A0 l0 c0, .slice B0 m0 k0]) n0 xs ys) (v1 : RatV w (.agg #[.bool s1, .slice A1 l1 c1, .slice B1 m1 k1]) n1 xs' ys') (hx : RatG w (.agg #[.bool s0, .slice A0 l0 c0, .slice B0 m0 k0]) q) (hy : RatL w (.agg #[.bool s1, .slice A1 l1 c1, .slice B1 m1 k1]) true) :
    Calls Try.prog 14 #[.agg #[.bool s0, .slice A0 l0 c0, .slice B0 m0 k0], .agg #[.bool s1, .slice A1 l1 c1, .slice B1 m1 k1]] w (fun e w' => e = .returned (.bool true) ∧ Ext w w') := by
  have HV0 := Lib.hid v0
  have HV1 := Lib.hid v1
  have HXX := Lib.hid hx
  have HYY := Lib.hid hy
  clear v0 v1 hx hy
  have hXe : Ext w (((w.alloc (.cells #[.bool s0, .slice A0 l0 c0, .slice B0 m0 k0] 33)).alloc (.cells #[.bool s1, .slice A1 l1 c1, .slice B1 m1 k1] 33)).alloc (.cells #[.bool s0, .slice A0 l0 c0, .slice B0 m0 k0, .bool s1, .slice A1 l1 c1, .slice B1 m1 k1] 33)) := ((((Ext.refl w).alloc _).alloc _).alloc _)
  have kA : Blk (((w.alloc (.cells #[.bool s0, .slice A0 l0 c0, .slice B0 m0 k0] 33)).alloc (.cells #[.bool s1, .slice A1 l1 c1, .slice B1 m1 k1] 33)).alloc (.cells #[.bool s0, .slice A0 l0 c0, .slice B0 m0 k0, .bool s1, .slice A1 l1 c1, .slice B1 m1 k1] 33)) w.heap.size 33 #[.bool s0, .slice A0 l0 c0, .slice B0 m0 k0] := Blk.alloc (Blk.alloc (Blk.at_ (by simp)) _) _
  have kB : Blk (((w.alloc (.cells #[.bool s0, .slice A0 l0 c0, .slice B0 m0 k0] 33)).alloc (.cells #[.bool s1, .slice A1 l1 c1, .slice B1 m1 k1] 33)).alloc (.cells #[.bool s0, .slice A0 l0 c0, .slice B0 m0 k0, .bool s1, .slice A1 l1 c1, .slice B1 m1 k1] 33)) (w.heap.size + 1) 33 #[.bool s1, .slice A1 l1 c1, .slice B1 m1 k1] := Blk.alloc (Blk.at_ (by simp)) _
  have kH : Blk (((w.alloc (.cells #[.bool s0, .slice A0 l0 c0, .slice B0 m0 k0] 33)).alloc (.cells #[.bool s1, .slice A1 l1 c1, .slice B1 m1 k1] 33)).alloc (.cells #[.bool s0, .slice A0 l0 c0, .slice B0 m0 k0, .bool s1, .slice A1 l1 c1, .slice B1 m1 k1] 33)) (w.heap.size + 2) 33 #[.bool s0, .slice A0 l0 c0, .slice B0 m0 k0, .bool s1, .slice A1 l1 c1, .slice B1 m1 k1] := Blk.at_ (by simp)
  go_enter Try.func14, Try.ntmps14
  go_wp2_with fail
  generalize (((w.alloc (.cells #[.bool s0, .slice A0 l0 c0, .slice B0 m0 k0] 33)).alloc (.cells #[.bool s1, .slice A1 l1 c1, .slice B1 m1 k1] 33)).alloc (.cells #[.bool s0, .slice A0 l0 c0, .slice B0 m0 k0, .bool s1, .slice A1 l1 c1, .slice B1 m1 k1] 33)) = w1 at hXe kA kB kH ⊢
  have HX := Lib.hid hXe
  clear hXe
  have KA := Lib.hid kA
  clear kA
  have KB := Lib.hid kB
  clear kB
  have KH := Lib.hid kH
  clear kH
  replace HV0 := Lib.hid (HV0.out.ext HX.out)
  replace HV1 := Lib.hid (HV1.out.ext HX.out)
  replace HXX := Lib.hid (HXX.out.ext HX.out)
  replace HYY := Lib.hid (HYY.out.ext HX.out)
  refine (heavy_any _ 2 _ (ratsAt_two KH.out HV0.out HV1.out) (by omega)).mono ?_
  rintro e w2 ⟨b9, rfl, hX⟩
  replace hX : Ext w1 w2 := by with_reducible exact hX
  replace HX := Lib.hid (HX.out.trans hX)
  replace HV0 := Lib.hid (HV0.out.ext hX)
  replace HV1 := Lib.hid (HV1.out.ext hX)
  replace HXX := Lib.hid (HXX.out.ext hX)
  replace HYY := Lib.hid (HYY.out.ext hX)
  replace KA := Lib.hid (KA.out.ext hX)
  replace KB := Lib.hid (KB.out.ext hX)
  replace KH := Lib.hid (KH.out.ext hX)
  clear hX
  clear KH
  clear HV0
  clear HV1
  by_cases hb9 : b9 = true
  · subst hb9
    go_wp2_with fail
    refine (first_any _).mono ?_
    rintro e w3 ⟨rfl, hX⟩
    replace hX : Ext w2 w3 := by with_reducible exact hX
    replace HX := Lib.hid (HX.out.trans hX)
    replace HXX := Lib.hid (HXX.out.ext hX)
    replace HYY := Lib.hid (HYY.out.ext hX)
    replace KA := Lib.hid (KA.out.ext hX)
    replace KB := Lib.hid (KB.out.ext hX)
    clear hX
    go_wp2
    go_ret
    exact ⟨rfl, HX.out⟩
  · have hb8 : b9 = false := by simpa using hb9
    clear hb9
    subst hb8
    have cA0 : w2.cell? ⟨w.heap.size, 0, none⟩ = some (.bool s0) := KA.out.cell 0
    have cA1 : w2.cell? ⟨w.heap.size, 1, none⟩ = some (.slice A0 l0 c0) := KA.out.cell 1
    have cA2 : w2.cell? ⟨w.heap.size, 2, none⟩ = some (.slice B0 m0 k0) := KA.out.cell 2
    have cB0 : w2.cell? ⟨(w.heap.size + 1), 0, none⟩ = some (.bool s1) := KB.out.cell 0
    have cB1 : w2.cell? ⟨(w.heap.size + 1), 1, none⟩ = some (.slice A1 l1 c1) := KB.out.cell 1
    have cB2 : w2.cell? ⟨(w.heap.size + 1), 2, none⟩ = some (.slice B1 m1 k1) := KB.out.cell 2
    go_wp2_with fail
    clear cA0 cA1 cA2 cB0 cB1 cB2
    refine (addL HXX.out.small HYY.out rfl).mono ?_
    unfold RetE zeroR
    rintro e w3 ⟨rfl, hX⟩
    replace hX : Ext w2 w3 := by with_reducible exact hX
    replace HX := Lib.hid (HX.out.trans hX)
    replace HXX := Lib.hid (HXX.out.ext hX)
    replace HYY := Lib.hid (HYY.out.ext hX)
    replace KA := Lib.hid (KA.out.ext hX)
    replace KB := Lib.hid (KB.out.ext hX)
    clear hX
    go_upto_region 4 with (fail)
    have hXa : Ext w3 (w3.alloc (.cells #[.bool false, .slice none 0 0, .slice none 0 0] 33)) := (Ext.refl _).alloc _
    have kS := Blk.new w3 33 #[.bool false, .slice none 0 0, .slice none 0 0]
    have zA := KA.out.lt
    have zB := KB.out.lt
    have zg := HX.out.size
    replace HX := Lib.hid (HX.out.trans hXa)
    replace HXX := Lib.hid (HXX.out.ext hXa)
    replace HYY := Lib.hid (HYY.out.ext hXa)
    replace KA := Lib.hid (KA.out.ext hXa)
    replace KB := Lib.hid (KB.out.ext hXa)
    generalize (w3.alloc (.cells #[.bool false, .slice none 0 0, .slice none 0 0] 33)) = w4 at HX HXX HYY KA KB kS ⊢
    have KS := Lib.hid kS
    clear kS hXa
    clear KS
    have cA0 : w4.cell? ⟨w.heap.size, 0, none⟩ = some (.bool s0) := KA.out.cell 0
    have cA1 : w4.cell? ⟨w.heap.size, 1, none⟩ = some (.slice A0 l0 c0) := KA.out.cell 1
    have cA2 : w4.cell? ⟨w.heap.size, 2, none⟩ = some (.slice B0 m0 k0) := KA.out.cell 2
    have cB0 : w4.cell? ⟨(w.heap.size + 1), 0, none⟩ = some (.bool s1) := KB.out.cell 0
    have cB1 : w4.cell? ⟨(w.heap.size + 1), 1, none⟩ = some (.slice A1 l1 c1) := KB.out.cell 1
    have cB2 : w4.cell? ⟨(w.heap.size + 1), 2, none⟩ = some (.slice B1 m1 k1) := KB.out.cell 2
    go_wp2_with fail
    clear cA0 cA1 cA2 cB0 cB1 cB2
    refine (subL HXX.out.small HYY.out rfl).mono ?_
    unfold RetE zeroR
    rintro e w5 ⟨rfl, hX⟩
    replace hX : Ext w4 w5 := by with_reducible exact hX
    replace HX := Lib.hid (HX.out.trans hX)
    replace HXX := Lib.hid (HXX.out.ext hX)
    replace HYY := Lib.hid (HYY.out.ext hX)
    replace KA := Lib.hid (KA.out.ext hX)
    replace KB := Lib.hid (KB.out.ext hX)
    clear hX
    go_upto_region 5 with (fail)
    have hXa : Ext w5 (w5.alloc (.cells #[.bool false, .slice none 0 0, .slice none 0 0] 33)) := (Ext.refl _).alloc _
    have kD := Blk.new w5 33 #[.bool false, .slice none 0 0, .slice none 0 0]
    have zA := KA.out.lt
    have zB := KB.out.lt
    have zg := HX.out.size
    replace HX := Lib.hid (HX.out.trans hXa)
    replace HXX := Lib.hid (HXX.out.ext hXa)
    replace HYY := Lib.hid (HYY.out.ext hXa)
    replace KA := Lib.hid (KA.out.ext hXa)
    replace KB := Lib.hid (KB.out.ext hXa)
    generalize (w5.alloc (.cells #[.bool false, .slice none 0 0, .slice none 0 0] 33)) = w6 at HX HXX HYY KA KB kD ⊢
    have KD := Lib.hid kD
    clear kD hXa
    clear KD
    have cA0 : w6.cell? ⟨w.heap.size, 0, none⟩ = some (.bool s0) := KA.out.cell 0
    have cA1 : w6.cell? ⟨w.heap.size, 1, none⟩ = some (.slice A0 l0 c0) := KA.out.cell 1
    have cA2 : w6.cell? ⟨w.heap.size, 2, none⟩ = some (.slice B0 m0 k0) := KA.out.cell 2
    have cB0 : w6.cell? ⟨(w.heap.size + 1), 0, none⟩ = some (.bool s1) := KB.out.cell 0
    have cB1 : w6.cell? ⟨(w.heap.size + 1), 1, none⟩ = some (.slice A1 l1 c1) := KB.out.cell 1
    have cB2 : w6.cell? ⟨(w.heap.size + 1), 2, none⟩ = some (.slice B1 m1 k1) := KB.out.cell 2
    go_wp2_with fail
    clear cA0 cA1 cA2 cB0 cB1 cB2
    refine (mulL HXX.out.small HYY.out rfl).mono ?_
    unfold RetE zeroR
    rintro e w7 ⟨rfl, hX⟩
    replace hX : Ext w6 w7 := by with_reducible exact hX
    replace HX := Lib.hid (HX.out.trans hX)
    replace HXX := Lib.hid (HXX.out.ext hX)
    replace HYY := Lib.hid (HYY.out.ext hX)
    replace KA := Lib.hid (KA.out.ext hX)
    replace KB := Lib.hid (KB.out.ext hX)
    clear hX
    go_upto_region 6 with (fail)
    have hXa : Ext w7 (w7.alloc (.cells #[.bool false, .slice none 0 0, .slice none 0 0] 33)) := (Ext.refl _).alloc _
    have kM := Blk.new w7 33 #[.bool false, .slice none 0 0, .slice none 0 0]
    have zA := KA.out.lt
    have zB := KB.out.lt
    have zg := HX.out.size
    replace HX := Lib.hid (HX.out.trans hXa)
    replace HXX := Lib.hid (HXX.out.ext hXa)
    replace HYY := Lib.hid (HYY.out.ext hXa)
    replace KA := Lib.hid (KA.out.ext hXa)
    replace KB := Lib.hid (KB.out.ext hXa)
    generalize (w7.alloc (.cells #[.bool false, .slice none 0 0, .slice none 0 0] 33)) = w8 at HX HXX HYY KA KB kM ⊢
    have KM := Lib.hid kM
    clear kM hXa
    clear KM
    have cA0 : w8.cell? ⟨w.heap.size, 0, none⟩ = some (.bool s0) := KA.out.cell 0
    have cA1 : w8.cell? ⟨w.heap.size, 1, none⟩ = some (.slice A0 l0 c0) := KA.out.cell 1
    have cA2 : w8.cell? ⟨w.heap.size, 2, none⟩ = some (.slice B0 m0 k0) := KA.out.cell 2
    have cB0 : w8.cell? ⟨(w.heap.size + 1), 0, none⟩ = some (.bool s1) := KB.out.cell 0
    have cB1 : w8.cell? ⟨(w.heap.size + 1), 1, none⟩ = some (.slice A1 l1 c1) := KB.out.cell 1
    have cB2 : w8.cell? ⟨(w.heap.size + 1), 2, none⟩ = some (.slice B1 m1 k1) := KB.out.cell 2
    go_wp2_with fail
    clear cA0 cA1 cA2 cB0 cB1 cB2
    refine (divL HXX.out.small HYY.out rfl).mono ?_
    unfold RetE zeroR
    rintro e w9 ⟨rfl, hX⟩
    replace hX : Ext w8 w9 := by with_reducible exact hX
    replace HX := Lib.hid (HX.out.trans hX)
    replace HXX := Lib.hid (HXX.out.ext hX)
    replace HYY := Lib.hid (HYY.out.ext hX)
    replace KA := Lib.hid (KA.out.ext hX)
    replace KB := Lib.hid (KB.out.ext hX)
    clear hX
    go_upto_region 7 with (fail)
    have hXa : Ext w9 (w9.alloc (.cells #[.bool false, .slice none 0 0, .slice none 0 0] 33)) := (Ext.refl _).alloc _
    have kQ := Blk.new w9 33 #[.bool false, .slice none 0 0, .slice none 0 0]
    have zA := KA.out.lt
    have zB := KB.out.lt
    have zg := HX.out.size
    replace HX := Lib.hid (HX.out.trans hXa)
    replace HXX := Lib.hid (HXX.out.ext hXa)
    replace HYY := Lib.hid (HYY.out.ext hXa)
    replace KA := Lib.hid (KA.out.ext hXa)
    replace KB := Lib.hid (KB.out.ext hXa)
    generalize (w9.alloc (.cells #[.bool false, .slice none 0 0, .slice none 0 0] 33)) = w10 at HX HXX HYY KA KB kQ ⊢
    have KQ := Lib.hid kQ
    clear kQ hXa
    clear KQ
    have cA0 : w10.cell? ⟨w.heap.size, 0, none⟩ = some (.bool s0) := KA.out.cell 0
    have cA1 : w10.cell? ⟨w.heap.size, 1, none⟩ = some (.slice A0 l0 c0) := KA.out.cell 1
    have cA2 : w10.cell? ⟨w.heap.size, 2, none⟩ = some (.slice B0 m0 k0) := KA.out.cell 2
    have cB0 : w10.cell? ⟨(w.heap.size + 1), 0, none⟩ = some (.bool s1) := KB.out.cell 0
    have cB1 : w10.cell? ⟨(w.heap.size + 1), 1, none⟩ = some (.slice A1 l1 c1) := KB.out.cell 1
    have cB2 : w10.cell? ⟨(w.heap.size + 1), 2, none⟩ = some (.slice B1 m1 k1) := KB.out.cell 2
    go_wp2_with fail
    clear cA0 cA1 cA2 cB0 cB1 cB2
    refine (cmpL HXX.out.small HYY.out rfl).mono ?_
    unfold RetE
    rintro e w11 ⟨rfl, hX⟩
    replace hX : Ext w10 w11 := by with_reducible exact hX
    replace HX := Lib.hid (HX.out.trans hX)
    replace HXX := Lib.hid (HXX.out.ext hX)
    replace HYY := Lib.hid (HYY.out.ext hX)
    replace KA := Lib.hid (KA.out.ext hX)
    replace KB := Lib.hid (KB.out.ext hX)
    clear hX
    as_aux_lemma =>
      have cA0 : w11.cell? ⟨w.heap.size, 0, none⟩ = some (.bool s0) := KA.out.cell 0
      have cA1 : w11.cell? ⟨w.heap.size, 1, none⟩ = some (.slice A0 l0 c0) := KA.out.cell 1
      have cA2 : w11.cell? ⟨w.heap.size, 2, none⟩ = some (.slice B0 m0 k0) := KA.out.cell 2
      have cB0 : w11.cell? ⟨(w.heap.size + 1), 0, none⟩ = some (.bool s1) := KB.out.cell 0
      have cB1 : w11.cell? ⟨(w.heap.size + 1), 1, none⟩ = some (.slice A1 l1 c1) := KB.out.cell 1
      have cB2 : w11.cell? ⟨(w.heap.size + 1), 2, none⟩ = some (.slice B1 m1 k1) := KB.out.cell 2
      go_wp2_with fail
      clear cA0 cA1 cA2 cB0 cB1 cB2
      refine (two_ny s0 A0 B0 l0 c0 m0 k0 s1 A1 B1 l1 c1 m1 k1 q 0 _ HXX.out HYY.out).mono ?_
      unfold RetE
      rintro e w12 ⟨rfl, hX⟩
      replace hX : Ext w11 w12 := by with_reducible exact hX
      replace HX := Lib.hid (HX.out.trans hX)
      replace HXX := Lib.hid (HXX.out.ext hX)
      replace HYY := Lib.hid (HYY.out.ext hX)
      replace KA := Lib.hid (KA.out.ext hX)
      replace KB := Lib.hid (KB.out.ext hX)
      clear hX
      go_upto_region 9 with (fail)
      have hXa : Ext w12 (w12.alloc (.cells #[.bool false, .slice none 0 0, .slice none 0 0] 42)) := (Ext.refl _).alloc _
      have kS := Blk.new w12 42 #[.bool false, .slice none 0 0, .slice none 0 0]
      have zA := KA.out.lt
      have zB := KB.out.lt
      have zg := HX.out.size
      replace HX := Lib.hid (HX.out.trans hXa)
      replace HXX := Lib.hid (HXX.out.ext hXa)
      replace HYY := Lib.hid (HYY.out.ext hXa)
      replace KA := Lib.hid (KA.out.ext hXa)
      replace KB := Lib.hid (KB.out.ext hXa)
      generalize (w12.alloc (.cells #[.bool false, .slice none 0 0, .slice none 0 0] 42)) = w13 at HX HXX HYY KA KB kS ⊢
      have KS := Lib.hid kS
      clear kS hXa
      clear KS
      have cA0 : w13.cell? ⟨w.heap.size, 0, none⟩ = some (.bool s0) := KA.out.cell 0
      have cA1 : w13.cell? ⟨w.heap.size, 1, none⟩ = some (.slice A0 l0 c0) := KA.out.cell 1
      have cA2 : w13.cell? ⟨w.heap.size, 2, none⟩ = some (.slice B0 m0 k0) := KA.out.cell 2
      have cB0 : w13.cell? ⟨(w.heap.size + 1), 0, none⟩ = some (.bool s1) := KB.out.cell 0
      have cB1 : w13.cell? ⟨(w.heap.size + 1), 1, none⟩ = some (.slice A1 l1 c1) := KB.out.cell 1
      have cB2 : w13.cell? ⟨(w.heap.size + 1), 2, none⟩ = some (.slice B1 m1 k1) := KB.out.cell 2
      go_wp2_with fail
      clear cA0 cA1 cA2 cB0 cB1 cB2
      refine (two_ny s0 A0 B0 l0 c0 m0 k0 s1 A1 B1 l1 c1 m1 k1 q 1 _ HXX.out HYY.out).mono ?_
      unfold RetE
      rintro e w14 ⟨rfl, hX⟩
      replace hX : Ext w13 w14 := by with_reducible exact hX
      replace HX := Lib.hid (HX.out.trans hX)
      replace HXX := Lib.hid (HXX.out.ext hX)
      replace HYY := Lib.hid (HYY.out.ext hX)
      replace KA := Lib.hid (KA.out.ext hX)
      replace KB := Lib.hid (KB.out.ext hX)
      clear hX
      go_upto_region 10 with (fail)
      have hXa : Ext w14 (w14.alloc (.cells #[.bool false, .slice none 0 0, .slice none 0 0] 42)) := (Ext.refl _).alloc _
      have kD := Blk.new w14 42 #[.bool false, .slice none 0 0, .slice none 0 0]
      have zA := KA.out.lt
      have zB := KB.out.lt
      have zg := HX.out.size
      replace HX := Lib.hid (HX.out.trans hXa)
      replace HXX := Lib.hid (HXX.out.ext hXa)
      replace HYY := Lib.hid (HYY.out.ext hXa)
      replace KA := Lib.hid (KA.out.ext hXa)
      replace KB := Lib.hid (KB.out.ext hXa)
      generalize (w14.alloc (.cells #[.bool false, .slice none 0 0, .slice none 0 0] 42)) = w15 at HX HXX HYY KA KB kD ⊢
      have KD := Lib.hid kD
      clear kD hXa
      clear KD
      have cA0 : w15.cell? ⟨w.heap.size, 0, none⟩ = some (.bool s0) := KA.out.cell 0
      have cA1 : w15.cell? ⟨w.heap.size, 1, none⟩ = some (.slice A0 l0 c0) := KA.out.cell 1
      have cA2 : w15.cell? ⟨w.heap.size, 2, none⟩ = some (.slice B0 m0 k0) := KA.out.cell 2
      have cB0 : w15.cell? ⟨(w.heap.size + 1), 0, none⟩ = some (.bool s1) := KB.out.cell 0
      have cB1 : w15.cell? ⟨(w.heap.size + 1), 1, none⟩ = some (.slice A1 l1 c1) := KB.out.cell 1
      have cB2 : w15.cell? ⟨(w.heap.size + 1), 2, none⟩ = some (.slice B1 m1 k1) := KB.out.cell 2
      go_wp2_with fail
      clear cA0 cA1 cA2 cB0 cB1 cB2
      refine (two_ny s0 A0 B0 l0 c0 m0 k0 s1 A1 B1 l1 c1 m1 k1 q 2 _ HXX.out HYY.out).mono ?_
      unfold RetE
      rintro e w16 ⟨rfl, hX⟩
      replace hX : Ext w15 w16 := by with_reducible exact hX
      replace HX := Lib.hid (HX.out.trans hX)
      replace HXX := Lib.hid (HXX.out.ext hX)
      replace HYY := Lib.hid (HYY.out.ext hX)
      replace KA := Lib.hid (KA.out.ext hX)
      replace KB := Lib.hid (KB.out.ext hX)
      clear hX
      go_upto_region 11 with (fail)
      have hXa : Ext w16 (w16.alloc (.cells #[.bool false, .slice none 0 0, .slice none 0 0] 42)) := (Ext.refl _).alloc _
      have kM := Blk.new w16 42 #[.bool false, .slice none 0 0, .slice none 0 0]
      have zA := KA.out.lt
      have zB := KB.out.lt
      have zg := HX.out.size
      replace HX := Lib.hid (HX.out.trans hXa)
      replace HXX := Lib.hid (HXX.out.ext hXa)
      replace HYY := Lib.hid (HYY.out.ext hXa)
      replace KA := Lib.hid (KA.out.ext hXa)
      replace KB := Lib.hid (KB.out.ext hXa)
      generalize (w16.alloc (.cells #[.bool false, .slice none 0 0, .slice none 0 0] 42)) = w17 at HX HXX HYY KA KB kM ⊢
      have KM := Lib.hid kM
      clear kM hXa
      clear KM
      have cA0 : w17.cell? ⟨w.heap.size, 0, none⟩ = some (.bool s0) := KA.out.cell 0
      have cA1 : w17.cell? ⟨w.heap.size, 1, none⟩ = some (.slice A0 l0 c0) := KA.out.cell 1
      have cA2 : w17.cell? ⟨w.heap.size, 2, none⟩ = some (.slice B0 m0 k0) := KA.out.cell 2
      have cB0 : w17.cell? ⟨(w.heap.size + 1), 0, none⟩ = some (.bool s1) := KB.out.cell 0
      have cB1 : w17.cell? ⟨(w.heap.size + 1), 1, none⟩ = some (.slice A1 l1 c1) := KB.out.cell 1
      have cB2 : w17.cell? ⟨(w.heap.size + 1), 2, none⟩ = some (.slice B1 m1 k1) := KB.out.cell 2
      go_wp2_with fail
      clear cA0 cA1 cA2 cB0 cB1 cB2
      refine (two_ny s0 A0 B0 l0 c0 m0 k0 s1 A1 B1 l1 c1 m1 k1 q 3 _ HXX.out HYY.out).mono ?_
      unfold RetE
      rintro e w18 ⟨rfl, hX⟩
      replace hX : Ext w17 w18 := by with_reducible exact hX
      replace HX := Lib.hid (HX.out.trans hX)
      replace HXX := Lib.hid (HXX.out.ext hX)
      replace HYY := Lib.hid (HYY.out.ext hX)
      replace KA := Lib.hid (KA.out.ext hX)
      replace KB := Lib.hid (KB.out.ext hX)
      clear hX
      go_upto_region 12 with (fail)
      have hXa : Ext w18 (w18.alloc (.cells #[.bool false, .slice none 0 0, .slice none 0 0] 42)) := (Ext.refl _).alloc _
      have kQ := Blk.new w18 42 #[.bool false, .slice none 0 0, .slice none 0 0]
      have zA := KA.out.lt
      have zB := KB.out.lt
      have zg := HX.out.size
      replace HX := Lib.hid (HX.out.trans hXa)
      replace HXX := Lib.hid (HXX.out.ext hXa)
      replace HYY := Lib.hid (HYY.out.ext hXa)
      replace KA := Lib.hid (KA.out.ext hXa)
      replace KB := Lib.hid (KB.out.ext hXa)
      generalize (w18.alloc (.cells #[.bool false, .slice none 0 0, .slice none 0 0] 42)) = w19 at HX HXX HYY KA KB kQ ⊢
      have KQ := Lib.hid kQ
      clear kQ hXa
      clear KQ
      as_aux_lemma =>
        have cA0 : w19.cell? ⟨w.heap.size, 0, none⟩ = some (.bool s0) := KA.out.cell 0
        have cA1 : w19.cell? ⟨w.heap.size, 1, none⟩ = some (.slice A0 l0 c0) := KA.out.cell 1
        have cA2 : w19.cell? ⟨w.heap.size, 2, none⟩ = some (.slice B0 m0 k0) := KA.out.cell 2
        go_wp2_with fail
        clear cA0 cA1 cA2
        refine (read_ok HXX.out).mono ?_
        rintro e w20 ⟨v5, rfl, hv, hX⟩
        replace hX : Ext w19 w20 := by with_reducible exact hX
        replace HX := Lib.hid (HX.out.trans hX)
        replace HXX := Lib.hid (HXX.out.ext hX)
        replace HYY := Lib.hid (HYY.out.ext hX)
        replace KA := Lib.hid (KA.out.ext hX)
        replace KB := Lib.hid (KB.out.ext hX)
        clear hX
        obtain ⟨s5, A5, l5, c5, B5, m5, k5, rfl⟩ := QZ.open hv
        clear hv
        go_upto_region 13 with (fail)
        have hXa : Ext w20 (w20.alloc (.cells #[.bool s5, .slice A5 l5 c5, .slice B5 m5 k5] 42)) := (Ext.refl _).alloc _
        have kM := Blk.new w20 42 #[.bool s5, .slice A5 l5 c5, .slice B5 m5 k5]
        have zA := KA.out.lt
        have zB := KB.out.lt
        have zg := HX.out.size
        replace HX := Lib.hid (HX.out.trans hXa)
        replace HXX := Lib.hid (HXX.out.ext hXa)
        replace HYY := Lib.hid (HYY.out.ext hXa)
        replace KA := Lib.hid (KA.out.ext hXa)
        replace KB := Lib.hid (KB.out.ext hXa)
        generalize (w20.alloc (.cells #[.bool s5, .slice A5 l5 c5, .slice B5 m5 k5] 42)) = w21 at HX HXX HYY KA KB kM ⊢
        have KM := Lib.hid kM
        clear kM hXa
        clear KM
        have cB0 : w21.cell? ⟨(w.heap.size + 1), 0, none⟩ = some (.bool s1) := KB.out.cell 0
        have cB1 : w21.cell? ⟨(w.heap.size + 1), 1, none⟩ = some (.slice A1 l1 c1) := KB.out.cell 1
        have cB2 : w21.cell? ⟨(w.heap.size + 1), 2, none⟩ = some (.slice B1 m1 k1) := KB.out.cell 2
        go_wp2_with fail
        clear cB0 cB1 cB2
        refine (read_no HYY.out).mono ?_
        rintro e w22 ⟨rfl, hX⟩
        replace hX : Ext w21 w22 := by with_reducible exact hX
        replace HX := Lib.hid (HX.out.trans hX)
        replace HXX := Lib.hid (HXX.out.ext hX)
        replace HYY := Lib.hid (HYY.out.ext hX)
        replace KA := Lib.hid (KA.out.ext hX)
        replace KB := Lib.hid (KB.out.ext hX)
        clear hX
        go_upto_region 14 with (fail)
        have hXa : Ext w22 (w22.alloc (.cells #[.bool false, .slice none 0 0, .slice none 0 0] 42)) := (Ext.refl _).alloc _
        have kN := Blk.new w22 42 #[.bool false, .slice none 0 0, .slice none 0 0]
        have zA := KA.out.lt
        have zB := KB.out.lt
        have zg := HX.out.size
        replace HX := Lib.hid (HX.out.trans hXa)
        replace HXX := Lib.hid (HXX.out.ext hXa)
        replace HYY := Lib.hid (HYY.out.ext hXa)
        replace KA := Lib.hid (KA.out.ext hXa)
        replace KB := Lib.hid (KB.out.ext hXa)
        generalize (w22.alloc (.cells #[.bool false, .slice none 0 0, .slice none 0 0] 42)) = w23 at HX HXX HYY KA KB kN ⊢
        have KN := Lib.hid kN
        clear kN hXa
        clear KN
        go_wp2_with fail
        refine (first_any _).mono ?_
        rintro e w24 ⟨rfl, hX⟩
        replace hX : Ext w23 w24 := by with_reducible exact hX
        replace HX := Lib.hid (HX.out.trans hX)
        replace HXX := Lib.hid (HXX.out.ext hX)
        replace HYY := Lib.hid (HYY.out.ext hX)
        replace KA := Lib.hid (KA.out.ext hX)
        replace KB := Lib.hid (KB.out.ext hX)
        clear hX
        go_wp2
        go_ret
        exact ⟨rfl, HX.out⟩

end Go.Proofs.Yteoijnaljkagfaa
