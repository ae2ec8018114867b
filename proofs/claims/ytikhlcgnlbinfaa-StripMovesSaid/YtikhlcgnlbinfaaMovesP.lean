/- Lemmas of the proof that follows (Moves, part 16): walks of functions by contract, and plain lemmas. Conditions: none. -/
import Derived.Test.YtikhlcgnlbinfaaMovesO
namespace Go.Proofs.Ytikhlcgnlbinfaa
open Lib (hid)
open Go.RowKit
def RetOfN (w : World) (q : Rat) (e : Ending) (w' : World) : Prop := ∃ v, e = .returned (.tuple #[v, .bool true]) ∧ QZ w' v q ∧ NewQ w.heap.size v ∧ Ext w w'
set_option maxRecDepth 100000 in
set_option maxHeartbeats 2000000 in
theorem rof_foneN (A0 B0 : Option Addr) (l0 c0 m0 k0 : Nat) (xs ys : List Int) (w : World) (hI : Ints .u32 w A0 l0 xs) (hc : l0 ≤ c0 ∧ c0 ≤ 9223372036854775807) (hJ : Ints .u32 w B0 m0 ys) (hk : m0 ≤ k0 ∧ k0 ≤ 9223372036854775807) (ha : FitW (wN xs)) (hb : FitW (wN ys))  (hD : wN ys = 0) :
  Calls Try.prog 138 #[.agg #[.bool false, .slice A0 l0 c0, .slice B0 m0 k0]] w (RetOfN w (ratOf false xs ys)) := by
 have HI := hid hI
 have HJ := hid hJ
 clear hI hJ
 obtain ⟨hc1, hc2⟩ := hc
 obtain ⟨hk1, hk2⟩ := hk
 have H0 := hid ha
 have H1 := hid hb
 obtain ⟨L, hL⟩ : ∃ L : Nat, L = 512 := ⟨_, rfl⟩
 have HF0 : Hid (Fit 65536 (wN xs) L) := by rw [hL]; exact fit512 ha.1
 have HF1 : Hid (Fit 65536 (wN ys) L) := by rw [hL]; exact fit512 hb.1
 replace hL : 1 ≤ L ∧ L ≤ 512 := by omega
 obtain ⟨hL0, hL1⟩ := hL
 clear ha hb
 have HE : Hid (ratV false (wN xs) (wD ys) = ratOf false xs ys) := rfl
 rw [wD_zero hD] at HE
 obtain ⟨n, hN⟩ : ∃ n, wN xs = n := ⟨_, rfl⟩
 obtain ⟨d, hDD⟩ : ∃ d, wN ys = d := ⟨_, rfl⟩
 have HN := hid hN
 have HDD := hid hDD
 rw [hDD] at hD
 clear hN hDD
 have hXe : Ext w ((w.alloc (.cells #[.bool false, .slice A0 l0 c0, .slice B0 m0 k0] 97)).alloc (.cells #[.bool false, .slice none 0 0, .slice none 0 0] 65)) := (((Ext.refl w).alloc _).alloc _)
 have kA : Blk ((w.alloc (.cells #[.bool false, .slice A0 l0 c0, .slice B0 m0 k0] 97)).alloc (.cells #[.bool false, .slice none 0 0, .slice none 0 0] 65)) w.heap.size 97 #[.bool false, .slice A0 l0 c0, .slice B0 m0 k0] := Blk.alloc (Blk.at_ (by simp)) _
 have kR : Blk ((w.alloc (.cells #[.bool false, .slice A0 l0 c0, .slice B0 m0 k0] 97)).alloc (.cells #[.bool false, .slice none 0 0, .slice none 0 0] 65)) (w.heap.size + 1) 65 #[.bool false, .slice none 0 0, .slice none 0 0] := Blk.at_ (by simp)
 go_enter Try.func138, Try.ntmps138
 go_wp2_with fail
 generalize ((w.alloc (.cells #[.bool false, .slice A0 l0 c0, .slice B0 m0 k0] 97)).alloc (.cells #[.bool false, .slice none 0 0, .slice none 0 0] 65)) = w1 at hXe kA kR ⊢
 have HX := hid hXe
 clear hXe
 have KA := hid kA
 clear kA
 have KR := hid kR
 clear kR
 replace HI := hid (HI.out.ext HX.out)
 replace HJ := hid (HJ.out.ext HX.out)
 have cA0 : w1.cell? ⟨w.heap.size, 0, none⟩ = some (.bool false) := KA.out.cell 0
 have cA1 : w1.cell? ⟨w.heap.size, 1, none⟩ = some (.slice A0 l0 c0) := KA.out.cell 1
 have cA2 : w1.cell? ⟨w.heap.size, 2, none⟩ = some (.slice B0 m0 k0) := KA.out.cell 2
 go_wp2_with fail
 clear cA0 cA1 cA2
 refine (limbs_b true A0 l0 c0 xs _ HI.out hc1 hc2 ⟨fun _ => H0.out, fun _ => rfl⟩).mono ?_
 rintro e w2 ⟨v7, rfl, h7, hX⟩
 replace hX : Ext w1 w2 := by with_reducible exact hX
 replace HX := hid (HX.out.trans hX)
 replace HI := hid (HI.out.ext hX)
 replace HJ := hid (HJ.out.ext hX)
 replace KA := hid (KA.out.ext hX)
 replace KR := hid (KR.out.ext hX)
 clear hX
 have HV7 : Hid (Z16 w2 v7 (wN xs)) := h7 rfl
 clear h7
 have cA0 : w2.cell? ⟨w.heap.size, 0, none⟩ = some (.bool false) := KA.out.cell 0
 have cA1 : w2.cell? ⟨w.heap.size, 1, none⟩ = some (.slice A0 l0 c0) := KA.out.cell 1
 have cA2 : w2.cell? ⟨w.heap.size, 2, none⟩ = some (.slice B0 m0 k0) := KA.out.cell 2
 go_wp2_with fail
 clear cA0 cA1 cA2
 refine (limbs_b true B0 m0 k0 ys _ HJ.out hk1 hk2 ⟨fun _ => H1.out, fun _ => rfl⟩).mono ?_
 rintro e w3 ⟨v8, rfl, h8, hX⟩
 replace hX : Ext w2 w3 := by with_reducible exact hX
 replace HX := hid (HX.out.trans hX)
 replace HI := hid (HI.out.ext hX)
 replace HJ := hid (HJ.out.ext hX)
 replace HV7 := hid (HV7.out.ext hX)
 replace KA := hid (KA.out.ext hX)
 replace KR := hid (KR.out.ext hX)
 clear hX
 have HV8 := hid (h8 rfl)
 clear h8
 rw [HN.out] at HV7 HF0 HE
 rw [HDD.out] at HV8 HF1
 obtain ⟨A7, l7, c7, rfl, hv7, hz7⟩ := Z16.open HV7.out
 obtain ⟨A8, l8, c8, rfl, hv8, hz8⟩ := Z16.open HV8.out
 clear hv7 hv8
 obtain rfl : l8 = 0 := hz8.2 hD
 clear hz7 hz8 hD
 have cA0 : w3.cell? ⟨w.heap.size, 0, none⟩ = some (.bool false) := KA.out.cell 0
 have cA1 : w3.cell? ⟨w.heap.size, 1, none⟩ = some (.slice A0 l0 c0) := KA.out.cell 1
 have cA2 : w3.cell? ⟨w.heap.size, 2, none⟩ = some (.slice B0 m0 k0) := KA.out.cell 2
 go_upto_region 7 with (fail)
 clear cA0 cA1 cA2
 have hXa : Ext w3 (w3.alloc (.cells #[.int .i64 1] 3)) := (Ext.refl _).alloc _
 have kO := Blk.new w3 3 #[.int .i64 1]
 have zA := KA.out.lt
 have zR := KR.out.lt
 have zg := HX.out.size
 replace HX := hid (HX.out.trans hXa)
 replace HI := hid (HI.out.ext hXa)
 replace HJ := hid (HJ.out.ext hXa)
 replace HV7 := hid (HV7.out.ext hXa)
 replace HV8 := hid (HV8.out.ext hXa)
 replace KA := hid (KA.out.ext hXa)
 replace KR := hid (KR.out.ext hXa)
 generalize (w3.alloc (.cells #[.int .i64 1] 3)) = w4 at HX HI HJ HV7 HV8 KA KR kO ⊢
 have KO := hid kO
 clear kO hXa
 have cA0 : w4.cell? ⟨w.heap.size, 0, none⟩ = some (.bool false) := KA.out.cell 0
 have cA1 : w4.cell? ⟨w.heap.size, 1, none⟩ = some (.slice A0 l0 c0) := KA.out.cell 1
 have cA2 : w4.cell? ⟨w.heap.size, 2, none⟩ = some (.slice B0 m0 k0) := KA.out.cell 2
 go_wp2_with fail
 clear cA0 cA1 cA2
 refine (fracN false false A7 _ l7 c7 _ _ n 1 L _ HV7.out KO.out.one16 HF0.out (Fit.one (by omega) (by omega)) (by omega) (by omega)).mono ?_
 rw [HE.out]
 rintro e w5 ⟨v9, rfl, hv, hn9, hX⟩
 have HN9 := hid (hn9.mono HX.out.size)
 clear hn9
 replace hX : Ext w4 w5 := by with_reducible exact hX
 replace HX := hid (HX.out.trans hX)
 replace HI := hid (HI.out.ext hX)
 replace HJ := hid (HJ.out.ext hX)
 replace HV7 := hid (HV7.out.ext hX)
 replace HV8 := hid (HV8.out.ext hX)
 replace KA := hid (KA.out.ext hX)
 replace KR := hid (KR.out.ext hX)
 replace KO := hid (KO.out.ext hX)
 clear hX
 obtain ⟨s9, A9, l9, c9, B9, m9, k9, rfl⟩ := QZ.open hv
 have HV := hid (QZ.past hv (NoInts.three KR.out))
 clear hv
 have cR0 : w5.cell? ⟨(w.heap.size + 1), 0, none⟩ = some (.bool false) := KR.out.cell 0
 have fR0 : w5.frozen? ⟨(w.heap.size + 1), 0, none⟩ = false := KR.out.free 0
 have cR1 : w5.cell? ⟨(w.heap.size + 1), 1, none⟩ = some (.slice none 0 0) := KR.out.cell 1
 have fR1 : w5.frozen? ⟨(w.heap.size + 1), 1, none⟩ = false := KR.out.free 1
 have cR2 : w5.cell? ⟨(w.heap.size + 1), 2, none⟩ = some (.slice none 0 0) := KR.out.cell 2
 have fR2 : w5.frozen? ⟨(w.heap.size + 1), 2, none⟩ = false := KR.out.free 2
 go_wp2
 refine bodyPost_ret (v := .tuple #[.agg #[.bool s9, .slice A9 l9 c9, .slice B9 m9 k9], .bool true]) (by simp [results, Try.results138, go_sem, *]) rfl ?_
 exact ⟨_, rfl, HV.out, HN9.out, Ext.boxed HX.out (by omega) _ _ _⟩
set_option maxRecDepth 100000 in
set_option maxHeartbeats 2000000 in
theorem rof_fdenN (A0 B0 : Option Addr) (l0 c0 m0 k0 : Nat) (xs ys : List Int) (w : World) (hI : Ints .u32 w A0 l0 xs) (hc : l0 ≤ c0 ∧ c0 ≤ 9223372036854775807) (hJ : Ints .u32 w B0 m0 ys) (hk : m0 ≤ k0 ∧ k0 ≤ 9223372036854775807) (ha : FitW (wN xs)) (hb : FitW (wN ys))  (hD : wN ys ≠ 0) :
  Calls Try.prog 138 #[.agg #[.bool false, .slice A0 l0 c0, .slice B0 m0 k0]] w (RetOfN w (ratOf false xs ys)) := by
 have HI := hid hI
 have HJ := hid hJ
 clear hI hJ
 obtain ⟨hc1, hc2⟩ := hc
 obtain ⟨hk1, hk2⟩ := hk
 have H0 := hid ha
 have H1 := hid hb
 obtain ⟨L, hL⟩ : ∃ L : Nat, L = 512 := ⟨_, rfl⟩
 have HF0 : Hid (Fit 65536 (wN xs) L) := by rw [hL]; exact fit512 ha.1
 have HF1 : Hid (Fit 65536 (wN ys) L) := by rw [hL]; exact fit512 hb.1
 replace hL : 1 ≤ L ∧ L ≤ 512 := by omega
 obtain ⟨hL0, hL1⟩ := hL
 clear ha hb
 have HE : Hid (ratV false (wN xs) (wD ys) = ratOf false xs ys) := rfl
 rw [wD_nz hD] at HE
 obtain ⟨n, hN⟩ : ∃ n, wN xs = n := ⟨_, rfl⟩
 obtain ⟨d, hDD⟩ : ∃ d, wN ys = d := ⟨_, rfl⟩
 have HN := hid hN
 have HDD := hid hDD
 rw [hDD] at hD
 clear hN hDD
 have hXe : Ext w ((w.alloc (.cells #[.bool false, .slice A0 l0 c0, .slice B0 m0 k0] 97)).alloc (.cells #[.bool false, .slice none 0 0, .slice none 0 0] 65)) := (((Ext.refl w).alloc _).alloc _)
 have kA : Blk ((w.alloc (.cells #[.bool false, .slice A0 l0 c0, .slice B0 m0 k0] 97)).alloc (.cells #[.bool false, .slice none 0 0, .slice none 0 0] 65)) w.heap.size 97 #[.bool false, .slice A0 l0 c0, .slice B0 m0 k0] := Blk.alloc (Blk.at_ (by simp)) _
 have kR : Blk ((w.alloc (.cells #[.bool false, .slice A0 l0 c0, .slice B0 m0 k0] 97)).alloc (.cells #[.bool false, .slice none 0 0, .slice none 0 0] 65)) (w.heap.size + 1) 65 #[.bool false, .slice none 0 0, .slice none 0 0] := Blk.at_ (by simp)
 go_enter Try.func138, Try.ntmps138
 go_wp2_with fail
 generalize ((w.alloc (.cells #[.bool false, .slice A0 l0 c0, .slice B0 m0 k0] 97)).alloc (.cells #[.bool false, .slice none 0 0, .slice none 0 0] 65)) = w1 at hXe kA kR ⊢
 have HX := hid hXe
 clear hXe
 have KA := hid kA
 clear kA
 have KR := hid kR
 clear kR
 replace HI := hid (HI.out.ext HX.out)
 replace HJ := hid (HJ.out.ext HX.out)
 have cA0 : w1.cell? ⟨w.heap.size, 0, none⟩ = some (.bool false) := KA.out.cell 0
 have cA1 : w1.cell? ⟨w.heap.size, 1, none⟩ = some (.slice A0 l0 c0) := KA.out.cell 1
 have cA2 : w1.cell? ⟨w.heap.size, 2, none⟩ = some (.slice B0 m0 k0) := KA.out.cell 2
 go_wp2_with fail
 clear cA0 cA1 cA2
 refine (limbs_b true A0 l0 c0 xs _ HI.out hc1 hc2 ⟨fun _ => H0.out, fun _ => rfl⟩).mono ?_
 rintro e w2 ⟨v7, rfl, h7, hX⟩
 replace hX : Ext w1 w2 := by with_reducible exact hX
 replace HX := hid (HX.out.trans hX)
 replace HI := hid (HI.out.ext hX)
 replace HJ := hid (HJ.out.ext hX)
 replace KA := hid (KA.out.ext hX)
 replace KR := hid (KR.out.ext hX)
 clear hX
 have HV7 : Hid (Z16 w2 v7 (wN xs)) := h7 rfl
 clear h7
 have cA0 : w2.cell? ⟨w.heap.size, 0, none⟩ = some (.bool false) := KA.out.cell 0
 have cA1 : w2.cell? ⟨w.heap.size, 1, none⟩ = some (.slice A0 l0 c0) := KA.out.cell 1
 have cA2 : w2.cell? ⟨w.heap.size, 2, none⟩ = some (.slice B0 m0 k0) := KA.out.cell 2
 go_wp2_with fail
 clear cA0 cA1 cA2
 refine (limbs_b true B0 m0 k0 ys _ HJ.out hk1 hk2 ⟨fun _ => H1.out, fun _ => rfl⟩).mono ?_
 rintro e w3 ⟨v8, rfl, h8, hX⟩
 replace hX : Ext w2 w3 := by with_reducible exact hX
 replace HX := hid (HX.out.trans hX)
 replace HI := hid (HI.out.ext hX)
 replace HJ := hid (HJ.out.ext hX)
 replace HV7 := hid (HV7.out.ext hX)
 replace KA := hid (KA.out.ext hX)
 replace KR := hid (KR.out.ext hX)
 clear hX
 have HV8 := hid (h8 rfl)
 clear h8
 rw [HN.out] at HV7 HF0 HE
 rw [HDD.out] at HV8 HF1 HE
 obtain ⟨A7, l7, c7, rfl, hv7, hz7⟩ := Z16.open HV7.out
 obtain ⟨A8, l8, c8, rfl, hv8, hz8⟩ := Z16.open HV8.out
 clear hv7 hv8
 have hl8 : ¬ l8 = 0 := fun h => hD (hz8.1 h)
 have hl8' : ((l8 : Int) == 0) = false := by simp; omega
 have HDP : Hid (0 < d) := by show 0 < _; omega
 clear hz7 hz8 hD
 have cA0 : w3.cell? ⟨w.heap.size, 0, none⟩ = some (.bool false) := KA.out.cell 0
 have cA1 : w3.cell? ⟨w.heap.size, 1, none⟩ = some (.slice A0 l0 c0) := KA.out.cell 1
 have cA2 : w3.cell? ⟨w.heap.size, 2, none⟩ = some (.slice B0 m0 k0) := KA.out.cell 2
 go_wp2_with fail
 clear cA0 cA1 cA2
 refine (fracN false false A7 _ l7 c7 _ _ n d L _ HV7.out HV8.out HF0.out HF1.out (by omega) HDP.out).mono ?_
 rw [HE.out]
 rintro e w4 ⟨v9, rfl, hv, hn9, hX⟩
 have HN9 := hid (hn9.mono HX.out.size)
 clear hn9
 replace hX : Ext w3 w4 := by with_reducible exact hX
 replace HX := hid (HX.out.trans hX)
 replace HI := hid (HI.out.ext hX)
 replace HJ := hid (HJ.out.ext hX)
 replace HV7 := hid (HV7.out.ext hX)
 replace HV8 := hid (HV8.out.ext hX)
 replace KA := hid (KA.out.ext hX)
 replace KR := hid (KR.out.ext hX)
 clear hX
 obtain ⟨s9, A9, l9, c9, B9, m9, k9, rfl⟩ := QZ.open hv
 have HV := hid (QZ.past hv (NoInts.three KR.out))
 clear hv
 have cR0 : w4.cell? ⟨(w.heap.size + 1), 0, none⟩ = some (.bool false) := KR.out.cell 0
 have fR0 : w4.frozen? ⟨(w.heap.size + 1), 0, none⟩ = false := KR.out.free 0
 have cR1 : w4.cell? ⟨(w.heap.size + 1), 1, none⟩ = some (.slice none 0 0) := KR.out.cell 1
 have fR1 : w4.frozen? ⟨(w.heap.size + 1), 1, none⟩ = false := KR.out.free 1
 have cR2 : w4.cell? ⟨(w.heap.size + 1), 2, none⟩ = some (.slice none 0 0) := KR.out.cell 2
 have fR2 : w4.frozen? ⟨(w.heap.size + 1), 2, none⟩ = false := KR.out.free 2
 go_wp2
 refine bodyPost_ret (v := .tuple #[.agg #[.bool s9, .slice A9 l9 c9, .slice B9 m9 k9], .bool true]) (by simp [results, Try.results138, go_sem, *]) rfl ?_
 exact ⟨_, rfl, HV.out, HN9.out, Ext.boxed HX.out (by omega) _ _ _⟩
set_option maxRecDepth 100000 in
set_option maxHeartbeats 2000000 in
theorem rof_toneN (A0 B0 : Option Addr) (l0 c0 m0 k0 : Nat) (xs ys : List Int) (w : World) (hI : Ints .u32 w A0 l0 xs) (hc : l0 ≤ c0 ∧ c0 ≤ 9223372036854775807) (hJ : Ints .u32 w B0 m0 ys) (hk : m0 ≤ k0 ∧ k0 ≤ 9223372036854775807) (ha : FitW (wN xs)) (hb : FitW (wN ys)) (hn : wN xs ≠ 0) (hD : wN ys = 0) :
  Calls Try.prog 138 #[.agg #[.bool true, .slice A0 l0 c0, .slice B0 m0 k0]] w (RetOfN w (ratOf true xs ys)) := by
 have HI := hid hI
 have HJ := hid hJ
 clear hI hJ
 obtain ⟨hc1, hc2⟩ := hc
 obtain ⟨hk1, hk2⟩ := hk
 have H0 := hid ha
 have H1 := hid hb
 obtain ⟨L, hL⟩ : ∃ L : Nat, L = 512 := ⟨_, rfl⟩
 have HF0 : Hid (Fit 65536 (wN xs) L) := by rw [hL]; exact fit512 ha.1
 have HF1 : Hid (Fit 65536 (wN ys) L) := by rw [hL]; exact fit512 hb.1
 replace hL : 1 ≤ L ∧ L ≤ 512 := by omega
 obtain ⟨hL0, hL1⟩ := hL
 clear ha hb
 have HE : Hid (ratV true (wN xs) (wD ys) = ratOf true xs ys) := rfl
 rw [wD_zero hD] at HE
 obtain ⟨n, hN⟩ : ∃ n, wN xs = n := ⟨_, rfl⟩
 obtain ⟨d, hDD⟩ : ∃ d, wN ys = d := ⟨_, rfl⟩
 have HN := hid hN
 have HDD := hid hDD
 rw [hDD] at hD
 rw [hN] at hn
 clear hN hDD
 have hXe : Ext w ((w.alloc (.cells #[.bool true, .slice A0 l0 c0, .slice B0 m0 k0] 97)).alloc (.cells #[.bool false, .slice none 0 0, .slice none 0 0] 65)) := (((Ext.refl w).alloc _).alloc _)
 have kA : Blk ((w.alloc (.cells #[.bool true, .slice A0 l0 c0, .slice B0 m0 k0] 97)).alloc (.cells #[.bool false, .slice none 0 0, .slice none 0 0] 65)) w.heap.size 97 #[.bool true, .slice A0 l0 c0, .slice B0 m0 k0] := Blk.alloc (Blk.at_ (by simp)) _
 have kR : Blk ((w.alloc (.cells #[.bool true, .slice A0 l0 c0, .slice B0 m0 k0] 97)).alloc (.cells #[.bool false, .slice none 0 0, .slice none 0 0] 65)) (w.heap.size + 1) 65 #[.bool false, .slice none 0 0, .slice none 0 0] := Blk.at_ (by simp)
 go_enter Try.func138, Try.ntmps138
 go_wp2_with fail
 generalize ((w.alloc (.cells #[.bool true, .slice A0 l0 c0, .slice B0 m0 k0] 97)).alloc (.cells #[.bool false, .slice none 0 0, .slice none 0 0] 65)) = w1 at hXe kA kR ⊢
 have HX := hid hXe
 clear hXe
 have KA := hid kA
 clear kA
 have KR := hid kR
 clear kR
 replace HI := hid (HI.out.ext HX.out)
 replace HJ := hid (HJ.out.ext HX.out)
 have cA0 : w1.cell? ⟨w.heap.size, 0, none⟩ = some (.bool true) := KA.out.cell 0
 have cA1 : w1.cell? ⟨w.heap.size, 1, none⟩ = some (.slice A0 l0 c0) := KA.out.cell 1
 have cA2 : w1.cell? ⟨w.heap.size, 2, none⟩ = some (.slice B0 m0 k0) := KA.out.cell 2
 go_wp2_with fail
 clear cA0 cA1 cA2
 refine (limbs_b true A0 l0 c0 xs _ HI.out hc1 hc2 ⟨fun _ => H0.out, fun _ => rfl⟩).mono ?_
 rintro e w2 ⟨v7, rfl, h7, hX⟩
 replace hX : Ext w1 w2 := by with_reducible exact hX
 replace HX := hid (HX.out.trans hX)
 replace HI := hid (HI.out.ext hX)
 replace HJ := hid (HJ.out.ext hX)
 replace KA := hid (KA.out.ext hX)
 replace KR := hid (KR.out.ext hX)
 clear hX
 have HV7 : Hid (Z16 w2 v7 (wN xs)) := h7 rfl
 clear h7
 have cA0 : w2.cell? ⟨w.heap.size, 0, none⟩ = some (.bool true) := KA.out.cell 0
 have cA1 : w2.cell? ⟨w.heap.size, 1, none⟩ = some (.slice A0 l0 c0) := KA.out.cell 1
 have cA2 : w2.cell? ⟨w.heap.size, 2, none⟩ = some (.slice B0 m0 k0) := KA.out.cell 2
 go_wp2_with fail
 clear cA0 cA1 cA2
 refine (limbs_b true B0 m0 k0 ys _ HJ.out hk1 hk2 ⟨fun _ => H1.out, fun _ => rfl⟩).mono ?_
 rintro e w3 ⟨v8, rfl, h8, hX⟩
 replace hX : Ext w2 w3 := by with_reducible exact hX
 replace HX := hid (HX.out.trans hX)
 replace HI := hid (HI.out.ext hX)
 replace HJ := hid (HJ.out.ext hX)
 replace HV7 := hid (HV7.out.ext hX)
 replace KA := hid (KA.out.ext hX)
 replace KR := hid (KR.out.ext hX)
 clear hX
 have HV8 := hid (h8 rfl)
 clear h8
 rw [HN.out] at HV7 HF0 HE
 rw [HDD.out] at HV8 HF1
 obtain ⟨A7, l7, c7, rfl, hv7, hz7⟩ := Z16.open HV7.out
 obtain ⟨A8, l8, c8, rfl, hv8, hz8⟩ := Z16.open HV8.out
 clear hv7 hv8
 have hl7 : (0 : Int) < (l7 : Int) := by
  rcases Nat.eq_zero_or_pos l7 with h | h
  ·
   exact absurd (hz7.1 h) hn
  ·
   omega
 have hl7' : 0 < l7 := by omega
 obtain rfl : l8 = 0 := hz8.2 hD
 clear hz7 hz8 hD hn
 have cA0 : w3.cell? ⟨w.heap.size, 0, none⟩ = some (.bool true) := KA.out.cell 0
 have cA1 : w3.cell? ⟨w.heap.size, 1, none⟩ = some (.slice A0 l0 c0) := KA.out.cell 1
 have cA2 : w3.cell? ⟨w.heap.size, 2, none⟩ = some (.slice B0 m0 k0) := KA.out.cell 2
 go_upto_region 7 with (fail)
 clear cA0 cA1 cA2
 have hXa : Ext w3 (w3.alloc (.cells #[.int .i64 1] 3)) := (Ext.refl _).alloc _
 have kO := Blk.new w3 3 #[.int .i64 1]
 have zA := KA.out.lt
 have zR := KR.out.lt
 have zg := HX.out.size
 replace HX := hid (HX.out.trans hXa)
 replace HI := hid (HI.out.ext hXa)
 replace HJ := hid (HJ.out.ext hXa)
 replace HV7 := hid (HV7.out.ext hXa)
 replace HV8 := hid (HV8.out.ext hXa)
 replace KA := hid (KA.out.ext hXa)
 replace KR := hid (KR.out.ext hXa)
 generalize (w3.alloc (.cells #[.int .i64 1] 3)) = w4 at HX HI HJ HV7 HV8 KA KR kO ⊢
 have KO := hid kO
 clear kO hXa
 have cA0 : w4.cell? ⟨w.heap.size, 0, none⟩ = some (.bool true) := KA.out.cell 0
 have cA1 : w4.cell? ⟨w.heap.size, 1, none⟩ = some (.slice A0 l0 c0) := KA.out.cell 1
 have cA2 : w4.cell? ⟨w.heap.size, 2, none⟩ = some (.slice B0 m0 k0) := KA.out.cell 2
 go_wp2_with fail
 clear cA0 cA1 cA2
 refine (fracN true false A7 _ l7 c7 _ _ n 1 L _ HV7.out KO.out.one16 HF0.out (Fit.one (by omega) (by omega)) (by omega) (by omega)).mono ?_
 rw [HE.out]
 rintro e w5 ⟨v9, rfl, hv, hn9, hX⟩
 have HN9 := hid (hn9.mono HX.out.size)
 clear hn9
 replace hX : Ext w4 w5 := by with_reducible exact hX
 replace HX := hid (HX.out.trans hX)
 replace HI := hid (HI.out.ext hX)
 replace HJ := hid (HJ.out.ext hX)
 replace HV7 := hid (HV7.out.ext hX)
 replace HV8 := hid (HV8.out.ext hX)
 replace KA := hid (KA.out.ext hX)
 replace KR := hid (KR.out.ext hX)
 replace KO := hid (KO.out.ext hX)
 clear hX
 obtain ⟨s9, A9, l9, c9, B9, m9, k9, rfl⟩ := QZ.open hv
 have HV := hid (QZ.past hv (NoInts.three KR.out))
 clear hv
 have cR0 : w5.cell? ⟨(w.heap.size + 1), 0, none⟩ = some (.bool false) := KR.out.cell 0
 have fR0 : w5.frozen? ⟨(w.heap.size + 1), 0, none⟩ = false := KR.out.free 0
 have cR1 : w5.cell? ⟨(w.heap.size + 1), 1, none⟩ = some (.slice none 0 0) := KR.out.cell 1
 have fR1 : w5.frozen? ⟨(w.heap.size + 1), 1, none⟩ = false := KR.out.free 1
 have cR2 : w5.cell? ⟨(w.heap.size + 1), 2, none⟩ = some (.slice none 0 0) := KR.out.cell 2
 have fR2 : w5.frozen? ⟨(w.heap.size + 1), 2, none⟩ = false := KR.out.free 2
 go_wp2
 refine bodyPost_ret (v := .tuple #[.agg #[.bool s9, .slice A9 l9 c9, .slice B9 m9 k9], .bool true]) (by simp [results, Try.results138, go_sem, *]) rfl ?_
 exact ⟨_, rfl, HV.out, HN9.out, Ext.boxed HX.out (by omega) _ _ _⟩
set_option maxRecDepth 100000 in
set_option maxHeartbeats 2000000 in
theorem rof_tdenN (A0 B0 : Option Addr) (l0 c0 m0 k0 : Nat) (xs ys : List Int) (w : World) (hI : Ints .u32 w A0 l0 xs) (hc : l0 ≤ c0 ∧ c0 ≤ 9223372036854775807) (hJ : Ints .u32 w B0 m0 ys) (hk : m0 ≤ k0 ∧ k0 ≤ 9223372036854775807) (ha : FitW (wN xs)) (hb : FitW (wN ys)) (hn : wN xs ≠ 0) (hD : wN ys ≠ 0) :
  Calls Try.prog 138 #[.agg #[.bool true, .slice A0 l0 c0, .slice B0 m0 k0]] w (RetOfN w (ratOf true xs ys)) := by
 have HI := hid hI
 have HJ := hid hJ
 clear hI hJ
 obtain ⟨hc1, hc2⟩ := hc
 obtain ⟨hk1, hk2⟩ := hk
 have H0 := hid ha
 have H1 := hid hb
 obtain ⟨L, hL⟩ : ∃ L : Nat, L = 512 := ⟨_, rfl⟩
 have HF0 : Hid (Fit 65536 (wN xs) L) := by rw [hL]; exact fit512 ha.1
 have HF1 : Hid (Fit 65536 (wN ys) L) := by rw [hL]; exact fit512 hb.1
 replace hL : 1 ≤ L ∧ L ≤ 512 := by omega
 obtain ⟨hL0, hL1⟩ := hL
 clear ha hb
 have HE : Hid (ratV true (wN xs) (wD ys) = ratOf true xs ys) := rfl
 rw [wD_nz hD] at HE
 obtain ⟨n, hN⟩ : ∃ n, wN xs = n := ⟨_, rfl⟩
 obtain ⟨d, hDD⟩ : ∃ d, wN ys = d := ⟨_, rfl⟩
 have HN := hid hN
 have HDD := hid hDD
 rw [hDD] at hD
 rw [hN] at hn
 clear hN hDD
 have hXe : Ext w ((w.alloc (.cells #[.bool true, .slice A0 l0 c0, .slice B0 m0 k0] 97)).alloc (.cells #[.bool false, .slice none 0 0, .slice none 0 0] 65)) := (((Ext.refl w).alloc _).alloc _)
 have kA : Blk ((w.alloc (.cells #[.bool true, .slice A0 l0 c0, .slice B0 m0 k0] 97)).alloc (.cells #[.bool false, .slice none 0 0, .slice none 0 0] 65)) w.heap.size 97 #[.bool true, .slice A0 l0 c0, .slice B0 m0 k0] := Blk.alloc (Blk.at_ (by simp)) _
 have kR : Blk ((w.alloc (.cells #[.bool true, .slice A0 l0 c0, .slice B0 m0 k0] 97)).alloc (.cells #[.bool false, .slice none 0 0, .slice none 0 0] 65)) (w.heap.size + 1) 65 #[.bool false, .slice none 0 0, .slice none 0 0] := Blk.at_ (by simp)
 go_enter Try.func138, Try.ntmps138
 go_wp2_with fail
 generalize ((w.alloc (.cells #[.bool true, .slice A0 l0 c0, .slice B0 m0 k0] 97)).alloc (.cells #[.bool false, .slice none 0 0, .slice none 0 0] 65)) = w1 at hXe kA kR ⊢
 have HX := hid hXe
 clear hXe
 have KA := hid kA
 clear kA
 have KR := hid kR
 clear kR
 replace HI := hid (HI.out.ext HX.out)
 replace HJ := hid (HJ.out.ext HX.out)
 have cA0 : w1.cell? ⟨w.heap.size, 0, none⟩ = some (.bool true) := KA.out.cell 0
 have cA1 : w1.cell? ⟨w.heap.size, 1, none⟩ = some (.slice A0 l0 c0) := KA.out.cell 1
 have cA2 : w1.cell? ⟨w.heap.size, 2, none⟩ = some (.slice B0 m0 k0) := KA.out.cell 2
 go_wp2_with fail
 clear cA0 cA1 cA2
 refine (limbs_b true A0 l0 c0 xs _ HI.out hc1 hc2 ⟨fun _ => H0.out, fun _ => rfl⟩).mono ?_
 rintro e w2 ⟨v7, rfl, h7, hX⟩
 replace hX : Ext w1 w2 := by with_reducible exact hX
 replace HX := hid (HX.out.trans hX)
 replace HI := hid (HI.out.ext hX)
 replace HJ := hid (HJ.out.ext hX)
 replace KA := hid (KA.out.ext hX)
 replace KR := hid (KR.out.ext hX)
 clear hX
 have HV7 : Hid (Z16 w2 v7 (wN xs)) := h7 rfl
 clear h7
 have cA0 : w2.cell? ⟨w.heap.size, 0, none⟩ = some (.bool true) := KA.out.cell 0
 have cA1 : w2.cell? ⟨w.heap.size, 1, none⟩ = some (.slice A0 l0 c0) := KA.out.cell 1
 have cA2 : w2.cell? ⟨w.heap.size, 2, none⟩ = some (.slice B0 m0 k0) := KA.out.cell 2
 go_wp2_with fail
 clear cA0 cA1 cA2
 refine (limbs_b true B0 m0 k0 ys _ HJ.out hk1 hk2 ⟨fun _ => H1.out, fun _ => rfl⟩).mono ?_
 rintro e w3 ⟨v8, rfl, h8, hX⟩
 replace hX : Ext w2 w3 := by with_reducible exact hX
 replace HX := hid (HX.out.trans hX)
 replace HI := hid (HI.out.ext hX)
 replace HJ := hid (HJ.out.ext hX)
 replace HV7 := hid (HV7.out.ext hX)
 replace KA := hid (KA.out.ext hX)
 replace KR := hid (KR.out.ext hX)
 clear hX
 have HV8 := hid (h8 rfl)
 clear h8
 rw [HN.out] at HV7 HF0 HE
 rw [HDD.out] at HV8 HF1 HE
 obtain ⟨A7, l7, c7, rfl, hv7, hz7⟩ := Z16.open HV7.out
 obtain ⟨A8, l8, c8, rfl, hv8, hz8⟩ := Z16.open HV8.out
 clear hv7 hv8
 have hl7 : (0 : Int) < (l7 : Int) := by
  rcases Nat.eq_zero_or_pos l7 with h | h
  ·
   exact absurd (hz7.1 h) hn
  ·
   omega
 have hl7' : 0 < l7 := by omega
 have hl8 : ¬ l8 = 0 := fun h => hD (hz8.1 h)
 have hl8' : ((l8 : Int) == 0) = false := by simp; omega
 have HDP : Hid (0 < d) := by show 0 < _; omega
 clear hz7 hz8 hD hn
 have cA0 : w3.cell? ⟨w.heap.size, 0, none⟩ = some (.bool true) := KA.out.cell 0
 have cA1 : w3.cell? ⟨w.heap.size, 1, none⟩ = some (.slice A0 l0 c0) := KA.out.cell 1
 have cA2 : w3.cell? ⟨w.heap.size, 2, none⟩ = some (.slice B0 m0 k0) := KA.out.cell 2
 go_wp2_with fail
 clear cA0 cA1 cA2
 refine (fracN true false A7 _ l7 c7 _ _ n d L _ HV7.out HV8.out HF0.out HF1.out (by omega) HDP.out).mono ?_
 rw [HE.out]
 rintro e w4 ⟨v9, rfl, hv, hn9, hX⟩
 have HN9 := hid (hn9.mono HX.out.size)
 clear hn9
 replace hX : Ext w3 w4 := by with_reducible exact hX
 replace HX := hid (HX.out.trans hX)
 replace HI := hid (HI.out.ext hX)
 replace HJ := hid (HJ.out.ext hX)
 replace HV7 := hid (HV7.out.ext hX)
 replace HV8 := hid (HV8.out.ext hX)
 replace KA := hid (KA.out.ext hX)
 replace KR := hid (KR.out.ext hX)
 clear hX
 obtain ⟨s9, A9, l9, c9, B9, m9, k9, rfl⟩ := QZ.open hv
 have HV := hid (QZ.past hv (NoInts.three KR.out))
 clear hv
 have cR0 : w4.cell? ⟨(w.heap.size + 1), 0, none⟩ = some (.bool false) := KR.out.cell 0
 have fR0 : w4.frozen? ⟨(w.heap.size + 1), 0, none⟩ = false := KR.out.free 0
 have cR1 : w4.cell? ⟨(w.heap.size + 1), 1, none⟩ = some (.slice none 0 0) := KR.out.cell 1
 have fR1 : w4.frozen? ⟨(w.heap.size + 1), 1, none⟩ = false := KR.out.free 1
 have cR2 : w4.cell? ⟨(w.heap.size + 1), 2, none⟩ = some (.slice none 0 0) := KR.out.cell 2
 have fR2 : w4.frozen? ⟨(w.heap.size + 1), 2, none⟩ = false := KR.out.free 2
 go_wp2
 refine bodyPost_ret (v := .tuple #[.agg #[.bool s9, .slice A9 l9 c9, .slice B9 m9 k9], .bool true]) (by simp [results, Try.results138, go_sem, *]) rfl ?_
 exact ⟨_, rfl, HV.out, HN9.out, Ext.boxed HX.out (by omega) _ _ _⟩
set_option maxRecDepth 100000 in
set_option maxHeartbeats 2000000 in
theorem rof_zoneN (A0 B0 : Option Addr) (l0 c0 m0 k0 : Nat) (xs ys : List Int) (w : World) (hI : Ints .u32 w A0 l0 xs) (hc : l0 ≤ c0 ∧ c0 ≤ 9223372036854775807) (hJ : Ints .u32 w B0 m0 ys) (hk : m0 ≤ k0 ∧ k0 ≤ 9223372036854775807) (ha : FitW (wN xs)) (hb : FitW (wN ys)) (hn : wN xs = 0) (hD : wN ys = 0) :
  Calls Try.prog 138 #[.agg #[.bool true, .slice A0 l0 c0, .slice B0 m0 k0]] w (RetOfN w (ratOf true xs ys)) := by
 have HI := hid hI
 have HJ := hid hJ
 clear hI hJ
 obtain ⟨hc1, hc2⟩ := hc
 obtain ⟨hk1, hk2⟩ := hk
 have H0 := hid ha
 have H1 := hid hb
 obtain ⟨L, hL⟩ : ∃ L : Nat, L = 512 := ⟨_, rfl⟩
 have HF0 : Hid (Fit 65536 (wN xs) L) := by rw [hL]; exact fit512 ha.1
 have HF1 : Hid (Fit 65536 (wN ys) L) := by rw [hL]; exact fit512 hb.1
 replace hL : 1 ≤ L ∧ L ≤ 512 := by omega
 obtain ⟨hL0, hL1⟩ := hL
 clear ha hb
 have HE : Hid (ratV false (wN xs) (wD ys) = ratOf true xs ys) := ratV_z _ _ (wD_pos ys) hn
 rw [wD_zero hD] at HE
 obtain ⟨n, hN⟩ : ∃ n, wN xs = n := ⟨_, rfl⟩
 obtain ⟨d, hDD⟩ : ∃ d, wN ys = d := ⟨_, rfl⟩
 have HN := hid hN
 have HDD := hid hDD
 rw [hDD] at hD
 rw [hN] at hn
 clear hN hDD
 have hXe : Ext w ((w.alloc (.cells #[.bool true, .slice A0 l0 c0, .slice B0 m0 k0] 97)).alloc (.cells #[.bool false, .slice none 0 0, .slice none 0 0] 65)) := (((Ext.refl w).alloc _).alloc _)
 have kA : Blk ((w.alloc (.cells #[.bool true, .slice A0 l0 c0, .slice B0 m0 k0] 97)).alloc (.cells #[.bool false, .slice none 0 0, .slice none 0 0] 65)) w.heap.size 97 #[.bool true, .slice A0 l0 c0, .slice B0 m0 k0] := Blk.alloc (Blk.at_ (by simp)) _
 have kR : Blk ((w.alloc (.cells #[.bool true, .slice A0 l0 c0, .slice B0 m0 k0] 97)).alloc (.cells #[.bool false, .slice none 0 0, .slice none 0 0] 65)) (w.heap.size + 1) 65 #[.bool false, .slice none 0 0, .slice none 0 0] := Blk.at_ (by simp)
 go_enter Try.func138, Try.ntmps138
 go_wp2_with fail
 generalize ((w.alloc (.cells #[.bool true, .slice A0 l0 c0, .slice B0 m0 k0] 97)).alloc (.cells #[.bool false, .slice none 0 0, .slice none 0 0] 65)) = w1 at hXe kA kR ⊢
 have HX := hid hXe
 clear hXe
 have KA := hid kA
 clear kA
 have KR := hid kR
 clear kR
 replace HI := hid (HI.out.ext HX.out)
 replace HJ := hid (HJ.out.ext HX.out)
 have cA0 : w1.cell? ⟨w.heap.size, 0, none⟩ = some (.bool true) := KA.out.cell 0
 have cA1 : w1.cell? ⟨w.heap.size, 1, none⟩ = some (.slice A0 l0 c0) := KA.out.cell 1
 have cA2 : w1.cell? ⟨w.heap.size, 2, none⟩ = some (.slice B0 m0 k0) := KA.out.cell 2
 go_wp2_with fail
 clear cA0 cA1 cA2
 refine (limbs_b true A0 l0 c0 xs _ HI.out hc1 hc2 ⟨fun _ => H0.out, fun _ => rfl⟩).mono ?_
 rintro e w2 ⟨v7, rfl, h7, hX⟩
 replace hX : Ext w1 w2 := by with_reducible exact hX
 replace HX := hid (HX.out.trans hX)
 replace HI := hid (HI.out.ext hX)
 replace HJ := hid (HJ.out.ext hX)
 replace KA := hid (KA.out.ext hX)
 replace KR := hid (KR.out.ext hX)
 clear hX
 have HV7 : Hid (Z16 w2 v7 (wN xs)) := h7 rfl
 clear h7
 have cA0 : w2.cell? ⟨w.heap.size, 0, none⟩ = some (.bool true) := KA.out.cell 0
 have cA1 : w2.cell? ⟨w.heap.size, 1, none⟩ = some (.slice A0 l0 c0) := KA.out.cell 1
 have cA2 : w2.cell? ⟨w.heap.size, 2, none⟩ = some (.slice B0 m0 k0) := KA.out.cell 2
 go_wp2_with fail
 clear cA0 cA1 cA2
 refine (limbs_b true B0 m0 k0 ys _ HJ.out hk1 hk2 ⟨fun _ => H1.out, fun _ => rfl⟩).mono ?_
 rintro e w3 ⟨v8, rfl, h8, hX⟩
 replace hX : Ext w2 w3 := by with_reducible exact hX
 replace HX := hid (HX.out.trans hX)
 replace HI := hid (HI.out.ext hX)
 replace HJ := hid (HJ.out.ext hX)
 replace HV7 := hid (HV7.out.ext hX)
 replace KA := hid (KA.out.ext hX)
 replace KR := hid (KR.out.ext hX)
 clear hX
 have HV8 := hid (h8 rfl)
 clear h8
 rw [HN.out] at HV7 HF0 HE
 rw [HDD.out] at HV8 HF1
 obtain ⟨A7, l7, c7, rfl, hv7, hz7⟩ := Z16.open HV7.out
 obtain ⟨A8, l8, c8, rfl, hv8, hz8⟩ := Z16.open HV8.out
 clear hv7 hv8
 obtain rfl : l7 = 0 := hz7.2 hn
 obtain rfl : l8 = 0 := hz8.2 hD
 clear hz7 hz8 hD hn
 have cA0 : w3.cell? ⟨w.heap.size, 0, none⟩ = some (.bool true) := KA.out.cell 0
 have cA1 : w3.cell? ⟨w.heap.size, 1, none⟩ = some (.slice A0 l0 c0) := KA.out.cell 1
 have cA2 : w3.cell? ⟨w.heap.size, 2, none⟩ = some (.slice B0 m0 k0) := KA.out.cell 2
 go_upto_region 7 with (fail)
 clear cA0 cA1 cA2
 have hXa : Ext w3 (w3.alloc (.cells #[.int .i64 1] 3)) := (Ext.refl _).alloc _
 have kO := Blk.new w3 3 #[.int .i64 1]
 have zA := KA.out.lt
 have zR := KR.out.lt
 have zg := HX.out.size
 replace HX := hid (HX.out.trans hXa)
 replace HI := hid (HI.out.ext hXa)
 replace HJ := hid (HJ.out.ext hXa)
 replace HV7 := hid (HV7.out.ext hXa)
 replace HV8 := hid (HV8.out.ext hXa)
 replace KA := hid (KA.out.ext hXa)
 replace KR := hid (KR.out.ext hXa)
 generalize (w3.alloc (.cells #[.int .i64 1] 3)) = w4 at HX HI HJ HV7 HV8 KA KR kO ⊢
 have KO := hid kO
 clear kO hXa
 have cA0 : w4.cell? ⟨w.heap.size, 0, none⟩ = some (.bool true) := KA.out.cell 0
 have cA1 : w4.cell? ⟨w.heap.size, 1, none⟩ = some (.slice A0 l0 c0) := KA.out.cell 1
 have cA2 : w4.cell? ⟨w.heap.size, 2, none⟩ = some (.slice B0 m0 k0) := KA.out.cell 2
 go_wp2_with fail
 clear cA0 cA1 cA2
 refine (fracN false false A7 _ 0 c7 _ _ n 1 L _ HV7.out KO.out.one16 HF0.out (Fit.one (by omega) (by omega)) (by omega) (by omega)).mono ?_
 rw [HE.out]
 rintro e w5 ⟨v9, rfl, hv, hn9, hX⟩
 have HN9 := hid (hn9.mono HX.out.size)
 clear hn9
 replace hX : Ext w4 w5 := by with_reducible exact hX
 replace HX := hid (HX.out.trans hX)
 replace HI := hid (HI.out.ext hX)
 replace HJ := hid (HJ.out.ext hX)
 replace HV7 := hid (HV7.out.ext hX)
 replace HV8 := hid (HV8.out.ext hX)
 replace KA := hid (KA.out.ext hX)
 replace KR := hid (KR.out.ext hX)
 replace KO := hid (KO.out.ext hX)
 clear hX
 obtain ⟨s9, A9, l9, c9, B9, m9, k9, rfl⟩ := QZ.open hv
 have HV := hid (QZ.past hv (NoInts.three KR.out))
 clear hv
 have cR0 : w5.cell? ⟨(w.heap.size + 1), 0, none⟩ = some (.bool false) := KR.out.cell 0
 have fR0 : w5.frozen? ⟨(w.heap.size + 1), 0, none⟩ = false := KR.out.free 0
 have cR1 : w5.cell? ⟨(w.heap.size + 1), 1, none⟩ = some (.slice none 0 0) := KR.out.cell 1
 have fR1 : w5.frozen? ⟨(w.heap.size + 1), 1, none⟩ = false := KR.out.free 1
 have cR2 : w5.cell? ⟨(w.heap.size + 1), 2, none⟩ = some (.slice none 0 0) := KR.out.cell 2
 have fR2 : w5.frozen? ⟨(w.heap.size + 1), 2, none⟩ = false := KR.out.free 2
 go_wp2
 refine bodyPost_ret (v := .tuple #[.agg #[.bool s9, .slice A9 l9 c9, .slice B9 m9 k9], .bool true]) (by simp [results, Try.results138, go_sem, *]) rfl ?_
 exact ⟨_, rfl, HV.out, HN9.out, Ext.boxed HX.out (by omega) _ _ _⟩
set_option maxRecDepth 100000 in
set_option maxHeartbeats 2000000 in
theorem rof_zdenN (A0 B0 : Option Addr) (l0 c0 m0 k0 : Nat) (xs ys : List Int) (w : World) (hI : Ints .u32 w A0 l0 xs) (hc : l0 ≤ c0 ∧ c0 ≤ 9223372036854775807) (hJ : Ints .u32 w B0 m0 ys) (hk : m0 ≤ k0 ∧ k0 ≤ 9223372036854775807) (ha : FitW (wN xs)) (hb : FitW (wN ys)) (hn : wN xs = 0) (hD : wN ys ≠ 0) :
  Calls Try.prog 138 #[.agg #[.bool true, .slice A0 l0 c0, .slice B0 m0 k0]] w (RetOfN w (ratOf true xs ys)) := by
 have HI := hid hI
 have HJ := hid hJ
 clear hI hJ
 obtain ⟨hc1, hc2⟩ := hc
 obtain ⟨hk1, hk2⟩ := hk
 have H0 := hid ha
 have H1 := hid hb
 obtain ⟨L, hL⟩ : ∃ L : Nat, L = 512 := ⟨_, rfl⟩
 have HF0 : Hid (Fit 65536 (wN xs) L) := by rw [hL]; exact fit512 ha.1
 have HF1 : Hid (Fit 65536 (wN ys) L) := by rw [hL]; exact fit512 hb.1
 replace hL : 1 ≤ L ∧ L ≤ 512 := by omega
 obtain ⟨hL0, hL1⟩ := hL
 clear ha hb
 have HE : Hid (ratV false (wN xs) (wD ys) = ratOf true xs ys) := ratV_z _ _ (wD_pos ys) hn
 rw [wD_nz hD] at HE
 obtain ⟨n, hN⟩ : ∃ n, wN xs = n := ⟨_, rfl⟩
 obtain ⟨d, hDD⟩ : ∃ d, wN ys = d := ⟨_, rfl⟩
 have HN := hid hN
 have HDD := hid hDD
 rw [hDD] at hD
 rw [hN] at hn
 clear hN hDD
 have hXe : Ext w ((w.alloc (.cells #[.bool true, .slice A0 l0 c0, .slice B0 m0 k0] 97)).alloc (.cells #[.bool false, .slice none 0 0, .slice none 0 0] 65)) := (((Ext.refl w).alloc _).alloc _)
 have kA : Blk ((w.alloc (.cells #[.bool true, .slice A0 l0 c0, .slice B0 m0 k0] 97)).alloc (.cells #[.bool false, .slice none 0 0, .slice none 0 0] 65)) w.heap.size 97 #[.bool true, .slice A0 l0 c0, .slice B0 m0 k0] := Blk.alloc (Blk.at_ (by simp)) _
 have kR : Blk ((w.alloc (.cells #[.bool true, .slice A0 l0 c0, .slice B0 m0 k0] 97)).alloc (.cells #[.bool false, .slice none 0 0, .slice none 0 0] 65)) (w.heap.size + 1) 65 #[.bool false, .slice none 0 0, .slice none 0 0] := Blk.at_ (by simp)
 go_enter Try.func138, Try.ntmps138
 go_wp2_with fail
 generalize ((w.alloc (.cells #[.bool true, .slice A0 l0 c0, .slice B0 m0 k0] 97)).alloc (.cells #[.bool false, .slice none 0 0, .slice none 0 0] 65)) = w1 at hXe kA kR ⊢
 have HX := hid hXe
 clear hXe
 have KA := hid kA
 clear kA
 have KR := hid kR
 clear kR
 replace HI := hid (HI.out.ext HX.out)
 replace HJ := hid (HJ.out.ext HX.out)
 have cA0 : w1.cell? ⟨w.heap.size, 0, none⟩ = some (.bool true) := KA.out.cell 0
 have cA1 : w1.cell? ⟨w.heap.size, 1, none⟩ = some (.slice A0 l0 c0) := KA.out.cell 1
 have cA2 : w1.cell? ⟨w.heap.size, 2, none⟩ = some (.slice B0 m0 k0) := KA.out.cell 2
 go_wp2_with fail
 clear cA0 cA1 cA2
 refine (limbs_b true A0 l0 c0 xs _ HI.out hc1 hc2 ⟨fun _ => H0.out, fun _ => rfl⟩).mono ?_
 rintro e w2 ⟨v7, rfl, h7, hX⟩
 replace hX : Ext w1 w2 := by with_reducible exact hX
 replace HX := hid (HX.out.trans hX)
 replace HI := hid (HI.out.ext hX)
 replace HJ := hid (HJ.out.ext hX)
 replace KA := hid (KA.out.ext hX)
 replace KR := hid (KR.out.ext hX)
 clear hX
 have HV7 : Hid (Z16 w2 v7 (wN xs)) := h7 rfl
 clear h7
 have cA0 : w2.cell? ⟨w.heap.size, 0, none⟩ = some (.bool true) := KA.out.cell 0
 have cA1 : w2.cell? ⟨w.heap.size, 1, none⟩ = some (.slice A0 l0 c0) := KA.out.cell 1
 have cA2 : w2.cell? ⟨w.heap.size, 2, none⟩ = some (.slice B0 m0 k0) := KA.out.cell 2
 go_wp2_with fail
 clear cA0 cA1 cA2
 refine (limbs_b true B0 m0 k0 ys _ HJ.out hk1 hk2 ⟨fun _ => H1.out, fun _ => rfl⟩).mono ?_
 rintro e w3 ⟨v8, rfl, h8, hX⟩
 replace hX : Ext w2 w3 := by with_reducible exact hX
 replace HX := hid (HX.out.trans hX)
 replace HI := hid (HI.out.ext hX)
 replace HJ := hid (HJ.out.ext hX)
 replace HV7 := hid (HV7.out.ext hX)
 replace KA := hid (KA.out.ext hX)
 replace KR := hid (KR.out.ext hX)
 clear hX
 have HV8 := hid (h8 rfl)
 clear h8
 rw [HN.out] at HV7 HF0 HE
 rw [HDD.out] at HV8 HF1 HE
 obtain ⟨A7, l7, c7, rfl, hv7, hz7⟩ := Z16.open HV7.out
 obtain ⟨A8, l8, c8, rfl, hv8, hz8⟩ := Z16.open HV8.out
 clear hv7 hv8
 obtain rfl : l7 = 0 := hz7.2 hn
 have hl8 : ¬ l8 = 0 := fun h => hD (hz8.1 h)
 have hl8' : ((l8 : Int) == 0) = false := by simp; omega
 have HDP : Hid (0 < d) := by show 0 < _; omega
 clear hz7 hz8 hD hn
 have cA0 : w3.cell? ⟨w.heap.size, 0, none⟩ = some (.bool true) := KA.out.cell 0
 have cA1 : w3.cell? ⟨w.heap.size, 1, none⟩ = some (.slice A0 l0 c0) := KA.out.cell 1
 have cA2 : w3.cell? ⟨w.heap.size, 2, none⟩ = some (.slice B0 m0 k0) := KA.out.cell 2
 go_wp2_with fail
 clear cA0 cA1 cA2
 refine (fracN false false A7 _ 0 c7 _ _ n d L _ HV7.out HV8.out HF0.out HF1.out (by omega) HDP.out).mono ?_
 rw [HE.out]
 rintro e w4 ⟨v9, rfl, hv, hn9, hX⟩
 have HN9 := hid (hn9.mono HX.out.size)
 clear hn9
 replace hX : Ext w3 w4 := by with_reducible exact hX
 replace HX := hid (HX.out.trans hX)
 replace HI := hid (HI.out.ext hX)
 replace HJ := hid (HJ.out.ext hX)
 replace HV7 := hid (HV7.out.ext hX)
 replace HV8 := hid (HV8.out.ext hX)
 replace KA := hid (KA.out.ext hX)
 replace KR := hid (KR.out.ext hX)
 clear hX
 obtain ⟨s9, A9, l9, c9, B9, m9, k9, rfl⟩ := QZ.open hv
 have HV := hid (QZ.past hv (NoInts.three KR.out))
 clear hv
 have cR0 : w4.cell? ⟨(w.heap.size + 1), 0, none⟩ = some (.bool false) := KR.out.cell 0
 have fR0 : w4.frozen? ⟨(w.heap.size + 1), 0, none⟩ = false := KR.out.free 0
 have cR1 : w4.cell? ⟨(w.heap.size + 1), 1, none⟩ = some (.slice none 0 0) := KR.out.cell 1
 have fR1 : w4.frozen? ⟨(w.heap.size + 1), 1, none⟩ = false := KR.out.free 1
 have cR2 : w4.cell? ⟨(w.heap.size + 1), 2, none⟩ = some (.slice none 0 0) := KR.out.cell 2
 have fR2 : w4.frozen? ⟨(w.heap.size + 1), 2, none⟩ = false := KR.out.free 2
 go_wp2
 refine bodyPost_ret (v := .tuple #[.agg #[.bool s9, .slice A9 l9 c9, .slice B9 m9 k9], .bool true]) (by simp [results, Try.results138, go_sem, *]) rfl ?_
 exact ⟨_, rfl, HV.out, HN9.out, Ext.boxed HX.out (by omega) _ _ _⟩
theorem rof_yesN {w : World} {v : Value} {q : Rat} (h : RatG w v q) : Calls Try.prog 138 #[v] w (RetOfN w q) := by
 obtain ⟨neg, xs, ys, ⟨A, l, c, B, m, k, rfl, h1, h2, h3, h4, h5, h6⟩, ⟨ha, hb⟩, rfl⟩ := h
 cases neg
 ·
  by_cases hD : wN ys = 0
  ·
   exact rof_foneN A B l c m k xs ys w h1 ⟨h2, h3⟩ h4 ⟨h5, h6⟩ ha hb hD
  ·
   exact rof_fdenN A B l c m k xs ys w h1 ⟨h2, h3⟩ h4 ⟨h5, h6⟩ ha hb hD
 ·
  by_cases hn : wN xs = 0
  ·
   by_cases hD : wN ys = 0
   ·
    exact rof_zoneN A B l c m k xs ys w h1 ⟨h2, h3⟩ h4 ⟨h5, h6⟩ ha hb hn hD
   ·
    exact rof_zdenN A B l c m k xs ys w h1 ⟨h2, h3⟩ h4 ⟨h5, h6⟩ ha hb hn hD
  ·
   by_cases hD : wN ys = 0
   ·
    exact rof_toneN A B l c m k xs ys w h1 ⟨h2, h3⟩ h4 ⟨h5, h6⟩ ha hb hn hD
   ·
    exact rof_tdenN A B l c m k xs ys w h1 ⟨h2, h3⟩ h4 ⟨h5, h6⟩ ha hb hn hD
section
variable {w w' : World} {B : Nat} {L : List Nat}
theorem keeps_cell {q : Addr} {v : Value} (hk : Keeps L w w') (h : w.cell? q = some v) (hn : q.block ∉ L) : w'.cell? q = some v := by
 rw [← h]
 exact World.cell?_of_block (w := w) (hk.block q.block (World.block_lt_of_cell? w q h) hn)
/-- A number in memory from B on stands a store into older blocks. -/
theorem Z16.new {A : Option Addr} {l c n : Nat} (h : Z16 w (.slice A l c) n) (hk : Keeps L w w') (hn : NewS B A l) (hL : ∀ g ∈ L, g < B) : Z16 w' (.slice A l c) n := by
 obtain ⟨A', l', c', xs, e, ⟨h1, h2, h3⟩, hr, hc⟩ := h
 injection e with e1 e2 e3
 subst e1 e2 e3
 refine ⟨A, l, c, xs, rfl, ⟨h1, h2, ?_⟩, hr, hc⟩
 intro hne
 obtain ⟨b, off, rfl, hcell⟩ := h3 hne
 have hb : B ≤ b := by
  rcases hn with h0 | ⟨g, e, hg⟩
  ·
   subst h0
   exact absurd (by rw [List.eq_nil_of_length_eq_zero h1]; rfl) hne
  ·
   injection e with e
   injection e with e _
   rw [e]; exact hg
 refine ⟨b, off, rfl, fun j v hv => ?_⟩
 have hc := hcell j v hv
 exact keeps_cell hk hc (fun q => by have := hL _ q; simp only at this; omega)
theorem QZ.new {v : Value} {q : Rat} (h : QZ w v q) (hk : Keeps L w w') (hn : NewQ B v) (hL : ∀ g ∈ L, g < B) : QZ w' v q := by
 obtain ⟨b, A, l, c, D, m, k, rfl, h1, h2, h3⟩ := h
 obtain ⟨b', A', l', c', D', m', k', e, n1, n2⟩ := hn
 injection e with e
 have e : [Value.bool b, .slice A l c, .slice D m k] = [.bool b', .slice A' l' c', .slice D' m' k'] := by simpa using e
 simp only [List.cons.injEq, Value.slice.injEq] at e
 obtain ⟨_, ⟨rfl, rfl, rfl⟩, ⟨rfl, rfl, rfl⟩, _⟩ := e
 exact ⟨b, A, l, c, D, m, k, rfl, h1, h2.new hk n1 hL, h3.new hk n2 hL⟩
end
set_option maxHeartbeats 1000000 in
theorem rvalid_any (x y : Int) (w : World) : Calls Try.prog 93 #[.agg #[.int .i64 x, .int .i64 y]] w fun e w' => e = .returned (.bool (okS x y)) ∧ Ext w w' := by
 have HX := hid ((Ext.refl w).alloc (.cells #[.int .i64 x, .int .i64 y] 31))
 rcases okS_cases x y with ⟨hb, b1, b2, b3⟩ | ⟨hb, b1 | ⟨b1, b2⟩ | ⟨b1, b2, b3⟩⟩
 all_goals
  rw [hb]
  clear hb
  go_enter Try.func93, Try.ntmps93
  go_wp2
  go_ret
  refine ⟨?_, HX.out⟩
  first
  | rfl
  | (show Ending.returned (.bool (decide (y ≤ 1152921504606846976))) = Ending.returned (.bool false); rw [decide_eq_false (by omega)])
end Go.Proofs.Ytikhlcgnlbinfaa
