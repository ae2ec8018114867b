/- Lemmas of the proof that follows (Rounds, part 7): walks of functions by contract, and plain lemmas. Conditions: none. -/
import Derived.Test.YteoijnaljkagfaaRoundsF
namespace Go.Proofs.Yteoijnaljkagfaa
open Go.RowKit

theorem fit512 {n : Nat} (h : Fit 4294967296 n 256) : Fit 65536 n 512 := by
  have h2 := (fit_double (n := n) (L := 256)).2 h
  rw [show 2 * 256 = 512 from rfl] at h2
  exact h2
theorem limbs_b (b : Bool) (A : Option Addr) (l c : Nat) (xs : List Int) (w : World) (hI : Ints .u32 w A l xs) (hc1 : l ≤ c) (hc2 : c ≤ 9223372036854775807) (hf : b = true ↔ FitW (wN xs)) :
    Calls Try.prog 119 #[.slice A l c] w (fun e w' => ∃ v, e = .returned (.tuple #[v, .bool b]) ∧ (b = true → Z16 w' v (wN xs)) ∧ Ext w w') := by
  cases b
  · refine (limbs_no A l c xs w hI hc1 hc2 (fun h => by have := hf.2 h; cases this)).mono ?_
    rintro e w' ⟨rfl, hX⟩
    exact ⟨_, rfl, (fun h => by cases h), hX⟩
  · refine (limbs_yes A l c xs w hI hc1 hc2 (hf.1 rfl)).mono ?_
    rintro e w' ⟨v, rfl, hz, hX⟩
    exact ⟨v, rfl, fun _ => hz, hX⟩
theorem wD_zero {ys : List Int} (h : wN ys = 0) : wD ys = 1 := by unfold wD; rw [if_pos h]
theorem wD_nz {ys : List Int} (h : wN ys ≠ 0) : wD ys = wN ys := by unfold wD; rw [if_neg h]
theorem ratV_z (s t : Bool) {n d : Nat} (hd : 0 < d) (hn : n = 0) : ratV s n d = ratV t n d := by rw [(ratV_zero s n d hd).2 hn, (ratV_zero t n d hd).2 hn]
/-- What Of returns of a number that is not large. -/
def RetOf (w : World) (q : Rat) (e : Ending) (w' : World) : Prop := ∃ v, e = .returned (.tuple #[v, .bool true]) ∧ QZ w' v q ∧ Ext w w'

set_option maxRecDepth 100000 in
set_option maxHeartbeats 2000000 in
theorem rof_n0 (s0 : Bool) (A0 B0 : Option Addr) (l0 c0 m0 k0 : Nat) (xs ys : List Int) (w : World) (hI : Ints .u32 w A0 l0 xs) (hc : l0 ≤ c0 ∧ c0 ≤ 9223372036854775807) (hJ : Ints .u32 w B0 m0 ys) (hk : m0 ≤ k0 ∧ k0 ≤ 9223372036854775807) (hb : ¬ FitW (wN xs)) :
    Calls Try.prog 87 #[.agg #[.bool s0, .slice A0 l0 c0, .slice B0 m0 k0]] w (fun e w' => e = .returned (.tuple #[.agg #[.bool false, .slice none 0 0, .slice none 0 0], .bool false]) ∧ Ext w w') := by
  have HI := Lib.hid hI
  have HJ := Lib.hid hJ
  clear hI hJ
  obtain ⟨hc1, hc2⟩ := hc
  obtain ⟨hk1, hk2⟩ := hk
  have H0 := Lib.hid hb
  clear hb
  obtain ⟨b1, hb1⟩ : ∃ b : Bool, b = true ↔ FitW (wN ys) := by
    by_cases h : FitW (wN ys)
    · exact ⟨true, by simp [h]⟩
    · exact ⟨false, by simp [h]⟩
  have H1 := Lib.hid hb1
  clear hb1
  have hXe : Ext w ((w.alloc (.cells #[.bool s0, .slice A0 l0 c0, .slice B0 m0 k0] 33)).alloc (.cells #[.bool false, .slice none 0 0, .slice none 0 0] 42)) := (((Ext.refl w).alloc _).alloc _)
  have kA : Blk ((w.alloc (.cells #[.bool s0, .slice A0 l0 c0, .slice B0 m0 k0] 33)).alloc (.cells #[.bool false, .slice none 0 0, .slice none 0 0] 42)) w.heap.size 33 #[.bool s0, .slice A0 l0 c0, .slice B0 m0 k0] := Blk.alloc (Blk.at_ (by simp)) _
  have kR : Blk ((w.alloc (.cells #[.bool s0, .slice A0 l0 c0, .slice B0 m0 k0] 33)).alloc (.cells #[.bool false, .slice none 0 0, .slice none 0 0] 42)) (w.heap.size + 1) 42 #[.bool false, .slice none 0 0, .slice none 0 0] := Blk.at_ (by simp)
  go_enter Try.func87, Try.ntmps87
  go_wp2_with fail
  generalize ((w.alloc (.cells #[.bool s0, .slice A0 l0 c0, .slice B0 m0 k0] 33)).alloc (.cells #[.bool false, .slice none 0 0, .slice none 0 0] 42)) = w1 at hXe kA kR ⊢
  have HX := Lib.hid hXe
  clear hXe
  have KA := Lib.hid kA
  clear kA
  have KR := Lib.hid kR
  clear kR
  replace HI := Lib.hid (HI.out.ext HX.out)
  replace HJ := Lib.hid (HJ.out.ext HX.out)
  have cA0 : w1.cell? ⟨w.heap.size, 0, none⟩ = some (.bool s0) := KA.out.cell 0
  have cA1 : w1.cell? ⟨w.heap.size, 1, none⟩ = some (.slice A0 l0 c0) := KA.out.cell 1
  have cA2 : w1.cell? ⟨w.heap.size, 2, none⟩ = some (.slice B0 m0 k0) := KA.out.cell 2
  go_wp2_with fail
  clear cA0 cA1 cA2
  refine (limbs_b false A0 l0 c0 xs _ HI.out hc1 hc2 ⟨(fun h => by cases h), fun h => absurd h H0.out⟩).mono ?_
  rintro e w2 ⟨v7, rfl, h7, hX⟩
  replace hX : Ext w1 w2 := by with_reducible exact hX
  replace HX := Lib.hid (HX.out.trans hX)
  replace HI := Lib.hid (HI.out.ext hX)
  replace HJ := Lib.hid (HJ.out.ext hX)
  replace KA := Lib.hid (KA.out.ext hX)
  replace KR := Lib.hid (KR.out.ext hX)
  clear hX
  have HV7 : Hid (True) := trivial
  clear h7
  have cA0 : w2.cell? ⟨w.heap.size, 0, none⟩ = some (.bool s0) := KA.out.cell 0
  have cA1 : w2.cell? ⟨w.heap.size, 1, none⟩ = some (.slice A0 l0 c0) := KA.out.cell 1
  have cA2 : w2.cell? ⟨w.heap.size, 2, none⟩ = some (.slice B0 m0 k0) := KA.out.cell 2
  go_wp2_with fail
  clear cA0 cA1 cA2
  refine (limbs_b b1 B0 m0 k0 ys _ HJ.out hk1 hk2 H1.out).mono ?_
  rintro e w3 ⟨v8, rfl, h8, hX⟩
  replace hX : Ext w2 w3 := by with_reducible exact hX
  replace HX := Lib.hid (HX.out.trans hX)
  replace HI := Lib.hid (HI.out.ext hX)
  replace HJ := Lib.hid (HJ.out.ext hX)
  replace KA := Lib.hid (KA.out.ext hX)
  replace KR := Lib.hid (KR.out.ext hX)
  clear hX
  clear h8
  have cR0 : w3.cell? ⟨(w.heap.size + 1), 0, none⟩ = some (.bool false) := KR.out.cell 0
  have fR0 : w3.frozen? ⟨(w.heap.size + 1), 0, none⟩ = false := KR.out.free 0
  have cR1 : w3.cell? ⟨(w.heap.size + 1), 1, none⟩ = some (.slice none 0 0) := KR.out.cell 1
  have fR1 : w3.frozen? ⟨(w.heap.size + 1), 1, none⟩ = false := KR.out.free 1
  have cR2 : w3.cell? ⟨(w.heap.size + 1), 2, none⟩ = some (.slice none 0 0) := KR.out.cell 2
  have fR2 : w3.frozen? ⟨(w.heap.size + 1), 2, none⟩ = false := KR.out.free 2
  go_wp2
  refine bodyPost_ret (v := .tuple #[.agg #[.bool false, .slice none 0 0, .slice none 0 0], .bool false]) (by simp [results, Try.results87, go_sem, *]) rfl ?_
  exact ⟨rfl, Ext.boxed HX.out (by omega) _ _ _⟩

set_option maxRecDepth 100000 in
set_option maxHeartbeats 2000000 in
theorem rof_n1 (s0 : Bool) (A0 B0 : Option Addr) (l0 c0 m0 k0 : Nat) (xs ys : List Int) (w : World) (hI : Ints .u32 w A0 l0 xs) (hc : l0 ≤ c0 ∧ c0 ≤ 9223372036854775807) (hJ : Ints .u32 w B0 m0 ys) (hk : m0 ≤ k0 ∧ k0 ≤ 9223372036854775807) (ha : FitW (wN xs)) (hb : ¬ FitW (wN ys)) :
    Calls Try.prog 87 #[.agg #[.bool s0, .slice A0 l0 c0, .slice B0 m0 k0]] w (fun e w' => e = .returned (.tuple #[.agg #[.bool false, .slice none 0 0, .slice none 0 0], .bool false]) ∧ Ext w w') := by
  have HI := Lib.hid hI
  have HJ := Lib.hid hJ
  clear hI hJ
  obtain ⟨hc1, hc2⟩ := hc
  obtain ⟨hk1, hk2⟩ := hk
  have H0 := Lib.hid ha
  have H1 := Lib.hid hb
  clear ha hb
  have hXe : Ext w ((w.alloc (.cells #[.bool s0, .slice A0 l0 c0, .slice B0 m0 k0] 33)).alloc (.cells #[.bool false, .slice none 0 0, .slice none 0 0] 42)) := (((Ext.refl w).alloc _).alloc _)
  have kA : Blk ((w.alloc (.cells #[.bool s0, .slice A0 l0 c0, .slice B0 m0 k0] 33)).alloc (.cells #[.bool false, .slice none 0 0, .slice none 0 0] 42)) w.heap.size 33 #[.bool s0, .slice A0 l0 c0, .slice B0 m0 k0] := Blk.alloc (Blk.at_ (by simp)) _
  have kR : Blk ((w.alloc (.cells #[.bool s0, .slice A0 l0 c0, .slice B0 m0 k0] 33)).alloc (.cells #[.bool false, .slice none 0 0, .slice none 0 0] 42)) (w.heap.size + 1) 42 #[.bool false, .slice none 0 0, .slice none 0 0] := Blk.at_ (by simp)
  go_enter Try.func87, Try.ntmps87
  go_wp2_with fail
  generalize ((w.alloc (.cells #[.bool s0, .slice A0 l0 c0, .slice B0 m0 k0] 33)).alloc (.cells #[.bool false, .slice none 0 0, .slice none 0 0] 42)) = w1 at hXe kA kR ⊢
  have HX := Lib.hid hXe
  clear hXe
  have KA := Lib.hid kA
  clear kA
  have KR := Lib.hid kR
  clear kR
  replace HI := Lib.hid (HI.out.ext HX.out)
  replace HJ := Lib.hid (HJ.out.ext HX.out)
  have cA0 : w1.cell? ⟨w.heap.size, 0, none⟩ = some (.bool s0) := KA.out.cell 0
  have cA1 : w1.cell? ⟨w.heap.size, 1, none⟩ = some (.slice A0 l0 c0) := KA.out.cell 1
  have cA2 : w1.cell? ⟨w.heap.size, 2, none⟩ = some (.slice B0 m0 k0) := KA.out.cell 2
  go_wp2_with fail
  clear cA0 cA1 cA2
  refine (limbs_b true A0 l0 c0 xs _ HI.out hc1 hc2 ⟨fun _ => H0.out, fun _ => rfl⟩).mono ?_
  rintro e w2 ⟨v7, rfl, h7, hX⟩
  replace hX : Ext w1 w2 := by with_reducible exact hX
  replace HX := Lib.hid (HX.out.trans hX)
  replace HI := Lib.hid (HI.out.ext hX)
  replace HJ := Lib.hid (HJ.out.ext hX)
  replace KA := Lib.hid (KA.out.ext hX)
  replace KR := Lib.hid (KR.out.ext hX)
  clear hX
  have HV7 : Hid (Z16 w2 v7 (wN xs)) := h7 rfl
  clear h7
  have cA0 : w2.cell? ⟨w.heap.size, 0, none⟩ = some (.bool s0) := KA.out.cell 0
  have cA1 : w2.cell? ⟨w.heap.size, 1, none⟩ = some (.slice A0 l0 c0) := KA.out.cell 1
  have cA2 : w2.cell? ⟨w.heap.size, 2, none⟩ = some (.slice B0 m0 k0) := KA.out.cell 2
  go_wp2_with fail
  clear cA0 cA1 cA2
  refine (limbs_b false B0 m0 k0 ys _ HJ.out hk1 hk2 ⟨(fun h => by cases h), fun h => absurd h H1.out⟩).mono ?_
  rintro e w3 ⟨v8, rfl, h8, hX⟩
  replace hX : Ext w2 w3 := by with_reducible exact hX
  replace HX := Lib.hid (HX.out.trans hX)
  replace HI := Lib.hid (HI.out.ext hX)
  replace HJ := Lib.hid (HJ.out.ext hX)
  replace HV7 := Lib.hid (HV7.out.ext hX)
  replace KA := Lib.hid (KA.out.ext hX)
  replace KR := Lib.hid (KR.out.ext hX)
  clear hX
  clear h8
  have cR0 : w3.cell? ⟨(w.heap.size + 1), 0, none⟩ = some (.bool false) := KR.out.cell 0
  have fR0 : w3.frozen? ⟨(w.heap.size + 1), 0, none⟩ = false := KR.out.free 0
  have cR1 : w3.cell? ⟨(w.heap.size + 1), 1, none⟩ = some (.slice none 0 0) := KR.out.cell 1
  have fR1 : w3.frozen? ⟨(w.heap.size + 1), 1, none⟩ = false := KR.out.free 1
  have cR2 : w3.cell? ⟨(w.heap.size + 1), 2, none⟩ = some (.slice none 0 0) := KR.out.cell 2
  have fR2 : w3.frozen? ⟨(w.heap.size + 1), 2, none⟩ = false := KR.out.free 2
  go_wp2
  refine bodyPost_ret (v := .tuple #[.agg #[.bool false, .slice none 0 0, .slice none 0 0], .bool false]) (by simp [results, Try.results87, go_sem, *]) rfl ?_
  exact ⟨rfl, Ext.boxed HX.out (by omega) _ _ _⟩

set_option maxRecDepth 100000 in
set_option maxHeartbeats 2000000 in
theorem rof_fone (A0 B0 : Option Addr) (l0 c0 m0 k0 : Nat) (xs ys : List Int) (w : World) (hI : Ints .u32 w A0 l0 xs) (hc : l0 ≤ c0 ∧ c0 ≤ 9223372036854775807) (hJ : Ints .u32 w B0 m0 ys) (hk : m0 ≤ k0 ∧ k0 ≤ 9223372036854775807) (ha : FitW (wN xs)) (hb : FitW (wN ys))  (hD : wN ys = 0) :
    Calls Try.prog 87 #[.agg #[.bool false, .slice A0 l0 c0, .slice B0 m0 k0]] w (RetOf w (ratOf false xs ys)) := by
  have HI := Lib.hid hI
  have HJ := Lib.hid hJ
  clear hI hJ
  obtain ⟨hc1, hc2⟩ := hc
  obtain ⟨hk1, hk2⟩ := hk
  have H0 := Lib.hid ha
  have H1 := Lib.hid hb
  obtain ⟨L, hL⟩ : ∃ L : Nat, L = 512 := ⟨_, rfl⟩
  have HF0 : Hid (Fit 65536 (wN xs) L) := by rw [hL]; exact fit512 ha.1
  have HF1 : Hid (Fit 65536 (wN ys) L) := by rw [hL]; exact fit512 hb.1
  replace hL : 1 ≤ L ∧ L ≤ 512 := by omega
  obtain ⟨hL0, hL1⟩ := hL
  clear ha hb
  have HE : Hid (ratV false (wN xs) (wD ys) = ratOf false xs ys) := rfl
  rw [wD_zero hD] at HE
  obtain ⟨n, hN⟩ : ∃ n, wN xs = n := ⟨_, rfl⟩
  obtain ⟨d, hDD⟩ : ∃ d, wN ys = d := ⟨_, rfl⟩
  have HN := Lib.hid hN
  have HDD := Lib.hid hDD
  rw [hDD] at hD
  clear hN hDD
  have hXe : Ext w ((w.alloc (.cells #[.bool false, .slice A0 l0 c0, .slice B0 m0 k0] 33)).alloc (.cells #[.bool false, .slice none 0 0, .slice none 0 0] 42)) := (((Ext.refl w).alloc _).alloc _)
  have kA : Blk ((w.alloc (.cells #[.bool false, .slice A0 l0 c0, .slice B0 m0 k0] 33)).alloc (.cells #[.bool false, .slice none 0 0, .slice none 0 0] 42)) w.heap.size 33 #[.bool false, .slice A0 l0 c0, .slice B0 m0 k0] := Blk.alloc (Blk.at_ (by simp)) _
  have kR : Blk ((w.alloc (.cells #[.bool false, .slice A0 l0 c0, .slice B0 m0 k0] 33)).alloc (.cells #[.bool false, .slice none 0 0, .slice none 0 0] 42)) (w.heap.size + 1) 42 #[.bool false, .slice none 0 0, .slice none 0 0] := Blk.at_ (by simp)
  go_enter Try.func87, Try.ntmps87
  go_wp2_with fail
  generalize ((w.alloc (.cells #[.bool false, .slice A0 l0 c0, .slice B0 m0 k0] 33)).alloc (.cells #[.bool false, .slice none 0 0, .slice none 0 0] 42)) = w1 at hXe kA kR ⊢
  have HX := Lib.hid hXe
  clear hXe
  have KA := Lib.hid kA
  clear kA
  have KR := Lib.hid kR
  clear kR
  replace HI := Lib.hid (HI.out.ext HX.out)
  replace HJ := Lib.hid (HJ.out.ext HX.out)
  have cA0 : w1.cell? ⟨w.heap.size, 0, none⟩ = some (.bool false) := KA.out.cell 0
  have cA1 : w1.cell? ⟨w.heap.size, 1, none⟩ = some (.slice A0 l0 c0) := KA.out.cell 1
  have cA2 : w1.cell? ⟨w.heap.size, 2, none⟩ = some (.slice B0 m0 k0) := KA.out.cell 2
  go_wp2_with fail
  clear cA0 cA1 cA2
  refine (limbs_b true A0 l0 c0 xs _ HI.out hc1 hc2 ⟨fun _ => H0.out, fun _ => rfl⟩).mono ?_
  rintro e w2 ⟨v7, rfl, h7, hX⟩
  replace hX : Ext w1 w2 := by with_reducible exact hX
  replace HX := Lib.hid (HX.out.trans hX)
  replace HI := Lib.hid (HI.out.ext hX)
  replace HJ := Lib.hid (HJ.out.ext hX)
  replace KA := Lib.hid (KA.out.ext hX)
  replace KR := Lib.hid (KR.out.ext hX)
  clear hX
  have HV7 : Hid (Z16 w2 v7 (wN xs)) := h7 rfl
  clear h7
  have cA0 : w2.cell? ⟨w.heap.size, 0, none⟩ = some (.bool false) := KA.out.cell 0
  have cA1 : w2.cell? ⟨w.heap.size, 1, none⟩ = some (.slice A0 l0 c0) := KA.out.cell 1
  have cA2 : w2.cell? ⟨w.heap.size, 2, none⟩ = some (.slice B0 m0 k0) := KA.out.cell 2
  go_wp2_with fail
  clear cA0 cA1 cA2
  refine (limbs_b true B0 m0 k0 ys _ HJ.out hk1 hk2 ⟨fun _ => H1.out, fun _ => rfl⟩).mono ?_
  rintro e w3 ⟨v8, rfl, h8, hX⟩
  replace hX : Ext w2 w3 := by with_reducible exact hX
  replace HX := Lib.hid (HX.out.trans hX)
  replace HI := Lib.hid (HI.out.ext hX)
  replace HJ := Lib.hid (HJ.out.ext hX)
  replace HV7 := Lib.hid (HV7.out.ext hX)
  replace KA := Lib.hid (KA.out.ext hX)
  replace KR := Lib.hid (KR.out.ext hX)
  clear hX
  have HV8 := Lib.hid (h8 rfl)
  clear h8
  rw [HN.out] at HV7 HF0 HE
  rw [HDD.out] at HV8 HF1
  obtain ⟨A7, l7, c7, rfl, hv7, hz7⟩ := Z16.open HV7.out
  obtain ⟨A8, l8, c8, rfl, hv8, hz8⟩ := Z16.open HV8.out
  clear hv7 hv8
  obtain rfl : l8 = 0 := hz8.2 hD
  clear hz7 hz8 hD
  have cA0 : w3.cell? ⟨w.heap.size, 0, none⟩ = some (.bool false) := KA.out.cell 0
  have cA1 : w3.cell? ⟨w.heap.size, 1, none⟩ = some (.slice A0 l0 c0) := KA.out.cell 1
  have cA2 : w3.cell? ⟨w.heap.size, 2, none⟩ = some (.slice B0 m0 k0) := KA.out.cell 2
  go_upto_region 7 with (fail)
  clear cA0 cA1 cA2
  have hXa : Ext w3 (w3.alloc (.cells #[.int .i64 1] 3)) := (Ext.refl _).alloc _
  have kO := Blk.new w3 3 #[.int .i64 1]
  have zA := KA.out.lt
  have zR := KR.out.lt
  have zg := HX.out.size
  replace HX := Lib.hid (HX.out.trans hXa)
  replace HI := Lib.hid (HI.out.ext hXa)
  replace HJ := Lib.hid (HJ.out.ext hXa)
  replace HV7 := Lib.hid (HV7.out.ext hXa)
  replace HV8 := Lib.hid (HV8.out.ext hXa)
  replace KA := Lib.hid (KA.out.ext hXa)
  replace KR := Lib.hid (KR.out.ext hXa)
  generalize (w3.alloc (.cells #[.int .i64 1] 3)) = w4 at HX HI HJ HV7 HV8 KA KR kO ⊢
  have KO := Lib.hid kO
  clear kO hXa
  have cA0 : w4.cell? ⟨w.heap.size, 0, none⟩ = some (.bool false) := KA.out.cell 0
  have cA1 : w4.cell? ⟨w.heap.size, 1, none⟩ = some (.slice A0 l0 c0) := KA.out.cell 1
  have cA2 : w4.cell? ⟨w.heap.size, 2, none⟩ = some (.slice B0 m0 k0) := KA.out.cell 2
  go_wp2_with fail
  clear cA0 cA1 cA2
  refine (frac_any false false A7 _ l7 c7 _ _ n 1 L _ HV7.out KO.out.one16 HF0.out (Fit.one (by omega) (by omega)) (by omega) (by omega)).mono ?_
  rw [HE.out]
  rintro e w5 ⟨v9, rfl, hv, hX⟩
  replace hX : Ext w4 w5 := by with_reducible exact hX
  replace HX := Lib.hid (HX.out.trans hX)
  replace HI := Lib.hid (HI.out.ext hX)
  replace HJ := Lib.hid (HJ.out.ext hX)
  replace HV7 := Lib.hid (HV7.out.ext hX)
  replace HV8 := Lib.hid (HV8.out.ext hX)
  replace KA := Lib.hid (KA.out.ext hX)
  replace KR := Lib.hid (KR.out.ext hX)
  replace KO := Lib.hid (KO.out.ext hX)
  clear hX
  obtain ⟨s9, A9, l9, c9, B9, m9, k9, rfl⟩ := QZ.open hv
  have HV := Lib.hid (QZ.past hv (NoInts.three KR.out))
  clear hv
  have cR0 : w5.cell? ⟨(w.heap.size + 1), 0, none⟩ = some (.bool false) := KR.out.cell 0
  have fR0 : w5.frozen? ⟨(w.heap.size + 1), 0, none⟩ = false := KR.out.free 0
  have cR1 : w5.cell? ⟨(w.heap.size + 1), 1, none⟩ = some (.slice none 0 0) := KR.out.cell 1
  have fR1 : w5.frozen? ⟨(w.heap.size + 1), 1, none⟩ = false := KR.out.free 1
  have cR2 : w5.cell? ⟨(w.heap.size + 1), 2, none⟩ = some (.slice none 0 0) := KR.out.cell 2
  have fR2 : w5.frozen? ⟨(w.heap.size + 1), 2, none⟩ = false := KR.out.free 2
  go_wp2
  refine bodyPost_ret (v := .tuple #[.agg #[.bool s9, .slice A9 l9 c9, .slice B9 m9 k9], .bool true]) (by simp [results, Try.results87, go_sem, *]) rfl ?_
  exact ⟨_, rfl, HV.out, Ext.boxed HX.out (by omega) _ _ _⟩

set_option maxRecDepth 100000 in
set_option maxHeartbeats 2000000 in
theorem rof_fden (A0 B0 : Option Addr) (l0 c0 m0 k0 : Nat) (xs ys : List Int) (w : World) (hI : Ints .u32 w A0 l0 xs) (hc : l0 ≤ c0 ∧ c0 ≤ 9223372036854775807) (hJ : Ints .u32 w B0 m0 ys) (hk : m0 ≤ k0 ∧ k0 ≤ 9223372036854775807) (ha : FitW (wN xs)) (hb : FitW (wN ys))  (hD : wN ys ≠ 0) :
    Calls Try.prog 87 #[.agg #[.bool false, .slice A0 l0 c0, .slice B0 m0 k0]] w (RetOf w (ratOf false xs ys)) := by
  have HI := Lib.hid hI
  have HJ := Lib.hid hJ
  clear hI hJ
  obtain ⟨hc1, hc2⟩ := hc
  obtain ⟨hk1, hk2⟩ := hk
  have H0 := Lib.hid ha
  have H1 := Lib.hid hb
  obtain ⟨L, hL⟩ : ∃ L : Nat, L = 512 := ⟨_, rfl⟩
  have HF0 : Hid (Fit 65536 (wN xs) L) := by rw [hL]; exact fit512 ha.1
  have HF1 : Hid (Fit 65536 (wN ys) L) := by rw [hL]; exact fit512 hb.1
  replace hL : 1 ≤ L ∧ L ≤ 512 := by omega
  obtain ⟨hL0, hL1⟩ := hL
  clear ha hb
  have HE : Hid (ratV false (wN xs) (wD ys) = ratOf false xs ys) := rfl
  rw [wD_nz hD] at HE
  obtain ⟨n, hN⟩ : ∃ n, wN xs = n := ⟨_, rfl⟩
  obtain ⟨d, hDD⟩ : ∃ d, wN ys = d := ⟨_, rfl⟩
  have HN := Lib.hid hN
  have HDD := Lib.hid hDD
  rw [hDD] at hD
  clear hN hDD
  have hXe : Ext w ((w.alloc (.cells #[.bool false, .slice A0 l0 c0, .slice B0 m0 k0] 33)).alloc (.cells #[.bool false, .slice none 0 0, .slice none 0 0] 42)) := (((Ext.refl w).alloc _).alloc _)
  have kA : Blk ((w.alloc (.cells #[.bool false, .slice A0 l0 c0, .slice B0 m0 k0] 33)).alloc (.cells #[.bool false, .slice none 0 0, .slice none 0 0] 42)) w.heap.size 33 #[.bool false, .slice A0 l0 c0, .slice B0 m0 k0] := Blk.alloc (Blk.at_ (by simp)) _
  have kR : Blk ((w.alloc (.cells #[.bool false, .slice A0 l0 c0, .slice B0 m0 k0] 33)).alloc (.cells #[.bool false, .slice none 0 0, .slice none 0 0] 42)) (w.heap.size + 1) 42 #[.bool false, .slice none 0 0, .slice none 0 0] := Blk.at_ (by simp)
  go_enter Try.func87, Try.ntmps87
  go_wp2_with fail
  generalize ((w.alloc (.cells #[.bool false, .slice A0 l0 c0, .slice B0 m0 k0] 33)).alloc (.cells #[.bool false, .slice none 0 0, .slice none 0 0] 42)) = w1 at hXe kA kR ⊢
  have HX := Lib.hid hXe
  clear hXe
  have KA := Lib.hid kA
  clear kA
  have KR := Lib.hid kR
  clear kR
  replace HI := Lib.hid (HI.out.ext HX.out)
  replace HJ := Lib.hid (HJ.out.ext HX.out)
  have cA0 : w1.cell? ⟨w.heap.size, 0, none⟩ = some (.bool false) := KA.out.cell 0
  have cA1 : w1.cell? ⟨w.heap.size, 1, none⟩ = some (.slice A0 l0 c0) := KA.out.cell 1
  have cA2 : w1.cell? ⟨w.heap.size, 2, none⟩ = some (.slice B0 m0 k0) := KA.out.cell 2
  go_wp2_with fail
  clear cA0 cA1 cA2
  refine (limbs_b true A0 l0 c0 xs _ HI.out hc1 hc2 ⟨fun _ => H0.out, fun _ => rfl⟩).mono ?_
  rintro e w2 ⟨v7, rfl, h7, hX⟩
  replace hX : Ext w1 w2 := by with_reducible exact hX
  replace HX := Lib.hid (HX.out.trans hX)
  replace HI := Lib.hid (HI.out.ext hX)
  replace HJ := Lib.hid (HJ.out.ext hX)
  replace KA := Lib.hid (KA.out.ext hX)
  replace KR := Lib.hid (KR.out.ext hX)
  clear hX
  have HV7 : Hid (Z16 w2 v7 (wN xs)) := h7 rfl
  clear h7
  have cA0 : w2.cell? ⟨w.heap.size, 0, none⟩ = some (.bool false) := KA.out.cell 0
  have cA1 : w2.cell? ⟨w.heap.size, 1, none⟩ = some (.slice A0 l0 c0) := KA.out.cell 1
  have cA2 : w2.cell? ⟨w.heap.size, 2, none⟩ = some (.slice B0 m0 k0) := KA.out.cell 2
  go_wp2_with fail
  clear cA0 cA1 cA2
  refine (limbs_b true B0 m0 k0 ys _ HJ.out hk1 hk2 ⟨fun _ => H1.out, fun _ => rfl⟩).mono ?_
  rintro e w3 ⟨v8, rfl, h8, hX⟩
  replace hX : Ext w2 w3 := by with_reducible exact hX
  replace HX := Lib.hid (HX.out.trans hX)
  replace HI := Lib.hid (HI.out.ext hX)
  replace HJ := Lib.hid (HJ.out.ext hX)
  replace HV7 := Lib.hid (HV7.out.ext hX)
  replace KA := Lib.hid (KA.out.ext hX)
  replace KR := Lib.hid (KR.out.ext hX)
  clear hX
  have HV8 := Lib.hid (h8 rfl)
  clear h8
  rw [HN.out] at HV7 HF0 HE
  rw [HDD.out] at HV8 HF1 HE
  obtain ⟨A7, l7, c7, rfl, hv7, hz7⟩ := Z16.open HV7.out
  obtain ⟨A8, l8, c8, rfl, hv8, hz8⟩ := Z16.open HV8.out
  clear hv7 hv8
  have hl8 : ¬ l8 = 0 := fun h => hD (hz8.1 h)
  have hl8' : ((l8 : Int) == 0) = false := by simp; omega
  have HDP : Hid (0 < d) := by show 0 < _; omega
  clear hz7 hz8 hD
  have cA0 : w3.cell? ⟨w.heap.size, 0, none⟩ = some (.bool false) := KA.out.cell 0
  have cA1 : w3.cell? ⟨w.heap.size, 1, none⟩ = some (.slice A0 l0 c0) := KA.out.cell 1
  have cA2 : w3.cell? ⟨w.heap.size, 2, none⟩ = some (.slice B0 m0 k0) := KA.out.cell 2
  go_wp2_with fail
  clear cA0 cA1 cA2
  refine (frac_any false false A7 _ l7 c7 _ _ n d L _ HV7.out HV8.out HF0.out HF1.out (by omega) HDP.out).mono ?_
  rw [HE.out]
  rintro e w4 ⟨v9, rfl, hv, hX⟩
  replace hX : Ext w3 w4 := by with_reducible exact hX
  replace HX := Lib.hid (HX.out.trans hX)
  replace HI := Lib.hid (HI.out.ext hX)
  replace HJ := Lib.hid (HJ.out.ext hX)
  replace HV7 := Lib.hid (HV7.out.ext hX)
  replace HV8 := Lib.hid (HV8.out.ext hX)
  replace KA := Lib.hid (KA.out.ext hX)
  replace KR := Lib.hid (KR.out.ext hX)
  clear hX
  obtain ⟨s9, A9, l9, c9, B9, m9, k9, rfl⟩ := QZ.open hv
  have HV := Lib.hid (QZ.past hv (NoInts.three KR.out))
  clear hv
  have cR0 : w4.cell? ⟨(w.heap.size + 1), 0, none⟩ = some (.bool false) := KR.out.cell 0
  have fR0 : w4.frozen? ⟨(w.heap.size + 1), 0, none⟩ = false := KR.out.free 0
  have cR1 : w4.cell? ⟨(w.heap.size + 1), 1, none⟩ = some (.slice none 0 0) := KR.out.cell 1
  have fR1 : w4.frozen? ⟨(w.heap.size + 1), 1, none⟩ = false := KR.out.free 1
  have cR2 : w4.cell? ⟨(w.heap.size + 1), 2, none⟩ = some (.slice none 0 0) := KR.out.cell 2
  have fR2 : w4.frozen? ⟨(w.heap.size + 1), 2, none⟩ = false := KR.out.free 2
  go_wp2
  refine bodyPost_ret (v := .tuple #[.agg #[.bool s9, .slice A9 l9 c9, .slice B9 m9 k9], .bool true]) (by simp [results, Try.results87, go_sem, *]) rfl ?_
  exact ⟨_, rfl, HV.out, Ext.boxed HX.out (by omega) _ _ _⟩

set_option maxRecDepth 100000 in
set_option maxHeartbeats 2000000 in
theorem rof_tone (A0 B0 : Option Addr) (l0 c0 m0 k0 : Nat) (xs ys : List Int) (w : World) (hI : Ints .u32 w A0 l0 xs) (hc : l0 ≤ c0 ∧ c0 ≤ 9223372036854775807) (hJ : Ints .u32 w B0 m0 ys) (hk : m0 ≤ k0 ∧ k0 ≤ 9223372036854775807) (ha : FitW (wN xs)) (hb : FitW (wN ys)) (hn : wN xs ≠ 0) (hD : wN ys = 0) :
    Calls Try.prog 87 #[.agg #[.bool true, .slice A0 l0 c0, .slice B0 m0 k0]] w (RetOf w (ratOf true xs ys)) := by
  have HI := Lib.hid hI
  have HJ := Lib.hid hJ
  clear hI hJ
  obtain ⟨hc1, hc2⟩ := hc
  obtain ⟨hk1, hk2⟩ := hk
  have H0 := Lib.hid ha
  have H1 := Lib.hid hb
  obtain ⟨L, hL⟩ : ∃ L : Nat, L = 512 := ⟨_, rfl⟩
  have HF0 : Hid (Fit 65536 (wN xs) L) := by rw [hL]; exact fit512 ha.1
  have HF1 : Hid (Fit 65536 (wN ys) L) := by rw [hL]; exact fit512 hb.1
  replace hL : 1 ≤ L ∧ L ≤ 512 := by omega
  obtain ⟨hL0, hL1⟩ := hL
  clear ha hb
  have HE : Hid (ratV true (wN xs) (wD ys) = ratOf true xs ys) := rfl
  rw [wD_zero hD] at HE
  obtain ⟨n, hN⟩ : ∃ n, wN xs = n := ⟨_, rfl⟩
  obtain ⟨d, hDD⟩ : ∃ d, wN ys = d := ⟨_, rfl⟩
  have HN := Lib.hid hN
  have HDD := Lib.hid hDD
  rw [hDD] at hD
  rw [hN] at hn
  clear hN hDD
  have hXe : Ext w ((w.alloc (.cells #[.bool true, .slice A0 l0 c0, .slice B0 m0 k0] 33)).alloc (.cells #[.bool false, .slice none 0 0, .slice none 0 0] 42)) := (((Ext.refl w).alloc _).alloc _)
  have kA : Blk ((w.alloc (.cells #[.bool true, .slice A0 l0 c0, .slice B0 m0 k0] 33)).alloc (.cells #[.bool false, .slice none 0 0, .slice none 0 0] 42)) w.heap.size 33 #[.bool true, .slice A0 l0 c0, .slice B0 m0 k0] := Blk.alloc (Blk.at_ (by simp)) _
  have kR : Blk ((w.alloc (.cells #[.bool true, .slice A0 l0 c0, .slice B0 m0 k0] 33)).alloc (.cells #[.bool false, .slice none 0 0, .slice none 0 0] 42)) (w.heap.size + 1) 42 #[.bool false, .slice none 0 0, .slice none 0 0] := Blk.at_ (by simp)
  go_enter Try.func87, Try.ntmps87
  go_wp2_with fail
  generalize ((w.alloc (.cells #[.bool true, .slice A0 l0 c0, .slice B0 m0 k0] 33)).alloc (.cells #[.bool false, .slice none 0 0, .slice none 0 0] 42)) = w1 at hXe kA kR ⊢
  have HX := Lib.hid hXe
  clear hXe
  have KA := Lib.hid kA
  clear kA
  have KR := Lib.hid kR
  clear kR
  replace HI := Lib.hid (HI.out.ext HX.out)
  replace HJ := Lib.hid (HJ.out.ext HX.out)
  have cA0 : w1.cell? ⟨w.heap.size, 0, none⟩ = some (.bool true) := KA.out.cell 0
  have cA1 : w1.cell? ⟨w.heap.size, 1, none⟩ = some (.slice A0 l0 c0) := KA.out.cell 1
  have cA2 : w1.cell? ⟨w.heap.size, 2, none⟩ = some (.slice B0 m0 k0) := KA.out.cell 2
  go_wp2_with fail
  clear cA0 cA1 cA2
  refine (limbs_b true A0 l0 c0 xs _ HI.out hc1 hc2 ⟨fun _ => H0.out, fun _ => rfl⟩).mono ?_
  rintro e w2 ⟨v7, rfl, h7, hX⟩
  replace hX : Ext w1 w2 := by with_reducible exact hX
  replace HX := Lib.hid (HX.out.trans hX)
  replace HI := Lib.hid (HI.out.ext hX)
  replace HJ := Lib.hid (HJ.out.ext hX)
  replace KA := Lib.hid (KA.out.ext hX)
  replace KR := Lib.hid (KR.out.ext hX)
  clear hX
  have HV7 : Hid (Z16 w2 v7 (wN xs)) := h7 rfl
  clear h7
  have cA0 : w2.cell? ⟨w.heap.size, 0, none⟩ = some (.bool true) := KA.out.cell 0
  have cA1 : w2.cell? ⟨w.heap.size, 1, none⟩ = some (.slice A0 l0 c0) := KA.out.cell 1
  have cA2 : w2.cell? ⟨w.heap.size, 2, none⟩ = some (.slice B0 m0 k0) := KA.out.cell 2
  go_wp2_with fail
  clear cA0 cA1 cA2
  refine (limbs_b true B0 m0 k0 ys _ HJ.out hk1 hk2 ⟨fun _ => H1.out, fun _ => rfl⟩).mono ?_
  rintro e w3 ⟨v8, rfl, h8, hX⟩
  replace hX : Ext w2 w3 := by with_reducible exact hX
  replace HX := Lib.hid (HX.out.trans hX)
  replace HI := Lib.hid (HI.out.ext hX)
  replace HJ := Lib.hid (HJ.out.ext hX)
  replace HV7 := Lib.hid (HV7.out.ext hX)
  replace KA := Lib.hid (KA.out.ext hX)
  replace KR := Lib.hid (KR.out.ext hX)
  clear hX
  have HV8 := Lib.hid (h8 rfl)
  clear h8
  rw [HN.out] at HV7 HF0 HE
  rw [HDD.out] at HV8 HF1
  obtain ⟨A7, l7, c7, rfl, hv7, hz7⟩ := Z16.open HV7.out
  obtain ⟨A8, l8, c8, rfl, hv8, hz8⟩ := Z16.open HV8.out
  clear hv7 hv8
  have hl7 : (0 : Int) < (l7 : Int) := by
    rcases Nat.eq_zero_or_pos l7 with h | h
    · exact absurd (hz7.1 h) hn
    · omega
  have hl7' : 0 < l7 := by omega
  obtain rfl : l8 = 0 := hz8.2 hD
  clear hz7 hz8 hD hn
  have cA0 : w3.cell? ⟨w.heap.size, 0, none⟩ = some (.bool true) := KA.out.cell 0
  have cA1 : w3.cell? ⟨w.heap.size, 1, none⟩ = some (.slice A0 l0 c0) := KA.out.cell 1
  have cA2 : w3.cell? ⟨w.heap.size, 2, none⟩ = some (.slice B0 m0 k0) := KA.out.cell 2
  go_upto_region 7 with (fail)
  clear cA0 cA1 cA2
  have hXa : Ext w3 (w3.alloc (.cells #[.int .i64 1] 3)) := (Ext.refl _).alloc _
  have kO := Blk.new w3 3 #[.int .i64 1]
  have zA := KA.out.lt
  have zR := KR.out.lt
  have zg := HX.out.size
  replace HX := Lib.hid (HX.out.trans hXa)
  replace HI := Lib.hid (HI.out.ext hXa)
  replace HJ := Lib.hid (HJ.out.ext hXa)
  replace HV7 := Lib.hid (HV7.out.ext hXa)
  replace HV8 := Lib.hid (HV8.out.ext hXa)
  replace KA := Lib.hid (KA.out.ext hXa)
  replace KR := Lib.hid (KR.out.ext hXa)
  generalize (w3.alloc (.cells #[.int .i64 1] 3)) = w4 at HX HI HJ HV7 HV8 KA KR kO ⊢
  have KO := Lib.hid kO
  clear kO hXa
  have cA0 : w4.cell? ⟨w.heap.size, 0, none⟩ = some (.bool true) := KA.out.cell 0
  have cA1 : w4.cell? ⟨w.heap.size, 1, none⟩ = some (.slice A0 l0 c0) := KA.out.cell 1
  have cA2 : w4.cell? ⟨w.heap.size, 2, none⟩ = some (.slice B0 m0 k0) := KA.out.cell 2
  go_wp2_with fail
  clear cA0 cA1 cA2
  refine (frac_any true false A7 _ l7 c7 _ _ n 1 L _ HV7.out KO.out.one16 HF0.out (Fit.one (by omega) (by omega)) (by omega) (by omega)).mono ?_
  rw [HE.out]
  rintro e w5 ⟨v9, rfl, hv, hX⟩
  replace hX : Ext w4 w5 := by with_reducible exact hX
  replace HX := Lib.hid (HX.out.trans hX)
  replace HI := Lib.hid (HI.out.ext hX)
  replace HJ := Lib.hid (HJ.out.ext hX)
  replace HV7 := Lib.hid (HV7.out.ext hX)
  replace HV8 := Lib.hid (HV8.out.ext hX)
  replace KA := Lib.hid (KA.out.ext hX)
  replace KR := Lib.hid (KR.out.ext hX)
  replace KO := Lib.hid (KO.out.ext hX)
  clear hX
  obtain ⟨s9, A9, l9, c9, B9, m9, k9, rfl⟩ := QZ.open hv
  have HV := Lib.hid (QZ.past hv (NoInts.three KR.out))
  clear hv
  have cR0 : w5.cell? ⟨(w.heap.size + 1), 0, none⟩ = some (.bool false) := KR.out.cell 0
  have fR0 : w5.frozen? ⟨(w.heap.size + 1), 0, none⟩ = false := KR.out.free 0
  have cR1 : w5.cell? ⟨(w.heap.size + 1), 1, none⟩ = some (.slice none 0 0) := KR.out.cell 1
  have fR1 : w5.frozen? ⟨(w.heap.size + 1), 1, none⟩ = false := KR.out.free 1
  have cR2 : w5.cell? ⟨(w.heap.size + 1), 2, none⟩ = some (.slice none 0 0) := KR.out.cell 2
  have fR2 : w5.frozen? ⟨(w.heap.size + 1), 2, none⟩ = false := KR.out.free 2
  go_wp2
  refine bodyPost_ret (v := .tuple #[.agg #[.bool s9, .slice A9 l9 c9, .slice B9 m9 k9], .bool true]) (by simp [results, Try.results87, go_sem, *]) rfl ?_
  exact ⟨_, rfl, HV.out, Ext.boxed HX.out (by omega) _ _ _⟩

set_option maxRecDepth 100000 in
set_option maxHeartbeats 2000000 in
theorem rof_tden (A0 B0 : Option Addr) (l0 c0 m0 k0 : Nat) (xs ys : List Int) (w : World) (hI : Ints .u32 w A0 l0 xs) (hc : l0 ≤ c0 ∧ c0 ≤ 9223372036854775807) (hJ : Ints .u32 w B0 m0 ys) (hk : m0 ≤ k0 ∧ k0 ≤ 9223372036854775807) (ha : FitW (wN xs)) (hb : FitW (wN ys)) (hn : wN xs ≠ 0) (hD : wN ys ≠ 0) :
    Calls Try.prog 87 #[.agg #[.bool true, .slice A0 l0 c0, .slice B0 m0 k0]] w (RetOf w (ratOf true xs ys)) := by
  have HI := Lib.hid hI
  have HJ := Lib.hid hJ
  clear hI hJ
  obtain ⟨hc1, hc2⟩ := hc
  obtain ⟨hk1, hk2⟩ := hk
  have H0 := Lib.hid ha
  have H1 := Lib.hid hb
  obtain ⟨L, hL⟩ : ∃ L : Nat, L = 512 := ⟨_, rfl⟩
  have HF0 : Hid (Fit 65536 (wN xs) L) := by rw [hL]; exact fit512 ha.1
  have HF1 : Hid (Fit 65536 (wN ys) L) := by rw [hL]; exact fit512 hb.1
  replace hL : 1 ≤ L ∧ L ≤ 512 := by omega
  obtain ⟨hL0, hL1⟩ := hL
  clear ha hb
  have HE : Hid (ratV true (wN xs) (wD ys) = ratOf true xs ys) := rfl
  rw [wD_nz hD] at HE
  obtain ⟨n, hN⟩ : ∃ n, wN xs = n := ⟨_, rfl⟩
  obtain ⟨d, hDD⟩ : ∃ d, wN ys = d := ⟨_, rfl⟩
  have HN := Lib.hid hN
  have HDD := Lib.hid hDD
  rw [hDD] at hD
  rw [hN] at hn
  clear hN hDD
  have hXe : Ext w ((w.alloc (.cells #[.bool true, .slice A0 l0 c0, .slice B0 m0 k0] 33)).alloc (.cells #[.bool false, .slice none 0 0, .slice none 0 0] 42)) := (((Ext.refl w).alloc _).alloc _)
  have kA : Blk ((w.alloc (.cells #[.bool true, .slice A0 l0 c0, .slice B0 m0 k0] 33)).alloc (.cells #[.bool false, .slice none 0 0, .slice none 0 0] 42)) w.heap.size 33 #[.bool true, .slice A0 l0 c0, .slice B0 m0 k0] := Blk.alloc (Blk.at_ (by simp)) _
  have kR : Blk ((w.alloc (.cells #[.bool true, .slice A0 l0 c0, .slice B0 m0 k0] 33)).alloc (.cells #[.bool false, .slice none 0 0, .slice none 0 0] 42)) (w.heap.size + 1) 42 #[.bool false, .slice none 0 0, .slice none 0 0] := Blk.at_ (by simp)
  go_enter Try.func87, Try.ntmps87
  go_wp2_with fail
  generalize ((w.alloc (.cells #[.bool true, .slice A0 l0 c0, .slice B0 m0 k0] 33)).alloc (.cells #[.bool false, .slice none 0 0, .slice none 0 0] 42)) = w1 at hXe kA kR ⊢
  have HX := Lib.hid hXe
  clear hXe
  have KA := Lib.hid kA
  clear kA
  have KR := Lib.hid kR
  clear kR
  replace HI := Lib.hid (HI.out.ext HX.out)
  replace HJ := Lib.hid (HJ.out.ext HX.out)
  have cA0 : w1.cell? ⟨w.heap.size, 0, none⟩ = some (.bool true) := KA.out.cell 0
  have cA1 : w1.cell? ⟨w.heap.size, 1, none⟩ = some (.slice A0 l0 c0) := KA.out.cell 1
  have cA2 : w1.cell? ⟨w.heap.size, 2, none⟩ = some (.slice B0 m0 k0) := KA.out.cell 2
  go_wp2_with fail
  clear cA0 cA1 cA2
  refine (limbs_b true A0 l0 c0 xs _ HI.out hc1 hc2 ⟨fun _ => H0.out, fun _ => rfl⟩).mono ?_
  rintro e w2 ⟨v7, rfl, h7, hX⟩
  replace hX : Ext w1 w2 := by with_reducible exact hX
  replace HX := Lib.hid (HX.out.trans hX)
  replace HI := Lib.hid (HI.out.ext hX)
  replace HJ := Lib.hid (HJ.out.ext hX)
  replace KA := Lib.hid (KA.out.ext hX)
  replace KR := Lib.hid (KR.out.ext hX)
  clear hX
  have HV7 : Hid (Z16 w2 v7 (wN xs)) := h7 rfl
  clear h7
  have cA0 : w2.cell? ⟨w.heap.size, 0, none⟩ = some (.bool true) := KA.out.cell 0
  have cA1 : w2.cell? ⟨w.heap.size, 1, none⟩ = some (.slice A0 l0 c0) := KA.out.cell 1
  have cA2 : w2.cell? ⟨w.heap.size, 2, none⟩ = some (.slice B0 m0 k0) := KA.out.cell 2
  go_wp2_with fail
  clear cA0 cA1 cA2
  refine (limbs_b true B0 m0 k0 ys _ HJ.out hk1 hk2 ⟨fun _ => H1.out, fun _ => rfl⟩).mono ?_
  rintro e w3 ⟨v8, rfl, h8, hX⟩
  replace hX : Ext w2 w3 := by with_reducible exact hX
  replace HX := Lib.hid (HX.out.trans hX)
  replace HI := Lib.hid (HI.out.ext hX)
  replace HJ := Lib.hid (HJ.out.ext hX)
  replace HV7 := Lib.hid (HV7.out.ext hX)
  replace KA := Lib.hid (KA.out.ext hX)
  replace KR := Lib.hid (KR.out.ext hX)
  clear hX
  have HV8 := Lib.hid (h8 rfl)
  clear h8
  rw [HN.out] at HV7 HF0 HE
  rw [HDD.out] at HV8 HF1 HE
  obtain ⟨A7, l7, c7, rfl, hv7, hz7⟩ := Z16.open HV7.out
  obtain ⟨A8, l8, c8, rfl, hv8, hz8⟩ := Z16.open HV8.out
  clear hv7 hv8
  have hl7 : (0 : Int) < (l7 : Int) := by
    rcases Nat.eq_zero_or_pos l7 with h | h
    · exact absurd (hz7.1 h) hn
    · omega
  have hl7' : 0 < l7 := by omega
  have hl8 : ¬ l8 = 0 := fun h => hD (hz8.1 h)
  have hl8' : ((l8 : Int) == 0) = false := by simp; omega
  have HDP : Hid (0 < d) := by show 0 < _; omega
  clear hz7 hz8 hD hn
  have cA0 : w3.cell? ⟨w.heap.size, 0, none⟩ = some (.bool true) := KA.out.cell 0
  have cA1 : w3.cell? ⟨w.heap.size, 1, none⟩ = some (.slice A0 l0 c0) := KA.out.cell 1
  have cA2 : w3.cell? ⟨w.heap.size, 2, none⟩ = some (.slice B0 m0 k0) := KA.out.cell 2
  go_wp2_with fail
  clear cA0 cA1 cA2
  refine (frac_any true false A7 _ l7 c7 _ _ n d L _ HV7.out HV8.out HF0.out HF1.out (by omega) HDP.out).mono ?_
  rw [HE.out]
  rintro e w4 ⟨v9, rfl, hv, hX⟩
  replace hX : Ext w3 w4 := by with_reducible exact hX
  replace HX := Lib.hid (HX.out.trans hX)
  replace HI := Lib.hid (HI.out.ext hX)
  replace HJ := Lib.hid (HJ.out.ext hX)
  replace HV7 := Lib.hid (HV7.out.ext hX)
  replace HV8 := Lib.hid (HV8.out.ext hX)
  replace KA := Lib.hid (KA.out.ext hX)
  replace KR := Lib.hid (KR.out.ext hX)
  clear hX
  obtain ⟨s9, A9, l9, c9, B9, m9, k9, rfl⟩ := QZ.open hv
  have HV := Lib.hid (QZ.past hv (NoInts.three KR.out))
  clear hv
  have cR0 : w4.cell? ⟨(w.heap.size + 1), 0, none⟩ = some (.bool false) := KR.out.cell 0
  have fR0 : w4.frozen? ⟨(w.heap.size + 1), 0, none⟩ = false := KR.out.free 0
  have cR1 : w4.cell? ⟨(w.heap.size + 1), 1, none⟩ = some (.slice none 0 0) := KR.out.cell 1
  have fR1 : w4.frozen? ⟨(w.heap.size + 1), 1, none⟩ = false := KR.out.free 1
  have cR2 : w4.cell? ⟨(w.heap.size + 1), 2, none⟩ = some (.slice none 0 0) := KR.out.cell 2
  have fR2 : w4.frozen? ⟨(w.heap.size + 1), 2, none⟩ = false := KR.out.free 2
  go_wp2
  refine bodyPost_ret (v := .tuple #[.agg #[.bool s9, .slice A9 l9 c9, .slice B9 m9 k9], .bool true]) (by simp [results, Try.results87, go_sem, *]) rfl ?_
  exact ⟨_, rfl, HV.out, Ext.boxed HX.out (by omega) _ _ _⟩

set_option maxRecDepth 100000 in
set_option maxHeartbeats 2000000 in
theorem rof_zone (A0 B0 : Option Addr) (l0 c0 m0 k0 : Nat) (xs ys : List Int) (w : World) (hI : Ints .u32 w A0 l0 xs) (hc : l0 ≤ c0 ∧ c0 ≤ 9223372036854775807) (hJ : Ints .u32 w B0 m0 ys) (hk : m0 ≤ k0 ∧ k0 ≤ 9223372036854775807) (ha : FitW (wN xs)) (hb : FitW (wN ys)) (hn : wN xs = 0) (hD : wN ys = 0) :
    Calls Try.prog 87 #[.agg #[.bool true, .slice A0 l0 c0, .slice B0 m0 k0]] w (RetOf w (ratOf true xs ys)) := by
  have HI := Lib.hid hI
  have HJ := Lib.hid hJ
  clear hI hJ
  obtain ⟨hc1, hc2⟩ := hc
  obtain ⟨hk1, hk2⟩ := hk
  have H0 := Lib.hid ha
  have H1 := Lib.hid hb
  obtain ⟨L, hL⟩ : ∃ L : Nat, L = 512 := ⟨_, rfl⟩
  have HF0 : Hid (Fit 65536 (wN xs) L) := by rw [hL]; exact fit512 ha.1
  have HF1 : Hid (Fit 65536 (wN ys) L) := by rw [hL]; exact fit512 hb.1
  replace hL : 1 ≤ L ∧ L ≤ 512 := by omega
  obtain ⟨hL0, hL1⟩ := hL
  clear ha hb
  have HE : Hid (ratV false (wN xs) (wD ys) = ratOf true xs ys) := ratV_z _ _ (wD_pos ys) hn
  rw [wD_zero hD] at HE
  obtain ⟨n, hN⟩ : ∃ n, wN xs = n := ⟨_, rfl⟩
  obtain ⟨d, hDD⟩ : ∃ d, wN ys = d := ⟨_, rfl⟩
  have HN := Lib.hid hN
  have HDD := Lib.hid hDD
  rw [hDD] at hD
  rw [hN] at hn
  clear hN hDD
  have hXe : Ext w ((w.alloc (.cells #[.bool true, .slice A0 l0 c0, .slice B0 m0 k0] 33)).alloc (.cells #[.bool false, .slice none 0 0, .slice none 0 0] 42)) := (((Ext.refl w).alloc _).alloc _)
  have kA : Blk ((w.alloc (.cells #[.bool true, .slice A0 l0 c0, .slice B0 m0 k0] 33)).alloc (.cells #[.bool false, .slice none 0 0, .slice none 0 0] 42)) w.heap.size 33 #[.bool true, .slice A0 l0 c0, .slice B0 m0 k0] := Blk.alloc (Blk.at_ (by simp)) _
  have kR : Blk ((w.alloc (.cells #[.bool true, .slice A0 l0 c0, .slice B0 m0 k0] 33)).alloc (.cells #[.bool false, .slice none 0 0, .slice none 0 0] 42)) (w.heap.size + 1) 42 #[.bool false, .slice none 0 0, .slice none 0 0] := Blk.at_ (by simp)
  go_enter Try.func87, Try.ntmps87
  go_wp2_with fail
  generalize ((w.alloc (.cells #[.bool true, .slice A0 l0 c0, .slice B0 m0 k0] 33)).alloc (.cells #[.bool false, .slice none 0 0, .slice none 0 0] 42)) = w1 at hXe kA kR ⊢
  have HX := Lib.hid hXe
  clear hXe
  have KA := Lib.hid kA
  clear kA
  have KR := Lib.hid kR
  clear kR
  replace HI := Lib.hid (HI.out.ext HX.out)
  replace HJ := Lib.hid (HJ.out.ext HX.out)
  have cA0 : w1.cell? ⟨w.heap.size, 0, none⟩ = some (.bool true) := KA.out.cell 0
  have cA1 : w1.cell? ⟨w.heap.size, 1, none⟩ = some (.slice A0 l0 c0) := KA.out.cell 1
  have cA2 : w1.cell? ⟨w.heap.size, 2, none⟩ = some (.slice B0 m0 k0) := KA.out.cell 2
  go_wp2_with fail
  clear cA0 cA1 cA2
  refine (limbs_b true A0 l0 c0 xs _ HI.out hc1 hc2 ⟨fun _ => H0.out, fun _ => rfl⟩).mono ?_
  rintro e w2 ⟨v7, rfl, h7, hX⟩
  replace hX : Ext w1 w2 := by with_reducible exact hX
  replace HX := Lib.hid (HX.out.trans hX)
  replace HI := Lib.hid (HI.out.ext hX)
  replace HJ := Lib.hid (HJ.out.ext hX)
  replace KA := Lib.hid (KA.out.ext hX)
  replace KR := Lib.hid (KR.out.ext hX)
  clear hX
  have HV7 : Hid (Z16 w2 v7 (wN xs)) := h7 rfl
  clear h7
  have cA0 : w2.cell? ⟨w.heap.size, 0, none⟩ = some (.bool true) := KA.out.cell 0
  have cA1 : w2.cell? ⟨w.heap.size, 1, none⟩ = some (.slice A0 l0 c0) := KA.out.cell 1
  have cA2 : w2.cell? ⟨w.heap.size, 2, none⟩ = some (.slice B0 m0 k0) := KA.out.cell 2
  go_wp2_with fail
  clear cA0 cA1 cA2
  refine (limbs_b true B0 m0 k0 ys _ HJ.out hk1 hk2 ⟨fun _ => H1.out, fun _ => rfl⟩).mono ?_
  rintro e w3 ⟨v8, rfl, h8, hX⟩
  replace hX : Ext w2 w3 := by with_reducible exact hX
  replace HX := Lib.hid (HX.out.trans hX)
  replace HI := Lib.hid (HI.out.ext hX)
  replace HJ := Lib.hid (HJ.out.ext hX)
  replace HV7 := Lib.hid (HV7.out.ext hX)
  replace KA := Lib.hid (KA.out.ext hX)
  replace KR := Lib.hid (KR.out.ext hX)
  clear hX
  have HV8 := Lib.hid (h8 rfl)
  clear h8
  rw [HN.out] at HV7 HF0 HE
  rw [HDD.out] at HV8 HF1
  obtain ⟨A7, l7, c7, rfl, hv7, hz7⟩ := Z16.open HV7.out
  obtain ⟨A8, l8, c8, rfl, hv8, hz8⟩ := Z16.open HV8.out
  clear hv7 hv8
  obtain rfl : l7 = 0 := hz7.2 hn
  obtain rfl : l8 = 0 := hz8.2 hD
  clear hz7 hz8 hD hn
  have cA0 : w3.cell? ⟨w.heap.size, 0, none⟩ = some (.bool true) := KA.out.cell 0
  have cA1 : w3.cell? ⟨w.heap.size, 1, none⟩ = some (.slice A0 l0 c0) := KA.out.cell 1
  have cA2 : w3.cell? ⟨w.heap.size, 2, none⟩ = some (.slice B0 m0 k0) := KA.out.cell 2
  go_upto_region 7 with (fail)
  clear cA0 cA1 cA2
  have hXa : Ext w3 (w3.alloc (.cells #[.int .i64 1] 3)) := (Ext.refl _).alloc _
  have kO := Blk.new w3 3 #[.int .i64 1]
  have zA := KA.out.lt
  have zR := KR.out.lt
  have zg := HX.out.size
  replace HX := Lib.hid (HX.out.trans hXa)
  replace HI := Lib.hid (HI.out.ext hXa)
  replace HJ := Lib.hid (HJ.out.ext hXa)
  replace HV7 := Lib.hid (HV7.out.ext hXa)
  replace HV8 := Lib.hid (HV8.out.ext hXa)
  replace KA := Lib.hid (KA.out.ext hXa)
  replace KR := Lib.hid (KR.out.ext hXa)
  generalize (w3.alloc (.cells #[.int .i64 1] 3)) = w4 at HX HI HJ HV7 HV8 KA KR kO ⊢
  have KO := Lib.hid kO
  clear kO hXa
  have cA0 : w4.cell? ⟨w.heap.size, 0, none⟩ = some (.bool true) := KA.out.cell 0
  have cA1 : w4.cell? ⟨w.heap.size, 1, none⟩ = some (.slice A0 l0 c0) := KA.out.cell 1
  have cA2 : w4.cell? ⟨w.heap.size, 2, none⟩ = some (.slice B0 m0 k0) := KA.out.cell 2
  go_wp2_with fail
  clear cA0 cA1 cA2
  refine (frac_any false false A7 _ 0 c7 _ _ n 1 L _ HV7.out KO.out.one16 HF0.out (Fit.one (by omega) (by omega)) (by omega) (by omega)).mono ?_
  rw [HE.out]
  rintro e w5 ⟨v9, rfl, hv, hX⟩
  replace hX : Ext w4 w5 := by with_reducible exact hX
  replace HX := Lib.hid (HX.out.trans hX)
  replace HI := Lib.hid (HI.out.ext hX)
  replace HJ := Lib.hid (HJ.out.ext hX)
  replace HV7 := Lib.hid (HV7.out.ext hX)
  replace HV8 := Lib.hid (HV8.out.ext hX)
  replace KA := Lib.hid (KA.out.ext hX)
  replace KR := Lib.hid (KR.out.ext hX)
  replace KO := Lib.hid (KO.out.ext hX)
  clear hX
  obtain ⟨s9, A9, l9, c9, B9, m9, k9, rfl⟩ := QZ.open hv
  have HV := Lib.hid (QZ.past hv (NoInts.three KR.out))
  clear hv
  have cR0 : w5.cell? ⟨(w.heap.size + 1), 0, none⟩ = some (.bool false) := KR.out.cell 0
  have fR0 : w5.frozen? ⟨(w.heap.size + 1), 0, none⟩ = false := KR.out.free 0
  have cR1 : w5.cell? ⟨(w.heap.size + 1), 1, none⟩ = some (.slice none 0 0) := KR.out.cell 1
  have fR1 : w5.frozen? ⟨(w.heap.size + 1), 1, none⟩ = false := KR.out.free 1
  have cR2 : w5.cell? ⟨(w.heap.size + 1), 2, none⟩ = some (.slice none 0 0) := KR.out.cell 2
  have fR2 : w5.frozen? ⟨(w.heap.size + 1), 2, none⟩ = false := KR.out.free 2
  go_wp2
  refine bodyPost_ret (v := .tuple #[.agg #[.bool s9, .slice A9 l9 c9, .slice B9 m9 k9], .bool true]) (by simp [results, Try.results87, go_sem, *]) rfl ?_
  exact ⟨_, rfl, HV.out, Ext.boxed HX.out (by omega) _ _ _⟩

set_option maxRecDepth 100000 in
set_option maxHeartbeats 2000000 in
theorem rof_zden (A0 B0 : Option Addr) (l0 c0 m0 k0 : Nat) (xs ys : List Int) (w : World) (hI : Ints .u32 w A0 l0 xs) (hc : l0 ≤ c0 ∧ c0 ≤ 9223372036854775807) (hJ : Ints .u32 w B0 m0 ys) (hk : m0 ≤ k0 ∧ k0 ≤ 9223372036854775807) (ha : FitW (wN xs)) (hb : FitW (wN ys)) (hn : wN xs = 0) (hD : wN ys ≠ 0) :
    Calls Try.prog 87 #[.agg #[.bool true, .slice A0 l0 c0, .slice B0 m0 k0]] w (RetOf w (ratOf true xs ys)) := by
  have HI := Lib.hid hI
  have HJ := Lib.hid hJ
  clear hI hJ
  obtain ⟨hc1, hc2⟩ := hc
  obtain ⟨hk1, hk2⟩ := hk
  have H0 := Lib.hid ha
  have H1 := Lib.hid hb
  obtain ⟨L, hL⟩ : ∃ L : Nat, L = 512 := ⟨_, rfl⟩
  have HF0 : Hid (Fit 65536 (wN xs) L) := by rw [hL]; exact fit512 ha.1
  have HF1 : Hid (Fit 65536 (wN ys) L) := by rw [hL]; exact fit512 hb.1
  replace hL : 1 ≤ L ∧ L ≤ 512 := by omega
  obtain ⟨hL0, hL1⟩ := hL
  clear ha hb
  have HE : Hid (ratV false (wN xs) (wD ys) = ratOf true xs ys) := ratV_z _ _ (wD_pos ys) hn
  rw [wD_nz hD] at HE
  obtain ⟨n, hN⟩ : ∃ n, wN xs = n := ⟨_, rfl⟩
  obtain ⟨d, hDD⟩ : ∃ d, wN ys = d := ⟨_, rfl⟩
  have HN := Lib.hid hN
  have HDD := Lib.hid hDD
  rw [hDD] at hD
  rw [hN] at hn
  clear hN hDD
  have hXe : Ext w ((w.alloc (.cells #[.bool true, .slice A0 l0 c0, .slice B0 m0 k0] 33)).alloc (.cells #[.bool false, .slice none 0 0, .slice none 0 0] 42)) := (((Ext.refl w).alloc _).alloc _)
  have kA : Blk ((w.alloc (.cells #[.bool true, .slice A0 l0 c0, .slice B0 m0 k0] 33)).alloc (.cells #[.bool false, .slice none 0 0, .slice none 0 0] 42)) w.heap.size 33 #[.bool true, .slice A0 l0 c0, .slice B0 m0 k0] := Blk.alloc (Blk.at_ (by simp)) _
  have kR : Blk ((w.alloc (.cells #[.bool true, .slice A0 l0 c0, .slice B0 m0 k0] 33)).alloc (.cells #[.bool false, .slice none 0 0, .slice none 0 0] 42)) (w.heap.size + 1) 42 #[.bool false, .slice none 0 0, .slice none 0 0] := Blk.at_ (by simp)
  go_enter Try.func87, Try.ntmps87
  go_wp2_with fail
  generalize ((w.alloc (.cells #[.bool true, .slice A0 l0 c0, .slice B0 m0 k0] 33)).alloc (.cells #[.bool false, .slice none 0 0, .slice none 0 0] 42)) = w1 at hXe kA kR ⊢
  have HX := Lib.hid hXe
  clear hXe
  have KA := Lib.hid kA
  clear kA
  have KR := Lib.hid kR
  clear kR
  replace HI := Lib.hid (HI.out.ext HX.out)
  replace HJ := Lib.hid (HJ.out.ext HX.out)
  have cA0 : w1.cell? ⟨w.heap.size, 0, none⟩ = some (.bool true) := KA.out.cell 0
  have cA1 : w1.cell? ⟨w.heap.size, 1, none⟩ = some (.slice A0 l0 c0) := KA.out.cell 1
  have cA2 : w1.cell? ⟨w.heap.size, 2, none⟩ = some (.slice B0 m0 k0) := KA.out.cell 2
  go_wp2_with fail
  clear cA0 cA1 cA2
  refine (limbs_b true A0 l0 c0 xs _ HI.out hc1 hc2 ⟨fun _ => H0.out, fun _ => rfl⟩).mono ?_
  rintro e w2 ⟨v7, rfl, h7, hX⟩
  replace hX : Ext w1 w2 := by with_reducible exact hX
  replace HX := Lib.hid (HX.out.trans hX)
  replace HI := Lib.hid (HI.out.ext hX)
  replace HJ := Lib.hid (HJ.out.ext hX)
  replace KA := Lib.hid (KA.out.ext hX)
  replace KR := Lib.hid (KR.out.ext hX)
  clear hX
  have HV7 : Hid (Z16 w2 v7 (wN xs)) := h7 rfl
  clear h7
  have cA0 : w2.cell? ⟨w.heap.size, 0, none⟩ = some (.bool true) := KA.out.cell 0
  have cA1 : w2.cell? ⟨w.heap.size, 1, none⟩ = some (.slice A0 l0 c0) := KA.out.cell 1
  have cA2 : w2.cell? ⟨w.heap.size, 2, none⟩ = some (.slice B0 m0 k0) := KA.out.cell 2
  go_wp2_with fail
  clear cA0 cA1 cA2
  refine (limbs_b true B0 m0 k0 ys _ HJ.out hk1 hk2 ⟨fun _ => H1.out, fun _ => rfl⟩).mono ?_
  rintro e w3 ⟨v8, rfl, h8, hX⟩
  replace hX : Ext w2 w3 := by with_reducible exact hX
  replace HX := Lib.hid (HX.out.trans hX)
  replace HI := Lib.hid (HI.out.ext hX)
  replace HJ := Lib.hid (HJ.out.ext hX)
  replace HV7 := Lib.hid (HV7.out.ext hX)
  replace KA := Lib.hid (KA.out.ext hX)
  replace KR := Lib.hid (KR.out.ext hX)
  clear hX
  have HV8 := Lib.hid (h8 rfl)
  clear h8
  rw [HN.out] at HV7 HF0 HE
  rw [HDD.out] at HV8 HF1 HE
  obtain ⟨A7, l7, c7, rfl, hv7, hz7⟩ := Z16.open HV7.out
  obtain ⟨A8, l8, c8, rfl, hv8, hz8⟩ := Z16.open HV8.out
  clear hv7 hv8
  obtain rfl : l7 = 0 := hz7.2 hn
  have hl8 : ¬ l8 = 0 := fun h => hD (hz8.1 h)
  have hl8' : ((l8 : Int) == 0) = false := by simp; omega
  have HDP : Hid (0 < d) := by show 0 < _; omega
  clear hz7 hz8 hD hn
  have cA0 : w3.cell? ⟨w.heap.size, 0, none⟩ = some (.bool true) := KA.out.cell 0
  have cA1 : w3.cell? ⟨w.heap.size, 1, none⟩ = some (.slice A0 l0 c0) := KA.out.cell 1
  have cA2 : w3.cell? ⟨w.heap.size, 2, none⟩ = some (.slice B0 m0 k0) := KA.out.cell 2
  go_wp2_with fail
  clear cA0 cA1 cA2
  refine (frac_any false false A7 _ 0 c7 _ _ n d L _ HV7.out HV8.out HF0.out HF1.out (by omega) HDP.out).mono ?_
  rw [HE.out]
  rintro e w4 ⟨v9, rfl, hv, hX⟩
  replace hX : Ext w3 w4 := by with_reducible exact hX
  replace HX := Lib.hid (HX.out.trans hX)
  replace HI := Lib.hid (HI.out.ext hX)
  replace HJ := Lib.hid (HJ.out.ext hX)
  replace HV7 := Lib.hid (HV7.out.ext hX)
  replace HV8 := Lib.hid (HV8.out.ext hX)
  replace KA := Lib.hid (KA.out.ext hX)
  replace KR := Lib.hid (KR.out.ext hX)
  clear hX
  obtain ⟨s9, A9, l9, c9, B9, m9, k9, rfl⟩ := QZ.open hv
  have HV := Lib.hid (QZ.past hv (NoInts.three KR.out))
  clear hv
  have cR0 : w4.cell? ⟨(w.heap.size + 1), 0, none⟩ = some (.bool false) := KR.out.cell 0
  have fR0 : w4.frozen? ⟨(w.heap.size + 1), 0, none⟩ = false := KR.out.free 0
  have cR1 : w4.cell? ⟨(w.heap.size + 1), 1, none⟩ = some (.slice none 0 0) := KR.out.cell 1
  have fR1 : w4.frozen? ⟨(w.heap.size + 1), 1, none⟩ = false := KR.out.free 1
  have cR2 : w4.cell? ⟨(w.heap.size + 1), 2, none⟩ = some (.slice none 0 0) := KR.out.cell 2
  have fR2 : w4.frozen? ⟨(w.heap.size + 1), 2, none⟩ = false := KR.out.free 2
  go_wp2
  refine bodyPost_ret (v := .tuple #[.agg #[.bool s9, .slice A9 l9 c9, .slice B9 m9 k9], .bool true]) (by simp [results, Try.results87, go_sem, *]) rfl ?_
  exact ⟨_, rfl, HV.out, Ext.boxed HX.out (by omega) _ _ _⟩


theorem rof_yes {w : World} {v : Value} {q : Rat} (h : RatG w v q) : Calls Try.prog 87 #[v] w (RetOf w q) := by
  obtain ⟨neg, xs, ys, ⟨A, l, c, B, m, k, rfl, h1, h2, h3, h4, h5, h6⟩, ⟨ha, hb⟩, rfl⟩ := h
  cases neg
  · by_cases hD : wN ys = 0
    · exact rof_fone A B l c m k xs ys w h1 ⟨h2, h3⟩ h4 ⟨h5, h6⟩ ha hb hD
    · exact rof_fden A B l c m k xs ys w h1 ⟨h2, h3⟩ h4 ⟨h5, h6⟩ ha hb hD
  · by_cases hn : wN xs = 0
    · by_cases hD : wN ys = 0
      · exact rof_zone A B l c m k xs ys w h1 ⟨h2, h3⟩ h4 ⟨h5, h6⟩ ha hb hn hD
      · exact rof_zden A B l c m k xs ys w h1 ⟨h2, h3⟩ h4 ⟨h5, h6⟩ ha hb hn hD
    · by_cases hD : wN ys = 0
      · exact rof_tone A B l c m k xs ys w h1 ⟨h2, h3⟩ h4 ⟨h5, h6⟩ ha hb hn hD
      · exact rof_tden A B l c m k xs ys w h1 ⟨h2, h3⟩ h4 ⟨h5, h6⟩ ha hb hn hD
theorem rof_no {w : World} {v : Value} (h : RatL w v true) : Calls Try.prog 87 #[v] w fun e w' => e = .returned (.tuple #[.agg #[.bool false, .slice none 0 0, .slice none 0 0], .bool false]) ∧ Ext w w' := by
  obtain ⟨neg, xs, ys, ⟨A, l, c, B, m, k, rfl, h1, h2, h3, h4, h5, h6⟩, hs⟩ := h
  by_cases ha : FitW (wN xs)
  · exact rof_n1 _ A B l c m k xs ys w h1 ⟨h2, h3⟩ h4 ⟨h5, h6⟩ ha (fun hb => (hs.1 rfl) ⟨ha, hb⟩)
  · exact rof_n0 _ A B l c m k xs ys w h1 ⟨h2, h3⟩ h4 ⟨h5, h6⟩ ha

end Go.Proofs.Yteoijnaljkagfaa
namespace Go.Proofs.Yteoijnaljkagfaa
open Go.RowKit

set_option maxRecDepth 100000 in
set_option maxHeartbeats 400000 in
theorem length_any (A : Option Addr) (n c : Nat) (xs : List Int) (w : World) (h : Ints .u32 w A n xs) (hnm : n ≤ 9223372036854775807) :
    Calls Try.prog 82 #[.slice A n c] w fun e w' => ∃ m : Nat, e = .returned (.int .i64 (m : Int)) ∧ m ≤ n ∧ w = w' := by
  have H := Lib.hid h
  clear h
  go_enter Try.func82, Try.ntmps82
  go_wp2
  go_loopg [3] n (fun g v wr => ∃ m : Nat, m = g ∧ m ≤ n ∧ v = .int .i64 (m : Int) ∧ w = wr)
  case atStart => exact ⟨n, rfl, Nat.le_refl _, rfl, rfl⟩
  case round =>
    obtain ⟨m, rfl, hm, rfl, rfl⟩ := hrel
    rcases Nat.eq_zero_or_pos m with h0 | h0
    · subst h0
      go_wp2
      go_ret
      exact ⟨0, rfl, by omega, rfl⟩
    · obtain ⟨k, rfl⟩ : ∃ k, m = k + 1 := ⟨m - 1, by omega⟩
      obtain ⟨b, off, x, rfl, hx, hwf, hc⟩ := H.out.get (j := k) (by omega)
      obtain ⟨hx0, hx1⟩ := u32_bounds hwf
      have hkc : ((k + 1 : Nat) : Int) = (k : Int) + 1 := by omega
      have hk0 : (0 : Int) ≤ (k : Int) := by omega
      have hkn : (k : Int) < (n : Int) := by omega
      rw [hkc]
      clear hx hwf
      by_cases hz : x = 0
      · have hzb : (x == 0) = true := by simpa using hz
        clear hz hkc
        go_wp2
        go_roundg k
        case rel => exact ⟨k, rfl, by omega, rfl, rfl⟩
        case measure => omega
      · have hzb : (x == 0) = false := by simpa using hz
        have HC := Lib.hid hkc
        clear hz hkc
        go_wp2
        go_ret
        exact ⟨k + 1, by rw [HC.out]; rfl, hm, rfl⟩
/-- Some numbers in a block. -/
def RatsAt (w : World) (g n : Nat) : Prop := ∀ j, j < n → ∃ A l c xs B m k ys, w.cell? ⟨g, j * 3 + 1, none⟩ = some (.slice A l c) ∧ w.cell? ⟨g, j * 3 + 2, none⟩ = some (.slice B m k) ∧ Ints .u32 w A l xs ∧ Ints .u32 w B m ys ∧ l ≤ 9223372036854775807 ∧ m ≤ 9223372036854775807
theorem RatsAt.ext {w w' : World} {g n : Nat} (h : RatsAt w g n) (he : Ext w w') : RatsAt w' g n := fun j hj => by
  obtain ⟨A, l, c, xs, B, m, k, ys, h1, h2, h3, h4, h5⟩ := h j hj
  exact ⟨A, l, c, xs, B, m, k, ys, he.cell h1, he.cell h2, h3.ext he, h4.ext he, h5⟩


set_option maxRecDepth 100000 in
set_option maxHeartbeats 4000000 in
theorem heavy_any (g n : Nat) (w : World) (h : RatsAt w g n) (hn : n ≤ 1000) :
    Calls Try.prog 27 #[.slice (some ⟨g, 0, none⟩) n n] w fun e w' => ∃ b : Bool, e = .returned (.bool b) ∧ Ext w w' := by
  have H := Lib.hid h
  clear h
  go_enter Try.func27, Try.ntmps27
  go_wp2
  go_loopg [3, 4] n (fun g' s3 s4 wr => ∃ (k : Nat) (b : Bool), g' = n - k ∧ k ≤ n ∧ s4 = .int .i64 (k : Int) ∧ s3 = .bool b ∧ Hid (Ext w wr))
  case atStart => exact ⟨0, false, rfl, by omega, rfl, rfl, Ext.refl w⟩
  case round =>
    obtain ⟨k, b, rfl, hk, rfl, rfl, HX⟩ := hrel
    by_cases hlt : k < n
    · have hkn : (k : Int) < (n : Int) := by omega
      have hk0 : (0 : Int) ≤ (k : Int) := by omega
      obtain ⟨A, l, c, xs, B, m, c2, ys, y1, y2, ha, hb, hl, hm⟩ := H.out.ext HX.out k hlt
      have HA := Lib.hid ha
      have HB := Lib.hid hb
      clear ha hb
      by_cases h1 : (400 : Int) < (l : Int)
      · go_wp2
        go_ret
        first | exact ⟨_, rfl, HX.out⟩ | exact ⟨.inr rfl, HX.out⟩ | exact ⟨.inl rfl, HX.out⟩
      by_cases h2 : (400 : Int) < (m : Int)
      · go_wp2
        go_ret
        first | exact ⟨_, rfl, HX.out⟩ | exact ⟨.inr rfl, HX.out⟩ | exact ⟨.inl rfl, HX.out⟩
      cases b
      · go_wp2_with fail
        refine (length_any A l c xs _ HA.out hl).mono ?_
        rintro e _ ⟨x1, rfl, hx1, rfl⟩
        by_cases h3 : (12 : Int) < (x1 : Int)
        · go_wp2
          go_roundg (n - (k + 1))
          case rel => exact ⟨k + 1, _, rfl, by omega, by go_num, rfl, HX.out⟩
          case measure => omega
        go_wp2_with fail
        refine (length_any B m c2 ys _ HB.out hm).mono ?_
        rintro e _ ⟨x2, rfl, hx2, rfl⟩
        by_cases h4 : (12 : Int) < (x2 : Int)
        · go_wp2
          go_roundg (n - (k + 1))
          case rel => exact ⟨k + 1, _, rfl, by omega, by go_num, rfl, HX.out⟩
          case measure => omega
        · go_wp2
          go_roundg (n - (k + 1))
          case rel => exact ⟨k + 1, _, rfl, by omega, by go_num, rfl, HX.out⟩
          case measure => omega
      · go_wp2
        go_roundg (n - (k + 1))
        case rel => exact ⟨k + 1, _, rfl, by omega, by go_num, rfl, HX.out⟩
        case measure => omega
    · obtain rfl : n = k := by omega
      cases b
      · go_wp2
        go_ret
        first | exact ⟨_, rfl, HX.out⟩ | exact ⟨.inr rfl, HX.out⟩ | exact ⟨.inl rfl, HX.out⟩
      · go_wp2
        obtain ⟨wo, rfl⟩ : ∃ wo : World, wo = wr := ⟨_, rfl⟩
        go_loopg [5] n (fun g' s5 wr => ∃ k : Nat, g' = n - k ∧ k ≤ n ∧ s5 = .int .i64 (k : Int) ∧ Hid (Ext w wr))
        case atStart => exact ⟨0, rfl, by omega, rfl, HX.out⟩
        case round =>
          clear HX
          obtain ⟨k, rfl, hk, rfl, HX⟩ := hrel
          by_cases hlt : k < n
          · have hkn : (k : Int) < (n : Int) := by omega
            have hk0 : (0 : Int) ≤ (k : Int) := by omega
            obtain ⟨A, l, c, xs, B, m, c2, ys, y1, y2, ha, hb, hl, hm⟩ := H.out.ext HX.out k hlt
            have HA := Lib.hid ha
            have HB := Lib.hid hb
            clear ha hb
            go_wp2_with fail
            refine (length_any B m c2 ys _ HB.out hm).mono ?_
            rintro e _ ⟨x2, rfl, hx2, rfl⟩
            by_cases h3 : (2 : Int) < (x2 : Int)
            · by_cases h4 : (1 : Int) < (n : Int)
              · go_wp2
                go_ret
                first | exact ⟨_, rfl, HX.out⟩ | exact ⟨.inr rfl, HX.out⟩ | exact ⟨.inl rfl, HX.out⟩
              · go_wp2_with fail
                refine (length_any A l c xs _ HA.out hl).mono ?_
                rintro e _ ⟨x1, rfl, hx1, rfl⟩
                by_cases h5 : (2 : Int) < (x1 : Int)
                · go_wp2
                  go_ret
                  first | exact ⟨_, rfl, HX.out⟩ | exact ⟨.inr rfl, HX.out⟩ | exact ⟨.inl rfl, HX.out⟩
                · go_wp2
                  go_roundg (n - (k + 1))
                  case rel => exact ⟨k + 1, rfl, by omega, by go_num, HX.out⟩
                  case measure => omega
            · go_wp2
              go_roundg (n - (k + 1))
              case rel => exact ⟨k + 1, rfl, by omega, by go_num, HX.out⟩
              case measure => omega
          · obtain rfl : n = k := by omega
            go_wp2
            go_ret
            first | exact ⟨_, rfl, HX.out⟩ | exact ⟨.inr rfl, HX.out⟩ | exact ⟨.inl rfl, HX.out⟩
end Go.Proofs.Yteoijnaljkagfaa
namespace Go.Proofs.Yteoijnaljkagfaa
open Go.RowKit

/-- An integer as an end of a span, and its error. -/
def endV (z : Int) : Int := if -1152921504606846976 ≤ z ∧ z ≤ 1152921504606846976 then z else 0
def endE (z : Int) : Int := if -1152921504606846976 ≤ z ∧ z ≤ 1152921504606846976 then 0 else 3
theorem end_in {z : Int} (h : -1152921504606846976 ≤ z ∧ z ≤ 1152921504606846976) : endV z = z ∧ endE z = 0 := ⟨if_pos h, if_pos h⟩
theorem end_out {z : Int} (h : ¬ (-1152921504606846976 ≤ z ∧ z ≤ 1152921504606846976)) : endV z = 0 ∧ endE z = 3 := ⟨if_neg h, if_neg h⟩
theorem fit_in {z : Int} (h : -4611686018427387904 ≤ z ∧ z ≤ 4611686018427387904) : fitI z = z ∧ fitB z = true := ⟨by rw [fitI, if_pos h], decide_eq_true h⟩
theorem fit_out {z : Int} (h : ¬ (-4611686018427387904 ≤ z ∧ z ≤ 4611686018427387904)) : fitI z = 0 ∧ fitB z = false := ⟨by rw [fitI, if_neg h], decide_eq_false h⟩
theorem floorN {w : World} {v : Value} {q : Rat} (h : RatG w v q) : Calls Try.prog 28 #[v] w (RetE w (.int .i64 (endV q.floor)) (endE q.floor)) := by
  by_cases hr : -1152921504606846976 ≤ q.floor ∧ q.floor ≤ 1152921504606846976
  · rw [(end_in hr).1, (end_in hr).2]; exact floorG h hr.1 hr.2
  · rw [(end_out hr).1, (end_out hr).2]; exact floorG_out h (by omega)
theorem ceilN {w : World} {v : Value} {q : Rat} (h : RatG w v q) : Calls Try.prog 29 #[v] w (RetE w (.int .i64 (endV (-(-q).floor))) (endE (-(-q).floor))) := by
  by_cases hr : -1152921504606846976 ≤ (-q).floor ∧ (-q).floor ≤ 1152921504606846976
  · rw [(end_in (z := -(-q).floor) (by omega)).1, (end_in (z := -(-q).floor) (by omega)).2]; exact ceilG h hr.1 hr.2
  · rw [(end_out (z := -(-q).floor) (by omega)).1, (end_out (z := -(-q).floor) (by omega)).2]; exact ceilG_out h (by omega)

set_option maxRecDepth 100000 in
set_option maxHeartbeats 2000000 in
theorem rend_in (s : Bool) (A : Option Addr) (l c : Nat) (z : Int) (w : World) (hx : IntZ w (.agg #[.bool s, .slice A l c]) z) (hz : -1152921504606846976 ≤ z ∧ z ≤ 1152921504606846976) :
    Calls Try.prog 88 #[.agg #[.bool s, .slice A l c]] w (fun e w' => e = .returned (.tuple #[.int .i64 z, .int .i64 0]) ∧ Ext w w') := by
  have HXX := Lib.hid hx
  clear hx
  obtain ⟨e1, e2⟩ := fit_in (z := z) (by omega)
  have E1 := Lib.hid e1
  have E2 := Lib.hid e2
  clear e1 e2
  have hXe : Ext w (w.alloc (.cells #[.bool s, .slice A l c] 40)) := ((Ext.refl w).alloc _)
  have kA : Blk (w.alloc (.cells #[.bool s, .slice A l c] 40)) w.heap.size 40 #[.bool s, .slice A l c] := Blk.at_ (by simp)
  go_enter Try.func88, Try.ntmps88
  go_wp2_with fail
  generalize (w.alloc (.cells #[.bool s, .slice A l c] 40)) = w1 at hXe kA ⊢
  have HX := Lib.hid hXe
  clear hXe
  have KA := Lib.hid kA
  clear kA
  replace HXX := Lib.hid (HXX.out.ext HX.out)
  have cA0 : w1.cell? ⟨w.heap.size, 0, none⟩ = some (.bool s) := KA.out.cell 0
  have cA1 : w1.cell? ⟨w.heap.size, 1, none⟩ = some (.slice A l c) := KA.out.cell 1
  obtain ⟨hz0, hz1⟩ := hz
  have hz2 : ¬ z < -1152921504606846976 := by omega
  have hz3 : ¬ 1152921504606846976 < z := by omega
  go_wp2_with fail
  clear cA0 cA1
  refine (zfits_any _ z _ HXX.out).mono ?_
  rw [E1.out, E2.out]
  rintro e w2 ⟨rfl, hX⟩
  replace hX : Ext w1 w2 := by with_reducible exact hX
  replace HX := Lib.hid (HX.out.trans hX)
  replace KA := Lib.hid (KA.out.ext hX)
  clear hX
  go_wp2
  go_ret2
  exact ⟨rfl, HX.out⟩

set_option maxRecDepth 100000 in
set_option maxHeartbeats 2000000 in
theorem rend_mid (s : Bool) (A : Option Addr) (l c : Nat) (z : Int) (w : World) (hx : IntZ w (.agg #[.bool s, .slice A l c]) z) (hz : z < -1152921504606846976 ∨ 1152921504606846976 < z) (hf : -4611686018427387904 ≤ z ∧ z ≤ 4611686018427387904) :
    Calls Try.prog 88 #[.agg #[.bool s, .slice A l c]] w (fun e w' => e = .returned (.tuple #[.int .i64 0, .int .i64 3]) ∧ Ext w w') := by
  have HXX := Lib.hid hx
  clear hx
  obtain ⟨e1, e2⟩ := fit_in hf
  have E1 := Lib.hid e1
  have E2 := Lib.hid e2
  clear e1 e2
  have hXe : Ext w (w.alloc (.cells #[.bool s, .slice A l c] 40)) := ((Ext.refl w).alloc _)
  have kA : Blk (w.alloc (.cells #[.bool s, .slice A l c] 40)) w.heap.size 40 #[.bool s, .slice A l c] := Blk.at_ (by simp)
  go_enter Try.func88, Try.ntmps88
  go_wp2_with fail
  generalize (w.alloc (.cells #[.bool s, .slice A l c] 40)) = w1 at hXe kA ⊢
  have HX := Lib.hid hXe
  clear hXe
  have KA := Lib.hid kA
  clear kA
  replace HXX := Lib.hid (HXX.out.ext HX.out)
  have cA0 : w1.cell? ⟨w.heap.size, 0, none⟩ = some (.bool s) := KA.out.cell 0
  have cA1 : w1.cell? ⟨w.heap.size, 1, none⟩ = some (.slice A l c) := KA.out.cell 1
  rcases hz with hz | hz
  · go_wp2_with fail
    clear cA0 cA1
    refine (zfits_any _ z _ HXX.out).mono ?_
    rw [E1.out, E2.out]
    rintro e w2 ⟨rfl, hX⟩
    replace hX : Ext w1 w2 := by with_reducible exact hX
    replace HX := Lib.hid (HX.out.trans hX)
    replace KA := Lib.hid (KA.out.ext hX)
    clear hX
    go_wp2
    go_ret2
    exact ⟨rfl, HX.out⟩
  · go_wp2_with fail
    clear cA0 cA1
    refine (zfits_any _ z _ HXX.out).mono ?_
    rw [E1.out, E2.out]
    rintro e w2 ⟨rfl, hX⟩
    replace hX : Ext w1 w2 := by with_reducible exact hX
    replace HX := Lib.hid (HX.out.trans hX)
    replace KA := Lib.hid (KA.out.ext hX)
    clear hX
    have hz2 : ¬ z < -1152921504606846976 := by omega
    go_wp2
    go_ret2
    exact ⟨rfl, HX.out⟩

set_option maxRecDepth 100000 in
set_option maxHeartbeats 2000000 in
theorem rend_far (s : Bool) (A : Option Addr) (l c : Nat) (z : Int) (w : World) (hx : IntZ w (.agg #[.bool s, .slice A l c]) z) (hf : ¬ (-4611686018427387904 ≤ z ∧ z ≤ 4611686018427387904)) :
    Calls Try.prog 88 #[.agg #[.bool s, .slice A l c]] w (fun e w' => e = .returned (.tuple #[.int .i64 0, .int .i64 3]) ∧ Ext w w') := by
  have HXX := Lib.hid hx
  clear hx
  obtain ⟨e1, e2⟩ := fit_out hf
  have E1 := Lib.hid e1
  have E2 := Lib.hid e2
  clear e1 e2
  have hXe : Ext w (w.alloc (.cells #[.bool s, .slice A l c] 40)) := ((Ext.refl w).alloc _)
  have kA : Blk (w.alloc (.cells #[.bool s, .slice A l c] 40)) w.heap.size 40 #[.bool s, .slice A l c] := Blk.at_ (by simp)
  go_enter Try.func88, Try.ntmps88
  go_wp2_with fail
  generalize (w.alloc (.cells #[.bool s, .slice A l c] 40)) = w1 at hXe kA ⊢
  have HX := Lib.hid hXe
  clear hXe
  have KA := Lib.hid kA
  clear kA
  replace HXX := Lib.hid (HXX.out.ext HX.out)
  have cA0 : w1.cell? ⟨w.heap.size, 0, none⟩ = some (.bool s) := KA.out.cell 0
  have cA1 : w1.cell? ⟨w.heap.size, 1, none⟩ = some (.slice A l c) := KA.out.cell 1
  go_wp2_with fail
  clear cA0 cA1
  refine (zfits_any _ z _ HXX.out).mono ?_
  rw [E1.out, E2.out]
  rintro e w2 ⟨rfl, hX⟩
  replace hX : Ext w1 w2 := by with_reducible exact hX
  replace HX := Lib.hid (HX.out.trans hX)
  replace KA := Lib.hid (KA.out.ext hX)
  clear hX
  go_wp2
  go_ret2
  exact ⟨rfl, HX.out⟩

theorem rend_any {w : World} {v : Value} {z : Int} (h : IntZ w v z) : Calls Try.prog 88 #[v] w fun e w' => e = .returned (.tuple #[.int .i64 (endV z), .int .i64 (endE z)]) ∧ Ext w w' := by
  obtain ⟨A, l, c, rfl, hz⟩ := h
  by_cases hr : -1152921504606846976 ≤ z ∧ z ≤ 1152921504606846976
  · rw [(end_in hr).1, (end_in hr).2]; exact rend_in _ A l c z w ⟨A, l, c, rfl, hz⟩ hr
  · rw [(end_out hr).1, (end_out hr).2]
    by_cases hf : -4611686018427387904 ≤ z ∧ z ≤ 4611686018427387904
    · exact rend_mid _ A l c z w ⟨A, l, c, rfl, hz⟩ (by omega) hf
    · exact rend_far _ A l c z w ⟨A, l, c, rfl, hz⟩ hf

set_option maxRecDepth 100000 in
set_option maxHeartbeats 2000000 in
theorem rfl_false (s0 : Bool) (A0 B0 : Option Addr) (l0 c0 m0 k0 : Nat) (q : Rat) (w : World) (hx : RatG w (.agg #[.bool s0, .slice A0 l0 c0, .slice B0 m0 k0]) q) :
    Calls Try.prog 30 #[.agg #[.bool s0, .slice A0 l0 c0, .slice B0 m0 k0], .bool false] w (fun e w' => e = .returned (.tuple #[.int .i64 (endV q.floor), .int .i64 (endE q.floor)]) ∧ Ext w w') := by
  have HXX := Lib.hid hx
  have HFR : Hid (FitR q 512) := by
    have h := fitR_double hx.fit
    rw [show 2 * 256 = 512 from rfl] at h
    exact h
  clear hx
  obtain ⟨L, hL⟩ : ∃ L : Nat, L = 512 := ⟨_, rfl⟩
  rw [← hL] at HFR
  have hL2 : L ≤ 400000 := by omega
  clear hL
  obtain ⟨z, hz⟩ : ∃ z, q.floor = z := ⟨_, rfl⟩
  rw [hz]
  have HZ := Lib.hid hz
  obtain ⟨n, hn⟩ : ∃ n, endV z = n := ⟨_, rfl⟩
  obtain ⟨er, her⟩ : ∃ er, endE z = er := ⟨_, rfl⟩
  rw [hn, her]
  have HN := Lib.hid hn
  have HER := Lib.hid her
  clear hz hn her
  have hXe : Ext w (w.alloc (.cells #[.bool s0, .slice A0 l0 c0, .slice B0 m0 k0] 33)) := ((Ext.refl w).alloc _)
  have kA : Blk (w.alloc (.cells #[.bool s0, .slice A0 l0 c0, .slice B0 m0 k0] 33)) w.heap.size 33 #[.bool s0, .slice A0 l0 c0, .slice B0 m0 k0] := Blk.at_ (by simp)
  go_enter Try.func30, Try.ntmps30
  go_wp2_with fail
  generalize (w.alloc (.cells #[.bool s0, .slice A0 l0 c0, .slice B0 m0 k0] 33)) = w1 at hXe kA ⊢
  have HX := Lib.hid hXe
  clear hXe
  have KA := Lib.hid kA
  clear kA
  replace HXX := Lib.hid (HXX.out.ext HX.out)
  have cA0 : w1.cell? ⟨w.heap.size, 0, none⟩ = some (.bool s0) := KA.out.cell 0
  have cA1 : w1.cell? ⟨w.heap.size, 1, none⟩ = some (.slice A0 l0 c0) := KA.out.cell 1
  have cA2 : w1.cell? ⟨w.heap.size, 2, none⟩ = some (.slice B0 m0 k0) := KA.out.cell 2
  go_wp2_with fail
  clear cA0 cA1 cA2
  refine (rof_yes HXX.out).mono ?_
  rintro e w2 ⟨v9, rfl, hv, hX⟩
  replace hX : Ext w1 w2 := by with_reducible exact hX
  replace HX := Lib.hid (HX.out.trans hX)
  replace KA := Lib.hid (KA.out.ext hX)
  clear hX
  obtain ⟨s9, A9, l9, c9, B9, m9, k9, rfl⟩ := QZ.open hv
  have HV := Lib.hid hv
  clear hv
  go_upto_region 2 with (fail)
  have hXa : Ext w2 (w2.alloc (.cells #[.bool s9, .slice A9 l9 c9, .slice B9 m9 k9] 42)) := (Ext.refl _).alloc _
  have kY := Blk.new w2 42 #[.bool s9, .slice A9 l9 c9, .slice B9 m9 k9]
  have zA := KA.out.lt
  have zg := HX.out.size
  replace HX := Lib.hid (HX.out.trans hXa)
  replace HV := Lib.hid (HV.out.ext hXa)
  replace KA := Lib.hid (KA.out.ext hXa)
  generalize (w2.alloc (.cells #[.bool s9, .slice A9 l9 c9, .slice B9 m9 k9] 42)) = w3 at HX HV KA kY ⊢
  have KY := Lib.hid kY
  clear kY hXa
  have cY0 : w3.cell? ⟨w2.heap.size, 0, none⟩ = some (.bool s9) := KY.out.cell 0
  have cY1 : w3.cell? ⟨w2.heap.size, 1, none⟩ = some (.slice A9 l9 c9) := KY.out.cell 1
  have cY2 : w3.cell? ⟨w2.heap.size, 2, none⟩ = some (.slice B9 m9 k9) := KY.out.cell 2
  go_wp2_with fail
  clear cY0 cY1 cY2
  refine (qfloor_any _ q L _ HV.out HFR.out hL2).mono ?_
  rw [HZ.out]
  rintro e w4 ⟨v8, rfl, h8, hX⟩
  replace hX : Ext w3 w4 := by with_reducible exact hX
  replace HX := Lib.hid (HX.out.trans hX)
  replace HV := Lib.hid (HV.out.ext hX)
  replace KA := Lib.hid (KA.out.ext hX)
  replace KY := Lib.hid (KY.out.ext hX)
  clear hX
  have HW := Lib.hid h8
  clear h8
  go_wp2_with fail
  refine (rend_any HW.out).mono ?_
  rw [HN.out, HER.out]
  rintro e w5 ⟨rfl, hX⟩
  replace hX : Ext w4 w5 := by with_reducible exact hX
  replace HX := Lib.hid (HX.out.trans hX)
  replace HV := Lib.hid (HV.out.ext hX)
  replace HW := Lib.hid (HW.out.ext hX)
  replace KA := Lib.hid (KA.out.ext hX)
  replace KY := Lib.hid (KY.out.ext hX)
  clear hX
  go_wp2
  go_ret2
  exact ⟨rfl, HX.out⟩

set_option maxRecDepth 100000 in
set_option maxHeartbeats 2000000 in
theorem rfl_true (s0 : Bool) (A0 B0 : Option Addr) (l0 c0 m0 k0 : Nat) (q : Rat) (w : World) (hx : RatG w (.agg #[.bool s0, .slice A0 l0 c0, .slice B0 m0 k0]) q) :
    Calls Try.prog 30 #[.agg #[.bool s0, .slice A0 l0 c0, .slice B0 m0 k0], .bool true] w (fun e w' => e = .returned (.tuple #[.int .i64 (endV (-(-q).floor)), .int .i64 (endE (-(-q).floor))]) ∧ Ext w w') := by
  have HXX := Lib.hid hx
  have HFR : Hid (FitR q 512) := by
    have h := fitR_double hx.fit
    rw [show 2 * 256 = 512 from rfl] at h
    exact h
  clear hx
  obtain ⟨L, hL⟩ : ∃ L : Nat, L = 512 := ⟨_, rfl⟩
  rw [← hL] at HFR
  have hL2 : L ≤ 400000 := by omega
  clear hL
  obtain ⟨z, hz⟩ : ∃ z, (-(-q).floor) = z := ⟨_, rfl⟩
  rw [hz]
  have HZ := Lib.hid hz
  obtain ⟨n, hn⟩ : ∃ n, endV z = n := ⟨_, rfl⟩
  obtain ⟨er, her⟩ : ∃ er, endE z = er := ⟨_, rfl⟩
  rw [hn, her]
  have HN := Lib.hid hn
  have HER := Lib.hid her
  clear hz hn her
  have hXe : Ext w (w.alloc (.cells #[.bool s0, .slice A0 l0 c0, .slice B0 m0 k0] 33)) := ((Ext.refl w).alloc _)
  have kA : Blk (w.alloc (.cells #[.bool s0, .slice A0 l0 c0, .slice B0 m0 k0] 33)) w.heap.size 33 #[.bool s0, .slice A0 l0 c0, .slice B0 m0 k0] := Blk.at_ (by simp)
  go_enter Try.func30, Try.ntmps30
  go_wp2_with fail
  generalize (w.alloc (.cells #[.bool s0, .slice A0 l0 c0, .slice B0 m0 k0] 33)) = w1 at hXe kA ⊢
  have HX := Lib.hid hXe
  clear hXe
  have KA := Lib.hid kA
  clear kA
  replace HXX := Lib.hid (HXX.out.ext HX.out)
  have cA0 : w1.cell? ⟨w.heap.size, 0, none⟩ = some (.bool s0) := KA.out.cell 0
  have cA1 : w1.cell? ⟨w.heap.size, 1, none⟩ = some (.slice A0 l0 c0) := KA.out.cell 1
  have cA2 : w1.cell? ⟨w.heap.size, 2, none⟩ = some (.slice B0 m0 k0) := KA.out.cell 2
  go_wp2_with fail
  clear cA0 cA1 cA2
  refine (rof_yes HXX.out).mono ?_
  rintro e w2 ⟨v9, rfl, hv, hX⟩
  replace hX : Ext w1 w2 := by with_reducible exact hX
  replace HX := Lib.hid (HX.out.trans hX)
  replace KA := Lib.hid (KA.out.ext hX)
  clear hX
  obtain ⟨s9, A9, l9, c9, B9, m9, k9, rfl⟩ := QZ.open hv
  have HV := Lib.hid hv
  clear hv
  go_upto_region 2 with (fail)
  have hXa : Ext w2 (w2.alloc (.cells #[.bool s9, .slice A9 l9 c9, .slice B9 m9 k9] 42)) := (Ext.refl _).alloc _
  have kY := Blk.new w2 42 #[.bool s9, .slice A9 l9 c9, .slice B9 m9 k9]
  have zA := KA.out.lt
  have zg := HX.out.size
  replace HX := Lib.hid (HX.out.trans hXa)
  replace HV := Lib.hid (HV.out.ext hXa)
  replace KA := Lib.hid (KA.out.ext hXa)
  generalize (w2.alloc (.cells #[.bool s9, .slice A9 l9 c9, .slice B9 m9 k9] 42)) = w3 at HX HV KA kY ⊢
  have KY := Lib.hid kY
  clear kY hXa
  have cY0 : w3.cell? ⟨w2.heap.size, 0, none⟩ = some (.bool s9) := KY.out.cell 0
  have cY1 : w3.cell? ⟨w2.heap.size, 1, none⟩ = some (.slice A9 l9 c9) := KY.out.cell 1
  have cY2 : w3.cell? ⟨w2.heap.size, 2, none⟩ = some (.slice B9 m9 k9) := KY.out.cell 2
  go_wp2_with fail
  clear cY0 cY1 cY2
  refine (qceil_any _ q L _ HV.out HFR.out hL2).mono ?_
  rw [HZ.out]
  rintro e w4 ⟨v8, rfl, h8, hX⟩
  replace hX : Ext w3 w4 := by with_reducible exact hX
  replace HX := Lib.hid (HX.out.trans hX)
  replace HV := Lib.hid (HV.out.ext hX)
  replace KA := Lib.hid (KA.out.ext hX)
  replace KY := Lib.hid (KY.out.ext hX)
  clear hX
  have HW := Lib.hid h8
  clear h8
  go_wp2_with fail
  refine (rend_any HW.out).mono ?_
  rw [HN.out, HER.out]
  rintro e w5 ⟨rfl, hX⟩
  replace hX : Ext w4 w5 := by with_reducible exact hX
  replace HX := Lib.hid (HX.out.trans hX)
  replace HV := Lib.hid (HV.out.ext hX)
  replace HW := Lib.hid (HW.out.ext hX)
  replace KA := Lib.hid (KA.out.ext hX)
  replace KY := Lib.hid (KY.out.ext hX)
  clear hX
  go_wp2
  go_ret2
  exact ⟨rfl, HX.out⟩

set_option maxRecDepth 100000 in
set_option maxHeartbeats 2000000 in
theorem rfl_no (s0 : Bool) (A0 B0 : Option Addr) (l0 c0 m0 k0 : Nat) (up : Bool) (w : World) (hx : RatL w (.agg #[.bool s0, .slice A0 l0 c0, .slice B0 m0 k0]) true) :
    Calls Try.prog 30 #[.agg #[.bool s0, .slice A0 l0 c0, .slice B0 m0 k0], .bool up] w (fun e w' => e = .returned (.tuple #[.int .i64 0, .int .i64 1]) ∧ Ext w w') := by
  have HXX := Lib.hid hx
  clear hx
  have hXe : Ext w (w.alloc (.cells #[.bool s0, .slice A0 l0 c0, .slice B0 m0 k0] 33)) := ((Ext.refl w).alloc _)
  have kA : Blk (w.alloc (.cells #[.bool s0, .slice A0 l0 c0, .slice B0 m0 k0] 33)) w.heap.size 33 #[.bool s0, .slice A0 l0 c0, .slice B0 m0 k0] := Blk.at_ (by simp)
  go_enter Try.func30, Try.ntmps30
  go_wp2_with fail
  generalize (w.alloc (.cells #[.bool s0, .slice A0 l0 c0, .slice B0 m0 k0] 33)) = w1 at hXe kA ⊢
  have HX := Lib.hid hXe
  clear hXe
  have KA := Lib.hid kA
  clear kA
  replace HXX := Lib.hid (HXX.out.ext HX.out)
  have cA0 : w1.cell? ⟨w.heap.size, 0, none⟩ = some (.bool s0) := KA.out.cell 0
  have cA1 : w1.cell? ⟨w.heap.size, 1, none⟩ = some (.slice A0 l0 c0) := KA.out.cell 1
  have cA2 : w1.cell? ⟨w.heap.size, 2, none⟩ = some (.slice B0 m0 k0) := KA.out.cell 2
  go_wp2_with fail
  clear cA0 cA1 cA2
  refine (rof_no HXX.out).mono ?_
  rintro e w2 ⟨rfl, hX⟩
  replace hX : Ext w1 w2 := by with_reducible exact hX
  replace HX := Lib.hid (HX.out.trans hX)
  replace KA := Lib.hid (KA.out.ext hX)
  clear hX
  go_upto_region 2 with (fail)
  have hXa : Ext w2 (w2.alloc (.cells #[.bool false, .slice none 0 0, .slice none 0 0] 42)) := (Ext.refl _).alloc _
  have kY := Blk.new w2 42 #[.bool false, .slice none 0 0, .slice none 0 0]
  have zA := KA.out.lt
  have zg := HX.out.size
  replace HX := Lib.hid (HX.out.trans hXa)
  replace KA := Lib.hid (KA.out.ext hXa)
  generalize (w2.alloc (.cells #[.bool false, .slice none 0 0, .slice none 0 0] 42)) = w3 at HX KA kY ⊢
  have KY := Lib.hid kY
  clear kY hXa
  go_wp2
  go_ret2
  exact ⟨rfl, HX.out⟩

theorem ratsAt_one {w : World} {g : Nat} {T : TypeId} {s : Bool} {A B : Option Addr} {l c m k : Nat} {neg : Bool} {xs ys : List Int} (hB : Blk w g T #[.bool s, .slice A l c, .slice B m k]) (h : RatV w (.agg #[.bool s, .slice A l c, .slice B m k]) neg xs ys) : RatsAt w g 1 := by
  obtain ⟨A1, l1, c1, B1, m1, k1, e, h1, h2, h3, h4, h5, h6⟩ := h
  simp only [Value.agg.injEq, Array.mk.injEq, List.cons.injEq, Value.bool.injEq, Value.slice.injEq, and_true] at e
  obtain ⟨rfl, ⟨rfl, rfl, rfl⟩, rfl, rfl, rfl⟩ := e
  intro j hj
  obtain rfl : j = 0 := by omega
  exact ⟨_, _, _, _, _, _, _, _, hB.cell 1, hB.cell 2, h1, h4, by omega, by omega⟩
theorem efloorL {w : World} {v : Value} (h : RatL w v true) : Calls Try.prog 28 #[v] w (RetE w (.int .i64 0) 1) := by
  obtain ⟨neg, xs, ys, h1, h2⟩ := h
  exact efloor_no v neg xs ys w h1 (h2.1 rfl)
theorem eceilL {w : World} {v : Value} (h : RatL w v true) : Calls Try.prog 29 #[v] w (RetE w (.int .i64 0) 1) := by
  obtain ⟨neg, xs, ys, h1, h2⟩ := h
  exact eceil_no v neg xs ys w h1 (h2.1 rfl)

set_option maxRecDepth 100000 in
set_option maxHeartbeats 2000000 in
theorem rounds_no (s0 : Bool) (A0 B0 : Option Addr) (l0 c0 m0 k0 : Nat) (neg : Bool) (xs ys : List Int) (w : World) (hv : RatV w (.agg #[.bool s0, .slice A0 l0 c0, .slice B0 m0 k0]) neg xs ys) (hx : RatL w (.agg #[.bool s0, .slice A0 l0 c0, .slice B0 m0 k0]) true) :
    Calls Try.prog 5 #[.agg #[.bool s0, .slice A0 l0 c0, .slice B0 m0 k0]] w (fun e w' => e = .returned (.bool true) ∧ Ext w w') := by
  have HVV := Lib.hid hv
  have HXX := Lib.hid hx
  clear hv hx
  have hXe : Ext w ((w.alloc (.cells #[.bool s0, .slice A0 l0 c0, .slice B0 m0 k0] 33)).alloc (.cells #[.bool s0, .slice A0 l0 c0, .slice B0 m0 k0] 33)) := (((Ext.refl w).alloc _).alloc _)
  have kA : Blk ((w.alloc (.cells #[.bool s0, .slice A0 l0 c0, .slice B0 m0 k0] 33)).alloc (.cells #[.bool s0, .slice A0 l0 c0, .slice B0 m0 k0] 33)) w.heap.size 33 #[.bool s0, .slice A0 l0 c0, .slice B0 m0 k0] := Blk.alloc (Blk.at_ (by simp)) _
  have kH : Blk ((w.alloc (.cells #[.bool s0, .slice A0 l0 c0, .slice B0 m0 k0] 33)).alloc (.cells #[.bool s0, .slice A0 l0 c0, .slice B0 m0 k0] 33)) (w.heap.size + 1) 33 #[.bool s0, .slice A0 l0 c0, .slice B0 m0 k0] := Blk.at_ (by simp)
  go_enter Try.func5, Try.ntmps5
  go_wp2_with fail
  generalize ((w.alloc (.cells #[.bool s0, .slice A0 l0 c0, .slice B0 m0 k0] 33)).alloc (.cells #[.bool s0, .slice A0 l0 c0, .slice B0 m0 k0] 33)) = w1 at hXe kA kH ⊢
  have HX := Lib.hid hXe
  clear hXe
  have KA := Lib.hid kA
  clear kA
  have KH := Lib.hid kH
  clear kH
  replace HVV := Lib.hid (HVV.out.ext HX.out)
  replace HXX := Lib.hid (HXX.out.ext HX.out)
  refine (heavy_any _ 1 _ (ratsAt_one KH.out HVV.out) (by omega)).mono ?_
  rintro e w2 ⟨b9, rfl, hX⟩
  replace hX : Ext w1 w2 := by with_reducible exact hX
  replace HX := Lib.hid (HX.out.trans hX)
  replace HVV := Lib.hid (HVV.out.ext hX)
  replace HXX := Lib.hid (HXX.out.ext hX)
  replace KA := Lib.hid (KA.out.ext hX)
  replace KH := Lib.hid (KH.out.ext hX)
  clear hX
  clear KH
  clear HVV
  by_cases hb9 : b9 = true
  · subst hb9
    go_wp2_with fail
    refine (first_any _).mono ?_
    rintro e w3 ⟨rfl, hX⟩
    replace hX : Ext w2 w3 := by with_reducible exact hX
    replace HX := Lib.hid (HX.out.trans hX)
    replace HXX := Lib.hid (HXX.out.ext hX)
    replace KA := Lib.hid (KA.out.ext hX)
    clear hX
    go_wp2
    go_ret
    exact ⟨rfl, HX.out⟩
  · have hb8 : b9 = false := by simpa using hb9
    clear hb9
    subst hb8
    have cA0 : w2.cell? ⟨w.heap.size, 0, none⟩ = some (.bool s0) := KA.out.cell 0
    have cA1 : w2.cell? ⟨w.heap.size, 1, none⟩ = some (.slice A0 l0 c0) := KA.out.cell 1
    have cA2 : w2.cell? ⟨w.heap.size, 2, none⟩ = some (.slice B0 m0 k0) := KA.out.cell 2
    go_wp2_with fail
    clear cA0 cA1 cA2
    refine (efloorL HXX.out).mono ?_
    unfold RetE
    rintro e w3 ⟨rfl, hX⟩
    replace hX : Ext w2 w3 := by with_reducible exact hX
    replace HX := Lib.hid (HX.out.trans hX)
    replace HXX := Lib.hid (HXX.out.ext hX)
    replace KA := Lib.hid (KA.out.ext hX)
    clear hX
    have cA0 : w3.cell? ⟨w.heap.size, 0, none⟩ = some (.bool s0) := KA.out.cell 0
    have cA1 : w3.cell? ⟨w.heap.size, 1, none⟩ = some (.slice A0 l0 c0) := KA.out.cell 1
    have cA2 : w3.cell? ⟨w.heap.size, 2, none⟩ = some (.slice B0 m0 k0) := KA.out.cell 2
    go_wp2_with fail
    clear cA0 cA1 cA2
    refine (eceilL HXX.out).mono ?_
    unfold RetE
    rintro e w4 ⟨rfl, hX⟩
    replace hX : Ext w3 w4 := by with_reducible exact hX
    replace HX := Lib.hid (HX.out.trans hX)
    replace HXX := Lib.hid (HXX.out.ext hX)
    replace KA := Lib.hid (KA.out.ext hX)
    clear hX
    have cA0 : w4.cell? ⟨w.heap.size, 0, none⟩ = some (.bool s0) := KA.out.cell 0
    have cA1 : w4.cell? ⟨w.heap.size, 1, none⟩ = some (.slice A0 l0 c0) := KA.out.cell 1
    have cA2 : w4.cell? ⟨w.heap.size, 2, none⟩ = some (.slice B0 m0 k0) := KA.out.cell 2
    go_wp2_with fail
    clear cA0 cA1 cA2
    refine (rfl_no _ _ _ _ _ _ _ _ _ HXX.out).mono ?_
    rintro e w5 ⟨rfl, hX⟩
    replace hX : Ext w4 w5 := by with_reducible exact hX
    replace HX := Lib.hid (HX.out.trans hX)
    replace HXX := Lib.hid (HXX.out.ext hX)
    replace KA := Lib.hid (KA.out.ext hX)
    clear hX
    have cA0 : w5.cell? ⟨w.heap.size, 0, none⟩ = some (.bool s0) := KA.out.cell 0
    have cA1 : w5.cell? ⟨w.heap.size, 1, none⟩ = some (.slice A0 l0 c0) := KA.out.cell 1
    have cA2 : w5.cell? ⟨w.heap.size, 2, none⟩ = some (.slice B0 m0 k0) := KA.out.cell 2
    go_wp2_with fail
    clear cA0 cA1 cA2
    refine (rfl_no _ _ _ _ _ _ _ _ _ HXX.out).mono ?_
    rintro e w6 ⟨rfl, hX⟩
    replace hX : Ext w5 w6 := by with_reducible exact hX
    replace HX := Lib.hid (HX.out.trans hX)
    replace HXX := Lib.hid (HXX.out.ext hX)
    replace KA := Lib.hid (KA.out.ext hX)
    clear hX
    have cA0 : w6.cell? ⟨w.heap.size, 0, none⟩ = some (.bool s0) := KA.out.cell 0
    have cA1 : w6.cell? ⟨w.heap.size, 1, none⟩ = some (.slice A0 l0 c0) := KA.out.cell 1
    have cA2 : w6.cell? ⟨w.heap.size, 2, none⟩ = some (.slice B0 m0 k0) := KA.out.cell 2
    go_wp2_with fail
    clear cA0 cA1 cA2
    refine (first_any _).mono ?_
    rintro e w7 ⟨rfl, hX⟩
    replace hX : Ext w6 w7 := by with_reducible exact hX
    replace HX := Lib.hid (HX.out.trans hX)
    replace HXX := Lib.hid (HXX.out.ext hX)
    replace KA := Lib.hid (KA.out.ext hX)
    clear hX
    go_wp2
    go_ret
    exact ⟨rfl, HX.out⟩

set_option maxRecDepth 100000 in
set_option maxHeartbeats 2000000 in
theorem rounds_ok (s0 : Bool) (A0 B0 : Option Addr) (l0 c0 m0 k0 : Nat) (neg : Bool) (xs ys : List Int) (q : Rat) (w : World) (hv : RatV w (.agg #[.bool s0, .slice A0 l0 c0, .slice B0 m0 k0]) neg xs ys) (hx : RatG w (.agg #[.bool s0, .slice A0 l0 c0, .slice B0 m0 k0]) q) :
    Calls Try.prog 5 #[.agg #[.bool s0, .slice A0 l0 c0, .slice B0 m0 k0]] w (fun e w' => e = .returned (.bool true) ∧ Ext w w') := by
  have HVV := Lib.hid hv
  have HXX := Lib.hid hx
  clear hv hx
  obtain ⟨n1, hn1⟩ : ∃ z, endV q.floor = z := ⟨_, rfl⟩
  have Hn1 := Lib.hid hn1
  clear hn1
  obtain ⟨e1, he1⟩ : ∃ z, endE q.floor = z := ⟨_, rfl⟩
  have He1 := Lib.hid he1
  clear he1
  obtain ⟨n2, hn2⟩ : ∃ z, endV (-(-q).floor) = z := ⟨_, rfl⟩
  have Hn2 := Lib.hid hn2
  clear hn2
  obtain ⟨e2, he2⟩ : ∃ z, endE (-(-q).floor) = z := ⟨_, rfl⟩
  have He2 := Lib.hid he2
  clear he2
  have hXe : Ext w ((w.alloc (.cells #[.bool s0, .slice A0 l0 c0, .slice B0 m0 k0] 33)).alloc (.cells #[.bool s0, .slice A0 l0 c0, .slice B0 m0 k0] 33)) := (((Ext.refl w).alloc _).alloc _)
  have kA : Blk ((w.alloc (.cells #[.bool s0, .slice A0 l0 c0, .slice B0 m0 k0] 33)).alloc (.cells #[.bool s0, .slice A0 l0 c0, .slice B0 m0 k0] 33)) w.heap.size 33 #[.bool s0, .slice A0 l0 c0, .slice B0 m0 k0] := Blk.alloc (Blk.at_ (by simp)) _
  have kH : Blk ((w.alloc (.cells #[.bool s0, .slice A0 l0 c0, .slice B0 m0 k0] 33)).alloc (.cells #[.bool s0, .slice A0 l0 c0, .slice B0 m0 k0] 33)) (w.heap.size + 1) 33 #[.bool s0, .slice A0 l0 c0, .slice B0 m0 k0] := Blk.at_ (by simp)
  go_enter Try.func5, Try.ntmps5
  go_wp2_with fail
  generalize ((w.alloc (.cells #[.bool s0, .slice A0 l0 c0, .slice B0 m0 k0] 33)).alloc (.cells #[.bool s0, .slice A0 l0 c0, .slice B0 m0 k0] 33)) = w1 at hXe kA kH ⊢
  have HX := Lib.hid hXe
  clear hXe
  have KA := Lib.hid kA
  clear kA
  have KH := Lib.hid kH
  clear kH
  replace HVV := Lib.hid (HVV.out.ext HX.out)
  replace HXX := Lib.hid (HXX.out.ext HX.out)
  refine (heavy_any _ 1 _ (ratsAt_one KH.out HVV.out) (by omega)).mono ?_
  rintro e w2 ⟨b9, rfl, hX⟩
  replace hX : Ext w1 w2 := by with_reducible exact hX
  replace HX := Lib.hid (HX.out.trans hX)
  replace HVV := Lib.hid (HVV.out.ext hX)
  replace HXX := Lib.hid (HXX.out.ext hX)
  replace KA := Lib.hid (KA.out.ext hX)
  replace KH := Lib.hid (KH.out.ext hX)
  clear hX
  clear KH
  clear HVV
  by_cases hb9 : b9 = true
  · subst hb9
    go_wp2_with fail
    refine (first_any _).mono ?_
    rintro e w3 ⟨rfl, hX⟩
    replace hX : Ext w2 w3 := by with_reducible exact hX
    replace HX := Lib.hid (HX.out.trans hX)
    replace HXX := Lib.hid (HXX.out.ext hX)
    replace KA := Lib.hid (KA.out.ext hX)
    clear hX
    go_wp2
    go_ret
    exact ⟨rfl, HX.out⟩
  · have hb8 : b9 = false := by simpa using hb9
    clear hb9
    subst hb8
    have cA0 : w2.cell? ⟨w.heap.size, 0, none⟩ = some (.bool s0) := KA.out.cell 0
    have cA1 : w2.cell? ⟨w.heap.size, 1, none⟩ = some (.slice A0 l0 c0) := KA.out.cell 1
    have cA2 : w2.cell? ⟨w.heap.size, 2, none⟩ = some (.slice B0 m0 k0) := KA.out.cell 2
    go_wp2_with fail
    clear cA0 cA1 cA2
    refine (floorN HXX.out).mono ?_
    rw [Hn1.out, He1.out]
    unfold RetE
    rintro e w3 ⟨rfl, hX⟩
    replace hX : Ext w2 w3 := by with_reducible exact hX
    replace HX := Lib.hid (HX.out.trans hX)
    replace HXX := Lib.hid (HXX.out.ext hX)
    replace KA := Lib.hid (KA.out.ext hX)
    clear hX
    have cA0 : w3.cell? ⟨w.heap.size, 0, none⟩ = some (.bool s0) := KA.out.cell 0
    have cA1 : w3.cell? ⟨w.heap.size, 1, none⟩ = some (.slice A0 l0 c0) := KA.out.cell 1
    have cA2 : w3.cell? ⟨w.heap.size, 2, none⟩ = some (.slice B0 m0 k0) := KA.out.cell 2
    go_wp2_with fail
    clear cA0 cA1 cA2
    refine (ceilN HXX.out).mono ?_
    rw [Hn2.out, He2.out]
    unfold RetE
    rintro e w4 ⟨rfl, hX⟩
    replace hX : Ext w3 w4 := by with_reducible exact hX
    replace HX := Lib.hid (HX.out.trans hX)
    replace HXX := Lib.hid (HXX.out.ext hX)
    replace KA := Lib.hid (KA.out.ext hX)
    clear hX
    have cA0 : w4.cell? ⟨w.heap.size, 0, none⟩ = some (.bool s0) := KA.out.cell 0
    have cA1 : w4.cell? ⟨w.heap.size, 1, none⟩ = some (.slice A0 l0 c0) := KA.out.cell 1
    have cA2 : w4.cell? ⟨w.heap.size, 2, none⟩ = some (.slice B0 m0 k0) := KA.out.cell 2
    go_wp2_with fail
    clear cA0 cA1 cA2
    refine (rfl_false _ _ _ _ _ _ _ _ _ HXX.out).mono ?_
    rw [Hn1.out, He1.out]
    rintro e w5 ⟨rfl, hX⟩
    replace hX : Ext w4 w5 := by with_reducible exact hX
    replace HX := Lib.hid (HX.out.trans hX)
    replace HXX := Lib.hid (HXX.out.ext hX)
    replace KA := Lib.hid (KA.out.ext hX)
    clear hX
    have cA0 : w5.cell? ⟨w.heap.size, 0, none⟩ = some (.bool s0) := KA.out.cell 0
    have cA1 : w5.cell? ⟨w.heap.size, 1, none⟩ = some (.slice A0 l0 c0) := KA.out.cell 1
    have cA2 : w5.cell? ⟨w.heap.size, 2, none⟩ = some (.slice B0 m0 k0) := KA.out.cell 2
    go_wp2_with fail
    clear cA0 cA1 cA2
    refine (rfl_true _ _ _ _ _ _ _ _ _ HXX.out).mono ?_
    rw [Hn2.out, He2.out]
    rintro e w6 ⟨rfl, hX⟩
    replace hX : Ext w5 w6 := by with_reducible exact hX
    replace HX := Lib.hid (HX.out.trans hX)
    replace HXX := Lib.hid (HXX.out.ext hX)
    replace KA := Lib.hid (KA.out.ext hX)
    clear hX
    have cA0 : w6.cell? ⟨w.heap.size, 0, none⟩ = some (.bool s0) := KA.out.cell 0
    have cA1 : w6.cell? ⟨w.heap.size, 1, none⟩ = some (.slice A0 l0 c0) := KA.out.cell 1
    have cA2 : w6.cell? ⟨w.heap.size, 2, none⟩ = some (.slice B0 m0 k0) := KA.out.cell 2
    go_wp2_with fail
    clear cA0 cA1 cA2
    refine (first_any _).mono ?_
    rintro e w7 ⟨rfl, hX⟩
    replace hX : Ext w6 w7 := by with_reducible exact hX
    replace HX := Lib.hid (HX.out.trans hX)
    replace HXX := Lib.hid (HXX.out.ext hX)
    replace KA := Lib.hid (KA.out.ext hX)
    clear hX
    go_wp2
    go_ret
    exact ⟨rfl, HX.out⟩

theorem exactRounds_walk (vx : Value) (f : Bool × List Int × List Int) (w : World) (hx : RatV_ w vx f) :
    Calls Try.prog 5 #[vx] w fun e w' => e = .returned (.bool true) ∧ Ext w w' := by
  obtain ⟨s, xs, ys⟩ := f
  obtain ⟨A0, l0, c0, B0, m0, k0, rfl, ⟨hA0, hl0, hc0⟩, ⟨hB0, hm0, hk0⟩⟩ := hx
  have hv : RatV w (.agg #[.bool s, .slice A0 l0 c0, .slice B0 m0 k0]) s xs ys := ⟨A0, l0, c0, B0, m0, k0, rfl, hA0, hl0, hc0, hB0, hm0, hk0⟩
  rcases hv.cases with h | ⟨_, h⟩
  · exact rounds_no _ _ _ _ _ _ _ _ _ _ w hv h
  · exact rounds_ok _ _ _ _ _ _ _ _ _ _ _ w hv h
end Go.Proofs.Yteoijnaljkagfaa
