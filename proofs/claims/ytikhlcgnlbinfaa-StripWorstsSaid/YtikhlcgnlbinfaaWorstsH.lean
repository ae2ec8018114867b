/- Lemmas of the proof that follows (Worsts, part 8): walks of functions by contract, and plain lemmas. Conditions: none. -/
import Derived.Test.YtikhlcgnlbinfaaWorstsG
set_option maxRecDepth 100000
set_option maxHeartbeats 2000000
namespace Go.Proofs.Ytikhlcgnlbinfaa
open Lib (hid)
open Go.RowKit
theorem bZ {n : Nat} (h : Fit 4294967296 n 256) : Fit 65536 n 512 := by
 have h2 := (dy (n := n) (L := 256)).2 h;rw [show 2 * 256 = 512 from rfl] at h2;exact h2
theorem bH (b : Bool) (A : Option Addr) (l c : Nat) (xs : List Int) (w : World) (hI : Ints .u32 w A l xs) (hc1 : l <= c) (hc2 : c <= 9223372036854775807) (hf : b = true ↔ aV (wN xs)) :
  Calls Try.prog 189 #[.slice A l c] w (fun e w' => ∃ v, e = .returned (.tuple #[v, .bool b]) /\ (b = true -> Z16 w' v (wN xs)) /\ Ext w w') := by
 cases b
 .
  refine (pe A l c xs w hI hc1 hc2 (fun h => by have := hf.2 h; cases this)).mono ?_;rintro e w' ⟨rfl, hX⟩;exact ⟨_, rfl, (fun h => by cases h), hX⟩
 .
  refine (np A l c xs w hI hc1 hc2 (hf.1 rfl)).mono ?_;rintro e w' ⟨v, rfl, hz, hX⟩;exact ⟨v, rfl, fun _ => hz, hX⟩
theorem ip {ys : List Int} (h : wN ys = 0) : wD ys = 1 := by unfold wD; rw [if_pos h]
theorem pf {ys : List Int} (h : wN ys ≠ 0) : wD ys = wN ys := by unfold wD; rw [if_neg h]
theorem pg (s t : Bool) {n d : Nat} (hd : 0 < d) (hn : n = 0) : ap s n d = ap t n d := by rw [(dj s n d hd).2 hn, (dj t n d hd).2 hn]
/-- What Of returns of a number that is not large. -/
def fX (w : World) (q : Rat) (e : Ending) (w' : World) : Prop := ∃ v, e = .returned (.tuple #[v, .bool true]) /\ QZ w' v q /\ Ext w w'
theorem ph (A0 B0 : Option Addr) (l0 c0 m0 k0 : Nat) (xs ys : List Int) (w : World) (hI : Ints .u32 w A0 l0 xs) (hc : l0 <= c0 /\ c0 <= 9223372036854775807) (hJ : Ints .u32 w B0 m0 ys) (hk : m0 <= k0 /\ k0 <= 9223372036854775807) (ha : aV (wN xs)) (hb : aV (wN ys))  (hD : wN ys = 0) :
  Calls Try.prog 138 #[.agg #[.bool false, .slice A0 l0 c0, .slice B0 m0 k0]] w (fX w (bV false xs ys)) := by
 have HI := hid hI;have HJ := hid hJ;clear hI hJ;obtain ⟨hc1, hc2⟩ := hc;obtain ⟨hk1, hk2⟩ := hk;have H0 := hid ha;have H1 := hid hb;obtain ⟨L, hL⟩ : ∃ L : Nat, L = 512 := ⟨_, rfl⟩;have HF0 : Hid (Fit 65536 (wN xs) L) := by rw [hL]; exact bZ ha.1
 have HF1 : Hid (Fit 65536 (wN ys) L) := by rw [hL]; exact bZ hb.1
 replace hL : 1 <= L /\ L <= 512 := by omega
 obtain ⟨hL0, hL1⟩ := hL;clear ha hb;have HE : Hid (ap false (wN xs) (wD ys) = bV false xs ys) := rfl;rw [ip hD] at HE;obtain ⟨n, hN⟩ : ∃ n, wN xs = n := ⟨_, rfl⟩;obtain ⟨d, hDD⟩ : ∃ d, wN ys = d := ⟨_, rfl⟩;have HN := hid hN;have HDD := hid hDD;rw [hDD] at hD;clear hN hDD;have hXe : Ext w ((w.alloc (.cells #[.bool false, .slice A0 l0 c0, .slice B0 m0 k0] 97)).alloc (.cells #[.bool false, .slice none 0 0, .slice none 0 0] 65)) := (((Ext.refl w).alloc _).alloc _);have kA : Blk ((w.alloc (.cells #[.bool false, .slice A0 l0 c0, .slice B0 m0 k0] 97)).alloc (.cells #[.bool false, .slice none 0 0, .slice none 0 0] 65)) w.heap.size 97 #[.bool false, .slice A0 l0 c0, .slice B0 m0 k0] := Blk.alloc (Blk.at_ (by simp)) _;have kR : Blk ((w.alloc (.cells #[.bool false, .slice A0 l0 c0, .slice B0 m0 k0] 97)).alloc (.cells #[.bool false, .slice none 0 0, .slice none 0 0] 65)) (w.heap.size + 1) 65 #[.bool false, .slice none 0 0, .slice none 0 0] := Blk.at_ (by simp);go_enter Try.func138, Try.ntmps138
 go_wp2_with fail
 generalize ((w.alloc _).alloc _) = w1 at hXe kA kR |-;have HX := hid hXe;clear hXe;have KA := hid kA;clear kA;have KR := hid kR;clear kR;replace HI := hid (HI.out.ext HX.out);replace HJ := hid (HJ.out.ext HX.out);have cA0 : w1.cell? ⟨w.heap.size, 0, none⟩ = some (.bool false) := KA.out.cell 0;have cA1 : w1.cell? ⟨w.heap.size, 1, none⟩ = some (.slice A0 l0 c0) := KA.out.cell 1;have cA2 : w1.cell? ⟨w.heap.size, 2, none⟩ = some (.slice B0 m0 k0) := KA.out.cell 2
 go_wp2_with fail
 clear cA0 cA1 cA2;refine (bH true A0 l0 c0 xs _ HI.out hc1 hc2 ⟨fun _ => H0.out, fun _ => rfl⟩).mono ?_;rintro e w2 ⟨v7, rfl, h7, hX⟩;replace hX : Ext w1 w2 := by with_reducible exact hX
 replace HX := hid (HX.out.trans hX);replace HI := hid (HI.out.ext hX);replace HJ := hid (HJ.out.ext hX);replace KA := hid (KA.out.ext hX);replace KR := hid (KR.out.ext hX);clear hX;have HV7 : Hid (Z16 w2 v7 (wN xs)) := h7 rfl;clear h7;have cA0 : w2.cell? ⟨w.heap.size, 0, none⟩ = some (.bool false) := KA.out.cell 0;have cA1 : w2.cell? ⟨w.heap.size, 1, none⟩ = some (.slice A0 l0 c0) := KA.out.cell 1;have cA2 : w2.cell? ⟨w.heap.size, 2, none⟩ = some (.slice B0 m0 k0) := KA.out.cell 2
 go_wp2_with fail
 clear cA0 cA1 cA2;refine (bH true B0 m0 k0 ys _ HJ.out hk1 hk2 ⟨fun _ => H1.out, fun _ => rfl⟩).mono ?_;rintro e w3 ⟨v8, rfl, h8, hX⟩;replace hX : Ext w2 w3 := by with_reducible exact hX
 replace HX := hid (HX.out.trans hX);replace HI := hid (HI.out.ext hX);replace HJ := hid (HJ.out.ext hX);replace HV7 := hid (HV7.out.ext hX);replace KA := hid (KA.out.ext hX);replace KR := hid (KR.out.ext hX);clear hX;have HV8 := hid (h8 rfl);clear h8;rw [HN.out] at HV7 HF0 HE;rw [HDD.out] at HV8 HF1;obtain ⟨A7, l7, c7, rfl, hv7, hz7⟩ := Z16.open HV7.out;obtain ⟨A8, l8, c8, rfl, hv8, hz8⟩ := Z16.open HV8.out;clear hv7 hv8;obtain rfl : l8 = 0 := hz8.2 hD;clear hz7 hz8 hD;have cA0 : w3.cell? ⟨w.heap.size, 0, none⟩ = some (.bool false) := KA.out.cell 0;have cA1 : w3.cell? ⟨w.heap.size, 1, none⟩ = some (.slice A0 l0 c0) := KA.out.cell 1;have cA2 : w3.cell? ⟨w.heap.size, 2, none⟩ = some (.slice B0 m0 k0) := KA.out.cell 2
 go_upto_region 7 with (fail)
 clear cA0 cA1 cA2;have hXa : Ext w3 (w3.alloc (.cells #[.int .i64 1] 3)) := (Ext.refl _).alloc _;have kO := Blk.new w3 3 #[.int .i64 1];have zA := KA.out.lt;have zR := KR.out.lt;have zg := HX.out.size;replace HX := hid (HX.out.trans hXa);replace HI := hid (HI.out.ext hXa);replace HJ := hid (HJ.out.ext hXa);replace HV7 := hid (HV7.out.ext hXa);replace HV8 := hid (HV8.out.ext hXa);replace KA := hid (KA.out.ext hXa);replace KR := hid (KR.out.ext hXa);generalize (w3.alloc _) = w4 at HX HI HJ HV7 HV8 KA KR kO |-;have KO := hid kO;clear kO hXa;have cA0 : w4.cell? ⟨w.heap.size, 0, none⟩ = some (.bool false) := KA.out.cell 0;have cA1 : w4.cell? ⟨w.heap.size, 1, none⟩ = some (.slice A0 l0 c0) := KA.out.cell 1;have cA2 : w4.cell? ⟨w.heap.size, 2, none⟩ = some (.slice B0 m0 k0) := KA.out.cell 2
 go_wp2_with fail
 clear cA0 cA1 cA2;refine (cS false false A7 _ l7 c7 _ _ n 1 L _ HV7.out KO.out.one16 HF0.out (Fit.one (by omega) (by omega)) (by omega) (by omega)).mono ?_;rw [HE.out];rintro e w5 ⟨v9, rfl, hv, hX⟩;replace hX : Ext w4 w5 := by with_reducible exact hX
 replace HX := hid (HX.out.trans hX);replace HI := hid (HI.out.ext hX);replace HJ := hid (HJ.out.ext hX);replace HV7 := hid (HV7.out.ext hX);replace HV8 := hid (HV8.out.ext hX);replace KA := hid (KA.out.ext hX);replace KR := hid (KR.out.ext hX);replace KO := hid (KO.out.ext hX);clear hX;obtain ⟨s9, A9, l9, c9, B9, m9, k9, rfl⟩ := QZ.open hv;have HV := hid (QZ.past hv (NoInts.three KR.out));clear hv;have cR0 : w5.cell? ⟨(w.heap.size + 1), 0, none⟩ = some (.bool false) := KR.out.cell 0;have fR0 : w5.frozen? ⟨(w.heap.size + 1), 0, none⟩ = false := KR.out.free 0;have cR1 : w5.cell? ⟨(w.heap.size + 1), 1, none⟩ = some (.slice none 0 0) := KR.out.cell 1;have fR1 : w5.frozen? ⟨(w.heap.size + 1), 1, none⟩ = false := KR.out.free 1;have cR2 : w5.cell? ⟨(w.heap.size + 1), 2, none⟩ = some (.slice none 0 0) := KR.out.cell 2;have fR2 : w5.frozen? ⟨(w.heap.size + 1), 2, none⟩ = false := KR.out.free 2;go_wp2;refine bodyPost_ret (v := .tuple #[.agg #[.bool s9, .slice A9 l9 c9, .slice B9 m9 k9], .bool true]) (by simp [results, Try.results138, go_sem, *]) rfl ?_;exact ⟨_, rfl, HV.out, Ext.boxed HX.out (by omega) _ _ _⟩
theorem pi (A0 B0 : Option Addr) (l0 c0 m0 k0 : Nat) (xs ys : List Int) (w : World) (hI : Ints .u32 w A0 l0 xs) (hc : l0 <= c0 /\ c0 <= 9223372036854775807) (hJ : Ints .u32 w B0 m0 ys) (hk : m0 <= k0 /\ k0 <= 9223372036854775807) (ha : aV (wN xs)) (hb : aV (wN ys))  (hD : wN ys ≠ 0) :
  Calls Try.prog 138 #[.agg #[.bool false, .slice A0 l0 c0, .slice B0 m0 k0]] w (fX w (bV false xs ys)) := by
 have HI := hid hI;have HJ := hid hJ;clear hI hJ;obtain ⟨hc1, hc2⟩ := hc;obtain ⟨hk1, hk2⟩ := hk;have H0 := hid ha;have H1 := hid hb;obtain ⟨L, hL⟩ : ∃ L : Nat, L = 512 := ⟨_, rfl⟩;have HF0 : Hid (Fit 65536 (wN xs) L) := by rw [hL]; exact bZ ha.1
 have HF1 : Hid (Fit 65536 (wN ys) L) := by rw [hL]; exact bZ hb.1
 replace hL : 1 <= L /\ L <= 512 := by omega
 obtain ⟨hL0, hL1⟩ := hL;clear ha hb;have HE : Hid (ap false (wN xs) (wD ys) = bV false xs ys) := rfl;rw [pf hD] at HE;obtain ⟨n, hN⟩ : ∃ n, wN xs = n := ⟨_, rfl⟩;obtain ⟨d, hDD⟩ : ∃ d, wN ys = d := ⟨_, rfl⟩;have HN := hid hN;have HDD := hid hDD;rw [hDD] at hD;clear hN hDD;have hXe : Ext w ((w.alloc (.cells #[.bool false, .slice A0 l0 c0, .slice B0 m0 k0] 97)).alloc (.cells #[.bool false, .slice none 0 0, .slice none 0 0] 65)) := (((Ext.refl w).alloc _).alloc _);have kA : Blk ((w.alloc (.cells #[.bool false, .slice A0 l0 c0, .slice B0 m0 k0] 97)).alloc (.cells #[.bool false, .slice none 0 0, .slice none 0 0] 65)) w.heap.size 97 #[.bool false, .slice A0 l0 c0, .slice B0 m0 k0] := Blk.alloc (Blk.at_ (by simp)) _;have kR : Blk ((w.alloc (.cells #[.bool false, .slice A0 l0 c0, .slice B0 m0 k0] 97)).alloc (.cells #[.bool false, .slice none 0 0, .slice none 0 0] 65)) (w.heap.size + 1) 65 #[.bool false, .slice none 0 0, .slice none 0 0] := Blk.at_ (by simp);go_enter Try.func138, Try.ntmps138
 go_wp2_with fail
 generalize ((w.alloc _).alloc _) = w1 at hXe kA kR |-;have HX := hid hXe;clear hXe;have KA := hid kA;clear kA;have KR := hid kR;clear kR;replace HI := hid (HI.out.ext HX.out);replace HJ := hid (HJ.out.ext HX.out);have cA0 : w1.cell? ⟨w.heap.size, 0, none⟩ = some (.bool false) := KA.out.cell 0;have cA1 : w1.cell? ⟨w.heap.size, 1, none⟩ = some (.slice A0 l0 c0) := KA.out.cell 1;have cA2 : w1.cell? ⟨w.heap.size, 2, none⟩ = some (.slice B0 m0 k0) := KA.out.cell 2
 go_wp2_with fail
 clear cA0 cA1 cA2;refine (bH true A0 l0 c0 xs _ HI.out hc1 hc2 ⟨fun _ => H0.out, fun _ => rfl⟩).mono ?_;rintro e w2 ⟨v7, rfl, h7, hX⟩;replace hX : Ext w1 w2 := by with_reducible exact hX
 replace HX := hid (HX.out.trans hX);replace HI := hid (HI.out.ext hX);replace HJ := hid (HJ.out.ext hX);replace KA := hid (KA.out.ext hX);replace KR := hid (KR.out.ext hX);clear hX;have HV7 : Hid (Z16 w2 v7 (wN xs)) := h7 rfl;clear h7;have cA0 : w2.cell? ⟨w.heap.size, 0, none⟩ = some (.bool false) := KA.out.cell 0;have cA1 : w2.cell? ⟨w.heap.size, 1, none⟩ = some (.slice A0 l0 c0) := KA.out.cell 1;have cA2 : w2.cell? ⟨w.heap.size, 2, none⟩ = some (.slice B0 m0 k0) := KA.out.cell 2
 go_wp2_with fail
 clear cA0 cA1 cA2;refine (bH true B0 m0 k0 ys _ HJ.out hk1 hk2 ⟨fun _ => H1.out, fun _ => rfl⟩).mono ?_;rintro e w3 ⟨v8, rfl, h8, hX⟩;replace hX : Ext w2 w3 := by with_reducible exact hX
 replace HX := hid (HX.out.trans hX);replace HI := hid (HI.out.ext hX);replace HJ := hid (HJ.out.ext hX);replace HV7 := hid (HV7.out.ext hX);replace KA := hid (KA.out.ext hX);replace KR := hid (KR.out.ext hX);clear hX;have HV8 := hid (h8 rfl);clear h8;rw [HN.out] at HV7 HF0 HE;rw [HDD.out] at HV8 HF1 HE;obtain ⟨A7, l7, c7, rfl, hv7, hz7⟩ := Z16.open HV7.out;obtain ⟨A8, l8, c8, rfl, hv8, hz8⟩ := Z16.open HV8.out;clear hv7 hv8;have hl8 : ¬ l8 = 0 := fun h => hD (hz8.1 h)
 have hl8' : ((l8 : Int) == 0) = false := by simp; omega
 have HDP : Hid (0 < d) := by show 0 < _; omega
 clear hz7 hz8 hD;have cA0 : w3.cell? ⟨w.heap.size, 0, none⟩ = some (.bool false) := KA.out.cell 0;have cA1 : w3.cell? ⟨w.heap.size, 1, none⟩ = some (.slice A0 l0 c0) := KA.out.cell 1;have cA2 : w3.cell? ⟨w.heap.size, 2, none⟩ = some (.slice B0 m0 k0) := KA.out.cell 2
 go_wp2_with fail
 clear cA0 cA1 cA2;refine (cS false false A7 _ l7 c7 _ _ n d L _ HV7.out HV8.out HF0.out HF1.out (by omega) HDP.out).mono ?_;rw [HE.out];rintro e w4 ⟨v9, rfl, hv, hX⟩;replace hX : Ext w3 w4 := by with_reducible exact hX
 replace HX := hid (HX.out.trans hX);replace HI := hid (HI.out.ext hX);replace HJ := hid (HJ.out.ext hX);replace HV7 := hid (HV7.out.ext hX);replace HV8 := hid (HV8.out.ext hX);replace KA := hid (KA.out.ext hX);replace KR := hid (KR.out.ext hX);clear hX;obtain ⟨s9, A9, l9, c9, B9, m9, k9, rfl⟩ := QZ.open hv;have HV := hid (QZ.past hv (NoInts.three KR.out));clear hv;have cR0 : w4.cell? ⟨(w.heap.size + 1), 0, none⟩ = some (.bool false) := KR.out.cell 0;have fR0 : w4.frozen? ⟨(w.heap.size + 1), 0, none⟩ = false := KR.out.free 0;have cR1 : w4.cell? ⟨(w.heap.size + 1), 1, none⟩ = some (.slice none 0 0) := KR.out.cell 1;have fR1 : w4.frozen? ⟨(w.heap.size + 1), 1, none⟩ = false := KR.out.free 1;have cR2 : w4.cell? ⟨(w.heap.size + 1), 2, none⟩ = some (.slice none 0 0) := KR.out.cell 2;have fR2 : w4.frozen? ⟨(w.heap.size + 1), 2, none⟩ = false := KR.out.free 2;go_wp2;refine bodyPost_ret (v := .tuple #[.agg #[.bool s9, .slice A9 l9 c9, .slice B9 m9 k9], .bool true]) (by simp [results, Try.results138, go_sem, *]) rfl ?_;exact ⟨_, rfl, HV.out, Ext.boxed HX.out (by omega) _ _ _⟩
theorem pl (A0 B0 : Option Addr) (l0 c0 m0 k0 : Nat) (xs ys : List Int) (w : World) (hI : Ints .u32 w A0 l0 xs) (hc : l0 <= c0 /\ c0 <= 9223372036854775807) (hJ : Ints .u32 w B0 m0 ys) (hk : m0 <= k0 /\ k0 <= 9223372036854775807) (ha : aV (wN xs)) (hb : aV (wN ys)) (hn : wN xs ≠ 0) (hD : wN ys = 0) :
  Calls Try.prog 138 #[.agg #[.bool true, .slice A0 l0 c0, .slice B0 m0 k0]] w (fX w (bV true xs ys)) := by
 have HI := hid hI;have HJ := hid hJ;clear hI hJ;obtain ⟨hc1, hc2⟩ := hc;obtain ⟨hk1, hk2⟩ := hk;have H0 := hid ha;have H1 := hid hb;obtain ⟨L, hL⟩ : ∃ L : Nat, L = 512 := ⟨_, rfl⟩;have HF0 : Hid (Fit 65536 (wN xs) L) := by rw [hL]; exact bZ ha.1
 have HF1 : Hid (Fit 65536 (wN ys) L) := by rw [hL]; exact bZ hb.1
 replace hL : 1 <= L /\ L <= 512 := by omega
 obtain ⟨hL0, hL1⟩ := hL;clear ha hb;have HE : Hid (ap true (wN xs) (wD ys) = bV true xs ys) := rfl;rw [ip hD] at HE;obtain ⟨n, hN⟩ : ∃ n, wN xs = n := ⟨_, rfl⟩;obtain ⟨d, hDD⟩ : ∃ d, wN ys = d := ⟨_, rfl⟩;have HN := hid hN;have HDD := hid hDD;rw [hDD] at hD;rw [hN] at hn;clear hN hDD;have hXe : Ext w ((w.alloc (.cells #[.bool true, .slice A0 l0 c0, .slice B0 m0 k0] 97)).alloc (.cells #[.bool false, .slice none 0 0, .slice none 0 0] 65)) := (((Ext.refl w).alloc _).alloc _);have kA : Blk ((w.alloc (.cells #[.bool true, .slice A0 l0 c0, .slice B0 m0 k0] 97)).alloc (.cells #[.bool false, .slice none 0 0, .slice none 0 0] 65)) w.heap.size 97 #[.bool true, .slice A0 l0 c0, .slice B0 m0 k0] := Blk.alloc (Blk.at_ (by simp)) _;have kR : Blk ((w.alloc (.cells #[.bool true, .slice A0 l0 c0, .slice B0 m0 k0] 97)).alloc (.cells #[.bool false, .slice none 0 0, .slice none 0 0] 65)) (w.heap.size + 1) 65 #[.bool false, .slice none 0 0, .slice none 0 0] := Blk.at_ (by simp);go_enter Try.func138, Try.ntmps138
 go_wp2_with fail
 generalize ((w.alloc _).alloc _) = w1 at hXe kA kR |-;have HX := hid hXe;clear hXe;have KA := hid kA;clear kA;have KR := hid kR;clear kR;replace HI := hid (HI.out.ext HX.out);replace HJ := hid (HJ.out.ext HX.out);have cA0 : w1.cell? ⟨w.heap.size, 0, none⟩ = some (.bool true) := KA.out.cell 0;have cA1 : w1.cell? ⟨w.heap.size, 1, none⟩ = some (.slice A0 l0 c0) := KA.out.cell 1;have cA2 : w1.cell? ⟨w.heap.size, 2, none⟩ = some (.slice B0 m0 k0) := KA.out.cell 2
 go_wp2_with fail
 clear cA0 cA1 cA2;refine (bH true A0 l0 c0 xs _ HI.out hc1 hc2 ⟨fun _ => H0.out, fun _ => rfl⟩).mono ?_;rintro e w2 ⟨v7, rfl, h7, hX⟩;replace hX : Ext w1 w2 := by with_reducible exact hX
 replace HX := hid (HX.out.trans hX);replace HI := hid (HI.out.ext hX);replace HJ := hid (HJ.out.ext hX);replace KA := hid (KA.out.ext hX);replace KR := hid (KR.out.ext hX);clear hX;have HV7 : Hid (Z16 w2 v7 (wN xs)) := h7 rfl;clear h7;have cA0 : w2.cell? ⟨w.heap.size, 0, none⟩ = some (.bool true) := KA.out.cell 0;have cA1 : w2.cell? ⟨w.heap.size, 1, none⟩ = some (.slice A0 l0 c0) := KA.out.cell 1;have cA2 : w2.cell? ⟨w.heap.size, 2, none⟩ = some (.slice B0 m0 k0) := KA.out.cell 2
 go_wp2_with fail
 clear cA0 cA1 cA2;refine (bH true B0 m0 k0 ys _ HJ.out hk1 hk2 ⟨fun _ => H1.out, fun _ => rfl⟩).mono ?_;rintro e w3 ⟨v8, rfl, h8, hX⟩;replace hX : Ext w2 w3 := by with_reducible exact hX
 replace HX := hid (HX.out.trans hX);replace HI := hid (HI.out.ext hX);replace HJ := hid (HJ.out.ext hX);replace HV7 := hid (HV7.out.ext hX);replace KA := hid (KA.out.ext hX);replace KR := hid (KR.out.ext hX);clear hX;have HV8 := hid (h8 rfl);clear h8;rw [HN.out] at HV7 HF0 HE;rw [HDD.out] at HV8 HF1;obtain ⟨A7, l7, c7, rfl, hv7, hz7⟩ := Z16.open HV7.out;obtain ⟨A8, l8, c8, rfl, hv8, hz8⟩ := Z16.open HV8.out;clear hv7 hv8
 have hl7 : (0 : Int) < (l7 : Int) := by
  rcases Nat.eq_zero_or_pos l7 with h | h
  .
   exact absurd (hz7.1 h) hn
  .
   omega
 have hl7' : 0 < l7 := by omega
 obtain rfl : l8 = 0 := hz8.2 hD;clear hz7 hz8 hD hn;have cA0 : w3.cell? ⟨w.heap.size, 0, none⟩ = some (.bool true) := KA.out.cell 0;have cA1 : w3.cell? ⟨w.heap.size, 1, none⟩ = some (.slice A0 l0 c0) := KA.out.cell 1;have cA2 : w3.cell? ⟨w.heap.size, 2, none⟩ = some (.slice B0 m0 k0) := KA.out.cell 2
 go_upto_region 7 with (fail)
 clear cA0 cA1 cA2;have hXa : Ext w3 (w3.alloc (.cells #[.int .i64 1] 3)) := (Ext.refl _).alloc _;have kO := Blk.new w3 3 #[.int .i64 1];have zA := KA.out.lt;have zR := KR.out.lt;have zg := HX.out.size;replace HX := hid (HX.out.trans hXa);replace HI := hid (HI.out.ext hXa);replace HJ := hid (HJ.out.ext hXa);replace HV7 := hid (HV7.out.ext hXa);replace HV8 := hid (HV8.out.ext hXa);replace KA := hid (KA.out.ext hXa);replace KR := hid (KR.out.ext hXa);generalize (w3.alloc _) = w4 at HX HI HJ HV7 HV8 KA KR kO |-;have KO := hid kO;clear kO hXa;have cA0 : w4.cell? ⟨w.heap.size, 0, none⟩ = some (.bool true) := KA.out.cell 0;have cA1 : w4.cell? ⟨w.heap.size, 1, none⟩ = some (.slice A0 l0 c0) := KA.out.cell 1;have cA2 : w4.cell? ⟨w.heap.size, 2, none⟩ = some (.slice B0 m0 k0) := KA.out.cell 2
 go_wp2_with fail
 clear cA0 cA1 cA2;refine (cS true false A7 _ l7 c7 _ _ n 1 L _ HV7.out KO.out.one16 HF0.out (Fit.one (by omega) (by omega)) (by omega) (by omega)).mono ?_;rw [HE.out];rintro e w5 ⟨v9, rfl, hv, hX⟩;replace hX : Ext w4 w5 := by with_reducible exact hX
 replace HX := hid (HX.out.trans hX);replace HI := hid (HI.out.ext hX);replace HJ := hid (HJ.out.ext hX);replace HV7 := hid (HV7.out.ext hX);replace HV8 := hid (HV8.out.ext hX);replace KA := hid (KA.out.ext hX);replace KR := hid (KR.out.ext hX);replace KO := hid (KO.out.ext hX);clear hX;obtain ⟨s9, A9, l9, c9, B9, m9, k9, rfl⟩ := QZ.open hv;have HV := hid (QZ.past hv (NoInts.three KR.out));clear hv;have cR0 : w5.cell? ⟨(w.heap.size + 1), 0, none⟩ = some (.bool false) := KR.out.cell 0;have fR0 : w5.frozen? ⟨(w.heap.size + 1), 0, none⟩ = false := KR.out.free 0;have cR1 : w5.cell? ⟨(w.heap.size + 1), 1, none⟩ = some (.slice none 0 0) := KR.out.cell 1;have fR1 : w5.frozen? ⟨(w.heap.size + 1), 1, none⟩ = false := KR.out.free 1;have cR2 : w5.cell? ⟨(w.heap.size + 1), 2, none⟩ = some (.slice none 0 0) := KR.out.cell 2;have fR2 : w5.frozen? ⟨(w.heap.size + 1), 2, none⟩ = false := KR.out.free 2;go_wp2;refine bodyPost_ret (v := .tuple #[.agg #[.bool s9, .slice A9 l9 c9, .slice B9 m9 k9], .bool true]) (by simp [results, Try.results138, go_sem, *]) rfl ?_;exact ⟨_, rfl, HV.out, Ext.boxed HX.out (by omega) _ _ _⟩
theorem pm (A0 B0 : Option Addr) (l0 c0 m0 k0 : Nat) (xs ys : List Int) (w : World) (hI : Ints .u32 w A0 l0 xs) (hc : l0 <= c0 /\ c0 <= 9223372036854775807) (hJ : Ints .u32 w B0 m0 ys) (hk : m0 <= k0 /\ k0 <= 9223372036854775807) (ha : aV (wN xs)) (hb : aV (wN ys)) (hn : wN xs ≠ 0) (hD : wN ys ≠ 0) :
  Calls Try.prog 138 #[.agg #[.bool true, .slice A0 l0 c0, .slice B0 m0 k0]] w (fX w (bV true xs ys)) := by
 have HI := hid hI;have HJ := hid hJ;clear hI hJ;obtain ⟨hc1, hc2⟩ := hc;obtain ⟨hk1, hk2⟩ := hk;have H0 := hid ha;have H1 := hid hb;obtain ⟨L, hL⟩ : ∃ L : Nat, L = 512 := ⟨_, rfl⟩;have HF0 : Hid (Fit 65536 (wN xs) L) := by rw [hL]; exact bZ ha.1
 have HF1 : Hid (Fit 65536 (wN ys) L) := by rw [hL]; exact bZ hb.1
 replace hL : 1 <= L /\ L <= 512 := by omega
 obtain ⟨hL0, hL1⟩ := hL;clear ha hb;have HE : Hid (ap true (wN xs) (wD ys) = bV true xs ys) := rfl;rw [pf hD] at HE;obtain ⟨n, hN⟩ : ∃ n, wN xs = n := ⟨_, rfl⟩;obtain ⟨d, hDD⟩ : ∃ d, wN ys = d := ⟨_, rfl⟩;have HN := hid hN;have HDD := hid hDD;rw [hDD] at hD;rw [hN] at hn;clear hN hDD;have hXe : Ext w ((w.alloc (.cells #[.bool true, .slice A0 l0 c0, .slice B0 m0 k0] 97)).alloc (.cells #[.bool false, .slice none 0 0, .slice none 0 0] 65)) := (((Ext.refl w).alloc _).alloc _);have kA : Blk ((w.alloc (.cells #[.bool true, .slice A0 l0 c0, .slice B0 m0 k0] 97)).alloc (.cells #[.bool false, .slice none 0 0, .slice none 0 0] 65)) w.heap.size 97 #[.bool true, .slice A0 l0 c0, .slice B0 m0 k0] := Blk.alloc (Blk.at_ (by simp)) _;have kR : Blk ((w.alloc (.cells #[.bool true, .slice A0 l0 c0, .slice B0 m0 k0] 97)).alloc (.cells #[.bool false, .slice none 0 0, .slice none 0 0] 65)) (w.heap.size + 1) 65 #[.bool false, .slice none 0 0, .slice none 0 0] := Blk.at_ (by simp);go_enter Try.func138, Try.ntmps138
 go_wp2_with fail
 generalize ((w.alloc _).alloc _) = w1 at hXe kA kR |-;have HX := hid hXe;clear hXe;have KA := hid kA;clear kA;have KR := hid kR;clear kR;replace HI := hid (HI.out.ext HX.out);replace HJ := hid (HJ.out.ext HX.out);have cA0 : w1.cell? ⟨w.heap.size, 0, none⟩ = some (.bool true) := KA.out.cell 0;have cA1 : w1.cell? ⟨w.heap.size, 1, none⟩ = some (.slice A0 l0 c0) := KA.out.cell 1;have cA2 : w1.cell? ⟨w.heap.size, 2, none⟩ = some (.slice B0 m0 k0) := KA.out.cell 2
 go_wp2_with fail
 clear cA0 cA1 cA2;refine (bH true A0 l0 c0 xs _ HI.out hc1 hc2 ⟨fun _ => H0.out, fun _ => rfl⟩).mono ?_;rintro e w2 ⟨v7, rfl, h7, hX⟩;replace hX : Ext w1 w2 := by with_reducible exact hX
 replace HX := hid (HX.out.trans hX);replace HI := hid (HI.out.ext hX);replace HJ := hid (HJ.out.ext hX);replace KA := hid (KA.out.ext hX);replace KR := hid (KR.out.ext hX);clear hX;have HV7 : Hid (Z16 w2 v7 (wN xs)) := h7 rfl;clear h7;have cA0 : w2.cell? ⟨w.heap.size, 0, none⟩ = some (.bool true) := KA.out.cell 0;have cA1 : w2.cell? ⟨w.heap.size, 1, none⟩ = some (.slice A0 l0 c0) := KA.out.cell 1;have cA2 : w2.cell? ⟨w.heap.size, 2, none⟩ = some (.slice B0 m0 k0) := KA.out.cell 2
 go_wp2_with fail
 clear cA0 cA1 cA2;refine (bH true B0 m0 k0 ys _ HJ.out hk1 hk2 ⟨fun _ => H1.out, fun _ => rfl⟩).mono ?_;rintro e w3 ⟨v8, rfl, h8, hX⟩;replace hX : Ext w2 w3 := by with_reducible exact hX
 replace HX := hid (HX.out.trans hX);replace HI := hid (HI.out.ext hX);replace HJ := hid (HJ.out.ext hX);replace HV7 := hid (HV7.out.ext hX);replace KA := hid (KA.out.ext hX);replace KR := hid (KR.out.ext hX);clear hX;have HV8 := hid (h8 rfl);clear h8;rw [HN.out] at HV7 HF0 HE;rw [HDD.out] at HV8 HF1 HE;obtain ⟨A7, l7, c7, rfl, hv7, hz7⟩ := Z16.open HV7.out;obtain ⟨A8, l8, c8, rfl, hv8, hz8⟩ := Z16.open HV8.out;clear hv7 hv8
 have hl7 : (0 : Int) < (l7 : Int) := by
  rcases Nat.eq_zero_or_pos l7 with h | h
  .
   exact absurd (hz7.1 h) hn
  .
   omega
 have hl7' : 0 < l7 := by omega
 have hl8 : ¬ l8 = 0 := fun h => hD (hz8.1 h)
 have hl8' : ((l8 : Int) == 0) = false := by simp; omega
 have HDP : Hid (0 < d) := by show 0 < _; omega
 clear hz7 hz8 hD hn;have cA0 : w3.cell? ⟨w.heap.size, 0, none⟩ = some (.bool true) := KA.out.cell 0;have cA1 : w3.cell? ⟨w.heap.size, 1, none⟩ = some (.slice A0 l0 c0) := KA.out.cell 1;have cA2 : w3.cell? ⟨w.heap.size, 2, none⟩ = some (.slice B0 m0 k0) := KA.out.cell 2
 go_wp2_with fail
 clear cA0 cA1 cA2;refine (cS true false A7 _ l7 c7 _ _ n d L _ HV7.out HV8.out HF0.out HF1.out (by omega) HDP.out).mono ?_;rw [HE.out];rintro e w4 ⟨v9, rfl, hv, hX⟩;replace hX : Ext w3 w4 := by with_reducible exact hX
 replace HX := hid (HX.out.trans hX);replace HI := hid (HI.out.ext hX);replace HJ := hid (HJ.out.ext hX);replace HV7 := hid (HV7.out.ext hX);replace HV8 := hid (HV8.out.ext hX);replace KA := hid (KA.out.ext hX);replace KR := hid (KR.out.ext hX);clear hX;obtain ⟨s9, A9, l9, c9, B9, m9, k9, rfl⟩ := QZ.open hv;have HV := hid (QZ.past hv (NoInts.three KR.out));clear hv;have cR0 : w4.cell? ⟨(w.heap.size + 1), 0, none⟩ = some (.bool false) := KR.out.cell 0;have fR0 : w4.frozen? ⟨(w.heap.size + 1), 0, none⟩ = false := KR.out.free 0;have cR1 : w4.cell? ⟨(w.heap.size + 1), 1, none⟩ = some (.slice none 0 0) := KR.out.cell 1;have fR1 : w4.frozen? ⟨(w.heap.size + 1), 1, none⟩ = false := KR.out.free 1;have cR2 : w4.cell? ⟨(w.heap.size + 1), 2, none⟩ = some (.slice none 0 0) := KR.out.cell 2;have fR2 : w4.frozen? ⟨(w.heap.size + 1), 2, none⟩ = false := KR.out.free 2;go_wp2;refine bodyPost_ret (v := .tuple #[.agg #[.bool s9, .slice A9 l9 c9, .slice B9 m9 k9], .bool true]) (by simp [results, Try.results138, go_sem, *]) rfl ?_;exact ⟨_, rfl, HV.out, Ext.boxed HX.out (by omega) _ _ _⟩
theorem pn (A0 B0 : Option Addr) (l0 c0 m0 k0 : Nat) (xs ys : List Int) (w : World) (hI : Ints .u32 w A0 l0 xs) (hc : l0 <= c0 /\ c0 <= 9223372036854775807) (hJ : Ints .u32 w B0 m0 ys) (hk : m0 <= k0 /\ k0 <= 9223372036854775807) (ha : aV (wN xs)) (hb : aV (wN ys)) (hn : wN xs = 0) (hD : wN ys = 0) :
  Calls Try.prog 138 #[.agg #[.bool true, .slice A0 l0 c0, .slice B0 m0 k0]] w (fX w (bV true xs ys)) := by
 have HI := hid hI;have HJ := hid hJ;clear hI hJ;obtain ⟨hc1, hc2⟩ := hc;obtain ⟨hk1, hk2⟩ := hk;have H0 := hid ha;have H1 := hid hb;obtain ⟨L, hL⟩ : ∃ L : Nat, L = 512 := ⟨_, rfl⟩;have HF0 : Hid (Fit 65536 (wN xs) L) := by rw [hL]; exact bZ ha.1
 have HF1 : Hid (Fit 65536 (wN ys) L) := by rw [hL]; exact bZ hb.1
 replace hL : 1 <= L /\ L <= 512 := by omega
 obtain ⟨hL0, hL1⟩ := hL;clear ha hb;have HE : Hid (ap false (wN xs) (wD ys) = bV true xs ys) := pg _ _ (ig ys) hn;rw [ip hD] at HE;obtain ⟨n, hN⟩ : ∃ n, wN xs = n := ⟨_, rfl⟩;obtain ⟨d, hDD⟩ : ∃ d, wN ys = d := ⟨_, rfl⟩;have HN := hid hN;have HDD := hid hDD;rw [hDD] at hD;rw [hN] at hn;clear hN hDD;have hXe : Ext w ((w.alloc (.cells #[.bool true, .slice A0 l0 c0, .slice B0 m0 k0] 97)).alloc (.cells #[.bool false, .slice none 0 0, .slice none 0 0] 65)) := (((Ext.refl w).alloc _).alloc _);have kA : Blk ((w.alloc (.cells #[.bool true, .slice A0 l0 c0, .slice B0 m0 k0] 97)).alloc (.cells #[.bool false, .slice none 0 0, .slice none 0 0] 65)) w.heap.size 97 #[.bool true, .slice A0 l0 c0, .slice B0 m0 k0] := Blk.alloc (Blk.at_ (by simp)) _;have kR : Blk ((w.alloc (.cells #[.bool true, .slice A0 l0 c0, .slice B0 m0 k0] 97)).alloc (.cells #[.bool false, .slice none 0 0, .slice none 0 0] 65)) (w.heap.size + 1) 65 #[.bool false, .slice none 0 0, .slice none 0 0] := Blk.at_ (by simp);go_enter Try.func138, Try.ntmps138
 go_wp2_with fail
 generalize ((w.alloc _).alloc _) = w1 at hXe kA kR |-;have HX := hid hXe;clear hXe;have KA := hid kA;clear kA;have KR := hid kR;clear kR;replace HI := hid (HI.out.ext HX.out);replace HJ := hid (HJ.out.ext HX.out);have cA0 : w1.cell? ⟨w.heap.size, 0, none⟩ = some (.bool true) := KA.out.cell 0;have cA1 : w1.cell? ⟨w.heap.size, 1, none⟩ = some (.slice A0 l0 c0) := KA.out.cell 1;have cA2 : w1.cell? ⟨w.heap.size, 2, none⟩ = some (.slice B0 m0 k0) := KA.out.cell 2
 go_wp2_with fail
 clear cA0 cA1 cA2;refine (bH true A0 l0 c0 xs _ HI.out hc1 hc2 ⟨fun _ => H0.out, fun _ => rfl⟩).mono ?_;rintro e w2 ⟨v7, rfl, h7, hX⟩;replace hX : Ext w1 w2 := by with_reducible exact hX
 replace HX := hid (HX.out.trans hX);replace HI := hid (HI.out.ext hX);replace HJ := hid (HJ.out.ext hX);replace KA := hid (KA.out.ext hX);replace KR := hid (KR.out.ext hX);clear hX;have HV7 : Hid (Z16 w2 v7 (wN xs)) := h7 rfl;clear h7;have cA0 : w2.cell? ⟨w.heap.size, 0, none⟩ = some (.bool true) := KA.out.cell 0;have cA1 : w2.cell? ⟨w.heap.size, 1, none⟩ = some (.slice A0 l0 c0) := KA.out.cell 1;have cA2 : w2.cell? ⟨w.heap.size, 2, none⟩ = some (.slice B0 m0 k0) := KA.out.cell 2
 go_wp2_with fail
 clear cA0 cA1 cA2;refine (bH true B0 m0 k0 ys _ HJ.out hk1 hk2 ⟨fun _ => H1.out, fun _ => rfl⟩).mono ?_;rintro e w3 ⟨v8, rfl, h8, hX⟩;replace hX : Ext w2 w3 := by with_reducible exact hX
 replace HX := hid (HX.out.trans hX);replace HI := hid (HI.out.ext hX);replace HJ := hid (HJ.out.ext hX);replace HV7 := hid (HV7.out.ext hX);replace KA := hid (KA.out.ext hX);replace KR := hid (KR.out.ext hX);clear hX;have HV8 := hid (h8 rfl);clear h8;rw [HN.out] at HV7 HF0 HE;rw [HDD.out] at HV8 HF1;obtain ⟨A7, l7, c7, rfl, hv7, hz7⟩ := Z16.open HV7.out;obtain ⟨A8, l8, c8, rfl, hv8, hz8⟩ := Z16.open HV8.out;clear hv7 hv8;obtain rfl : l7 = 0 := hz7.2 hn;obtain rfl : l8 = 0 := hz8.2 hD;clear hz7 hz8 hD hn;have cA0 : w3.cell? ⟨w.heap.size, 0, none⟩ = some (.bool true) := KA.out.cell 0;have cA1 : w3.cell? ⟨w.heap.size, 1, none⟩ = some (.slice A0 l0 c0) := KA.out.cell 1;have cA2 : w3.cell? ⟨w.heap.size, 2, none⟩ = some (.slice B0 m0 k0) := KA.out.cell 2
 go_upto_region 7 with (fail)
 clear cA0 cA1 cA2;have hXa : Ext w3 (w3.alloc (.cells #[.int .i64 1] 3)) := (Ext.refl _).alloc _;have kO := Blk.new w3 3 #[.int .i64 1];have zA := KA.out.lt;have zR := KR.out.lt;have zg := HX.out.size;replace HX := hid (HX.out.trans hXa);replace HI := hid (HI.out.ext hXa);replace HJ := hid (HJ.out.ext hXa);replace HV7 := hid (HV7.out.ext hXa);replace HV8 := hid (HV8.out.ext hXa);replace KA := hid (KA.out.ext hXa);replace KR := hid (KR.out.ext hXa);generalize (w3.alloc _) = w4 at HX HI HJ HV7 HV8 KA KR kO |-;have KO := hid kO;clear kO hXa;have cA0 : w4.cell? ⟨w.heap.size, 0, none⟩ = some (.bool true) := KA.out.cell 0;have cA1 : w4.cell? ⟨w.heap.size, 1, none⟩ = some (.slice A0 l0 c0) := KA.out.cell 1;have cA2 : w4.cell? ⟨w.heap.size, 2, none⟩ = some (.slice B0 m0 k0) := KA.out.cell 2
 go_wp2_with fail
 clear cA0 cA1 cA2;refine (cS false false A7 _ 0 c7 _ _ n 1 L _ HV7.out KO.out.one16 HF0.out (Fit.one (by omega) (by omega)) (by omega) (by omega)).mono ?_;rw [HE.out];rintro e w5 ⟨v9, rfl, hv, hX⟩;replace hX : Ext w4 w5 := by with_reducible exact hX
 replace HX := hid (HX.out.trans hX);replace HI := hid (HI.out.ext hX);replace HJ := hid (HJ.out.ext hX);replace HV7 := hid (HV7.out.ext hX);replace HV8 := hid (HV8.out.ext hX);replace KA := hid (KA.out.ext hX);replace KR := hid (KR.out.ext hX);replace KO := hid (KO.out.ext hX);clear hX;obtain ⟨s9, A9, l9, c9, B9, m9, k9, rfl⟩ := QZ.open hv;have HV := hid (QZ.past hv (NoInts.three KR.out));clear hv;have cR0 : w5.cell? ⟨(w.heap.size + 1), 0, none⟩ = some (.bool false) := KR.out.cell 0;have fR0 : w5.frozen? ⟨(w.heap.size + 1), 0, none⟩ = false := KR.out.free 0;have cR1 : w5.cell? ⟨(w.heap.size + 1), 1, none⟩ = some (.slice none 0 0) := KR.out.cell 1;have fR1 : w5.frozen? ⟨(w.heap.size + 1), 1, none⟩ = false := KR.out.free 1;have cR2 : w5.cell? ⟨(w.heap.size + 1), 2, none⟩ = some (.slice none 0 0) := KR.out.cell 2;have fR2 : w5.frozen? ⟨(w.heap.size + 1), 2, none⟩ = false := KR.out.free 2;go_wp2;refine bodyPost_ret (v := .tuple #[.agg #[.bool s9, .slice A9 l9 c9, .slice B9 m9 k9], .bool true]) (by simp [results, Try.results138, go_sem, *]) rfl ?_;exact ⟨_, rfl, HV.out, Ext.boxed HX.out (by omega) _ _ _⟩
theorem po (A0 B0 : Option Addr) (l0 c0 m0 k0 : Nat) (xs ys : List Int) (w : World) (hI : Ints .u32 w A0 l0 xs) (hc : l0 <= c0 /\ c0 <= 9223372036854775807) (hJ : Ints .u32 w B0 m0 ys) (hk : m0 <= k0 /\ k0 <= 9223372036854775807) (ha : aV (wN xs)) (hb : aV (wN ys)) (hn : wN xs = 0) (hD : wN ys ≠ 0) :
  Calls Try.prog 138 #[.agg #[.bool true, .slice A0 l0 c0, .slice B0 m0 k0]] w (fX w (bV true xs ys)) := by
 have HI := hid hI;have HJ := hid hJ;clear hI hJ;obtain ⟨hc1, hc2⟩ := hc;obtain ⟨hk1, hk2⟩ := hk;have H0 := hid ha;have H1 := hid hb;obtain ⟨L, hL⟩ : ∃ L : Nat, L = 512 := ⟨_, rfl⟩;have HF0 : Hid (Fit 65536 (wN xs) L) := by rw [hL]; exact bZ ha.1
 have HF1 : Hid (Fit 65536 (wN ys) L) := by rw [hL]; exact bZ hb.1
 replace hL : 1 <= L /\ L <= 512 := by omega
 obtain ⟨hL0, hL1⟩ := hL;clear ha hb;have HE : Hid (ap false (wN xs) (wD ys) = bV true xs ys) := pg _ _ (ig ys) hn;rw [pf hD] at HE;obtain ⟨n, hN⟩ : ∃ n, wN xs = n := ⟨_, rfl⟩;obtain ⟨d, hDD⟩ : ∃ d, wN ys = d := ⟨_, rfl⟩;have HN := hid hN;have HDD := hid hDD;rw [hDD] at hD;rw [hN] at hn;clear hN hDD;have hXe : Ext w ((w.alloc (.cells #[.bool true, .slice A0 l0 c0, .slice B0 m0 k0] 97)).alloc (.cells #[.bool false, .slice none 0 0, .slice none 0 0] 65)) := (((Ext.refl w).alloc _).alloc _);have kA : Blk ((w.alloc (.cells #[.bool true, .slice A0 l0 c0, .slice B0 m0 k0] 97)).alloc (.cells #[.bool false, .slice none 0 0, .slice none 0 0] 65)) w.heap.size 97 #[.bool true, .slice A0 l0 c0, .slice B0 m0 k0] := Blk.alloc (Blk.at_ (by simp)) _;have kR : Blk ((w.alloc (.cells #[.bool true, .slice A0 l0 c0, .slice B0 m0 k0] 97)).alloc (.cells #[.bool false, .slice none 0 0, .slice none 0 0] 65)) (w.heap.size + 1) 65 #[.bool false, .slice none 0 0, .slice none 0 0] := Blk.at_ (by simp);go_enter Try.func138, Try.ntmps138
 go_wp2_with fail
 generalize ((w.alloc _).alloc _) = w1 at hXe kA kR |-;have HX := hid hXe;clear hXe;have KA := hid kA;clear kA;have KR := hid kR;clear kR;replace HI := hid (HI.out.ext HX.out);replace HJ := hid (HJ.out.ext HX.out);have cA0 : w1.cell? ⟨w.heap.size, 0, none⟩ = some (.bool true) := KA.out.cell 0;have cA1 : w1.cell? ⟨w.heap.size, 1, none⟩ = some (.slice A0 l0 c0) := KA.out.cell 1;have cA2 : w1.cell? ⟨w.heap.size, 2, none⟩ = some (.slice B0 m0 k0) := KA.out.cell 2
 go_wp2_with fail
 clear cA0 cA1 cA2;refine (bH true A0 l0 c0 xs _ HI.out hc1 hc2 ⟨fun _ => H0.out, fun _ => rfl⟩).mono ?_;rintro e w2 ⟨v7, rfl, h7, hX⟩;replace hX : Ext w1 w2 := by with_reducible exact hX
 replace HX := hid (HX.out.trans hX);replace HI := hid (HI.out.ext hX);replace HJ := hid (HJ.out.ext hX);replace KA := hid (KA.out.ext hX);replace KR := hid (KR.out.ext hX);clear hX;have HV7 : Hid (Z16 w2 v7 (wN xs)) := h7 rfl;clear h7;have cA0 : w2.cell? ⟨w.heap.size, 0, none⟩ = some (.bool true) := KA.out.cell 0;have cA1 : w2.cell? ⟨w.heap.size, 1, none⟩ = some (.slice A0 l0 c0) := KA.out.cell 1;have cA2 : w2.cell? ⟨w.heap.size, 2, none⟩ = some (.slice B0 m0 k0) := KA.out.cell 2
 go_wp2_with fail
 clear cA0 cA1 cA2;refine (bH true B0 m0 k0 ys _ HJ.out hk1 hk2 ⟨fun _ => H1.out, fun _ => rfl⟩).mono ?_;rintro e w3 ⟨v8, rfl, h8, hX⟩;replace hX : Ext w2 w3 := by with_reducible exact hX
 replace HX := hid (HX.out.trans hX);replace HI := hid (HI.out.ext hX);replace HJ := hid (HJ.out.ext hX);replace HV7 := hid (HV7.out.ext hX);replace KA := hid (KA.out.ext hX);replace KR := hid (KR.out.ext hX);clear hX;have HV8 := hid (h8 rfl);clear h8;rw [HN.out] at HV7 HF0 HE;rw [HDD.out] at HV8 HF1 HE;obtain ⟨A7, l7, c7, rfl, hv7, hz7⟩ := Z16.open HV7.out;obtain ⟨A8, l8, c8, rfl, hv8, hz8⟩ := Z16.open HV8.out;clear hv7 hv8;obtain rfl : l7 = 0 := hz7.2 hn;have hl8 : ¬ l8 = 0 := fun h => hD (hz8.1 h)
 have hl8' : ((l8 : Int) == 0) = false := by simp; omega
 have HDP : Hid (0 < d) := by show 0 < _; omega
 clear hz7 hz8 hD hn;have cA0 : w3.cell? ⟨w.heap.size, 0, none⟩ = some (.bool true) := KA.out.cell 0;have cA1 : w3.cell? ⟨w.heap.size, 1, none⟩ = some (.slice A0 l0 c0) := KA.out.cell 1;have cA2 : w3.cell? ⟨w.heap.size, 2, none⟩ = some (.slice B0 m0 k0) := KA.out.cell 2
 go_wp2_with fail
 clear cA0 cA1 cA2;refine (cS false false A7 _ 0 c7 _ _ n d L _ HV7.out HV8.out HF0.out HF1.out (by omega) HDP.out).mono ?_;rw [HE.out];rintro e w4 ⟨v9, rfl, hv, hX⟩;replace hX : Ext w3 w4 := by with_reducible exact hX
 replace HX := hid (HX.out.trans hX);replace HI := hid (HI.out.ext hX);replace HJ := hid (HJ.out.ext hX);replace HV7 := hid (HV7.out.ext hX);replace HV8 := hid (HV8.out.ext hX);replace KA := hid (KA.out.ext hX);replace KR := hid (KR.out.ext hX);clear hX;obtain ⟨s9, A9, l9, c9, B9, m9, k9, rfl⟩ := QZ.open hv;have HV := hid (QZ.past hv (NoInts.three KR.out));clear hv;have cR0 : w4.cell? ⟨(w.heap.size + 1), 0, none⟩ = some (.bool false) := KR.out.cell 0;have fR0 : w4.frozen? ⟨(w.heap.size + 1), 0, none⟩ = false := KR.out.free 0;have cR1 : w4.cell? ⟨(w.heap.size + 1), 1, none⟩ = some (.slice none 0 0) := KR.out.cell 1;have fR1 : w4.frozen? ⟨(w.heap.size + 1), 1, none⟩ = false := KR.out.free 1;have cR2 : w4.cell? ⟨(w.heap.size + 1), 2, none⟩ = some (.slice none 0 0) := KR.out.cell 2;have fR2 : w4.frozen? ⟨(w.heap.size + 1), 2, none⟩ = false := KR.out.free 2;go_wp2;refine bodyPost_ret (v := .tuple #[.agg #[.bool s9, .slice A9 l9 c9, .slice B9 m9 k9], .bool true]) (by simp [results, Try.results138, go_sem, *]) rfl ?_;exact ⟨_, rfl, HV.out, Ext.boxed HX.out (by omega) _ _ _⟩
theorem rn {w : World} {v : Value} {q : Rat} (h : RatG w v q) : Calls Try.prog 138 #[v] w (fX w q) := by
 obtain ⟨neg, xs, ys, ⟨A, l, c, B, m, k, rfl, h1, h2, h3, h4, h5, h6⟩, ⟨ha, hb⟩, rfl⟩ := h
 cases neg
 .
  by_cases hD : wN ys = 0
  .
   exact ph A B l c m k xs ys w h1 ⟨h2, h3⟩ h4 ⟨h5, h6⟩ ha hb hD
  .
   exact pi A B l c m k xs ys w h1 ⟨h2, h3⟩ h4 ⟨h5, h6⟩ ha hb hD
 .
  by_cases hn : wN xs = 0
  .
   by_cases hD : wN ys = 0
   .
    exact pn A B l c m k xs ys w h1 ⟨h2, h3⟩ h4 ⟨h5, h6⟩ ha hb hn hD
   .
    exact po A B l c m k xs ys w h1 ⟨h2, h3⟩ h4 ⟨h5, h6⟩ ha hb hn hD
  .
   by_cases hD : wN ys = 0
   .
    exact pl A B l c m k xs ys w h1 ⟨h2, h3⟩ h4 ⟨h5, h6⟩ ha hb hn hD
   .
    exact pm A B l c m k xs ys w h1 ⟨h2, h3⟩ h4 ⟨h5, h6⟩ ha hb hn hD
theorem ro {n : Nat} (h : Fit 65536 n 512) : Fit 4294967296 n 256 := by
 have h2 := h;rw [show 512 = 2 * 256 from rfl] at h2;exact dy.1 h2
theorem nr {B : Int} {xs : List Int} (_hB : 1 < B) (hd : Dg B xs) (hne : xs ≠ []) (h : B ^ (xs.length - 1) <= val B xs) : Nm xs := by
 rcases List.eq_nil_or_concat xs with e | ⟨ys, x, e⟩
 .
  exact absurd e hne
 .
  subst e;rw [List.concat_eq_append] at *
  by_cases hx : x = 0
  .
   exfalso;subst hx;rw [cn, Int.mul_zero, Int.add_zero] at h;have h2 := bI (B := B) (by omega) (show Dg B ys from fun y hy => hd y (by simp [hy]));simp at h;omega
  .
   exact Nm.snoc hx
theorem fY {out xs : List Int} {k : Nat} {x y : Int} (hx : xs[2 * k]? = some x) (hy : xs.getD (2 * k + 1) 0 = y) (hl : out.length = k) (hv : val 4294967296 out = val 65536 (xs.take (2 * k))) :
  val 4294967296 (out ++ [x + y * 65536]) = val 65536 (xs.take (2 * (k + 1))) := by
 rw [cn, hl, hv, show 2 * (k + 1) = 2 * k + 1 + 1 by omega, bp, bp, hy, getD_some hx, Int.pow_succ, dx];grind
theorem ns {out xs : List Int} {k n : Nat} (hr : Rep 65536 xs n) (hl : out.length = k) (hk : xs.length <= 2 * k) (hk2 : 2 * k <= xs.length + 1) (hd : Dg 4294967296 out) (hv : val 4294967296 out = val 65536 (xs.take (2 * k))) : Rep 4294967296 out n := by
 rw [List.take_of_length_le hk, hr.2.2] at hv;refine ⟨hd, ?_, hv⟩
 by_cases h0 : xs = []
 .
  subst h0;have : out = [] := List.eq_nil_of_length_eq_zero (by simp at hk2; omega);subst this; exact Nm.nil
 .
  have hxl : 0 < xs.length := List.length_pos_iff.2 h0;refine nr (by omega) hd (by intro e; rw [e] at hl; simp at hl; omega) ?_;have h1 := dS (B := 65536) (by omega) hr.1 hr.2.1 h0;rw [hr.2.2] at h1;rw [hv, hl]
  have h2 : (4294967296 : Int) ^ (k - 1) <= 65536 ^ (xs.length - 1) := by
   rw [<- dx];exact dw (B := 65536) (by omega) (by omega)
  omega
theorem lL {xs : List Int} {n : Nat} (hr : Rep 65536 xs n) : xs.length <= 512 ↔ aV n := by
 constructor
 .
  intro h;have h1 := (Fit.of_rep (B := 65536) (by omega) hr).mono (by omega) h;exact ⟨ro h1⟩
 .
  intro h;have h1 := bZ h.1;exact h1.len (by omega) hr
theorem pq (va : Value) (n : Nat) (w : World) (ha : Z16 w va n) (hf : ¬ aV n) :
  Calls Try.prog 190 #[va] w (fun e w' => e = .returned (.tuple #[.slice none 0 0, .bool false]) /\ Ext w w') := by
 obtain ⟨A, l, c, xs, rfl, hI, hr, hc1, hc2⟩ := ha;have h := lL hr;rw [hI.1] at h;have hl : ¬ l <= 512 := fun hl => hf (h.1 hl)
 have hl2 : (512 : Int) < (l : Int) := by omega
 clear h hI hr hf;go_enter Try.func190, Try.ntmps190;go_wp2
 go_ret2
 exact ⟨rfl, Ext.refl _⟩
theorem nt (va : Value) (n : Nat) (w : World) (ha : Z16 w va n) (hf : aV n) :
  Calls Try.prog 190 #[va] w (fun e w' => ∃ v, e = .returned (.tuple #[v, .bool true]) /\ W32 w' v n /\ Ext w w') := by
 obtain ⟨A, l, c, xs, rfl, hI, hr, hc1, hc2⟩ := ha;have h := lL hr;rw [hI.1] at h;have hl : l <= 512 := h.2 hf;have hl2 : ¬ (512 : Int) < (l : Int) := by omega
 have H := hid hI;have HL : Hid (xs.length = l) := hI.1;have HR := hid hr;clear h hI hr hf;go_enter Try.func190, Try.ntmps190;go_wp2
 go_loopg [4, 5] (l + 2) (fun g s4 s5 wr => ∃ (k t : Nat) (out : List Int), g = l + 2 - t /\ Hid (t = 2 * k) /\ t <= l + 1 /\ s5 = .int .i64 (t : Int) /\ Hid (wr.ownsRow w.heap.size 129 1 s4 k (out.map (.int .u32))) /\ Hid (Dg 4294967296 out) /\ Hid (out.length = k) /\ Hid (val 4294967296 out = val 65536 (xs.take (2 * k))) /\ Hid (Ext w wr))
 case atStart => exact ⟨0, 0, [], rfl, rfl, by omega, rfl, World.ownsRow_nil _ _ _ _, Dg.nil, rfl, rfl, Ext.refl w⟩
 case round =>
  obtain ⟨k, t, out, rfl, HT, hk, rfl, HO, HD, HLO, HI, HX⟩ := hrel;obtain ⟨A2, c2, rfl⟩ := ar HO.out
  by_cases hlt : t < l
  .
   have hkl : (t : Int) < (l : Int) := by omega
   have hk0 : (0 : Int) <= (t : Int) := by omega
   obtain ⟨bw, ow, x, rfl, hx, hwf, hc⟩ := (H.out.ext HX.out).get (j := t) (by omega);obtain ⟨hx0, hx1⟩ := HR.out.1.get hx;have hw1 : IntKind.u32.wrap x = x := by rw [IntKind.wrap_u32]; omega
   have hown := HO.out;have hkb : k <= 512 := by have := HT.out; omega
   rw [HT.out] at hx;have HXX := hid hx;clear hx hwf
   by_cases hod : t + 1 < l
   .
    have hkl1 : (t : Int) + 1 < (l : Int) := by omega
    obtain ⟨bw', ow', y, hA, hy, hwf', hd⟩ := (H.out.ext HX.out).get (j := t + 1) (by omega);injection hA with hA;injection hA with e1 e2;subst e1 e2;obtain ⟨hy0, hy1⟩ := HR.out.1.get hy;have hw2 : IntKind.u32.wrap y = y := by rw [IntKind.wrap_u32]; omega
    have hw3 : IntKind.u32.wrap (y * 65536) = y * 65536 := by rw [IntKind.wrap_u32]; omega
    have hw4 : IntKind.u32.wrap (x + y * 65536) = x + y * 65536 := by rw [IntKind.wrap_u32]; omega
    have hk1 : (0 : Int) <= (t : Int) + 1 := by omega
    rw [HT.out] at hy;have HST := hid (fY HXX.out (getD_some hy) HLO.out HI.out);have HDD := hid (HD.out.append (Dg.one (B := 4294967296) (x := x + y * 65536) (by omega)));clear hy hwf'
    go_wp2_with (at_builtin; refine ax _ qL rfl _ _ rfl w.heap.size _ k _ rfl (hown.alloc _) _ 1 1 [.int .u32 (x + y * 65536)] rfl rfl (At.new _ [_] _) (by simp [Value.oneCell']) (by omega) (by unfold maxLen; omega) (by have := HX.out.size; simp; omega) ?_; intro v1 w1 hown1 hgr1 _; have HO1 := hid hown1; have HX1 := hid (Ext.push HX.out HO.out hgr1); clear hown1 hgr1)
    go_roundg (l + 2 - (t + 2))
    case rel => exact ⟨k + 1, t + 2, out ++ [x + y * 65536], rfl, (by have := HT.out; show _ = _; omega), by omega, by go_num, by rw [List.map_append]; exact HO1.out, HDD.out, by rw [List.length_append, HLO.out]; rfl, HST.out, HX1.out⟩
    case measure => omega
   .
    have hkl1 : ¬ (t : Int) + 1 < (l : Int) := by omega
    have hy : xs.getD (2 * k + 1) 0 = 0 := dk (by rw [HL.out]; have := HT.out; omega);have HST := hid (fY HXX.out hy HLO.out HI.out);rw [Int.zero_mul, Int.add_zero] at HST;have HDD := hid (HD.out.append (Dg.one (B := 4294967296) (x := x) (by omega)));clear hy
    go_wp2_with (at_builtin; refine ax _ qL rfl _ _ rfl w.heap.size _ k _ rfl (hown.alloc _) _ 1 1 [.int .u32 x] rfl rfl (At.new _ [_] _) (by simp [Value.oneCell']) (by omega) (by unfold maxLen; omega) (by have := HX.out.size; simp; omega) ?_; intro v1 w1 hown1 hgr1 _; have HO1 := hid hown1; have HX1 := hid (Ext.push HX.out HO.out hgr1); clear hown1 hgr1)
    go_roundg (l + 2 - (t + 2))
    case rel => exact ⟨k + 1, t + 2, out ++ [x], rfl, (by have := HT.out; show _ = _; omega), by omega, by go_num, by rw [List.map_append]; exact HO1.out, HDD.out, by rw [List.length_append, HLO.out]; rfl, HST.out, HX1.out⟩
    case measure => omega
  .
   have hkl : ¬ (t : Int) < (l : Int) := by omega
   have HOS : Hid (OwnS .u32 129 w.heap.size wr A2 k c2 out) := ⟨HO.out, HLO.out, fun x hx => cE (HD.out x hx)⟩;have HE : Hid (Rep 4294967296 out n) := ns HR.out HLO.out (by rw [HL.out]; have := HT.out; omega) (by rw [HL.out]; have := HT.out; omega) HD.out HI.out;go_wp2
   go_ret2
   exact ⟨_, rfl, HOS.out.natv HE.out, HX.out⟩
theorem dM (b : Bool) (va : Value) (n : Nat) (w : World) (ha : Z16 w va n) (hf : b = true ↔ aV n) :
  Calls Try.prog 190 #[va] w (fun e w' => ∃ v, e = .returned (.tuple #[v, .bool b]) /\ (b = true -> W32 w' v n) /\ Ext w w') := by
 cases b
 .
  refine (pq va n w ha (fun h => by have := hf.2 h; cases this)).mono ?_;rintro e w' ⟨rfl, hX⟩;exact ⟨_, rfl, (fun h => by cases h), hX⟩
 .
  refine (nt va n w ha (hf.1 rfl)).mono ?_;rintro e w' ⟨v, rfl, hz, hX⟩;exact ⟨v, rfl, fun _ => hz, hX⟩
theorem nA {w : World} {A : Option Addr} {l c d : Nat} (h : Z16 w (.slice A l c) d) (hd : d = 1) : l = 1 /\ ∃ b o x, A = some ⟨b, o, none⟩ /\ w.cell? ⟨b, o, none⟩ = some (.int .i64 x) /\ (x == 1) = true := by
 obtain ⟨A', l', c', xs, e, hI, hr, hc⟩ := h;injection e with e1 e2 e3;subst e1 e2 e3;obtain rfl : xs = [1] := by rw [hd] at hr; exact hr.unique (by omega) (Rep.one (by omega))
 obtain rfl : l = 1 := by simpa using hI.1.symm
 obtain ⟨b, o, y, rfl, hy, _, hcy⟩ := hI.get (j := 0) (by omega);obtain rfl : 1 = y := by simpa using hy
 exact ⟨rfl, b, o, 1, rfl, by simpa using hcy, by simp⟩
theorem pr {w : World} {A : Option Addr} {l c d : Nat} (h : Z16 w (.slice A l c) d) (hl : l = 1) (_hd : d ≠ 1) : ∃ b o x, A = some ⟨b, o, none⟩ /\ w.cell? ⟨b, o, none⟩ = some (.int .i64 x) /\ (x == 1) = false := by
 obtain ⟨A', l', c', xs, e, hI, hr, hc⟩ := h;injection e with e1 e2 e3;subst e1 e2 e3 hl;obtain ⟨y, rfl⟩ : ∃ y, xs = [y] := List.length_eq_one_iff.1 hI.1;obtain ⟨b, o, x, rfl, hx, _, hcx⟩ := hI.get (j := 0) (by omega);obtain rfl : y = x := by simpa using hx
 obtain ⟨h1, h2⟩ := hr.single (by omega);refine ⟨b, o, y, rfl, by simpa using hcx, ?_⟩;simp only [beq_eq_false_iff_ne, ne_eq];omega
theorem ps (s0 : Bool) (A0 B0 : Option Addr) (l0 c0 m0 k0 : Nat) (n d : Nat) (w : World) (hI : Z16 w (.slice A0 l0 c0) n) (hJ : Z16 w (.slice B0 m0 k0) d) (ha : aV n) (hb : aV d) (hd : d = 1) :
  Calls Try.prog 139 #[.agg #[.bool s0, .slice A0 l0 c0, .slice B0 m0 k0]] w (fun e w' => ∃ A9 l9 c9 B9 m9 k9, e = .returned (.tuple #[.agg #[.bool s0, .slice A9 l9 c9, .slice B9 m9 k9], .int .i64 0]) /\ W32 w' (.slice A9 l9 c9) n /\ (B9 = none /\ m9 = 0 /\ k9 = 0) /\ Ext w w') := by
 have H0 := hid ha;have H1 := hid hb;clear ha hb;have HI := hid hI;have HJ := hid hJ;obtain ⟨hm, b1, o1, x1, hB, hc1, hx1⟩ := nA hJ hd;subst hB;subst hm;clear hI hJ;have hXe : Ext w ((w.alloc (.cells #[.bool s0, .slice A0 l0 c0, .slice (some ⟨b1, o1, none⟩) 1 k0] 65)).alloc (.cells #[.bool false, .slice none 0 0, .slice none 0 0] 97)) := (((Ext.refl w).alloc _).alloc _);have kA : Blk ((w.alloc (.cells #[.bool s0, .slice A0 l0 c0, .slice (some ⟨b1, o1, none⟩) 1 k0] 65)).alloc (.cells #[.bool false, .slice none 0 0, .slice none 0 0] 97)) w.heap.size 65 #[.bool s0, .slice A0 l0 c0, .slice (some ⟨b1, o1, none⟩) 1 k0] := Blk.alloc (Blk.at_ (by simp)) _;have kR : Blk ((w.alloc (.cells #[.bool s0, .slice A0 l0 c0, .slice (some ⟨b1, o1, none⟩) 1 k0] 65)).alloc (.cells #[.bool false, .slice none 0 0, .slice none 0 0] 97)) (w.heap.size + 1) 97 #[.bool false, .slice none 0 0, .slice none 0 0] := Blk.at_ (by simp);go_enter Try.func139, Try.ntmps139
 go_wp2_with fail
 generalize ((w.alloc _).alloc _) = w1 at hXe kA kR |-;have HX := hid hXe;clear hXe;have KA := hid kA;clear kA;have KR := hid kR;clear kR;replace HI := hid (HI.out.ext HX.out);replace HJ := hid (HJ.out.ext HX.out);have hc0 := hc1;clear hc1;have cA0 : w1.cell? ⟨w.heap.size, 0, none⟩ = some (.bool s0) := KA.out.cell 0;have cA1 : w1.cell? ⟨w.heap.size, 1, none⟩ = some (.slice A0 l0 c0) := KA.out.cell 1;have cA2 : w1.cell? ⟨w.heap.size, 2, none⟩ = some (.slice (some ⟨b1, o1, none⟩) 1 k0) := KA.out.cell 2
 go_wp2_with fail
 clear cA0 cA1 cA2;refine (dM true _ n _ HI.out ⟨fun _ => H0.out, fun _ => rfl⟩).mono ?_;rintro e w2 ⟨v7, rfl, h7, hX⟩;replace hX : Ext w1 w2 := by with_reducible exact hX
 replace HX := hid (HX.out.trans hX);replace HI := hid (HI.out.ext hX);replace HJ := hid (HJ.out.ext hX);replace KA := hid (KA.out.ext hX);replace KR := hid (KR.out.ext hX);clear hX;have HV7 : Hid (W32 w2 v7 n) := h7 rfl;clear h7;have cA0 : w2.cell? ⟨w.heap.size, 0, none⟩ = some (.bool s0) := KA.out.cell 0;have cA1 : w2.cell? ⟨w.heap.size, 1, none⟩ = some (.slice A0 l0 c0) := KA.out.cell 1;have cA2 : w2.cell? ⟨w.heap.size, 2, none⟩ = some (.slice (some ⟨b1, o1, none⟩) 1 k0) := KA.out.cell 2
 go_wp2_with fail
 clear cA0 cA1 cA2;refine (dM true _ d _ HJ.out ⟨fun _ => H1.out, fun _ => rfl⟩).mono ?_;rintro e w3 ⟨v8, rfl, h8, hX⟩;replace hX : Ext w2 w3 := by with_reducible exact hX
 replace HX := hid (HX.out.trans hX);replace HI := hid (HI.out.ext hX);replace HJ := hid (HJ.out.ext hX);replace HV7 := hid (HV7.out.ext hX);replace KA := hid (KA.out.ext hX);replace KR := hid (KR.out.ext hX);clear hX;have HV8 := hid (h8 rfl);clear h8;obtain ⟨A7, l7, c7, rfl, hv7, _⟩ := W32.open HV7.out;obtain ⟨A8, l8, c8, rfl, hv8, _⟩ := W32.open HV8.out;clear HV7 HV8;have HU7 := hid (W32.boxed hv7 (NoInts.three KR.out) s0 A7 none l7 c7 0 0);have HU8 := hid (W32.boxed hv8 (NoInts.three KR.out) s0 A7 none l7 c7 0 0);clear hv7 hv8;have hc2 := HX.out.cell hc0;clear hc0;have cA0 : w3.cell? ⟨w.heap.size, 0, none⟩ = some (.bool s0) := KA.out.cell 0;have cA1 : w3.cell? ⟨w.heap.size, 1, none⟩ = some (.slice A0 l0 c0) := KA.out.cell 1;have cA2 : w3.cell? ⟨w.heap.size, 2, none⟩ = some (.slice (some ⟨b1, o1, none⟩) 1 k0) := KA.out.cell 2;have cR0 : w3.cell? ⟨(w.heap.size + 1), 0, none⟩ = some (.bool false) := KR.out.cell 0;have fR0 : w3.frozen? ⟨(w.heap.size + 1), 0, none⟩ = false := KR.out.free 0;have cR1 : w3.cell? ⟨(w.heap.size + 1), 1, none⟩ = some (.slice none 0 0) := KR.out.cell 1;have fR1 : w3.frozen? ⟨(w.heap.size + 1), 1, none⟩ = false := KR.out.free 1;have cR2 : w3.cell? ⟨(w.heap.size + 1), 2, none⟩ = some (.slice none 0 0) := KR.out.cell 2;have fR2 : w3.frozen? ⟨(w.heap.size + 1), 2, none⟩ = false := KR.out.free 2;go_wp2;refine bodyPost_ret (v := .tuple #[.agg #[.bool s0, .slice A7 l7 c7, .slice none 0 0], .int .i64 0]) (by simp [results, Try.results139, go_sem, *]) rfl ?_;exact ⟨_, _, _, _, _, _, rfl, HU7.out, ⟨rfl, rfl, rfl⟩, Ext.boxed HX.out (by omega) _ _ _⟩
theorem pt (s0 : Bool) (A0 B0 : Option Addr) (l0 c0 m0 k0 : Nat) (n d : Nat) (w : World) (hI : Z16 w (.slice A0 l0 c0) n) (hJ : Z16 w (.slice B0 m0 k0) d) (ha : aV n) (hb : aV d) (hd : m0 ≠ 1) :
  Calls Try.prog 139 #[.agg #[.bool s0, .slice A0 l0 c0, .slice B0 m0 k0]] w (fun e w' => ∃ A9 l9 c9 B9 m9 k9, e = .returned (.tuple #[.agg #[.bool s0, .slice A9 l9 c9, .slice B9 m9 k9], .int .i64 0]) /\ W32 w' (.slice A9 l9 c9) n /\ W32 w' (.slice B9 m9 k9) d /\ Ext w w') := by
 have H0 := hid ha;have H1 := hid hb;clear ha hb;have hb1 : ((m0 : Int) == 1) = false := by simp; omega
 clear hd;have HI := hid hI;have HJ := hid hJ;clear hI hJ;have hXe : Ext w ((w.alloc (.cells #[.bool s0, .slice A0 l0 c0, .slice B0 m0 k0] 65)).alloc (.cells #[.bool false, .slice none 0 0, .slice none 0 0] 97)) := (((Ext.refl w).alloc _).alloc _);have kA : Blk ((w.alloc (.cells #[.bool s0, .slice A0 l0 c0, .slice B0 m0 k0] 65)).alloc (.cells #[.bool false, .slice none 0 0, .slice none 0 0] 97)) w.heap.size 65 #[.bool s0, .slice A0 l0 c0, .slice B0 m0 k0] := Blk.alloc (Blk.at_ (by simp)) _;have kR : Blk ((w.alloc (.cells #[.bool s0, .slice A0 l0 c0, .slice B0 m0 k0] 65)).alloc (.cells #[.bool false, .slice none 0 0, .slice none 0 0] 97)) (w.heap.size + 1) 97 #[.bool false, .slice none 0 0, .slice none 0 0] := Blk.at_ (by simp);go_enter Try.func139, Try.ntmps139
 go_wp2_with fail
 generalize ((w.alloc _).alloc _) = w1 at hXe kA kR |-;have HX := hid hXe;clear hXe;have KA := hid kA;clear kA;have KR := hid kR;clear kR;replace HI := hid (HI.out.ext HX.out);replace HJ := hid (HJ.out.ext HX.out);have cA0 : w1.cell? ⟨w.heap.size, 0, none⟩ = some (.bool s0) := KA.out.cell 0;have cA1 : w1.cell? ⟨w.heap.size, 1, none⟩ = some (.slice A0 l0 c0) := KA.out.cell 1;have cA2 : w1.cell? ⟨w.heap.size, 2, none⟩ = some (.slice B0 m0 k0) := KA.out.cell 2
 go_wp2_with fail
 clear cA0 cA1 cA2;refine (dM true _ n _ HI.out ⟨fun _ => H0.out, fun _ => rfl⟩).mono ?_;rintro e w2 ⟨v7, rfl, h7, hX⟩;replace hX : Ext w1 w2 := by with_reducible exact hX
 replace HX := hid (HX.out.trans hX);replace HI := hid (HI.out.ext hX);replace HJ := hid (HJ.out.ext hX);replace KA := hid (KA.out.ext hX);replace KR := hid (KR.out.ext hX);clear hX;have HV7 : Hid (W32 w2 v7 n) := h7 rfl;clear h7;have cA0 : w2.cell? ⟨w.heap.size, 0, none⟩ = some (.bool s0) := KA.out.cell 0;have cA1 : w2.cell? ⟨w.heap.size, 1, none⟩ = some (.slice A0 l0 c0) := KA.out.cell 1;have cA2 : w2.cell? ⟨w.heap.size, 2, none⟩ = some (.slice B0 m0 k0) := KA.out.cell 2
 go_wp2_with fail
 clear cA0 cA1 cA2;refine (dM true _ d _ HJ.out ⟨fun _ => H1.out, fun _ => rfl⟩).mono ?_;rintro e w3 ⟨v8, rfl, h8, hX⟩;replace hX : Ext w2 w3 := by with_reducible exact hX
 replace HX := hid (HX.out.trans hX);replace HI := hid (HI.out.ext hX);replace HJ := hid (HJ.out.ext hX);replace HV7 := hid (HV7.out.ext hX);replace KA := hid (KA.out.ext hX);replace KR := hid (KR.out.ext hX);clear hX;have HV8 := hid (h8 rfl);clear h8;obtain ⟨A7, l7, c7, rfl, hv7, _⟩ := W32.open HV7.out;obtain ⟨A8, l8, c8, rfl, hv8, _⟩ := W32.open HV8.out;clear HV7 HV8;have HU7 := hid (W32.boxed hv7 (NoInts.three KR.out) s0 A7 A8 l7 c7 l8 c8);have HU8 := hid (W32.boxed hv8 (NoInts.three KR.out) s0 A7 A8 l7 c7 l8 c8);clear hv7 hv8;have cA0 : w3.cell? ⟨w.heap.size, 0, none⟩ = some (.bool s0) := KA.out.cell 0;have cA1 : w3.cell? ⟨w.heap.size, 1, none⟩ = some (.slice A0 l0 c0) := KA.out.cell 1;have cA2 : w3.cell? ⟨w.heap.size, 2, none⟩ = some (.slice B0 m0 k0) := KA.out.cell 2;have cR0 : w3.cell? ⟨(w.heap.size + 1), 0, none⟩ = some (.bool false) := KR.out.cell 0;have fR0 : w3.frozen? ⟨(w.heap.size + 1), 0, none⟩ = false := KR.out.free 0;have cR1 : w3.cell? ⟨(w.heap.size + 1), 1, none⟩ = some (.slice none 0 0) := KR.out.cell 1;have fR1 : w3.frozen? ⟨(w.heap.size + 1), 1, none⟩ = false := KR.out.free 1;have cR2 : w3.cell? ⟨(w.heap.size + 1), 2, none⟩ = some (.slice none 0 0) := KR.out.cell 2;have fR2 : w3.frozen? ⟨(w.heap.size + 1), 2, none⟩ = false := KR.out.free 2;go_wp2;refine bodyPost_ret (v := .tuple #[.agg #[.bool s0, .slice A7 l7 c7, .slice A8 l8 c8], .int .i64 0]) (by simp [results, Try.results139, go_sem, *]) rfl ?_;exact ⟨_, _, _, _, _, _, rfl, HU7.out, HU8.out, Ext.boxed HX.out (by omega) _ _ _⟩
theorem pu (s0 : Bool) (A0 B0 : Option Addr) (l0 c0 m0 k0 : Nat) (n d : Nat) (w : World) (hI : Z16 w (.slice A0 l0 c0) n) (hJ : Z16 w (.slice B0 m0 k0) d) (ha : aV n) (hb : aV d) (hm : m0 = 1) (hd : d ≠ 1) :
  Calls Try.prog 139 #[.agg #[.bool s0, .slice A0 l0 c0, .slice B0 m0 k0]] w (fun e w' => ∃ A9 l9 c9 B9 m9 k9, e = .returned (.tuple #[.agg #[.bool s0, .slice A9 l9 c9, .slice B9 m9 k9], .int .i64 0]) /\ W32 w' (.slice A9 l9 c9) n /\ W32 w' (.slice B9 m9 k9) d /\ Ext w w') := by
 have H0 := hid ha;have H1 := hid hb;clear ha hb;have HI := hid hI;have HJ := hid hJ;obtain ⟨b1, o1, x1, hB, hc1, hx1⟩ := pr hJ hm hd;subst hB;subst hm;clear hI hJ;have hXe : Ext w ((w.alloc (.cells #[.bool s0, .slice A0 l0 c0, .slice (some ⟨b1, o1, none⟩) 1 k0] 65)).alloc (.cells #[.bool false, .slice none 0 0, .slice none 0 0] 97)) := (((Ext.refl w).alloc _).alloc _);have kA : Blk ((w.alloc (.cells #[.bool s0, .slice A0 l0 c0, .slice (some ⟨b1, o1, none⟩) 1 k0] 65)).alloc (.cells #[.bool false, .slice none 0 0, .slice none 0 0] 97)) w.heap.size 65 #[.bool s0, .slice A0 l0 c0, .slice (some ⟨b1, o1, none⟩) 1 k0] := Blk.alloc (Blk.at_ (by simp)) _;have kR : Blk ((w.alloc (.cells #[.bool s0, .slice A0 l0 c0, .slice (some ⟨b1, o1, none⟩) 1 k0] 65)).alloc (.cells #[.bool false, .slice none 0 0, .slice none 0 0] 97)) (w.heap.size + 1) 97 #[.bool false, .slice none 0 0, .slice none 0 0] := Blk.at_ (by simp);go_enter Try.func139, Try.ntmps139
 go_wp2_with fail
 generalize ((w.alloc _).alloc _) = w1 at hXe kA kR |-;have HX := hid hXe;clear hXe;have KA := hid kA;clear kA;have KR := hid kR;clear kR;replace HI := hid (HI.out.ext HX.out);replace HJ := hid (HJ.out.ext HX.out);have hc0 := hc1;clear hc1;have cA0 : w1.cell? ⟨w.heap.size, 0, none⟩ = some (.bool s0) := KA.out.cell 0;have cA1 : w1.cell? ⟨w.heap.size, 1, none⟩ = some (.slice A0 l0 c0) := KA.out.cell 1;have cA2 : w1.cell? ⟨w.heap.size, 2, none⟩ = some (.slice (some ⟨b1, o1, none⟩) 1 k0) := KA.out.cell 2
 go_wp2_with fail
 clear cA0 cA1 cA2;refine (dM true _ n _ HI.out ⟨fun _ => H0.out, fun _ => rfl⟩).mono ?_;rintro e w2 ⟨v7, rfl, h7, hX⟩;replace hX : Ext w1 w2 := by with_reducible exact hX
 replace HX := hid (HX.out.trans hX);replace HI := hid (HI.out.ext hX);replace HJ := hid (HJ.out.ext hX);replace KA := hid (KA.out.ext hX);replace KR := hid (KR.out.ext hX);clear hX;have HV7 : Hid (W32 w2 v7 n) := h7 rfl;clear h7;have cA0 : w2.cell? ⟨w.heap.size, 0, none⟩ = some (.bool s0) := KA.out.cell 0;have cA1 : w2.cell? ⟨w.heap.size, 1, none⟩ = some (.slice A0 l0 c0) := KA.out.cell 1;have cA2 : w2.cell? ⟨w.heap.size, 2, none⟩ = some (.slice (some ⟨b1, o1, none⟩) 1 k0) := KA.out.cell 2
 go_wp2_with fail
 clear cA0 cA1 cA2;refine (dM true _ d _ HJ.out ⟨fun _ => H1.out, fun _ => rfl⟩).mono ?_;rintro e w3 ⟨v8, rfl, h8, hX⟩;replace hX : Ext w2 w3 := by with_reducible exact hX
 replace HX := hid (HX.out.trans hX);replace HI := hid (HI.out.ext hX);replace HJ := hid (HJ.out.ext hX);replace HV7 := hid (HV7.out.ext hX);replace KA := hid (KA.out.ext hX);replace KR := hid (KR.out.ext hX);clear hX;have HV8 := hid (h8 rfl);clear h8;obtain ⟨A7, l7, c7, rfl, hv7, _⟩ := W32.open HV7.out;obtain ⟨A8, l8, c8, rfl, hv8, _⟩ := W32.open HV8.out;clear HV7 HV8;have HU7 := hid (W32.boxed hv7 (NoInts.three KR.out) s0 A7 A8 l7 c7 l8 c8);have HU8 := hid (W32.boxed hv8 (NoInts.three KR.out) s0 A7 A8 l7 c7 l8 c8);clear hv7 hv8;have hc2 := HX.out.cell hc0;clear hc0;have cA0 : w3.cell? ⟨w.heap.size, 0, none⟩ = some (.bool s0) := KA.out.cell 0;have cA1 : w3.cell? ⟨w.heap.size, 1, none⟩ = some (.slice A0 l0 c0) := KA.out.cell 1;have cA2 : w3.cell? ⟨w.heap.size, 2, none⟩ = some (.slice (some ⟨b1, o1, none⟩) 1 k0) := KA.out.cell 2;have cR0 : w3.cell? ⟨(w.heap.size + 1), 0, none⟩ = some (.bool false) := KR.out.cell 0;have fR0 : w3.frozen? ⟨(w.heap.size + 1), 0, none⟩ = false := KR.out.free 0;have cR1 : w3.cell? ⟨(w.heap.size + 1), 1, none⟩ = some (.slice none 0 0) := KR.out.cell 1;have fR1 : w3.frozen? ⟨(w.heap.size + 1), 1, none⟩ = false := KR.out.free 1;have cR2 : w3.cell? ⟨(w.heap.size + 1), 2, none⟩ = some (.slice none 0 0) := KR.out.cell 2;have fR2 : w3.frozen? ⟨(w.heap.size + 1), 2, none⟩ = false := KR.out.free 2;go_wp2;refine bodyPost_ret (v := .tuple #[.agg #[.bool s0, .slice A7 l7 c7, .slice A8 l8 c8], .int .i64 0]) (by simp [results, Try.results139, go_sem, *]) rfl ?_;exact ⟨_, _, _, _, _, _, rfl, HU7.out, HU8.out, Ext.boxed HX.out (by omega) _ _ _⟩
theorem pw {w : World} {v : Value} {q : Rat} (h : QZ w v q) (hf : FitQW q) : Calls Try.prog 139 #[v] w (qM w q) := by
 obtain ⟨b, A, l, c, B, m, k, rfl, rfl, h1, h2⟩ := h
 by_cases hd : q.den = 1
 .
  refine (ps _ A B l c m k _ _ w h1 h2 hf.1 hf.2 hd).mono ?_;rintro e w' ⟨A9, l9, c9, B9, m9, k9, rfl, ⟨A', l', c', xs, e, hI, hr, hc⟩, ⟨rfl, rfl, rfl⟩, hX⟩;injection e with e1 e2 e3;subst e1 e2 e3;exact ⟨_, rfl, ⟨xs, [], ⟨_, _, _, _, _, _, rfl, hI, hc.1, hc.2, Ints.nil, by omega, by omega⟩, hr, .inl ⟨hd, rfl⟩⟩, hX⟩
 .
  have fin : ∀ e w', (∃ A9 l9 c9 B9 m9 k9, e = .returned (.tuple #[.agg #[.bool (decide (q.num < 0)), .slice A9 l9 c9, .slice B9 m9 k9], .int .i64 0]) /\ W32 w' (.slice A9 l9 c9) q.num.natAbs /\ W32 w' (.slice B9 m9 k9) q.den /\ Ext w w') -> qM w q e w' := by
   rintro e w' ⟨A9, l9, c9, B9, m9, k9, rfl, ⟨A', l', c', xs, e, hI, hr, hc⟩, ⟨B', m', k', ys, e', hJ, hs, hk⟩, hX⟩;injection e with e1 e2 e3;subst e1 e2 e3;injection e' with e1 e2 e3;subst e1 e2 e3;exact ⟨_, rfl, ⟨xs, ys, ⟨_, _, _, _, _, _, rfl, hI, hc.1, hc.2, hJ, hk.1, hk.2⟩, hr, .inr ⟨hd, hs⟩⟩, hX⟩
  by_cases hm : m = 1
  .
   exact (pu _ A B l c m k _ _ w h1 h2 hf.1 hf.2 hm hd).mono fin
  .
   exact (pt _ A B l c m k _ _ w h1 h2 hf.1 hf.2 hm).mono fin
theorem px {w : World} {s s' : Bool} {A B A' B' : Option Addr} {l c m k l' c' m' k' : Nat} {q : Rat} (h : RatC w (.agg #[.bool s, .slice A l c, .slice B m k]) q) (h' : RatC w (.agg #[.bool s', .slice A' l' c', .slice B' m' k']) q) :
  s' = s /\ l' = l /\ m' = m /\ ∃ xs ys, Ints .u32 w A l xs /\ Ints .u32 w A' l xs /\ Ints .u32 w B m ys /\ Ints .u32 w B' m ys /\ l <= 9223372036854775807 /\ m <= 9223372036854775807 := by
 obtain ⟨xs, ys, ⟨A1, l1, c1, B1, m1, k1, e, h1, h2, h3, h4, h5, h6⟩, hx, hy⟩ := h;obtain ⟨xs', ys', ⟨A2, l2, c2, B2, m2, k2, e', g1, g2, g3, g4, g5, g6⟩, hx', hy'⟩ := h';simp only [Value.agg.injEq, Array.mk.injEq, List.cons.injEq, Value.bool.injEq, Value.slice.injEq, and_true] at e e';obtain ⟨rfl, ⟨rfl, rfl, rfl⟩, rfl, rfl, rfl⟩ := e;obtain ⟨rfl, ⟨rfl, rfl, rfl⟩, rfl, rfl, rfl⟩ := e';obtain rfl := hx.unique (by omega) hx'
 have hyy : ys = ys' := by
  rcases hy with ⟨a, b⟩ | ⟨a, b⟩ <;> rcases hy' with ⟨a', b'⟩ | ⟨a', b'⟩
  .
   rw [b, b']
  .
   exact absurd a a'
  .
   exact absurd a' a
  .
   exact b.unique (by omega) b'
 subst hyy;have e1 := h1.1;have e2 := g1.1;have e3 := h4.1;have e4 := g4.1;have z1 : l' = l := by omega
 have z2 : m' = m := by omega
 subst z1 z2;exact ⟨rfl, rfl, rfl, xs, ys, h1, g1, h4, g4, by omega, by omega⟩
theorem sI (s0 s1 : Bool) (A0 B0 A1 B1 : Option Addr) (l0 c0 m0 k0 l1 c1 m1 k1 : Nat) (q : Rat) (w : World) (hx : RatC w (.agg #[.bool s0, .slice A0 l0 c0, .slice B0 m0 k0]) q) (hy : QZ w (.agg #[.bool s1, .slice A1 l1 c1, .slice B1 m1 k1]) q) (hf : FitQW q) :
  Calls Try.prog 59 #[.agg #[.bool s0, .slice A0 l0 c0, .slice B0 m0 k0], .agg #[.bool s1, .slice A1 l1 c1, .slice B1 m1 k1]] w (fun e w' => e = .returned (.bool true) /\ Ext w w') := by
 have HXX := hid hx;have HYY := hid hy;have HF := hid hf;clear hx hy hf;have hXe : Ext w ((w.alloc (.cells #[.bool s0, .slice A0 l0 c0, .slice B0 m0 k0] 97)).alloc (.cells #[.bool s1, .slice A1 l1 c1, .slice B1 m1 k1] 65)) := (((Ext.refl w).alloc _).alloc _);have kA : Blk ((w.alloc (.cells #[.bool s0, .slice A0 l0 c0, .slice B0 m0 k0] 97)).alloc (.cells #[.bool s1, .slice A1 l1 c1, .slice B1 m1 k1] 65)) w.heap.size 97 #[.bool s0, .slice A0 l0 c0, .slice B0 m0 k0] := Blk.alloc (Blk.at_ (by simp)) _;have kB : Blk ((w.alloc (.cells #[.bool s0, .slice A0 l0 c0, .slice B0 m0 k0] 97)).alloc (.cells #[.bool s1, .slice A1 l1 c1, .slice B1 m1 k1] 65)) (w.heap.size + 1) 65 #[.bool s1, .slice A1 l1 c1, .slice B1 m1 k1] := Blk.at_ (by simp);go_enter Try.func59, Try.ntmps59
 go_wp2_with fail
 generalize ((w.alloc _).alloc _) = w1 at hXe kA kB |-;have HX := hid hXe;clear hXe;have KA := hid kA;clear kA;have KB := hid kB;clear kB;replace HXX := hid (HXX.out.ext HX.out);replace HYY := hid (HYY.out.ext HX.out);have cB0 : w1.cell? ⟨(w.heap.size + 1), 0, none⟩ = some (.bool s1) := KB.out.cell 0;have cB1 : w1.cell? ⟨(w.heap.size + 1), 1, none⟩ = some (.slice A1 l1 c1) := KB.out.cell 1;have cB2 : w1.cell? ⟨(w.heap.size + 1), 2, none⟩ = some (.slice B1 m1 k1) := KB.out.cell 2
 go_wp2_with fail
 clear cB0 cB1 cB2;refine (pw HYY.out HF.out).mono ?_;rintro e w2 ⟨v9, rfl, h9, hX⟩;replace hX : Ext w1 w2 := by with_reducible exact hX
 replace HX := hid (HX.out.trans hX);replace HXX := hid (HXX.out.ext hX);replace HYY := hid (HYY.out.ext hX);replace KA := hid (KA.out.ext hX);replace KB := hid (KB.out.ext hX);clear hX;obtain ⟨s9, A9, l9, c9, B9, m9, k9, rfl⟩ := h9.open;obtain ⟨rfl, rfl, rfl, xs, ys, x0, x9, y0, y9, hl0, hm0⟩ := px HXX.out h9;have X0 := hid x0;have X1 := hid x9;have Y0 := hid y0;have Y1 := hid y9;clear x0 x9 y0 y9 h9;clear HXX;clear HYY;clear KB
 go_upto_region 2 with (fail)
 have hXa : Ext w2 (w2.alloc (.cells #[.bool s9, .slice A9 l9 c9, .slice B9 m9 k9] 97)) := (Ext.refl _).alloc _;have kY := Blk.new w2 97 #[.bool s9, .slice A9 l9 c9, .slice B9 m9 k9];have zA := KA.out.lt;have zg := HX.out.size;replace HX := hid (HX.out.trans hXa);replace X0 := hid (X0.out.ext hXa);replace X1 := hid (X1.out.ext hXa);replace Y0 := hid (Y0.out.ext hXa);replace Y1 := hid (Y1.out.ext hXa);replace KA := hid (KA.out.ext hXa);generalize (w2.alloc _) = w3 at HX X0 X1 Y0 Y1 KA kY |-;have KY := hid kY;clear kY hXa;obtain ⟨gy, hgy⟩ : ∃ g, w2.heap.size = g := ⟨_, rfl⟩;rw [hgy] at KY |-;clear hgy;have cA0 : w3.cell? ⟨w.heap.size, 0, none⟩ = some (.bool s9) := KA.out.cell 0;have cA1 : w3.cell? ⟨w.heap.size, 1, none⟩ = some (.slice A0 l9 c0) := KA.out.cell 1;have cA2 : w3.cell? ⟨w.heap.size, 2, none⟩ = some (.slice B0 m9 k0) := KA.out.cell 2;have cY0 : w3.cell? ⟨gy, 0, none⟩ = some (.bool s9) := KY.out.cell 0;have cY1 : w3.cell? ⟨gy, 1, none⟩ = some (.slice A9 l9 c9) := KY.out.cell 1;have cY2 : w3.cell? ⟨gy, 2, none⟩ = some (.slice B9 m9 k9) := KY.out.cell 2
 go_wp2_with fail
 clear cA0 cA1 cA2 cY0 cY1 cY2
 go_loopg [7] l9 (fun g' i wr => ∃ k : Nat, g' = l9 - k /\ k <= l9 /\ i = .int .i64 (k : Int) /\ Hid (Blk wr w.heap.size 97 #[.bool s9, .slice A0 l9 c0, .slice B0 m9 k0]) /\ Hid (Blk wr gy 97 #[.bool s9, .slice A9 l9 c9, .slice B9 m9 k9]) /\ Hid (Ext w3 wr) /\ Hid (Ext w wr))
 case atStart => exact ⟨0, rfl, by omega, rfl, KA.out, KY.out, Ext.refl _, HX.out⟩
 case round =>
  clear KA KY HX;obtain ⟨k, rfl, hk, rfl, KA, KY, HE, HX⟩ := hrel;have cA0 : wr.cell? ⟨w.heap.size, 1, none⟩ = some (.slice A0 l9 c0) := KA.out.cell 1;have cA1 : wr.cell? ⟨w.heap.size, 2, none⟩ = some (.slice B0 m9 k0) := KA.out.cell 2;have cB0 : wr.cell? ⟨gy, 1, none⟩ = some (.slice A9 l9 c9) := KY.out.cell 1;have cB1 : wr.cell? ⟨gy, 2, none⟩ = some (.slice B9 m9 k9) := KY.out.cell 2
  by_cases hlt : k < l9
  .
   have hI : (k : Int) < (l9 : Int) := by omega
   have h0 : (0 : Int) <= (k : Int) := by omega
   obtain ⟨b0, o0, x0, hA0, hx0, hw0, hc0⟩ := X0.out.get hlt;obtain ⟨b1, o1, x1, hA1, hx1, hw1, hc1⟩ := X1.out.get hlt;have hxx : x1 = x0 := by rw [hx0] at hx1; injection hx1 with h; exact h.symm
   subst hxx;subst hA0 hA1;have d0 := HE.out.cell hc0;have d1 := HE.out.cell hc1;obtain ⟨u0, u1⟩ := ah hw0;clear hx0 hx1 hw0 hw1 hc0 hc1;go_wp2
   go_quiet (fail)
   go_wp2;go_roundg (l9 - (k + 1))
   case rel => exact ⟨k + 1, rfl, by omega, by go_num, KA.out.drewN _, KY.out.drewN _, HE.out.drewN _, HX.out.drewN _⟩
   case measure => omega
  .
   obtain rfl : l9 = k := by omega
   go_wp2_with fail
   obtain ⟨wo, rfl⟩ : ∃ wo : World, wo = wr := ⟨_, rfl⟩;clear cA0 cA1 cB0 cB1
   go_loopg [8] m9 (fun g' i wr => ∃ k : Nat, g' = m9 - k /\ k <= m9 /\ i = .int .i64 (k : Int) /\ Hid (Blk wr w.heap.size 97 #[.bool s9, .slice A0 l9 c0, .slice B0 m9 k0]) /\ Hid (Blk wr gy 97 #[.bool s9, .slice A9 l9 c9, .slice B9 m9 k9]) /\ Hid (Ext w3 wr) /\ Hid (Ext w wr))
   case atStart => exact ⟨0, rfl, by omega, rfl, KA.out, KY.out, HE.out, HX.out⟩
   case round =>
    clear KA KY HX HE;obtain ⟨k, rfl, hk, rfl, KA, KY, HE, HX⟩ := hrel;have cA0 : wr.cell? ⟨w.heap.size, 1, none⟩ = some (.slice A0 l9 c0) := KA.out.cell 1;have cA1 : wr.cell? ⟨w.heap.size, 2, none⟩ = some (.slice B0 m9 k0) := KA.out.cell 2;have cB0 : wr.cell? ⟨gy, 1, none⟩ = some (.slice A9 l9 c9) := KY.out.cell 1;have cB1 : wr.cell? ⟨gy, 2, none⟩ = some (.slice B9 m9 k9) := KY.out.cell 2
    by_cases hlt : k < m9
    .
     have hI : (k : Int) < (m9 : Int) := by omega
     have h0 : (0 : Int) <= (k : Int) := by omega
     obtain ⟨b0, o0, x0, hA0, hx0, hw0, hc0⟩ := Y0.out.get hlt;obtain ⟨b1, o1, x1, hA1, hx1, hw1, hc1⟩ := Y1.out.get hlt;have hxx : x1 = x0 := by rw [hx0] at hx1; injection hx1 with h; exact h.symm
     subst hxx;subst hA0 hA1;have d0 := HE.out.cell hc0;have d1 := HE.out.cell hc1;obtain ⟨u0, u1⟩ := ah hw0;clear hx0 hx1 hw0 hw1 hc0 hc1;go_wp2
     go_quiet (fail)
     go_wp2;go_roundg (m9 - (k + 1))
     case rel => exact ⟨k + 1, rfl, by omega, by go_num, KA.out.drewN _, KY.out.drewN _, HE.out.drewN _, HX.out.drewN _⟩
     case measure => omega
    .
     obtain rfl : m9 = k := by omega
     go_wp2;go_ret
     exact ⟨rfl, HX.out⟩
theorem fZ {w : World} {vx va : Value} {q : Rat} (h : RatC w vx q) (k : QZ w va q) (hf : FitQW q) : Calls Try.prog 59 #[vx, va] w fun e w' => e = .returned (.bool true) /\ Ext w w' := by
 obtain ⟨s0, A0, l0, c0, B0, m0, k0, rfl⟩ := h.open;obtain ⟨s1, A1, l1, c1, B1, m1, k1, rfl⟩ := k.open;exact sI s0 s1 A0 B0 A1 B1 l0 c0 m0 k0 l1 c1 m1 k1 q w h k hf
theorem py {n : Int} {L : Nat} (h : Fit 4294967296 n.natAbs L) (hL : 0 < L) : FitQ ((n : Int) : Rat) L := by
 refine ⟨by rw [Rat.num_intCast]; exact h, ?_⟩;rw [Rat.den_intCast];exact Fit.one (by omega) hL
theorem f5 {n : Int} (_h0 : -9223372036854775808 <= n) (_h1 : n <= 9223372036854775807) : FitQ ((n : Int) : Rat) 2 := by
 refine py ?_ (by omega);unfold Fit;have : (4294967296 : Int) ^ 2 = 18446744073709551616 := by decide
 omega
theorem bj (q : Rat) : (q < 0 /\ bW q = -1) \/ (q = 0 /\ bW q = 0) \/ (0 < q /\ bW q = 1) := by
 unfold bW
 by_cases h1 : q.num < 0
 .
  left
  refine ⟨?_, by simp [h1]⟩;apply Rat.not_le.1;intro h;have := Rat.num_nonneg.2 h;omega
 .
  by_cases h2 : q.num = 0
  .
   right; left
   exact ⟨Rat.num_eq_zero.1 h2, by simp [h2]⟩
  .
   right; right
   refine ⟨?_, by simp [h1, h2]⟩;apply Rat.not_le.1;intro h;have h3 : 0 <= (-q).num := Rat.num_nonneg.2 (by grind);rw [Rat.neg_num] at h3;omega
/-- The block of a row holds no integers. -/
def RowNI (w : World) (v : Value) : Prop := ∀ g, v.ownBlock = some g -> NoInts w g
theorem gI {z : Array Value} {n : Nat} {u : Value} (hz : 0 < z.size) (h : u ∈ Builtin.zeroCells z n) : u ∈ z := by
 unfold Builtin.zeroCells at h;simp only [Array.mem_map] at h;obtain ⟨i, _, rfl⟩ := h;have hi : i % z.size < z.size := Nat.mod_lt _ hz;rw [getElem!_pos z (i % z.size) hi];exact Array.getElem_mem hi
section
variable {P : Program}
theorem ki (w : World) {t e : TypeId} {size bytes : Nat} {z : Value} (E : Elem P t e size bytes z) (ty : TypeId) (base : Nat) (v : Value) (n : Nat) (xs : List Value) (hown : w.ownsRow base e size v n xs) (hN : RowNI w v) (hzn : ∀ u ∈ z.cells, bx u)
  (ad : Addr) (m c : Nat) (news : List Value) (hl : news.length = m * size) (hat : At w (some ad) news) (h1 : ∀ u ∈ news, u.oneCell' = true) (hnn : ∀ u ∈ news, bx u) (hm : 0 < m)
  (hbytes : (n + m) * bytes <= 140737488355328) (h63 : n + m <= maxLen) (hbase : base <= w.heap.size) :
  ∃ v' w', (Builtin.append_ #[t, t] ty #[v, .slice (some ad) m c]).run P w = .ok v' w' /\ w'.ownsRow base e size v' (n + m) (xs ++ news) /\ w.grownBy w' v.ownBlock /\ (v'.ownBlock = v.ownBlock \/ v'.ownBlock = some w.heap.size) /\ RowNI w' v' := by
 obtain ⟨i, hi, hz, hs, hb⟩ := E.info;have hnews : ∀ j u, news[j]? = some u -> w.cell? (ad.add j) = some u := hat.add ad rfl;obtain ⟨v', w', hr, h2, h3, _, h5⟩ := run_append_own_at (P := P) w base t ty e i z size bytes E.und hi hz hs hb E.cells E.pos v n xs hown ad m c news hl hnews h1 h63 hbytes hbase;refine ⟨v', w', hr, h2, h3, h5, ?_⟩;have hzc : 0 < z.cells.size := by rw [E.cells]; exact E.pos
 have hmax : n + m <= 9223372036854775807 := by simp only [maxLen] at h63; omega
 have new : ∀ (ys : Array Value) (k : Nat), (∀ u ∈ ys, bx u) -> v' = .slice (some ⟨w.heap.size, 0, none⟩) (n + m) k -> w' = w.drew.alloc (.cells (ys ++ Builtin.zeroCells z.cells (k - (n + m))) e) -> RowNI w' v' := by
  rintro ys k hys rfl rfl g hg;obtain rfl : w.heap.size = g := by simpa [Value.ownBlock] using hg
  refine ⟨_, _, heap_alloc_new w.drew _, fun u hu => ?_⟩
  rcases Array.mem_append.1 hu with h | h
  .
   exact hys u h
  .
   exact hzn u (gI hzc h)
 rcases hown.2 with ⟨rfl, rfl⟩ | ⟨g0, cap, cur, rfl, hbg, hg, hnc, hcm, hcs, htake⟩
 .
  have hr' := run_append_nil (P := P) w t ty e i z E.und hi hz ad m c news (by rw [hs]; exact hl) hnews hm (by omega) (by rw [hb]; have hb' := hbytes; simp only [Nat.zero_add] at hb'; omega);rw [hr'] at hr;injection hr with e1 e2;refine new news.toArray (grownCap w m 0 e) (fun u hu => hnn u (by simpa using hu)) (by rw [<- e1, Nat.zero_add]) (by rw [<- e2, Nat.zero_add])
 .
  obtain ⟨t0, cs0, hB, hcs0⟩ := hN g0 rfl
  have hcur : ∀ u ∈ cur.toList, bx u := by
   have h : some (Obj.cells cur e (0, 0)) = some (Obj.cells cs0 t0 (0, 0)) := hg.symm.trans hB;injection h with h;injection h with e1 e2;subst e1;exact fun u hu => hcs0 u (by simpa using hu)
  have hxs : ∀ u ∈ xs, bx u := fun u hu => by
   rw [<- htake] at hu;exact hcur u (List.mem_of_mem_take hu)
  by_cases hroom : n + m <= cap
  .
   have hfit : n * i.size + news.length <= cur.size := by rw [hs, hl, hcs, <- Nat.add_mul]; exact Nat.mul_le_mul_right _ hroom
   have hr' := run_append_room (P := P) w t ty e i E.und hi g0 n cap cur hg ad m c news (by rw [hs]; exact hl) hnews h1 hroom hfit;rw [hr'] at hr;injection hr with e1 e2;subst e1 e2;intro g hgg;obtain rfl : g0 = g := by simpa [Value.ownBlock] using hgg
   refine ⟨_, _, setRow_heap w g0 cur _ e _ hg, fun u hu => ?_⟩;simp only [List.mem_toArray, List.mem_append] at hu
   rcases hu with (h | h) | h
   .
    exact hcur u (List.mem_of_mem_take h)
   .
    exact hnn u h
   .
    exact hcur u (List.mem_of_mem_drop h)
  .
   have hr' := run_append_grow (P := P) w t ty e i z E.und hi hz ⟨g0, 0, none⟩ n cap xs (by rw [hs]; exact hown.1) (hown.cells (g := g0) rfl) ad m c news (by rw [hs]; exact hl) hnews (by omega) (by omega) (by rw [hb]; exact growslice_fits (by omega) hbytes);rw [hr'] at hr;injection hr with e1 e2;refine new (xs.toArray ++ news.toArray) (grownCap w (n + m) cap e) (fun u hu => ?_) e1.symm e2.symm
   rcases Array.mem_append.1 hu with h | h
   .
    exact hxs u (by simpa using h)
   .
    exact hnn u (by simpa using h)
/-- 'append(s, x...)' onto such a row. -/
theorem bP (w : World) {t e : TypeId} {size bytes : Nat} {z : Value} (E : Elem P t e size bytes z) (hzn : ∀ u ∈ z.cells, bx u) {ops : Array Oper} {rest : List Oper} {o : Oper} {a : Act} {Q : Exit -> Act -> World -> Prop}
  (hgd : o.guard = none) (s x : Operand) (ho : o.op = .call { callee := .builtin .append, args := #[s, x], argTypes := #[t, t] })
  (base : Nat) (v : Value) (n : Nat) (xs : List Value) (hs : a.eval s = v) (hown : w.ownsRow base e size v n xs) (hN : RowNI w v)
  (ad : Addr) (m c : Nat) (news : List Value) (hx : a.eval x = .slice (some ad) m c) (hl : news.length = m * size) (hat : At w (some ad) news) (h1 : ∀ u ∈ news, u.oneCell' = true) (hnn : ∀ u ∈ news, bx u) (hm : 0 < m)
  (hbytes : (n + m) * bytes <= 140737488355328) (h63 : n + m <= maxLen) (hbase : base <= w.heap.size)
  (h : ∀ v' w', w'.ownsRow base e size v' (n + m) (xs ++ news) -> w.grownBy w' v.ownBlock -> RowNI w' v' -> wpList P ops Q rest (a.put o.dst v') w') :
  wpList P ops Q (o :: rest) a w :=
 wpList_plain hgd fun K hK => by
  obtain ⟨v', w', hrun, h2, h3, _, h4⟩ := ki (P := P) w E o.type base v n xs hown hN hzn ad m c news hl hat h1 hnn hm hbytes h63 hbase;unfold Oper.wp execOp;simp only [ho, resolve, invoke, builtin, Sem.run_bind, Sem.run_pure, Result.andThen_ok, List.map_toArray, List.map_cons, List.map_nil, hs, hx, hrun];exact hK _ _ (h v' w' h2 h3 h4)
end
/-- Integers' rows stay as they are while a row grows that holds none. -/
theorem Ints.grownNI {k : IntKind} {w w' : World} {A : Option Addr} {n : Nat} {xs : List Int} {v : Value} (h : Ints k w A n xs) (hN : RowNI w v) (hg : w.grownBy w' v.ownBlock) : Ints k w' A n xs := by
 refine ⟨h.1, h.2.1, fun hn => ?_⟩;obtain ⟨b, off, hA, hc⟩ := h.2.2 hn;refine ⟨b, off, hA, fun j u hj => ?_⟩;have hcell := hc j u hj
 have hne : some b ≠ v.ownBlock := by
  intro e;have hni := (hN b e.symm).cell (off + j) u hcell;rw [List.getElem?_map] at hj
  rcases hxj : xs[j]? with _ | y
  .
   rw [hxj] at hj; cases hj
  .
   rw [hxj] at hj;simp only [Option.map_some, Option.some.injEq] at hj;exact hni k y hj.symm
 rw [<- hcell];exact World.cell?_of_block (w := w) (hg.block b (World.block_lt_of_cell? w _ hcell) hne)
theorem NatV.grownNI {k : IntKind} {B : Int} {w w' : World} {x v : Value} {n : Nat} (h : NatV k B w x n) (hN : RowNI w v) (hg : w.grownBy w' v.ownBlock) : NatV k B w' x n := by
 obtain ⟨A, l, c, xs, h1, h2, h3⟩ := h;exact ⟨A, l, c, xs, h1, h2.grownNI hN hg, h3⟩
theorem QZ.grownNI {w w' : World} {x v : Value} {q : Rat} (h : QZ w x q) (hN : RowNI w v) (hg : w.grownBy w' v.ownBlock) : QZ w' x q := by
 obtain ⟨b, A, l, c, B, m, k, h0, h1, h2, h3⟩ := h;exact ⟨b, A, l, c, B, m, k, h0, h1, NatV.grownNI h2 hN hg, NatV.grownNI h3 hN hg⟩
theorem RowNI.ext {w w' : World} {v : Value} (h : RowNI w v) (he : Ext w w') : RowNI w' v := fun g hg => (h g hg).ext he
theorem RowNI.nil (w : World) : RowNI w (.slice none 0 0) := fun g hg => by simp [Value.ownBlock] at hg
/-- The cells of a match. -/
def Mt.cells (m : Mt) : List Value := [.int .i64 m.a, .int .i64 m.b, .int .i64 m.x, .int .i64 m.y, .int .i64 m.z, .int .i64 m.d, .int .i64 m.w]
def rp (ms : List Mt) : List Value := (ms.map Mt.cells).flatten
theorem rq (ms : List Mt) : (rp ms).length = ms.length * 7 := by
 induction ms with
 | nil => rfl
 | cons m ms ih =>
  have : rp (m :: ms) = m.cells ++ rp ms := rfl;rw [this, List.length_append, ih, List.length_cons];simp [Mt.cells]; omega
theorem rt {ms : List Mt} {j : Nat} {m : Mt} (h : ms[j]? = some m) (i : Nat) (u : Value) (hu : m.cells[i]? = some u) : (rp ms)[j * 7 + i]? = some u := by
 induction ms generalizing j with
 | nil => simp at h
 | cons x ms ih =>
  have e : rp (x :: ms) = x.cells ++ rp ms := rfl;have hl : x.cells.length = 7 := rfl
  cases j with
  | zero =>
   simp at h;subst h;have hi := (List.getElem?_eq_some_iff.1 hu).1;rw [e, Nat.zero_mul, Nat.zero_add, List.getElem?_append_left hi, hu]
  | succ j =>
   rw [e, List.getElem?_append_right (by omega), hl, <- ih (by simpa using h)]
   congr 1; omega
/-- A slice of matches reads as 'ms'. -/
def MsAt (w : World) (A : Option Addr) (n : Nat) (ms : List Mt) : Prop := ms.length = n /\ At w A (rp ms)
section
variable {w w' : World} {A : Option Addr} {n : Nat} {ms : List Mt}
theorem MsAt.ext (h : MsAt w A n ms) (he : Ext w w') : MsAt w' A n ms := ⟨h.1, h.2.ext he⟩
theorem MsAt.get (h : MsAt w A n ms) {j : Nat} (hj : j < n) : ∃ b off m, A = some ⟨b, off, none⟩ /\ ms[j]? = some m /\ m ∈ ms /\
  w.cell? ⟨b, off + j * 7, none⟩ = some (.int .i64 m.a) /\ w.cell? ⟨b, off + j * 7 + 1, none⟩ = some (.int .i64 m.b) /\ w.cell? ⟨b, off + j * 7 + 2, none⟩ = some (.int .i64 m.x) /\ w.cell? ⟨b, off + j * 7 + 3, none⟩ = some (.int .i64 m.y) /\
  w.cell? ⟨b, off + j * 7 + 4, none⟩ = some (.int .i64 m.z) /\ w.cell? ⟨b, off + j * 7 + 5, none⟩ = some (.int .i64 m.d) /\ w.cell? ⟨b, off + j * 7 + 6, none⟩ = some (.int .i64 m.w) := by
 have hj' : j < ms.length := by rw [h.1]; exact hj
 obtain ⟨b, off, hA, hc⟩ := h.2 (by intro e; have := rq ms; rw [e] at this; simp at this; omega);have hm : ms[j]? = some ms[j] := List.getElem?_eq_getElem hj';have g := fun i u hu => hc (j * 7 + i) u (rt hm i u hu)
 simp only [<- Nat.add_assoc] at g;exact ⟨b, off, ms[j], hA, hm, List.getElem_mem hj', g 0 _ rfl, g 1 _ rfl, g 2 _ rfl, g 3 _ rfl, g 4 _ rfl, g 5 _ rfl, g 6 _ rfl⟩
end
/-- A relation between the k cells of an element and the element: stable under what grows and under stores into blocks without integers. -/
structure KindK {α : Type} (k : Nat) (R : World -> List Value -> α -> Prop) : Prop where
 len : ∀ w cs x, R w cs x -> cs.length = k
 keep : ∀ w w' L cs x, R w cs x -> Keeps L w w' -> (∀ g ∈ L, NoInts w g) -> R w' cs x
 free : k = 1 -> ∀ w w' cs x, R w cs x -> R w' cs x
theorem KindK.ext {α : Type} {k : Nat} {R : World -> List Value -> α -> Prop} (h : KindK k R) {w w' : World} {cs : List Value} {x : α} (hr : R w cs x) (he : Ext w w') : R w' cs x := h.keep w w' [] cs x hr (.of_ext he []) fun g hg => by simp at hg
/-- The cells 'vs' are those of the n elements 'f 0', 'f 1' .. -/
def NumK {α : Type} (k : Nat) (R : World -> List Value -> α -> Prop) (w : World) (vs : List Value) (n : Nat) (f : Nat -> α) : Prop :=
 vs.length = n * k /\ ∀ j, j < n -> ∃ cs : List Value, cs.length = k /\ R w cs (f j) /\ ∀ i, i < k -> vs[j * k + i]? = cs[i]?
section
variable {α : Type} {k n m : Nat} {R : World -> List Value -> α -> Prop} {w w' : World} {vs : List Value} {f g : Nat -> α}
theorem NumK.nil (k : Nat) (R : World -> List Value -> α -> Prop) (w : World) (f : Nat -> α) : NumK k R w [] 0 f := ⟨by simp, fun j hj => by omega⟩
theorem NumK.imp {R' : World -> List Value -> α -> Prop} (h : NumK k R w vs n f) (hi : ∀ cs x, R w cs x -> R' w' cs x) : NumK k R' w' vs n f :=
 ⟨h.1, fun j hj => by obtain ⟨cs, h1, h2, h3⟩ := h.2 j hj; exact ⟨cs, h1, hi _ _ h2, h3⟩⟩
theorem NumK.congr (h : NumK k R w vs n f) (e : ∀ j, j < n -> f j = g j) : NumK k R w vs n g :=
 ⟨h.1, fun j hj => by obtain ⟨cs, h1, h2, h3⟩ := h.2 j hj; exact ⟨cs, h1, e j hj ▸ h2, h3⟩⟩
theorem NumK.ext (hk : KindK k R) (h : NumK k R w vs n f) (he : Ext w w') : NumK k R w' vs n f := h.imp fun _ _ hr => hk.ext hr he
theorem NumK.keep (hk : KindK k R) {L : List Nat} (h : NumK k R w vs n f) (he : Keeps L w w') (hN : ∀ g ∈ L, NoInts w g) : NumK k R w' vs n f := h.imp fun _ _ hr => hk.keep _ _ L _ _ hr he hN
/-- One element is written anew. -/
theorem NumK.put (h : NumK k R w vs n f) {j : Nat} (_hj : j < n) {cs : List Value} (hl : cs.length = k) {x : α} (hR : R w cs x) {us : List Value} (hv : us.length = vs.length) (h1 : ∀ i, i < k -> us[j * k + i]? = cs[i]?) (h2 : ∀ p, p < j * k \/ j * k + k <= p -> us[p]? = vs[p]?) :
  NumK k R w us n (fun i => if i = j then x else f i) := by
 refine ⟨by rw [hv]; exact h.1, fun i hi => ?_⟩
 by_cases e : i = j
 .
  subst e;exact ⟨cs, hl, by simp only [if_true]; exact hR, h1⟩
 .
  obtain ⟨ds, d1, d2, d3⟩ := h.2 i hi;refine ⟨ds, d1, by simp only [if_neg e]; exact d2, fun p hp => ?_⟩;rw [<- d3 p hp];refine h2 _ ?_
  rcases Nat.lt_or_gt_of_ne e with h5 | h5
  .
   left
   have : (i + 1) * k <= j * k := Nat.mul_le_mul_right _ h5;rw [Nat.succ_mul] at this;omega
  .
   right
   have : (j + 1) * k <= i * k := Nat.mul_le_mul_right _ h5;rw [Nat.succ_mul] at this;omega
/-- One more element behind them. -/
theorem NumK.snoc (h : NumK k R w vs n f) {cs : List Value} (hl : cs.length = k) {x : α} (hR : R w cs x) : NumK k R w (vs ++ cs) (n + 1) (fun i => if i = n then x else f i) := by
 refine ⟨by rw [List.length_append, h.1, hl, Nat.succ_mul], fun j hj => ?_⟩
 by_cases e : j = n
 .
  subst e;refine ⟨cs, hl, by simp only [if_true]; exact hR, fun i hi => ?_⟩;rw [List.getElem?_append_right (by rw [h.1]; omega), h.1]
  congr 1; omega
 .
  obtain ⟨ds, d1, d2, d3⟩ := h.2 j (by omega);refine ⟨ds, d1, by simp only [if_neg e]; exact d2, fun i hi => ?_⟩;rw [<- d3 i hi];refine List.getElem?_append_left ?_;rw [h.1];have : (j + 1) * k <= n * k := Nat.mul_le_mul_right _ (by omega);rw [Nat.succ_mul] at this;omega
theorem NumK.new (k : Nat) (R : World -> List Value -> α -> Prop) (w : World) (vs : List Value) (n : Nat) (hl : vs.length = n * k) {cs : List Value} (hcs : cs.length = k) {x : α} (hR : R w cs x) (h : ∀ i, i < n * k -> vs[i]? = cs[i % k]?) : NumK k R w vs n (fun _ => x) :=
 ⟨hl, fun j hj => ⟨cs, hcs, hR, fun i hi => by
  have hb : j * k + i < n * k := by
   have : (j + 1) * k <= n * k := Nat.mul_le_mul_right _ (by omega);rw [Nat.succ_mul] at this;omega
  rw [h _ hb, Nat.add_comm, Nat.mul_comm, Nat.add_mul_mod_self_left, Nat.mod_eq_of_lt hi]⟩⟩
end
theorem eN (vs : List Value) (p : Nat) (a b c : Value) (_h : p + 3 <= vs.length) : ((((vs.set p a).set (p + 1) b).set (p + 2) c).length = vs.length) /\ (∀ i, i < 3 -> (((vs.set p a).set (p + 1) b).set (p + 2) c)[p + i]? = ([a, b, c] : List Value)[i]?) /\ (∀ q, q < p \/ p + 3 <= q -> (((vs.set p a).set (p + 1) b).set (p + 2) c)[q]? = vs[q]?) := by
 refine ⟨by simp, fun i hi => ?_, fun q hq => ?_⟩
 .
  match i, hi with
  | 0, _ =>
   show (((vs.set p a).set (p + 1) b).set (p + 2) c)[p]? = some a;rw [List.getElem?_set_ne (by omega), List.getElem?_set_ne (by omega), List.getElem?_set_self (by omega)]
  | 1, _ => rw [List.getElem?_set_ne (by omega), List.getElem?_set_self (by rw [List.length_set]; omega)]; rfl
  | 2, _ => rw [List.getElem?_set_self (by rw [List.length_set, List.length_set]; omega)]; rfl
  | _ + 3, hi => omega
 .
  rw [List.getElem?_set_ne (by omega), List.getElem?_set_ne (by omega), List.getElem?_set_ne (by omega)]
theorem ru (vs : List Value) (p : Nat) (a b : Value) (_h : p + 2 <= vs.length) : (((vs.set p a).set (p + 1) b).length = vs.length) /\ (∀ i, i < 2 -> ((vs.set p a).set (p + 1) b)[p + i]? = ([a, b] : List Value)[i]?) /\ (∀ q, q < p \/ p + 2 <= q -> ((vs.set p a).set (p + 1) b)[q]? = vs[q]?) := by
 refine ⟨by simp, fun i hi => ?_, fun q hq => ?_⟩
 .
  match i, hi with
  | 0, _ =>
   show ((vs.set p a).set (p + 1) b)[p]? = some a;rw [List.getElem?_set_ne (by omega), List.getElem?_set_self (by omega)]
  | 1, _ => rw [List.getElem?_set_self (by rw [List.length_set]; omega)]; rfl
  | _ + 2, hi => omega
 .
  rw [List.getElem?_set_ne (by omega), List.getElem?_set_ne (by omega)]
theorem lM (vs : List Value) (p : Nat) (a : Value) (_h : p + 1 <= vs.length) : ((vs.set p a).length = vs.length) /\ (∀ i, i < 1 -> (vs.set p a)[p + i]? = ([a] : List Value)[i]?) /\ (∀ q, q < p \/ p + 1 <= q -> (vs.set p a)[q]? = vs[q]?) := by
 refine ⟨by simp, fun i hi => ?_, fun q hq => List.getElem?_set_ne (by omega)⟩;obtain rfl : i = 0 := by omega
 rw [Nat.add_zero, List.getElem?_set_self (by omega)]; rfl
/-- Numbers of three cells: the program's, the reference's, those of the interface. -/
def Tri (P : World -> Value -> Rat -> Prop) (w : World) (cs : List Value) (q : Rat) : Prop := ∃ s A l c B m k, cs = [.bool s, .slice A l c, .slice B m k] /\ P w (.agg #[.bool s, .slice A l c, .slice B m k]) q
theorem Tri.mk {P : World -> Value -> Rat -> Prop} {w : World} {s : Bool} {A B : Option Addr} {l c m k : Nat} {q : Rat} (h : P w (.agg #[.bool s, .slice A l c, .slice B m k]) q) : Tri P w [.bool s, .slice A l c, .slice B m k] q := ⟨_, _, _, _, _, _, _, rfl, h⟩
/-- Integers of the reference: two cells. -/
def qi (w : World) (cs : List Value) (z : Int) : Prop := ∃ s A l c, cs = [.bool s, .slice A l c] /\ IntZ w (.agg #[.bool s, .slice A l c]) z
/-- Plain integers: one cell. -/
def dD (_ : World) (cs : List Value) (z : Int) : Prop := cs = [.int .i64 z]
theorem cm : KindK 1 dD := ⟨fun w cs x h => by rw [show cs = _ from h]; rfl, fun w w' L cs x h _ _ => h, fun _ _ _ _ _ h => h⟩
theorem cL : KindK 2 qi := ⟨fun w cs x h => by obtain ⟨s, A, l, c, rfl, _⟩ := h; rfl, fun w w' L cs x h hk hN => by obtain ⟨s, A, l, c, e, h⟩ := h; exact ⟨s, A, l, c, e, h.keepsNI hk hN⟩, fun h => by omega⟩
theorem aD (K : Nat) : KindK 3 (Tri fun w v q => NumX w v q K) := ⟨fun w cs x h => by obtain ⟨s, A, l, c, B, m, k, rfl, _⟩ := h; rfl, fun w w' L cs x h hk hN => by obtain ⟨s, A, l, c, B, m, k, e, h⟩ := h; exact ⟨s, A, l, c, B, m, k, e, h.keepsNI hk hN⟩, fun h => by omega⟩
theorem si : KindK 3 (Tri QZ) := ⟨fun w cs x h => by obtain ⟨s, A, l, c, B, m, k, rfl, _⟩ := h; rfl, fun w w' L cs x h hk hN => by obtain ⟨s, A, l, c, B, m, k, e, h⟩ := h; exact ⟨s, A, l, c, B, m, k, e, h.keepsNI hk hN⟩, fun h => by omega⟩
section
variable {P : World -> Value -> Rat -> Prop} {w : World} {vs : List Value} {n : Nat} {f : Nat -> Rat}
/-- The cells of number j. -/
theorem NumK.three (h : NumK 3 (Tri P) w vs n f) {j : Nat} (hj : j < n) : ∃ s A l c B m k, vs[j * 3]? = some (.bool s) /\ vs[j * 3 + 1]? = some (.slice A l c) /\ vs[j * 3 + 2]? = some (.slice B m k) /\ P w (.agg #[.bool s, .slice A l c, .slice B m k]) (f j) := by
 obtain ⟨cs, h1, ⟨s, A, l, c, B, m, k, rfl, h2⟩, h3⟩ := h.2 j hj;exact ⟨s, A, l, c, B, m, k, by have := h3 0 (by omega); simpa using this, by have := h3 1 (by omega); simpa using this, by have := h3 2 (by omega); simpa using this, h2⟩
end
section
variable {w : World} {vs : List Value} {n : Nat} {f : Nat -> Int}
theorem NumK.two (h : NumK 2 qi w vs n f) {j : Nat} (hj : j < n) : ∃ s A l c, vs[j * 2]? = some (.bool s) /\ vs[j * 2 + 1]? = some (.slice A l c) /\ IntZ w (.agg #[.bool s, .slice A l c]) (f j) := by
 obtain ⟨cs, h1, ⟨s, A, l, c, rfl, h2⟩, h3⟩ := h.2 j hj;exact ⟨s, A, l, c, by have := h3 0 (by omega); simpa using this, by have := h3 1 (by omega); simpa using this, h2⟩
theorem NumK.one (h : NumK 1 dD w vs n f) {j : Nat} (hj : j < n) : vs[j]? = some (.int .i64 (f j)) := by
 obtain ⟨cs, h1, h2, h3⟩ := h.2 j hj;have h4 : cs = [.int .i64 (f j)] := h2;subst h4;have := h3 0 (by omega); simpa using this
theorem NumK.put1 (h : NumK 1 dD w vs n f) {j : Nat} (hj : j < n) (x : Int) : NumK 1 dD w (vs.set j (.int .i64 x)) n (fun i => if i = j then x else f i) := by
 have hb : j * 1 + 1 <= vs.length := by rw [h.1]; omega
 obtain ⟨h1, h2, h3⟩ := lM vs (j * 1) (.int .i64 x) hb;rw [Nat.mul_one] at h1 h2 h3;exact h.put hj rfl rfl h1 (by simpa using h2) (by simpa using h3)
/-- Integers that stand in a row of their own are what they are in every world. -/
theorem NumK.any (h : NumK 1 dD w vs n f) (w' : World) : NumK 1 dD w' vs n f := h.imp fun _ _ hr => hr
theorem NumK.map (h : NumK 1 dD w vs n f) : vs = (List.range n).map fun j => .int .i64 (f j) := by
 refine List.ext_getElem? fun j => ?_
 rcases Nat.lt_or_ge j n with h1 | h1
 .
  rw [h.one h1, List.getElem?_map, List.getElem?_range h1]; rfl
 .
  rw [List.getElem?_eq_none (by rw [h.1]; omega), List.getElem?_eq_none (by simp; omega)]
end
/-- A table of m rows, each of n elements of k cells and in a row of its own. -/
structure Tbl {α : Type} (k : Nat) (R : World -> List Value -> α -> Prop) (te : TypeId) (base : Nat) (w : World) (m n : Nat) (vs : List Value) (T : Nat -> Nat -> α) : Prop where
 len : vs.length = m
 rows : ∃ rows, RowsT te k base w n vs rows /\ ∀ i r, rows[i]? = some r -> NumK k R w r n (T i)
section
variable {α : Type} {k m n base : Nat} {te : TypeId} {R : World -> List Value -> α -> Prop} {w w' : World} {vs : List Value} {T U : Nat -> Nat -> α}
theorem Tbl.nil (k : Nat) (R : World -> List Value -> α -> Prop) (te : TypeId) (base : Nat) (w : World) (n : Nat) (T : Nat -> Nat -> α) : Tbl k R te base w 0 n [] T := ⟨rfl, [], RowsT.nil te k base w n, by simp⟩
theorem Tbl.congr (h : Tbl k R te base w m n vs T) (e : ∀ i j, i < m -> j < n -> T i j = U i j) : Tbl k R te base w m n vs U := by
 obtain ⟨hl, rows, h1, h2⟩ := h;refine ⟨hl, rows, h1, fun i r hr => (h2 i r hr).congr fun j hj => e i j ?_ hj⟩;have := (List.getElem?_eq_some_iff.1 hr).1;rw [<- h1.len, hl] at this;exact this
theorem Tbl.keep (hk : KindK k R) {L : List Nat} (h : Tbl k R te base w m n vs T) (he : Keeps L w w') (hN : ∀ g ∈ L, NoInts w g) (hn : ∀ v ∈ vs, ∀ g, v.ownBlock = some g -> g ∉ L) : Tbl k R te base w' m n vs T := by
 obtain ⟨hl, rows, h1, h2⟩ := h;exact ⟨hl, rows, h1.keeps he hn, fun i r hr => (h2 i r hr).keep hk he hN⟩
theorem Tbl.ext (hk : KindK k R) (h : Tbl k R te base w m n vs T) (he : Ext w w') : Tbl k R te base w' m n vs T := h.keep hk (.of_ext he []) (fun g hg => by simp at hg) fun _ _ _ _ hg => by simp at hg
theorem Tbl.row (h : Tbl k R te base w m n vs T) {i : Nat} (hi : i < m) : ∃ v r, vs[i]? = some v /\ w.ownsRow base te k v n r /\ NumK k R w r n (T i) := by
 obtain ⟨hl, rows, h1, h2⟩ := h;have hi' : i < rows.length := by rw [<- h1.len, hl]; exact hi
 obtain ⟨v, hv, ho⟩ := h1.get (List.getElem?_eq_getElem hi');exact ⟨v, _, hv, ho, h2 i _ (List.getElem?_eq_getElem hi')⟩
theorem Tbl.low (h : Tbl k R te base w m n vs T) {v : Value} (hv : v ∈ vs) {g : Nat} (hg : v.ownBlock = some g) : base <= g /\ g < w.heap.size := by
 obtain ⟨i, hi, rfl⟩ := List.getElem_of_mem hv;obtain ⟨v', r, h1, h2, _⟩ := h.row (i := i) (by rw [<- h.len]; exact hi);rw [List.getElem?_eq_getElem hi] at h1;injection h1 with h1;subst h1;exact cD h2 hg
/-- The rows' blocks hold no integers. -/
def TblNI (w : World) (vs : List Value) : Prop := ∀ v ∈ vs, RowNI w v
theorem TblNI.ext (h : TblNI w vs) (he : Ext w w') : TblNI w' vs := fun v hv => (h v hv).ext he
theorem RowNI.keeps {w w' : World} {v : Value} {L : List Nat} (h : RowNI w v) (he : Keeps L w w') (hn : ∀ g, v.ownBlock = some g -> g ∉ L) : RowNI w' v := fun g hg => by
 obtain ⟨t, cs, h1, h2⟩ := h g hg;exact ⟨t, cs, (he.block g h1.lt (hn g hg)).trans h1, h2⟩
/-- One element of row i is stored anew: the world w' differs from w in its row's block alone, which is still its own. -/
theorem Tbl.put (hk : KindK k R) (h : Tbl k R te base w m n vs T) {i j g : Nat} (hi : i < m) (hj : j < n) {c : Nat} (hv : vs[i]? = some (.slice (some ⟨g, 0, none⟩) n c)) {r us : List Value} (ho : w.ownsRow base te k (.slice (some ⟨g, 0, none⟩) n c) n r) (ho' : w'.ownsRow base te k (.slice (some ⟨g, 0, none⟩) n c) n us)
  (he : Keeps [g] w w') (hN : NoInts w g \/ ∀ w w' cs x, R w cs x -> R w' cs x) {cs : List Value} (hl : cs.length = k) {x : α} (hR : R w' cs x) (h1 : ∀ i, i < k -> us[j * k + i]? = cs[i]?) (h2 : ∀ p, p < j * k \/ j * k + k <= p -> us[p]? = r[p]?) :
  Tbl k R te base w' m n vs (fun a b => if a = i /\ b = j then x else T a b) := by
 have hst : ∀ cs x, R w cs x -> R w' cs x := fun cs x hr => by
  rcases hN with hN | hN
  .
   exact hk.keep w w' [g] cs x hr he fun q hq => by simp at hq; subst hq; exact hN
  .
   exact hN w w' cs x hr
 obtain ⟨hlen, rows, hr, hn⟩ := h;have hi' : i < rows.length := by rw [<- hr.len, hlen]; exact hi
 have hri : rows[i]? = some rows[i] := List.getElem?_eq_getElem hi';have hoi := hr.row i _ _ hv hri
 have hrr : rows[i] = r := by
  obtain ⟨cur, hB, _, _, _, _, h4⟩ := cP ho;obtain ⟨cur', hB', _, _, _, _, h4'⟩ := cP hoi
  have e : cur = cur' := by
   have h : some (Obj.cells cur te (0, 0)) = some (Obj.cells cur' te (0, 0)) := hB.symm.trans hB';injection h with h;injection h
  rw [<- h4, <- h4', e]
 have hnum := hn i _ hri;rw [hrr] at hnum;refine ⟨hlen, rows.set i us, ⟨by rw [List.length_set, hr.len], fun a v q hv' hq => ?_, hr.far⟩, fun a q hq => ?_⟩
 .
  by_cases e : a = i
  .
   subst e;rw [List.getElem?_set_self hi'] at hq;injection hq with hq;subst hq;rw [hv] at hv';injection hv' with hv';subst hv';exact ho'
  .
   rw [List.getElem?_set_ne (fun q => e q.symm)] at hq;refine ak (L := [g]) (hr.row a v q hv' hq) he fun b hb hl => ?_
   simp at hl;subst hl;obtain ⟨ha, rfl⟩ := List.getElem?_eq_some_iff.1 hv';obtain ⟨hi2, hiv⟩ := List.getElem?_eq_some_iff.1 hv;have hp := List.pairwise_iff_getElem.1 hr.far;have hb2 : (vs[i]).ownBlock = some b := by rw [hiv]; simp [Value.ownBlock]
   rcases Nat.lt_or_gt_of_ne e with h5 | h5
   .
    exact hp a i ha hi2 h5 (by rw [hb, hb2])
   .
    exact hp i a hi2 ha h5 (by rw [hb, hb2])
 .
  by_cases e : a = i
  .
   subst e;rw [List.getElem?_set_self hi'] at hq;injection hq with hq;subst hq;have hp := (hnum.imp (R' := R) (w' := w') hst).put hj hl hR (us := us) (by rw [<- hrr]; have := ho'.1; rw [this, hoi.1]) h1 h2;refine hp.congr fun b hb => ?_
   simp
  .
   rw [List.getElem?_set_ne (fun q => e q.symm)] at hq;refine ((hn a q hq).imp (R' := R) (w' := w') hst).congr fun b hb => ?_
   simp [e]
/-- Another row behind them. -/
theorem Tbl.push (h : Tbl k R te base w m n vs T) {v : Value} {r : List Value} (ho : w.ownsRow base te k v n r) {f : Nat -> α} (hr : NumK k R w r n f) (hf : ∀ u ∈ vs, u.ownBlock ≠ v.ownBlock) : Tbl k R te base w (m + 1) n (vs ++ [v]) (fun i => if i = m then f else T i) := by
 obtain ⟨hl, rows, h1, h2⟩ := h;refine ⟨by simp [hl], rows ++ [r], h1.push ho hf, fun i q hq => ?_⟩;have hrl : rows.length = m := by rw [<- h1.len, hl]
 by_cases e : i = m
 .
  subst e;rw [List.getElem?_append_right (by omega), hrl] at hq;simp at hq;subst hq;simp only [if_true];exact hr
 .
  have hi : i < rows.length := by
   have := (List.getElem?_eq_some_iff.1 hq).1;simp at this;omega
  rw [List.getElem?_append_left hi] at hq;simp only [if_neg e];exact h2 i q hq
/-- Two rows change their places. -/
theorem Tbl.swap (h : Tbl k R te base w m n vs T) {a b : Nat} (ha : a < m) (hb : b < m) {va vb : Value} (h1 : vs[a]? = some va) (h2 : vs[b]? = some vb) : Tbl k R te base w m n ((vs.set a vb).set b va) (fun i => if i = b then T a else if i = a then T b else T i) := by
 obtain ⟨hl, rows, hr, hn⟩ := h;have ha' : a < rows.length := by rw [<- hr.len, hl]; exact ha
 have hb' : b < rows.length := by rw [<- hr.len, hl]; exact hb
 have g1 : rows[a]? = some rows[a] := List.getElem?_eq_getElem ha';have g2 : rows[b]? = some rows[b] := List.getElem?_eq_getElem hb';refine ⟨by simp [hl], _, hr.swap h1 h2 g1 g2, fun i q hq => ?_⟩
 by_cases e1 : i = b
 .
  subst e1;rw [List.getElem?_set_self (by rw [List.length_set]; exact hb')] at hq;injection hq with hq;subst hq;simp only [if_true];exact hn a _ g1
 .
  rw [List.getElem?_set_ne (fun q => e1 q.symm)] at hq;simp only [if_neg e1]
  by_cases e2 : i = a
  .
   subst e2;rw [List.getElem?_set_self ha'] at hq;injection hq with hq;subst hq;simp only [if_true];exact hn b _ g2
  .
   rw [List.getElem?_set_ne (fun q => e2 q.symm)] at hq;simp only [if_neg e2];exact hn i q hq
end
end Go.Proofs.Ytikhlcgnlbinfaa
