/- Lemmas of the proof that follows (Solves, part 13): walks of functions by contract, and plain lemmas. Conditions: none. -/
import Derived.Test.YtikhlcgnlbinfaaSolvesL
set_option maxRecDepth 100000
set_option maxHeartbeats 16000000
namespace Go.Proofs.Ytikhlcgnlbinfaa
open Lib (hid)
open Go.RowKit
/-- What a call returns that makes a sign and limbs in new memory. -/
def kC (w : World) (b : Bool) (n : Nat) (e : Ending) (w' : World) : Prop := ∃ A l c, e = .returned (.agg #[.bool b, .slice A l c]) /\ Z16 w' (.slice A l c) n /\ NewS w.heap.size A l /\ Ext w w'
theorem ml (s0 s1 : Bool) (A0 A1 : Option Addr) (l0 c0 l1 c1 n0 n1 : Nat) (L : Nat) (w : World) (hx : Z16 w (.slice A0 l0 c0) n0) (hy : Z16 w (.slice A1 l1 c1) n1) (fn : Fit 65536 n0 L) (hL : L <= 400000) (hd : 0 < n1) (hs : s0 = s1) :
  Calls Try.prog 178 #[.agg #[.bool s0, .slice A0 l0 c0], .agg #[.bool s1, .slice A1 l1 c1]] w (kC w false (n0 / n1)) := by
 have HXX := hid hx;have HYY := hid hy;have HFN := hid fn;have HDP := hid hd;clear hx hy fn hd;have hb : (s0 != s1) = false := by simp [hs]
 have hb2 : (s0 == s1) = true := by simp [hs]
 have hb3 : decide (s0 = s1) = true := by simp [hs]
 obtain ⟨N, hN⟩ : ∃ N, n0 / n1 = N := ⟨_, rfl⟩;have HN := hid hN

 clear hs hN;have hXe : Ext w (((w.alloc (.cells #[.bool s0, .slice A0 l0 c0] 63)).alloc (.cells #[.bool s1, .slice A1 l1 c1] 63)).alloc (.cells #[.bool false, .slice none 0 0] 63)) := ((((Ext.refl w).alloc _).alloc _).alloc _);have kA : Blk (((w.alloc (.cells #[.bool s0, .slice A0 l0 c0] 63)).alloc (.cells #[.bool s1, .slice A1 l1 c1] 63)).alloc (.cells #[.bool false, .slice none 0 0] 63)) w.heap.size 63 #[.bool s0, .slice A0 l0 c0] := Blk.alloc (Blk.alloc (Blk.at_ (by simp)) _) _;have kB : Blk (((w.alloc (.cells #[.bool s0, .slice A0 l0 c0] 63)).alloc (.cells #[.bool s1, .slice A1 l1 c1] 63)).alloc (.cells #[.bool false, .slice none 0 0] 63)) (w.heap.size + 1) 63 #[.bool s1, .slice A1 l1 c1] := Blk.alloc (Blk.at_ (by simp)) _;have kR : Blk (((w.alloc (.cells #[.bool s0, .slice A0 l0 c0] 63)).alloc (.cells #[.bool s1, .slice A1 l1 c1] 63)).alloc (.cells #[.bool false, .slice none 0 0] 63)) (w.heap.size + 2) 63 #[.bool false, .slice none 0 0] := Blk.at_ (by simp);go_enter Try.func178, Try.ntmps178
 go_wp2_with fail
 generalize (((w.alloc _).alloc _).alloc _) = w1 at hXe kA kB kR |-;have HX := hid hXe;clear hXe;have KA := hid kA;clear kA;have KB := hid kB;clear kB;have KR := hid kR;clear kR;replace HXX := hid (HXX.out.ext HX.out);replace HYY := hid (HYY.out.ext HX.out);have cA0 : w1.cell? ⟨w.heap.size, 0, none⟩ = some (.bool s0) := KA.out.cell 0;have cA1 : w1.cell? ⟨w.heap.size, 1, none⟩ = some (.slice A0 l0 c0) := KA.out.cell 1;have cB0 : w1.cell? ⟨(w.heap.size + 1), 0, none⟩ = some (.bool s1) := KB.out.cell 0;have cB1 : w1.cell? ⟨(w.heap.size + 1), 1, none⟩ = some (.slice A1 l1 c1) := KB.out.cell 1;have hsz := HX.out.size
 go_wp2_with fail
 clear cA0 cA1 cB0 cB1;refine (eQ _ _ n0 n1 L _ HXX.out HYY.out HFN.out hL HDP.out).mono ?_;rw [HN.out];rintro e w2 ⟨v9, v10, rfl, hv, hv10, hn9, hX⟩;replace hX : Ext w1 w2 := by with_reducible exact hX
 replace HX := hid (HX.out.trans hX);replace HXX := hid (HXX.out.ext hX);replace HYY := hid (HYY.out.ext hX);replace KA := hid (KA.out.ext hX);replace KB := hid (KB.out.ext hX);replace KR := hid (KR.out.ext hX);clear hX;have HN9 := hid (hn9.mono hsz);obtain ⟨A9, l9, c9, rfl, hv9, h0⟩ := Z16.open hv;obtain ⟨A10, l10, c10, rfl, _, _⟩ := Z16.open hv10;have HV := hid (Z16.two hv9 (NoInts.two KR.out) false A9 l9 c9);clear hv hv9 hv10 hn9 hsz;clear h0;have cA0 : w2.cell? ⟨w.heap.size, 0, none⟩ = some (.bool s0) := KA.out.cell 0;have cA1 : w2.cell? ⟨w.heap.size, 1, none⟩ = some (.slice A0 l0 c0) := KA.out.cell 1;have cB0 : w2.cell? ⟨(w.heap.size + 1), 0, none⟩ = some (.bool s1) := KB.out.cell 0;have cB1 : w2.cell? ⟨(w.heap.size + 1), 1, none⟩ = some (.slice A1 l1 c1) := KB.out.cell 1;have cR0 : w2.cell? ⟨(w.heap.size + 2), 0, none⟩ = some (.bool false) := KR.out.cell 0;have fR0 : w2.frozen? ⟨(w.heap.size + 2), 0, none⟩ = false := KR.out.free 0;have cR1 : w2.cell? ⟨(w.heap.size + 2), 1, none⟩ = some (.slice none 0 0) := KR.out.cell 1;have fR1 : w2.frozen? ⟨(w.heap.size + 2), 1, none⟩ = false := KR.out.free 1;go_wp2;refine bodyPost_ret (v := .agg #[.bool false, .slice A9 l9 c9]) (by simp [results, Try.results178, go_sem, *]) rfl ?_;exact ⟨_, _, _, rfl, by rw [HN.out]; exact HV.out, HN9.out.of, HX.out.two (by omega) _ _⟩
theorem mn (s0 s1 : Bool) (A0 A1 : Option Addr) (l0 c0 l1 c1 n0 n1 : Nat) (L : Nat) (w : World) (hx : Z16 w (.slice A0 l0 c0) n0) (hy : Z16 w (.slice A1 l1 c1) n1) (fn : Fit 65536 n0 L) (hL : L <= 400000) (hd : 0 < n1) (hs : s0 ≠ s1) (hz : n0 / n1 ≠ 0) :
  Calls Try.prog 178 #[.agg #[.bool s0, .slice A0 l0 c0], .agg #[.bool s1, .slice A1 l1 c1]] w (kC w true (n0 / n1)) := by
 have HXX := hid hx;have HYY := hid hy;have HFN := hid fn;have HDP := hid hd;clear hx hy fn hd;have hb : (s0 != s1) = true := by simp [hs]
 have hb2 : (s0 == s1) = false := by simp [hs]
 have hb3 : decide (s0 = s1) = false := by simp [hs]
 obtain ⟨N, hN⟩ : ∃ N, n0 / n1 = N := ⟨_, rfl⟩;have HN := hid hN;rw [hN] at hz;clear hs hN;have hXe : Ext w (((w.alloc (.cells #[.bool s0, .slice A0 l0 c0] 63)).alloc (.cells #[.bool s1, .slice A1 l1 c1] 63)).alloc (.cells #[.bool false, .slice none 0 0] 63)) := ((((Ext.refl w).alloc _).alloc _).alloc _);have kA : Blk (((w.alloc (.cells #[.bool s0, .slice A0 l0 c0] 63)).alloc (.cells #[.bool s1, .slice A1 l1 c1] 63)).alloc (.cells #[.bool false, .slice none 0 0] 63)) w.heap.size 63 #[.bool s0, .slice A0 l0 c0] := Blk.alloc (Blk.alloc (Blk.at_ (by simp)) _) _;have kB : Blk (((w.alloc (.cells #[.bool s0, .slice A0 l0 c0] 63)).alloc (.cells #[.bool s1, .slice A1 l1 c1] 63)).alloc (.cells #[.bool false, .slice none 0 0] 63)) (w.heap.size + 1) 63 #[.bool s1, .slice A1 l1 c1] := Blk.alloc (Blk.at_ (by simp)) _;have kR : Blk (((w.alloc (.cells #[.bool s0, .slice A0 l0 c0] 63)).alloc (.cells #[.bool s1, .slice A1 l1 c1] 63)).alloc (.cells #[.bool false, .slice none 0 0] 63)) (w.heap.size + 2) 63 #[.bool false, .slice none 0 0] := Blk.at_ (by simp);go_enter Try.func178, Try.ntmps178
 go_wp2_with fail
 generalize (((w.alloc _).alloc _).alloc _) = w1 at hXe kA kB kR |-;have HX := hid hXe;clear hXe;have KA := hid kA;clear kA;have KB := hid kB;clear kB;have KR := hid kR;clear kR;replace HXX := hid (HXX.out.ext HX.out);replace HYY := hid (HYY.out.ext HX.out);have cA0 : w1.cell? ⟨w.heap.size, 0, none⟩ = some (.bool s0) := KA.out.cell 0;have cA1 : w1.cell? ⟨w.heap.size, 1, none⟩ = some (.slice A0 l0 c0) := KA.out.cell 1;have cB0 : w1.cell? ⟨(w.heap.size + 1), 0, none⟩ = some (.bool s1) := KB.out.cell 0;have cB1 : w1.cell? ⟨(w.heap.size + 1), 1, none⟩ = some (.slice A1 l1 c1) := KB.out.cell 1;have hsz := HX.out.size
 go_wp2_with fail
 clear cA0 cA1 cB0 cB1;refine (eQ _ _ n0 n1 L _ HXX.out HYY.out HFN.out hL HDP.out).mono ?_;rw [HN.out];rintro e w2 ⟨v9, v10, rfl, hv, hv10, hn9, hX⟩;replace hX : Ext w1 w2 := by with_reducible exact hX
 replace HX := hid (HX.out.trans hX);replace HXX := hid (HXX.out.ext hX);replace HYY := hid (HYY.out.ext hX);replace KA := hid (KA.out.ext hX);replace KB := hid (KB.out.ext hX);replace KR := hid (KR.out.ext hX);clear hX;have HN9 := hid (hn9.mono hsz);obtain ⟨A9, l9, c9, rfl, hv9, h0⟩ := Z16.open hv;obtain ⟨A10, l10, c10, rfl, _, _⟩ := Z16.open hv10;have HV := hid (Z16.two hv9 (NoInts.two KR.out) true A9 l9 c9);clear hv hv9 hv10 hn9 hsz
 have hl : (0 : Int) < (l9 : Int) := by
  rcases Nat.eq_zero_or_pos l9 with h | h
  .
   exact absurd (h0.1 h) hz
  .
   omega
 have hl' : 0 < l9 := by omega
 clear h0;have cA0 : w2.cell? ⟨w.heap.size, 0, none⟩ = some (.bool s0) := KA.out.cell 0;have cA1 : w2.cell? ⟨w.heap.size, 1, none⟩ = some (.slice A0 l0 c0) := KA.out.cell 1;have cB0 : w2.cell? ⟨(w.heap.size + 1), 0, none⟩ = some (.bool s1) := KB.out.cell 0;have cB1 : w2.cell? ⟨(w.heap.size + 1), 1, none⟩ = some (.slice A1 l1 c1) := KB.out.cell 1;have cR0 : w2.cell? ⟨(w.heap.size + 2), 0, none⟩ = some (.bool false) := KR.out.cell 0;have fR0 : w2.frozen? ⟨(w.heap.size + 2), 0, none⟩ = false := KR.out.free 0;have cR1 : w2.cell? ⟨(w.heap.size + 2), 1, none⟩ = some (.slice none 0 0) := KR.out.cell 1;have fR1 : w2.frozen? ⟨(w.heap.size + 2), 1, none⟩ = false := KR.out.free 1;go_wp2;refine bodyPost_ret (v := .agg #[.bool true, .slice A9 l9 c9]) (by simp [results, Try.results178, go_sem, *]) rfl ?_;exact ⟨_, _, _, rfl, by rw [HN.out]; exact HV.out, HN9.out.of, HX.out.two (by omega) _ _⟩
theorem mo (s0 s1 : Bool) (A0 A1 : Option Addr) (l0 c0 l1 c1 n0 n1 : Nat) (L : Nat) (w : World) (hx : Z16 w (.slice A0 l0 c0) n0) (hy : Z16 w (.slice A1 l1 c1) n1) (fn : Fit 65536 n0 L) (hL : L <= 400000) (hd : 0 < n1) (hs : s0 ≠ s1) (hz : n0 / n1 = 0) :
  Calls Try.prog 178 #[.agg #[.bool s0, .slice A0 l0 c0], .agg #[.bool s1, .slice A1 l1 c1]] w (kC w false (n0 / n1)) := by
 have HXX := hid hx;have HYY := hid hy;have HFN := hid fn;have HDP := hid hd;clear hx hy fn hd;have hb : (s0 != s1) = true := by simp [hs]
 have hb2 : (s0 == s1) = false := by simp [hs]
 have hb3 : decide (s0 = s1) = false := by simp [hs]
 obtain ⟨N, hN⟩ : ∃ N, n0 / n1 = N := ⟨_, rfl⟩;have HN := hid hN;rw [hN] at hz;clear hs hN;have hXe : Ext w (((w.alloc (.cells #[.bool s0, .slice A0 l0 c0] 63)).alloc (.cells #[.bool s1, .slice A1 l1 c1] 63)).alloc (.cells #[.bool false, .slice none 0 0] 63)) := ((((Ext.refl w).alloc _).alloc _).alloc _);have kA : Blk (((w.alloc (.cells #[.bool s0, .slice A0 l0 c0] 63)).alloc (.cells #[.bool s1, .slice A1 l1 c1] 63)).alloc (.cells #[.bool false, .slice none 0 0] 63)) w.heap.size 63 #[.bool s0, .slice A0 l0 c0] := Blk.alloc (Blk.alloc (Blk.at_ (by simp)) _) _;have kB : Blk (((w.alloc (.cells #[.bool s0, .slice A0 l0 c0] 63)).alloc (.cells #[.bool s1, .slice A1 l1 c1] 63)).alloc (.cells #[.bool false, .slice none 0 0] 63)) (w.heap.size + 1) 63 #[.bool s1, .slice A1 l1 c1] := Blk.alloc (Blk.at_ (by simp)) _;have kR : Blk (((w.alloc (.cells #[.bool s0, .slice A0 l0 c0] 63)).alloc (.cells #[.bool s1, .slice A1 l1 c1] 63)).alloc (.cells #[.bool false, .slice none 0 0] 63)) (w.heap.size + 2) 63 #[.bool false, .slice none 0 0] := Blk.at_ (by simp);go_enter Try.func178, Try.ntmps178
 go_wp2_with fail
 generalize (((w.alloc _).alloc _).alloc _) = w1 at hXe kA kB kR |-;have HX := hid hXe;clear hXe;have KA := hid kA;clear kA;have KB := hid kB;clear kB;have KR := hid kR;clear kR;replace HXX := hid (HXX.out.ext HX.out);replace HYY := hid (HYY.out.ext HX.out);have cA0 : w1.cell? ⟨w.heap.size, 0, none⟩ = some (.bool s0) := KA.out.cell 0;have cA1 : w1.cell? ⟨w.heap.size, 1, none⟩ = some (.slice A0 l0 c0) := KA.out.cell 1;have cB0 : w1.cell? ⟨(w.heap.size + 1), 0, none⟩ = some (.bool s1) := KB.out.cell 0;have cB1 : w1.cell? ⟨(w.heap.size + 1), 1, none⟩ = some (.slice A1 l1 c1) := KB.out.cell 1;have hsz := HX.out.size
 go_wp2_with fail
 clear cA0 cA1 cB0 cB1;refine (eQ _ _ n0 n1 L _ HXX.out HYY.out HFN.out hL HDP.out).mono ?_;rw [HN.out];rintro e w2 ⟨v9, v10, rfl, hv, hv10, hn9, hX⟩;replace hX : Ext w1 w2 := by with_reducible exact hX
 replace HX := hid (HX.out.trans hX);replace HXX := hid (HXX.out.ext hX);replace HYY := hid (HYY.out.ext hX);replace KA := hid (KA.out.ext hX);replace KB := hid (KB.out.ext hX);replace KR := hid (KR.out.ext hX);clear hX;have HN9 := hid (hn9.mono hsz);obtain ⟨A9, l9, c9, rfl, hv9, h0⟩ := Z16.open hv;obtain ⟨A10, l10, c10, rfl, _, _⟩ := Z16.open hv10;have HV := hid (Z16.two hv9 (NoInts.two KR.out) false A9 l9 c9);clear hv hv9 hv10 hn9 hsz;obtain rfl : l9 = 0 := h0.2 hz;clear h0;have cA0 : w2.cell? ⟨w.heap.size, 0, none⟩ = some (.bool s0) := KA.out.cell 0;have cA1 : w2.cell? ⟨w.heap.size, 1, none⟩ = some (.slice A0 l0 c0) := KA.out.cell 1;have cB0 : w2.cell? ⟨(w.heap.size + 1), 0, none⟩ = some (.bool s1) := KB.out.cell 0;have cB1 : w2.cell? ⟨(w.heap.size + 1), 1, none⟩ = some (.slice A1 l1 c1) := KB.out.cell 1;have cR0 : w2.cell? ⟨(w.heap.size + 2), 0, none⟩ = some (.bool false) := KR.out.cell 0;have fR0 : w2.frozen? ⟨(w.heap.size + 2), 0, none⟩ = false := KR.out.free 0;have cR1 : w2.cell? ⟨(w.heap.size + 2), 1, none⟩ = some (.slice none 0 0) := KR.out.cell 1;have fR1 : w2.frozen? ⟨(w.heap.size + 2), 1, none⟩ = false := KR.out.free 1;go_wp2;refine bodyPost_ret (v := .agg #[.bool false, .slice A9 0 c9]) (by simp [results, Try.results178, go_sem, *]) rfl ?_;exact ⟨_, _, _, rfl, by rw [HN.out]; exact HV.out, HN9.out.of, HX.out.two (by omega) _ _⟩
/-- x / y for a y that divides x; the limbs lie in new memory, away from any older block. -/
theorem jV (va vb : Value) (x y z : Int) (L : Nat) (X : Option Nat) (w : World) (ha : IntZ w va x) (hb : IntZ w vb y) (fn : Fit 65536 x.natAbs L) (hL : L <= 400000) (hy0 : y ≠ 0) (hz : x = y * z) (hX : ∀ g, X = some g -> g < w.heap.size) :
  Calls Try.prog 178 #[va, vb] w (fun e w' => ∃ v, e = .returned v /\ IntA X w' v z /\ Ext w w') := by
 obtain ⟨A0, l0, c0, rfl, hx⟩ := ha;obtain ⟨A1, l1, c1, rfl, hy⟩ := hb;have hdy : 0 < y.natAbs := by omega
 have hdiv : x.natAbs / y.natAbs = z.natAbs := by rw [hz, Int.natAbs_mul, Nat.mul_div_cancel_left _ hdy]
 have fin : ∀ (b : Bool), b = decide (z < 0) -> ∀ e w', kC w b (x.natAbs / y.natAbs) e w' -> ∃ v, e = .returned v /\ IntA X w' v z /\ Ext w w' := by
  rintro b rfl e w' ⟨A, l, c, rfl, hq, hn, he⟩;exact ⟨_, rfl, ⟨A, l, c, rfl, by rw [<- hdiv]; exact hq, .new hn hX⟩, he⟩
 have hsg : z ≠ 0 -> (decide (x < 0) = decide (y < 0) ↔ ¬ z < 0) := fun h0 => by
  rcases Int.lt_or_gt_of_ne h0 with h | h
  .
   rcases Int.lt_or_gt_of_ne hy0 with k | k
   .
    have : 0 < x := by rw [hz]; exact Int.mul_pos_of_neg_of_neg k h
    simp [h, k, Int.not_lt.2 (Int.le_of_lt this)]
   .
    have : x < 0 := by rw [hz]; exact Int.mul_neg_of_pos_of_neg k h
    simp [h, this, Int.not_lt.2 (Int.le_of_lt k)]
  .
   rcases Int.lt_or_gt_of_ne hy0 with k | k
   .
    have : x < 0 := by rw [hz]; exact Int.mul_neg_of_neg_of_pos k h
    simp [k, this, Int.not_lt.2 (Int.le_of_lt h)]
   .
    have : 0 < x := by rw [hz]; exact Int.mul_pos k h
    simp [Int.not_lt.2 (Int.le_of_lt k), Int.not_lt.2 (Int.le_of_lt this), Int.not_lt.2 (Int.le_of_lt h)]
 by_cases hs : decide (x < 0) = decide (y < 0)
 .
  refine (ml _ _ A0 A1 l0 c0 l1 c1 _ _ L w hx hy fn hL hdy hs).mono (fin _ ?_)
  symm
  rw [decide_eq_false_iff_not]
  by_cases h0 : z = 0
  .
   omega
  .
   exact (hsg h0).1 hs
 .
  by_cases hq : x.natAbs / y.natAbs = 0
  .
   refine (mo _ _ A0 A1 l0 c0 l1 c1 _ _ L w hx hy fn hL hdy hs hq).mono (fin _ ?_);have : z = 0 := by rw [hdiv] at hq; omega
   rw [this]; rfl
  .
   refine (mn _ _ A0 A1 l0 c0 l1 c1 _ _ L w hx hy fn hL hdy hs hq).mono (fin _ ?_)
   symm
   rw [decide_eq_true_iff];have h0 : z ≠ 0 := by rw [hdiv] at hq; omega
   by_cases h : z < 0
   .
    exact h
   .
    exact absurd ((hsg h0).2 h) hs
section
variable {P : Program}
/-- 'make([]T, n)' as an operation of a drawn region, T of one cell. -/
theorem kE (w : World) {t e : TypeId} {bytes : Nat} {z : Value} (E : Elem P t e 1 bytes z) (hz1 : z.cells = #[z]) (base n : Nat) (_hb : bytes * n <= 281474976710656) (hm : n <= maxLen) (hbase : base <= w.heap.size) :
  ∃ w', (Instr.makeSlice t (.int .i64 (n : Int)) (.int .i64 (n : Int))).run P w = .ok (.slice (some ⟨w.heap.size, 0, none⟩) n n) w' /\ w'.ownsRow base e 1 (.slice (some ⟨w.heap.size, 0, none⟩) n n) n (List.replicate n z) /\ Ext w w' := by
 obtain ⟨i, hi, hz, hs, hby⟩ := E.info;subst hby
 have hbI : (i.bytes : Int) * (n : Int) <= 281474976710656 := by
  have h : ((i.bytes * n : Nat) : Int) <= 281474976710656 := by omega
  rwa [Int.natCast_mul] at h
 have hrun := run_make (P := P) w t e i z E.und hi hz .i64 .i64 n n (by omega) (by omega) hbI (by unfold maxLen at hm; omega);simp only [Int.toNat_natCast] at hrun;rw [hs, Nat.mul_one, hz1] at hrun;refine ⟨_, hrun, ⟨by simp, .inr ⟨w.heap.size, n, _, rfl, hbase, heap_alloc_new w _, Nat.le_refl _, hm, by rw [size_madeCells]; simp, ?_⟩⟩, (Ext.refl w).alloc _⟩;rw [toList_madeCells_one, Nat.mul_one, List.take_replicate, Nat.min_self]
end
theorem eT {L : List Nat} {w W : World} {g i : Nat} {v : Value} (hk : Keeps L w W) (h : w.cell? ⟨g, i, none⟩ = some v) (hn : g ∉ L) : W.cell? ⟨g, i, none⟩ = some v := by
 rw [<- h];exact World.cell?_of_block (w := w) (hk.block g (World.block_lt_of_cell? w _ h) hn)
theorem rJ (nn : Nat) (w : World) (_hnn : nn <= 100) : aF Try.prog Try.f44 2 6 19 w [15, 16, 17, 18, 5, 6] [.c (.int .i64 (nn : Int)), .p fun v W => ∃ g, v = .slice (some ⟨g, 0, none⟩) nn nn /\ w.heap.size <= g /\ W.ownsRow w.heap.size 61 1 (.slice (some ⟨g, 0, none⟩) nn nn) nn (List.replicate nn (.slice none 0 0)), .c (.int .i64 (nn : Int)), .p fun v W => ∃ g, v = .slice (some ⟨g, 0, none⟩) nn nn /\ w.heap.size <= g /\ W.ownsRow w.heap.size 3 1 (.slice (some ⟨g, 0, none⟩) nn nn) nn (List.replicate nn (.int .i64 0)), .p fun v W => ∃ g, v = .slice (some ⟨g, 0, none⟩) nn nn /\ w.heap.size <= g /\ W.ownsRow w.heap.size 61 1 (.slice (some ⟨g, 0, none⟩) nn nn) nn (List.replicate nn (.slice none 0 0)), .p fun v W => ∃ g, v = .slice (some ⟨g, 0, none⟩) nn nn /\ w.heap.size <= g /\ W.ownsRow w.heap.size 3 1 (.slice (some ⟨g, 0, none⟩) nn nn) nn (List.replicate nn (.int .i64 0))] [(4, .int .i64 (nn : Int))] := by
 refine aJ [[], [0], [], [2], [1], [3]] (by kernel_rfl) (by kernel_rfl) rfl ⟨by intro v W W' h hX; obtain ⟨g, h1, h2, h3⟩ := h; exact ⟨g, h1, h2, World.ownsRow.ext' h3 hX⟩, by intro v W W' h hX; obtain ⟨g, h1, h2, h3⟩ := h; exact ⟨g, h1, h2, World.ownsRow.ext' h3 hX⟩, by intro v W W' h hX; obtain ⟨g, h1, h2, h3⟩ := h; exact ⟨g, h1, h2, World.ownsRow.ext' h3 hX⟩, by intro v W W' h hX; obtain ⟨g, h1, h2, h3⟩ := h; exact ⟨g, h1, h2, World.ownsRow.ext' h3 hX⟩, trivial⟩ ?_;simp only [ae, Try.f44, ab, Option.bind_some, Nat.reduceBEq, if_true, if_false, Bool.false_eq_true, Option.getD_some];simp only [List.take_succ_cons, List.take_zero]
 repeat' first | refine ⟨?_, ?_⟩ | fail
 all_goals first | (intro us W b hJ K hK0 hK Qz; simp only [aC, al, am, List.getD_cons_succ, List.getD_cons_zero]) | exact True.intro
 all_goals try (intros; go_simp; exact hK0 _ rfl)
 .
  intro e15 e4;have hsz := Ext.size hJ;obtain ⟨w', hrun, hown, hX⟩ := kE W rY rfl w.heap.size nn (by omega) (by unfold maxLen; omega) hsz;go_simp;refine hK _ _ ⟨_, rfl, hsz, hown⟩ hX
 .
  intro e17 e4;have hsz := Ext.size hJ;obtain ⟨w', hrun, hown, hX⟩ := kE W dX rfl w.heap.size nn (by omega) (by unfold maxLen; omega) hsz;go_simp;refine hK _ _ ⟨_, rfl, hsz, hown⟩ hX
 .
  intro e16 d1 e4;obtain ⟨g, hv1, h2, h3⟩ := d1;rw [hv1] at e16;go_simp;exact hK0 _ ⟨g, rfl, h2, h3⟩
 .
  intro e18 d3 e4;obtain ⟨g, hv1, h2, h3⟩ := d3;rw [hv1] at e18;go_simp;exact hK0 _ ⟨g, rfl, h2, h3⟩
theorem qI (gr nn aa gm : Nat) (ee ww dd ci : Int) (w : World) (he : w.cell? ⟨gr, aa, none⟩ = some (.int .i64 ee)) (hw : w.cell? ⟨gm, 6, none⟩ = some (.int .i64 ww)) (hd : w.cell? ⟨gm, 5, none⟩ = some (.int .i64 dd)) (_hA1 : aa < nn) (_x1 : IntKind.i64.wrap (ww * dd) = ww * dd) (_x2 : IntKind.i64.wrap (ww * dd * ci) = ww * dd * ci) (_x3 : IntKind.i64.wrap (ee - ww * dd * ci) = ee - ww * dd * ci) : aF Try.prog Try.f44 12 13 57 w [44, 45, 46, 47, 48, 49, 50, 51, 52, 53, 54, 55, 56] [.c (.slice (some ⟨gr, 0, none⟩) nn nn), .c (.int .i64 (aa : Int)), .c (.pointer (some ⟨gr, aa, none⟩)), .c (.int .i64 (ee)), .c (.pointer (some ⟨gm, 6, none⟩)), .c (.int .i64 (ww)), .c (.pointer (some ⟨gm, 5, none⟩)), .c (.int .i64 (dd)), .c (.int .i64 (ww * dd)), .c (.int .i64 (ci)), .c (.int .i64 (ww * dd * ci)), .c (.int .i64 (ee - ww * dd * ci)), .c (.pointer (some ⟨gr, aa, none⟩))] [(6, .slice (some ⟨gr, 0, none⟩) nn nn), (7, .int .i64 (aa : Int)), (9, .pointer (some ⟨gm, 0, none⟩)), (10, .int .i64 (ci))] := by
 refine aJ [[], [], [0, 1], [2], [], [4], [], [6], [5, 7], [], [8, 9], [3, 10], [0, 1]] (by kernel_rfl) (by kernel_rfl) rfl trivial ?_;simp only [ae, Try.f44, ab, Option.bind_some, Nat.reduceBEq, if_true, if_false, Bool.false_eq_true, Option.getD_some];simp only [List.take_succ_cons, List.take_zero]
 repeat' first | refine ⟨?_, ?_⟩ | fail
 all_goals first | (intro us W b hJ K hK0 hK Qz; simp only [aC, al, am, List.getD_cons_succ, List.getD_cons_zero]) | exact True.intro
 all_goals try (intros; have q0 := Ext.cell hJ he; have q1 := Ext.cell hJ hw; have q2 := Ext.cell hJ hd; go_simp; exact hK0 _ rfl)
theorem qJ (gt nn aa bb ga gm S : Nat) (ee ww ci cj ma mb mx my mz md : Int) (w : World) (ha : w.cell? ⟨gt, aa, none⟩ = some (.slice (some ⟨ga, 0, none⟩) nn nn)) (he : w.cell? ⟨ga, bb, none⟩ = some (.int .i64 ee)) (v0 : w.cell? ⟨gm, 0, none⟩ = some (.int .i64 (ma))) (v1 : w.cell? ⟨gm, 1, none⟩ = some (.int .i64 (mb))) (v2 : w.cell? ⟨gm, 2, none⟩ = some (.int .i64 (mx))) (v3 : w.cell? ⟨gm, 3, none⟩ = some (.int .i64 (my))) (v4 : w.cell? ⟨gm, 4, none⟩ = some (.int .i64 (mz))) (v5 : w.cell? ⟨gm, 5, none⟩ = some (.int .i64 (md))) (v6 : w.cell? ⟨gm, 6, none⟩ = some (.int .i64 (ww))) (_hA1 : aa < nn) (_hB1 : bb < nn) (hb24 : bb < 24) (hm : VM S (⟨ma, mb, mx, my, mz, md, ww⟩ : Mt)) (hcj : aG (⟨ma, mb, mx, my, mz, md, ww⟩ : Mt) bb = cj) (_x1 : IntKind.i64.wrap (ww * ci) = ww * ci) (_x2 : IntKind.i64.wrap (ww * ci * cj) = ww * ci * cj) (_x3 : IntKind.i64.wrap (ee + ww * ci * cj) = ee + ww * ci * cj) : aF Try.prog Try.f44 16 17 79 w [62, 63, 64, 65, 66, 67, 68, 69, 70, 71, 72, 73, 74, 75, 76, 77, 78] [.c (.slice (some ⟨gt, 0, none⟩) nn nn), .c (.int .i64 (aa : Int)), .c (.pointer (some ⟨gt, aa, none⟩)), .c (.slice (some ⟨ga, 0, none⟩) nn nn), .c (.int .i64 (bb : Int)), .c (.pointer (some ⟨ga, bb, none⟩)), .c (.int .i64 (ee)), .c (.pointer (some ⟨gm, 6, none⟩)), .c (.int .i64 (ww)), .c (.int .i64 (ci)), .c (.int .i64 (ww * ci)), .c (.agg #[.int .i64 (ma), .int .i64 (mb), .int .i64 (mx), .int .i64 (my), .int .i64 (mz), .int .i64 (md), .int .i64 (ww)]), .c (.int .i64 (bb : Int)), .c (.int .i64 (cj)), .c (.int .i64 (ww * ci * cj)), .c (.int .i64 (ee + ww * ci * cj)), .c (.pointer (some ⟨ga, bb, none⟩))] [(5, .slice (some ⟨gt, 0, none⟩) nn nn), (7, .int .i64 (aa : Int)), (9, .pointer (some ⟨gm, 0, none⟩)), (10, .int .i64 (ci)), (11, .int .i64 (bb : Int))] := by
 refine aJ [[], [], [0, 1], [2], [], [3, 4], [5], [], [7], [], [8, 9], [], [], [11, 12], [10, 13], [6, 14], [3, 4]] (by kernel_rfl) (by kernel_rfl) rfl trivial ?_;simp only [ae, Try.f44, ab, Option.bind_some, Nat.reduceBEq, if_true, if_false, Bool.false_eq_true, Option.getD_some];simp only [List.take_succ_cons, List.take_zero]
 repeat' first | refine ⟨?_, ?_⟩ | fail
 all_goals first | (intro us W b hJ K hK0 hK Qz; simp only [aC, al, am, List.getD_cons_succ, List.getD_cons_zero]) | exact True.intro
 all_goals try (intros; have q0 := Ext.cell hJ ha; have q1 := Ext.cell hJ he; have q2 := Ext.cell hJ v6; have q3 := Ext.cell hJ v0; have q4 := Ext.cell hJ v1; have q5 := Ext.cell hJ v2; have q6 := Ext.cell hJ v3; have q7 := Ext.cell hJ v4; have q8 := Ext.cell hJ v5; go_simp; exact hK0 _ rfl)
 .
  intro e73 e74 e5 e7 e9 e10 e11;have hco := eG (m := (⟨ma, mb, mx, my, mz, md, ww⟩ : Mt)) (u := bb) (S := S) (w := W) hb24 hm;unfold Mt.val at hco;rw [hcj] at hco;go_simp;refine hco.mono ?_;rintro e w' ⟨rfl, hX⟩;exact hK _ _ rfl hX
theorem jW (S nn : Nat) (A : Option Addr) (n c : Nat) (ms : List Mt) (w : World) (h : MsAt w A n ms) (hv : VP S ms) (hN : nn = 3 * S) :
  Calls Try.prog 44 #[.agg #[.int .i64 (S : Int), .slice A n c]] w (fun e w' => ∃ gt gr vs, e = .returned (.tuple #[.slice (some ⟨gt, 0, none⟩) nn nn, .slice (some ⟨gr, 0, none⟩) nn nn]) /\ TabG 1 dk 3 61 w.heap.size w' gt nn nn nn vs (cJ ms) /\ RowI w.heap.size w' gr nn nn (cK ms) /\ gr ∉ br gt vs /\ (∀ v ∈ vs, ∃ g, v = .slice (some ⟨g, 0, none⟩) nn nn) /\ Ext w w') := by
 have hS1 : 1 <= S := by have := hv.1; omega
 have hS8 : S <= 8 := by have := hv.2.1; omega
 have hn64 : n <= 64 := by have := hv.2.2.1; have := h.1; omega
 have hNb : nn <= 24 := by omega
 have hqN : IntKind.i64.wrap (3 * (S : Int)) = (nn : Int) := by rw [IntWalk.i64_in _ (by omega)]; omega
 have HX := hid ((Ext.refl w).alloc (.cells #[.int .i64 (S : Int), .slice A n c] 76));have HP := hid (Blk.new w 76 #[.int .i64 (S : Int), .slice A n c]);have HVM := hid hv.2.2.2;have H := hid h;have HL := hid h.1;clear h hv hN;go_enter Try.func44, Try.ntmps44
 go_upto_region 1 with (fail)
 generalize w.alloc _ = w1 at HX HP |-;have p0 := HP.out.cell 0;simp only [List.getElem?_toArray, List.getElem?_cons_zero, List.getElem?_cons_succ] at p0
 go_upto_region 2 with (fail)
 clear p0;have hpl := HP.out.lt;have hs0 := HX.out.size;refine rJ nn w1 (by omega) _ _ (by simp) ⟨rfl, trivial⟩ ?_;rintro w2 hX xv1 _ xv3 _ xv4 ⟨gt, rfl, hgt, hown⟩ xv5 ⟨gr, rfl, hgr, hrow⟩;simp only [EndK, ae, Try.f44, ab, Option.bind_some, Nat.reduceBEq, if_true, if_false, Bool.false_eq_true, Option.getD_some, List.drop_succ_cons, List.drop_zero];simp only [Act.put, List.setIfInBounds_toArray, List.set_cons_succ, List.set_cons_zero]
 have hne : gt ≠ gr := by
  rcases de hown hrow (by decide) with q | q
  .
   simp [Value.ownBlock] at q
  .
   simpa [Value.ownBlock] using q
 have hgr2 := (cB hrow (g := gr) (by simp [Value.ownBlock])).2;have hgt2 := (cB hown (g := gt) (by simp [Value.ownBlock])).2;replace HX := hid (HX.out.trans hX);replace HP := hid (HP.out.ext hX);have HO := hid (World.ownsRow.mono' hown hs0);have HR := hid (RowI.zero (World.ownsRow.mono' hrow hs0));clear hX hown hrow
 go_wp2_with fail
 go_loopg [7] nn (fun f iv wr => ∃ (q : Nat) (vs : List Value), f = nn - q /\ q <= nn /\ iv = .int .i64 (q : Int) /\ Hid (wr.ownsRow w.heap.size 61 1 (.slice (some ⟨gt, 0, none⟩) nn nn) nn (vs ++ List.replicate (nn - q) (.slice none 0 0))) /\ Hid (Tbl 1 dk 3 w.heap.size wr q nn vs (cJ ms)) /\ Hid (RowI w.heap.size wr gr nn nn (fun i => if i < q then cK ms i else 0)) /\ Hid (Blk wr w.heap.size 76 #[.int .i64 (S : Int), .slice A n c]) /\ Hid (Ext w wr) /\ Hid (∀ v ∈ vs, ∃ g, v = .slice (some ⟨g, 0, none⟩) nn nn /\ w.heap.size < g /\ g < wr.heap.size /\ g ≠ gr) /\ gr < wr.heap.size /\ gt < wr.heap.size)
 case atStart => exact ⟨0, [], rfl, by omega, rfl, hid (by rw [Nat.sub_zero, List.nil_append]; exact HO.out), hid (Tbl.nil 1 dk _ _ _ nn _), hid (HR.out.congr (fun i _ => by rw [if_neg (by omega)])), HP, HX, hid (by simp), hgr2, hgt2⟩
 case round =>
  clear HO HR HP HX hgr2 hgt2;obtain ⟨q, vs, rfl, hq, rfl, HO, HT, HR, HP, HX, HNL, hgr2, hgt2⟩ := hrel
  by_cases hql : q < nn
  .
   have q1 : decide (q < nn) = true := decide_eq_true hql;have q1b : decide ((q : Int) < (nn : Int)) = true := decide_eq_true (by omega);have hs2 := HX.out.size
   go_upto_region 7 with (at_make; refine ap wr dX rfl rfl _ _ rfl w.heap.size _ _ _ _ nn nn rfl rfl (by first | rfl | omega) (by first | rfl | omega) (Nat.le_refl _) (by omega) (by unfold maxLen; omega) hs2 ?_; intro w4 hown hext hsz; have HOX := hid (World.ownsRow.ext' HO.out hext); have hfr := aL HOX.out q; have hxe := af HOX.out (i := q) (u := .slice none 0 0) (by rw [List.getElem?_append_right (by rw [HT.out.len]; omega), HT.out.len, Nat.sub_self, List.getElem?_replicate, if_pos (by omega)]))
   have hput := bq (i := q) (u := .slice (some ⟨wr.heap.size, 0, none⟩) nn nn) HOX.out;have hgg : gt ≠ wr.heap.size := by omega
   have hkp : Keeps [gt] w4 (w4.setCell ⟨gt, q, none⟩ (.slice (some ⟨wr.heap.size, 0, none⟩) nn nn)) := (Keeps.refl [gt] w4).setCell (.inl (by simp)) _
   have hne1 : ∀ v ∈ vs, v.ownBlock ≠ some gt := fun v hv e => by
    obtain ⟨i, hi, rfl⟩ := List.getElem_of_mem hv;obtain ⟨v', r, h1, h2, _⟩ := HT.out.row (i := i) (by rw [<- HT.out.len]; exact hi);rw [List.getElem?_eq_getElem hi] at h1;injection h1 with h1;subst h1
    rcases de h2 HO.out (by decide) with h3 | h3
    .
     rw [h3] at e; cases e
    .
     rw [e] at h3; exact h3 (by simp [Value.ownBlock])
   have HT5 : Hid (Tbl 1 dk 3 w.heap.size (w4.setCell ⟨gt, q, none⟩ (.slice (some ⟨wr.heap.size, 0, none⟩) nn nn)) q nn vs (cJ ms)) := hid (by
    have h1 := HT.out.ext bX hext;obtain ⟨hl, rows, hr, hn⟩ := h1;exact ⟨hl, rows, hr.keeps hkp (fun v hv g hg hl2 => by simp at hl2; subst hl2; exact hne1 v hv hg), fun i r hi => (hn i r hi).any _⟩)
   have HA5 : Hid (RowI w.heap.size (w4.setCell ⟨gt, q, none⟩ (.slice (some ⟨wr.heap.size, 0, none⟩) nn nn)) wr.heap.size nn nn (fun _ => 0)) := hid ((RowI.zero hown).keeps hkp (fun h => by simp at h; omega));have HR5 : Hid (RowI w.heap.size (w4.setCell ⟨gt, q, none⟩ (.slice (some ⟨wr.heap.size, 0, none⟩) nn nn)) gr nn nn (fun i => if i < q then cK ms i else 0)) := hid ((HR.out.ext hext).keeps hkp (fun h => by simp at h; omega))
   have HO5 : Hid ((w4.setCell ⟨gt, q, none⟩ (.slice (some ⟨wr.heap.size, 0, none⟩) nn nn)).ownsRow w.heap.size 61 1 (.slice (some ⟨gt, 0, none⟩) nn nn) nn ((vs ++ [.slice (some ⟨wr.heap.size, 0, none⟩) nn nn]) ++ List.replicate (nn - (q + 1)) (.slice none 0 0))) := hid (by
    rw [show nn - q = (nn - (q + 1)) + 1 by omega] at hput;have e := iN vs (nn - (q + 1)) (.slice none 0 0) (.slice (some ⟨wr.heap.size, 0, none⟩) nn nn);rw [HT.out.len] at e;rw [e] at hput;exact hput)
   have HVL := hid HT.out.len;have hplr := HP.out.lt;replace HP := hid ((HP.out.ext hext).far (p := ⟨gt, q, none⟩) (by simp only; omega) (.slice (some ⟨wr.heap.size, 0, none⟩) nn nn));replace HX := hid ((HX.out.trans hext).setCell (p := ⟨gt, q, none⟩) (by simp only; omega) (.slice (some ⟨wr.heap.size, 0, none⟩) nn nn));have hsz5 : wr.heap.size < (w4.setCell ⟨gt, q, none⟩ (.slice (some ⟨wr.heap.size, 0, none⟩) nn nn)).heap.size := by simpa using hsz
   go_upto_region 7 with (fail)
   clear hput hgg hkp HO HT HR hext hown hsz HOX hfr hxe hs2;generalize w4.setCell _ _ = w5 at HT5 HA5 HR5 HO5 HP HX hsz5 |-;have HNE := hid hne1;clear hne1;generalize wr.heap.size = ga at HA5 HO5 hsz5 hgr2 hgt2 hplr HNL |-
   go_wp2_with fail
   go_loopg [8] n (fun f iv wz => ∃ k : Nat, f = n - k /\ k <= n /\ iv = .int .i64 (k : Int) /\ Hid (RowI w.heap.size wz ga nn nn (fun j => cJ (ms.take k) q j)) /\ Hid (RowI w.heap.size wz gr nn nn (fun i => if i < q then cK ms i else if i = q then cK (ms.take k) q else 0)) /\ Hid (Keeps [ga, gr] w5 wz) /\ Hid (Ext w wz))
   case atStart => exact ⟨0, rfl, by omega, rfl, hid (HA5.out.congr (fun j _ => by simp [cJ])), hid (HR5.out.congr (fun i _ => by simp [cK])), hid (Keeps.refl _ _), HX⟩
   case round =>
    clear HA5 HR5 HX;obtain ⟨k, rfl, hk, rfl, HA, HR, HK, HX⟩ := hrel;have hpz := HP.out.keeps HK.out (fun h => by simp at h; omega);have p1 := hpz.cell 1;simp only [List.getElem?_toArray, List.getElem?_cons_zero, List.getElem?_cons_succ] at p1;clear hpz
    by_cases hkl : k < n
    .
     have q2 : decide (k < n) = true := decide_eq_true hkl;have q2b : decide ((k : Int) < (n : Int)) = true := decide_eq_true (by omega);obtain ⟨g, o, mt, rfl, hm, hmem, x0, x1, x2, x3, x4, x5, x6⟩ := (H.out.ext HX.out).get hkl;have hvm := HVM.out mt hmem;have HTK := hid (dz hm);have HCB := hid (fun u => bE hvm u);have HTN := hid (fun i j => nE hvm i j);have HTR := hid (fun i => nF hvm i);have HTD := hid (kg hvm);have HBN := hid (fun i j => iL HVM.out k i j (by omega));have HBR := hid (fun i => iM HVM.out k i (by omega));have HVK := hid hvm;have hw1 := hvm.w1;have hw2 := hvm.w2;obtain ⟨⟨a, b, x, y, z, d, ww⟩, hmm⟩ : ∃ m', mt = m' := ⟨_, rfl⟩;have hmw : mt.w = ww := by rw [hmm]
     have hmd : mt.d = d := by rw [hmm]
     rw [hmw] at HTN HTR HTD hw1 hw2;rw [hmd] at HTR HTD;rw [hmm] at x0 x1 x2 x3 x4 x5 x6;simp only at x0 x1 x2 x3 x4 x5 x6;have HMW := hid hmw;have HMD := hid hmd;clear hmw hmd;have HMM := hid hmm;clear hm hmem hvm hmm
     go_upto_region 11 with (fail)
     have hszz := HK.out.size;have hXa : Ext wr (wr.alloc (.cells #[.int .i64 (a), .int .i64 (b), .int .i64 (x), .int .i64 (y), .int .i64 (z), .int .i64 (d), .int .i64 (ww)] 90)) := (Ext.refl _).alloc _;have hB := Blk.new wr 90 #[.int .i64 (a), .int .i64 (b), .int .i64 (x), .int .i64 (y), .int .i64 (z), .int .i64 (d), .int .i64 (ww)];replace HX := hid (HX.out.trans hXa);replace HA := hid (HA.out.ext hXa);replace HR := hid (HR.out.ext hXa);replace HK := hid (HK.out.trans (.of_ext hXa _));have hgm : w5.heap.size <= wr.heap.size := hszz;clear hXa x0 x1 x2 x3 x4 x5 x6 p1 hszz;generalize wr.heap.size = gm at hB hgm |-;generalize wr.alloc _ = w6 at hB HX HA HR HK |-;have HM := hid hB;clear hB;have y0 := HM.out.cell 0;have y1 := HM.out.cell 1;have y2 := HM.out.cell 2;have y3 := HM.out.cell 3;have y4 := HM.out.cell 4;have y5 := HM.out.cell 5;have y6 := HM.out.cell 6;simp only [List.getElem?_toArray, List.getElem?_cons_zero, List.getElem?_cons_succ] at y0 y1 y2 y3 y4 y5 y6
     go_wp2_with fail
     have hco := eG (m := mt) (u := q) (S := S) (w := w6) (by omega) HVK.out;rw [HMM.out] at hco;unfold Mt.val at hco;simp only at hco;rw [<- HMM.out] at hco;refine hco.mono ?_;clear hco;rintro e w7 ⟨rfl, hX⟩;clear y0 y1 y2 y3 y4 y5 y6;replace HX := hid (HX.out.trans hX);replace HA := hid (HA.out.ext hX);replace HR := hid (HR.out.ext hX);replace HK := hid (HK.out.trans (.of_ext hX _));replace HM := hid (HM.out.ext hX);clear hX;have xe := HR.out.cell hql;have fe := HR.out.free q;rw [if_neg (by omega), if_pos rfl] at xe;have y0 := HM.out.cell 0;have y1 := HM.out.cell 1;have y2 := HM.out.cell 2;have y3 := HM.out.cell 3;have y4 := HM.out.cell 4;have y5 := HM.out.cell 5;have y6 := HM.out.cell 6;simp only [List.getElem?_toArray, List.getElem?_cons_zero, List.getElem?_cons_succ] at y0 y1 y2 y3 y4 y5 y6;have b1 := HBR.out q;obtain ⟨b2, b3⟩ := HTR.out q;have qx1 : IntKind.i64.wrap (ww * d) = ww * d := IntWalk.i64_in _ (by have := HTD.out; omega);have qx2 : IntKind.i64.wrap (ww * d * aG mt q) = ww * d * aG mt q := IntWalk.i64_in _ (by omega);have qx3 : IntKind.i64.wrap (cK (ms.take k) q - ww * d * aG mt q) = cK (ms.take k) q - ww * d * aG mt q := IntWalk.i64_in _ (by omega)
     go_upto_region 12 with (fail)
     refine qI gr nn q gm _ ww d _ w7 xe y6 y5 hql qx1 qx2 qx3 _ _ (by simp) ⟨rfl, rfl, rfl, rfl, trivial⟩ ?_;rintro W hX;simp only [EndK, ae, Try.f44, ab, Option.bind_some, Nat.reduceBEq, if_true, if_false, Bool.false_eq_true, Option.getD_some, List.drop_succ_cons, List.drop_zero];simp only [Act.put, List.setIfInBounds_toArray, List.set_cons_succ, List.set_cons_zero];replace HX := hid (HX.out.trans hX);replace HA := hid (HA.out.ext hX);replace HR := hid (HR.out.ext hX);replace HK := hid (HK.out.trans (.of_ext hX _));replace HM := hid (HM.out.ext hX);have xe2 := hX.cell xe;have fe2 := HR.out.free q;clear hX fe xe b1 b2 b3 qx1 qx2 qx3 y0 y1 y2 y3 y4 y5 y6;have hP := HR.out.put hql (cK (ms.take k) q - ww * d * aG mt q);have hKR : Keeps [gr] W (W.setCell ⟨gr, q, none⟩ (.int .i64 (cK (ms.take k) q - ww * d * aG mt q))) := (Keeps.refl [gr] W).setCell (.inl (by simp)) _;have HA8 := hid (HA.out.keeps hKR (fun h => by simp at h; omega));have HM8 := hid (HM.out.keeps hKR (fun h => by simp at h; omega));have HK8 := hid (HK.out.trans (hKR.mono (M := [ga, gr]) (fun g hg _ => by simp at hg; subst hg; simp)));have hsw := HX.out.size;have HX8 := hid (hKR.ext HX.out (fun g hg => by simp at hg; subst hg; omega))
     have HR8 : Hid (RowI w.heap.size (W.setCell ⟨gr, q, none⟩ (.int .i64 (cK (ms.take k) q - ww * d * aG mt q))) gr nn nn (fun i => if i < q then cK ms i else if i = q then cK (ms.take (k + 1)) q else 0)) := hid (hP.congr (fun i _ => by
      rw [HTK.out, iK, HMW.out, HMD.out]
      by_cases h1 : i = q
      .
       rw [if_pos h1, if_neg (by omega), if_pos h1]
      .
       simp only [if_neg h1]))
     clear hP hKR HA HR HK HX HM
     go_upto_region 13 with (fail)
     clear xe2 fe2;generalize W.setCell _ _ = w8 at HA8 HM8 HK8 HX8 HR8 |-
     go_wp2_with fail
     go_loopg [11] nn (fun f iv wy => ∃ r : Nat, f = nn - r /\ r <= nn /\ iv = .int .i64 (r : Int) /\ Hid (RowI w.heap.size wy ga nn nn (fun j => cJ (ms.take k) q j + if j < r then ww * aG mt q * aG mt j else 0)) /\ Hid (Keeps [ga] w8 wy))
     case atStart => exact ⟨0, rfl, by omega, rfl, hid (HA8.out.congr (fun j _ => by rw [if_neg (by omega), Int.add_zero])), hid (Keeps.refl _ _)⟩
     case round =>
      clear HA8;obtain ⟨r, rfl, hr, rfl, HA, HKA⟩ := hrel
      by_cases hrl : r < nn
      .
       have q5 : decide (r < nn) = true := decide_eq_true hrl;have q5b : decide ((r : Int) < (nn : Int)) = true := decide_eq_true (by omega);have hm8 := HM8.out.keeps HKA.out (fun h => by simp at h; omega);have hca : w5.cell? ⟨gt, q, none⟩ = some (.slice (some ⟨ga, 0, none⟩) nn nn) := af HO5.out (by rw [List.append_assoc, List.getElem?_append_right (by rw [HVL.out]; omega), HVL.out, Nat.sub_self]; rfl);have tca := eT HKA.out (eT HK8.out hca (fun h => by simp at h; omega)) (fun h => by simp at h; omega);clear hca;have HMZ := hid hm8;clear hm8;have z0 := HMZ.out.cell 0;have z1 := HMZ.out.cell 1;have z2 := HMZ.out.cell 2;have z3 := HMZ.out.cell 3;have z4 := HMZ.out.cell 4;have z5 := HMZ.out.cell 5;have z6 := HMZ.out.cell 6;simp only [List.getElem?_toArray, List.getElem?_cons_zero, List.getElem?_cons_succ] at z0 z1 z2 z3 z4 z5 z6;have xe := HA.out.cell hrl;have fe := HA.out.free r;rw [if_neg (by omega), Int.add_zero] at xe;have b1 := HBN.out q r;obtain ⟨b2, b3⟩ := HTN.out q r;have e1 := HCB.out q;have qx1 : IntKind.i64.wrap (ww * aG mt q) = ww * aG mt q := IntWalk.i64_in _ (by have := bQ (A := 1000) (B := 100) (show -1000 <= ww by omega) hw2 e1.1 e1.2; omega);have qx2 : IntKind.i64.wrap (ww * aG mt q * aG mt r) = ww * aG mt q * aG mt r := IntWalk.i64_in _ (by omega);have qx3 : IntKind.i64.wrap (cJ (ms.take k) q r + ww * aG mt q * aG mt r) = cJ (ms.take k) q r + ww * aG mt q * aG mt r := IntWalk.i64_in _ (by omega)
       go_upto_region 16 with (fail)
       refine qJ gt nn q r ga gm S _ ww (aG mt q) (aG mt r) a b x y z d wr tca xe z0 z1 z2 z3 z4 z5 z6 hql hrl (by omega) (by rw [<- HMM.out]; exact HVK.out) (by rw [<- HMM.out]) qx1 qx2 qx3 _ _ (by simp) ⟨rfl, rfl, rfl, rfl, rfl, trivial⟩ ?_;rintro W2 hX;simp only [EndK, ae, Try.f44, ab, Option.bind_some, Nat.reduceBEq, if_true, if_false, Bool.false_eq_true, Option.getD_some, List.drop_succ_cons, List.drop_zero];simp only [Act.put, List.setIfInBounds_toArray, List.set_cons_succ, List.set_cons_zero];replace HA := hid (HA.out.ext hX);replace HKA := hid (HKA.out.trans (.of_ext hX _));have xe2 := hX.cell xe;have fe2 := HA.out.free r;clear hX fe xe b1 b2 b3 e1 qx1 qx2 qx3 z0 z1 z2 z3 z4 z5 z6 HMZ tca;have hP := HA.out.put hrl (cJ (ms.take k) q r + ww * aG mt q * aG mt r);have HKP : Hid (Keeps [ga] w8 (W2.setCell ⟨ga, r, none⟩ (.int .i64 (cJ (ms.take k) q r + ww * aG mt q * aG mt r)))) := hid (HKA.out.trans ((Keeps.refl [ga] W2).setCell (.inl (by simp)) _))
       have HPP : Hid (RowI w.heap.size (W2.setCell ⟨ga, r, none⟩ (.int .i64 (cJ (ms.take k) q r + ww * aG mt q * aG mt r))) ga nn nn (fun j => cJ (ms.take k) q j + if j < r + 1 then ww * aG mt q * aG mt j else 0)) := hid (hP.congr (fun j _ => by
        by_cases h1 : j = r
        .
         rw [if_pos h1, if_pos (by omega), h1]
        .
         rw [if_neg h1]
         by_cases h2 : j < r
         .
          rw [if_pos h2, if_pos (by omega)]
         .
          rw [if_neg h2, if_neg (by omega)]))
       clear hP HA;go_wp2;go_roundg (nn - (r + 1))
       case rel => exact ⟨r + 1, rfl, by omega, by go_num, HPP, HKP⟩
       case measure => omega
      .
       obtain rfl : r = nn := by omega
       have q5 : decide (r < r) = false := by simp
       have q5b : decide ((r : Int) < (r : Int)) = false := by simp
       have hsy := HX8.out.size;have HX9 := hid (HKA.out.ext HX8.out (fun g hg => by simp at hg; subst hg; omega));have HR9 := hid (HR8.out.keeps HKA.out (fun h => by simp at h; omega));have HK9 := hid (HK8.out.trans (HKA.out.mono (M := [ga, gr]) (fun g hg _ => by simp at hg; subst hg; simp)));have HA9 : Hid (RowI w.heap.size wr ga r r (fun j => cJ (ms.take (k + 1)) q j)) := hid (HA.out.congr (fun j hj => by rw [if_pos hj, HTK.out, iJ, HMW.out]));clear HKA HA;go_wp2;go_roundg (n - (k + 1))
       case rel => exact ⟨k + 1, rfl, by omega, by go_num, HA9, HR9, HK9, HX9⟩
       case measure => omega
    .
     obtain rfl : k = n := by omega
     have q2 : decide (k < k) = false := by simp
     have q2b : decide ((k : Int) < (k : Int)) = false := by simp
     have HTK : Hid (ms.take k = ms) := hid (List.take_of_length_le (by have := HL.out; omega));have hszz := HK.out.size;have ho5 := aj HO5.out HK.out (fun g hg hl => by simp [Value.ownBlock] at hg; subst hg; simp at hl; omega)
     have ht5 : Tbl 1 dk 3 w.heap.size wr q nn vs (cJ ms) := by
      obtain ⟨hl, rows, hr, hn⟩ := HT5.out
      exact ⟨hl, rows, hr.keeps HK.out (fun v hv g hg hl2 => by
       obtain ⟨g', rfl, h1, h2, h3⟩ := HNL.out v hv;simp [Value.ownBlock] at hg;subst hg;simp at hl2;omega), fun i r hi => (hn i r hi).any _⟩
     obtain ⟨us, hou, hnu⟩ := HA.out
     have hpush := ht5.push hou hnu (fun u hu e => by
      obtain ⟨g', rfl, h1, h2, h3⟩ := HNL.out u hu;simp [Value.ownBlock] at e;omega)
     have HT6 : Hid (Tbl 1 dk 3 w.heap.size wr (q + 1) nn (vs ++ [.slice (some ⟨ga, 0, none⟩) nn nn]) (cJ ms)) := hid (hpush.congr (fun i j _ _ => by
      by_cases e : i = q
      .
       rw [if_pos e, e, HTK.out]
      .
       rw [if_neg e]))
     have HO6 := hid ho5;have HP6 := hid (HP.out.keeps HK.out (fun h => by simp at h; omega));clear ho5 ht5 hou hnu hpush;go_wp2;go_roundg (nn - (q + 1))
     case rel =>
      refine ⟨q + 1, _, rfl, by omega, by go_num, HO6, HT6, hid (HR.out.congr (fun i _ => ?_)), HP6, HX, hid (fun v hv => ?_), by omega, by omega⟩
      .
       rw [HTK.out]
       by_cases h1 : i < q
       .
        rw [if_pos h1, if_pos (by omega)]
       .
        rw [if_neg h1]
        by_cases h2 : i = q
        .
         rw [if_pos h2, if_pos (by omega), h2]
        .
         rw [if_neg h2, if_neg (by omega)]
      .
       rcases List.mem_append.1 hv with h | h
       .
        obtain ⟨g', h1, h2, h3, h4⟩ := HNL.out v h;exact ⟨g', h1, h2, by omega, h4⟩
       .
        simp at h;subst h;exact ⟨ga, rfl, by omega, by omega, by omega⟩
     case measure => omega
  .
   obtain rfl : nn = q := by omega
   have q1 : decide (nn < nn) = false := by simp
   have q1b : decide ((nn : Int) < (nn : Int)) = false := by simp
   have hT0 : TabG 1 dk 3 61 w.heap.size wr gt nn nn nn vs (cJ ms) := ⟨by have := HO.out; rw [Nat.sub_self, List.replicate_zero, List.append_nil] at this; exact this, HT.out, .inl rfl⟩;have HT0 := hid hT0;have HR0 : Hid (RowI w.heap.size wr gr nn nn (cK ms)) := hid (HR.out.congr (fun i hi => by rw [if_pos hi]))
   have HGR : Hid (gr ∉ br gt vs) := hid (fun h => by
    rcases List.mem_cons.1 h with h | h
    .
     omega
    .
     obtain ⟨v, hv, hvg⟩ := List.mem_filterMap.1 h;obtain ⟨g', rfl, h1, h2, h3⟩ := HNL.out v hv;simp [Value.ownBlock] at hvg;omega)
   clear hT0;go_wp2
   go_ret2
   exact ⟨gt, gr, vs, rfl, HT0.out, HR0.out, HGR.out, fun v hv => by obtain ⟨g, h1, _⟩ := HNL.out v hv; exact ⟨g, h1⟩, HX.out⟩
end Go.Proofs.Ytikhlcgnlbinfaa
