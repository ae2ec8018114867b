/- Lemmas of the proof that follows (Adjusts, part 6): walks of functions by contract, and plain lemmas. Conditions: none. -/
import Derived.Test.YtikhlcgnlbinfaaAdjustsE
set_option maxRecDepth 100000
set_option maxHeartbeats 2000000
namespace Go.Proofs.Ytikhlcgnlbinfaa
open Lib (hid)
open Go.RowKit
/-- A rational number of the reference. -/
def QZ (w : World) (v : Value) (q : Rat) : Prop := ∃ b A l c B m k, v = .agg #[.bool b, .slice A l c, .slice B m k] /\ b = decide (q.num < 0) /\ Z16 w (.slice A l c) q.num.natAbs /\ Z16 w (.slice B m k) q.den
theorem QZ.ext {w w' : World} {v : Value} {q : Rat} (h : QZ w v q) (he : Ext w w') : QZ w' v q := by
 obtain ⟨b, A, l, c, B, m, k, h0, h1, h2, h3⟩ := h;exact ⟨b, A, l, c, B, m, k, h0, h1, h2.ext he, h3.ext he⟩
theorem QZ.open {w : World} {v : Value} {q : Rat} (h : QZ w v q) : ∃ b A l c B m k, v = .agg #[.bool b, .slice A l c, .slice B m k] := by
 obtain ⟨b, A, l, c, B, m, k, h0, _⟩ := h;exact ⟨b, A, l, c, B, m, k, h0⟩
section
variable {w : World} {b : Bool} {A B : Option Addr} {l c m k : Nat} {q : Rat}
theorem QZ.num (h : QZ w (.agg #[.bool b, .slice A l c, .slice B m k]) q) : IntZ w (.agg #[.bool b, .slice A l c]) q.num := by
 obtain ⟨b', A', l', c', B', m', k', e, h1, h2, h3⟩ := h;simp only [Value.agg.injEq, Array.mk.injEq, List.cons.injEq, Value.bool.injEq, Value.slice.injEq, and_true] at e;obtain ⟨rfl, ⟨rfl, rfl, rfl⟩, rfl, rfl, rfl⟩ := e;exact ⟨_, _, _, by rw [h1], h2⟩
theorem QZ.sgn (h : QZ w (.agg #[.bool b, .slice A l c, .slice B m k]) q) : b = decide (q.num < 0) := by
 obtain ⟨b', A', l', c', B', m', k', e, h1, h2, h3⟩ := h;simp only [Value.agg.injEq, Array.mk.injEq, List.cons.injEq, Value.bool.injEq, Value.slice.injEq, and_true] at e;rw [e.1, h1]
theorem QZ.nat (h : QZ w (.agg #[.bool b, .slice A l c, .slice B m k]) q) : Z16 w (.slice A l c) q.num.natAbs := by
 obtain ⟨b', A', l', c', B', m', k', e, h1, h2, h3⟩ := h;simp only [Value.agg.injEq, Array.mk.injEq, List.cons.injEq, Value.bool.injEq, Value.slice.injEq, and_true] at e;obtain ⟨rfl, ⟨rfl, rfl, rfl⟩, rfl, rfl, rfl⟩ := e;exact h2
theorem QZ.den (h : QZ w (.agg #[.bool b, .slice A l c, .slice B m k]) q) : Z16 w (.slice B m k) q.den := by
 obtain ⟨b', A', l', c', B', m', k', e, h1, h2, h3⟩ := h;simp only [Value.agg.injEq, Array.mk.injEq, List.cons.injEq, Value.bool.injEq, Value.slice.injEq, and_true] at e;obtain ⟨rfl, ⟨rfl, rfl, rfl⟩, rfl, rfl, rfl⟩ := e;exact h3
theorem QZ.past (h : QZ w (.agg #[.bool b, .slice A l c, .slice B m k]) q) {g : Nat} (hN : NoInts w g) : QZ (((w.setCell ⟨g, 0, none⟩ (.bool b)).setCell ⟨g, 1, none⟩ (.slice A l c)).setCell ⟨g, 2, none⟩ (.slice B m k)) (.agg #[.bool b, .slice A l c, .slice B m k]) q :=
 ⟨_, _, _, _, _, _, _, rfl, h.sgn, h.nat.box3 hN _ _ _ _ _ _ _, h.den.box3 hN _ _ _ _ _ _ _⟩
end
/-- What a call returns that makes a rational number. -/
def RetQz (w : World) (q : Rat) (e : Ending) (w' : World) : Prop := ∃ v, e = .returned v /\ QZ w' v q /\ Ext w w'
/-- How many limbs a rational number has. -/
def FitR (q : Rat) (L : Nat) : Prop := Fit 65536 q.num.natAbs L /\ Fit 65536 q.den L
theorem FitR.mono {q : Rat} {L M : Nat} (h : FitR q L) (k : L <= M) : FitR q M := ⟨h.1.mono (by omega) k, h.2.mono (by omega) k⟩
theorem fE {s : Bool} {n d L : Nat} (hd : 0 < d) (h1 : Fit 65536 n L) (h2 : Fit 65536 d L) : FitR (ax s n d) L := by
 refine ⟨?_, ?_⟩
 .
  rw [(bm s n d hd).2]; exact h1.le (Nat.div_le_self _ _)
 .
  rw [(cP s n d hd).2]; exact h2.le (Nat.div_le_self _ _)
theorem RetQz.of {w : World} {q r : Rat} (h : q = r) : ∀ e w', RetQz w q e w' -> RetQz w r e w' := by rintro e w' ⟨v, h1, h2, h3⟩; exact ⟨v, h1, h ▸ h2, h3⟩
theorem sV (q r : Rat) : ax (decide (q.num * (r.den : Int) + r.num * (q.den : Int) < 0)) (q.num * (r.den : Int) + r.num * (q.den : Int)).natAbs (q.den * r.den) = q + r := by
 unfold ax; rw [em]; exact (Rat.add_def' q r).symm
theorem sW (q r : Rat) : ax (decide (q.num * r.num < 0)) (q.num * r.num).natAbs (q.den * r.den) = q * r := by
 unfold ax; rw [em]; exact (Rat.mul_def' q r).symm
theorem gW {n m a b L : Nat} (h : Fit 65536 n a) (k : Fit 65536 m b) (hL : a + b <= L) : Fit 65536 (n * m) L := (h.mul (by omega) k).mono (by omega) hL
theorem bR {x y : Int} {a b L : Nat} (h : Fit 65536 x.natAbs a) (k : Fit 65536 y.natAbs b) (hL : a + b <= L) : Fit 65536 (x * y).natAbs L := by
 rw [Int.natAbs_mul]; exact gW h k hL
theorem iP {x y : Int} {a L : Nat} (h : Fit 65536 x.natAbs a) (k : Fit 65536 y.natAbs a) (hL : a + 1 <= L) : Fit 65536 (x + y).natAbs L :=
 ((h.add (by omega) k).le (Int.natAbs_add_le x y)).mono (by omega) hL
theorem oh {q : Rat} {L : Nat} (h : FitR q L) : FitR (-q) L := ⟨by rw [Rat.neg_num, Int.natAbs_neg]; exact h.1, by rw [Rat.neg_den]; exact h.2⟩
theorem oi (s1 : Bool) (A0 A1 : Option Addr) (l0 c0 l1 c1 n0 n1 L : Nat) (w : World) (hx : Z16 w (.slice A0 l0 c0) n0) (hy : Z16 w (.slice A1 l1 c1) n1) (fn : Fit 65536 n0 L) (fm : Fit 65536 n1 L) (hL : L <= 400000) (hd : 0 < n1)  :
  Calls Try.prog 112 #[.agg #[.bool false, .slice A0 l0 c0], .agg #[.bool s1, .slice A1 l1 c1]] w (RetQz w (ax false n0 n1)) := by
 have HXX := hid hx;have HYY := hid hy;have HFN := hid fn;have HFM := hid fm;have HD := hid hd;have hg : 0 < Nat.gcd n0 n1 := Nat.gcd_pos_of_pos_right n0 hd
 have hneg : Hid (decide ((ax false n0 n1).num < 0) = false) := by
  show _ = _;rw [(bm false n0 n1 hd).1];rfl
 have HAB := hid (bm false n0 n1 hd).2;have HDN := hid (cP false n0 n1 hd).2;obtain ⟨g, hge⟩ : ∃ g, Nat.gcd n0 n1 = g := ⟨_, rfl⟩;obtain ⟨q, hq⟩ : ∃ q, n0 / Nat.gcd n0 n1 = q := ⟨_, rfl⟩;obtain ⟨r, hr⟩ : ∃ r, n1 / Nat.gcd n0 n1 = r := ⟨_, rfl⟩;rw [hq] at HAB;rw [hr] at HDN;rw [hge] at hq hr hg;have HGE := hid hge;have HQ := hid hq;have HR := hid hr;have HGP := hid hg;clear hx hy fn fm hd hge hq hr hg;have hXe : Ext w (((w.alloc (.cells #[.bool false, .slice A0 l0 c0] 63)).alloc (.cells #[.bool s1, .slice A1 l1 c1] 63)).alloc (.cells #[.bool false, .slice none 0 0, .slice none 0 0] 65)) := ((((Ext.refl w).alloc _).alloc _).alloc _);have kA : Blk (((w.alloc (.cells #[.bool false, .slice A0 l0 c0] 63)).alloc (.cells #[.bool s1, .slice A1 l1 c1] 63)).alloc (.cells #[.bool false, .slice none 0 0, .slice none 0 0] 65)) w.heap.size 63 #[.bool false, .slice A0 l0 c0] := Blk.alloc (Blk.alloc (Blk.at_ (by simp)) _) _;have kB : Blk (((w.alloc (.cells #[.bool false, .slice A0 l0 c0] 63)).alloc (.cells #[.bool s1, .slice A1 l1 c1] 63)).alloc (.cells #[.bool false, .slice none 0 0, .slice none 0 0] 65)) (w.heap.size + 1) 63 #[.bool s1, .slice A1 l1 c1] := Blk.alloc (Blk.at_ (by simp)) _;have kR : Blk (((w.alloc (.cells #[.bool false, .slice A0 l0 c0] 63)).alloc (.cells #[.bool s1, .slice A1 l1 c1] 63)).alloc (.cells #[.bool false, .slice none 0 0, .slice none 0 0] 65)) (w.heap.size + 2) 65 #[.bool false, .slice none 0 0, .slice none 0 0] := Blk.at_ (by simp);go_enter Try.func112, Try.ntmps112
 go_wp2_with fail
 generalize (((w.alloc _).alloc _).alloc _) = w1 at hXe kA kB kR |-;have HX := hid hXe;clear hXe;have KA := hid kA;clear kA;have KB := hid kB;clear kB;have KR := hid kR;clear kR;replace HXX := hid (HXX.out.ext HX.out);replace HYY := hid (HYY.out.ext HX.out);have cA0 : w1.cell? ⟨w.heap.size, 0, none⟩ = some (.bool false) := KA.out.cell 0;have cA1 : w1.cell? ⟨w.heap.size, 1, none⟩ = some (.slice A0 l0 c0) := KA.out.cell 1;have cB0 : w1.cell? ⟨(w.heap.size + 1), 0, none⟩ = some (.bool s1) := KB.out.cell 0;have cB1 : w1.cell? ⟨(w.heap.size + 1), 1, none⟩ = some (.slice A1 l1 c1) := KB.out.cell 1
 go_wp2_with fail
 clear cA0 cA1 cB0 cB1;refine (eG _ _ n0 n1 L _ HXX.out HYY.out HFN.out HFM.out hL).mono ?_;rw [HGE.out];rintro e w2 ⟨v6, rfl, h6, hX⟩;replace hX : Ext w1 w2 := by with_reducible exact hX
 replace HX := hid (HX.out.trans hX);replace HXX := hid (HXX.out.ext hX);replace HYY := hid (HYY.out.ext hX);replace KA := hid (KA.out.ext hX);replace KB := hid (KB.out.ext hX);replace KR := hid (KR.out.ext hX);clear hX;have HG := hid h6;clear h6;have cA0 : w2.cell? ⟨w.heap.size, 0, none⟩ = some (.bool false) := KA.out.cell 0;have cA1 : w2.cell? ⟨w.heap.size, 1, none⟩ = some (.slice A0 l0 c0) := KA.out.cell 1;have cB0 : w2.cell? ⟨(w.heap.size + 1), 0, none⟩ = some (.bool s1) := KB.out.cell 0;have cB1 : w2.cell? ⟨(w.heap.size + 1), 1, none⟩ = some (.slice A1 l1 c1) := KB.out.cell 1
 go_wp2_with fail
 clear cA0 cA1 cB0 cB1;refine (bF _ _ n0 g L _ HXX.out HG.out HFN.out hL HGP.out).mono ?_;rw [HQ.out];rintro e w3 ⟨v7, v7', rfl, h7, h7', hX⟩;replace hX : Ext w2 w3 := by with_reducible exact hX
 replace HX := hid (HX.out.trans hX);replace HXX := hid (HXX.out.ext hX);replace HYY := hid (HYY.out.ext hX);replace HG := hid (HG.out.ext hX);replace KA := hid (KA.out.ext hX);replace KB := hid (KB.out.ext hX);replace KR := hid (KR.out.ext hX);clear hX;obtain ⟨A7, l7, c7, rfl, hv7, hz7⟩ := Z16.open h7;have HV := hid hv7;clear h7 h7' hv7;clear hz7;have cA0 : w3.cell? ⟨w.heap.size, 0, none⟩ = some (.bool false) := KA.out.cell 0;have cA1 : w3.cell? ⟨w.heap.size, 1, none⟩ = some (.slice A0 l0 c0) := KA.out.cell 1;have cB0 : w3.cell? ⟨(w.heap.size + 1), 0, none⟩ = some (.bool s1) := KB.out.cell 0;have cB1 : w3.cell? ⟨(w.heap.size + 1), 1, none⟩ = some (.slice A1 l1 c1) := KB.out.cell 1
 go_wp2_with fail
 clear cA0 cA1 cB0 cB1;refine (bF _ _ n1 g L _ HYY.out HG.out HFM.out hL HGP.out).mono ?_;rw [HR.out];rintro e w4 ⟨v8, v8', rfl, h8, h8', hX⟩;replace hX : Ext w3 w4 := by with_reducible exact hX
 replace HX := hid (HX.out.trans hX);replace HXX := hid (HXX.out.ext hX);replace HYY := hid (HYY.out.ext hX);replace HG := hid (HG.out.ext hX);replace HV := hid (HV.out.ext hX);replace KA := hid (KA.out.ext hX);replace KB := hid (KB.out.ext hX);replace KR := hid (KR.out.ext hX);clear hX;obtain ⟨A8, l8, c8, rfl, hv8, _⟩ := Z16.open h8;have HW := hid hv8;clear h8 h8' hv8;have HNI := hid (NoInts.three KR.out);have cA0 : w4.cell? ⟨w.heap.size, 0, none⟩ = some (.bool false) := KA.out.cell 0;have cA1 : w4.cell? ⟨w.heap.size, 1, none⟩ = some (.slice A0 l0 c0) := KA.out.cell 1;have cR0 : w4.cell? ⟨(w.heap.size + 2), 0, none⟩ = some (.bool false) := KR.out.cell 0;have fR0 : w4.frozen? ⟨(w.heap.size + 2), 0, none⟩ = false := KR.out.free 0;have cR1 : w4.cell? ⟨(w.heap.size + 2), 1, none⟩ = some (.slice none 0 0) := KR.out.cell 1;have fR1 : w4.frozen? ⟨(w.heap.size + 2), 1, none⟩ = false := KR.out.free 1;have cR2 : w4.cell? ⟨(w.heap.size + 2), 2, none⟩ = some (.slice none 0 0) := KR.out.cell 2;have fR2 : w4.frozen? ⟨(w.heap.size + 2), 2, none⟩ = false := KR.out.free 2;go_wp2;refine bodyPost_ret (v := .agg #[.bool false, .slice A7 l7 c7, .slice A8 l8 c8]) (by simp [results, Try.results112, go_sem, *]) rfl ?_;exact ⟨_, rfl, ⟨_, _, _, _, _, _, _, rfl, hneg.out.symm, by rw [HAB.out]; exact HV.out.box3 HNI.out _ _ _ _ _ _ _, by rw [HDN.out]; exact HW.out.box3 HNI.out _ _ _ _ _ _ _⟩, Ext.boxed HX.out (by omega) _ _ _⟩
theorem oo (s1 : Bool) (A0 A1 : Option Addr) (l0 c0 l1 c1 n0 n1 L : Nat) (w : World) (hx : Z16 w (.slice A0 l0 c0) n0) (hy : Z16 w (.slice A1 l1 c1) n1) (fn : Fit 65536 n0 L) (fm : Fit 65536 n1 L) (hL : L <= 400000) (hd : 0 < n1) (hn : 0 < n0) :
  Calls Try.prog 112 #[.agg #[.bool true, .slice A0 l0 c0], .agg #[.bool s1, .slice A1 l1 c1]] w (RetQz w (ax true n0 n1)) := by
 have HXX := hid hx;have HYY := hid hy;have HFN := hid fn;have HFM := hid fm;have HD := hid hd;have hg : 0 < Nat.gcd n0 n1 := Nat.gcd_pos_of_pos_right n0 hd
 have hneg : Hid (decide ((ax true n0 n1).num < 0) = true) := by
  show _ = _;rw [(bm true n0 n1 hd).1];exact jT _ (by omega)
 have HAB := hid (bm true n0 n1 hd).2;have HDN := hid (cP true n0 n1 hd).2;have hq0 : 0 < n0 / Nat.gcd n0 n1 := Nat.div_pos (Nat.le_of_dvd hn (Nat.gcd_dvd_left _ _)) hg;obtain ⟨g, hge⟩ : ∃ g, Nat.gcd n0 n1 = g := ⟨_, rfl⟩;obtain ⟨q, hq⟩ : ∃ q, n0 / Nat.gcd n0 n1 = q := ⟨_, rfl⟩;obtain ⟨r, hr⟩ : ∃ r, n1 / Nat.gcd n0 n1 = r := ⟨_, rfl⟩;rw [hq] at HAB;rw [hq] at hq0;rw [hr] at HDN;rw [hge] at hq hr hg;have HGE := hid hge;have HQ := hid hq;have HR := hid hr;have HGP := hid hg;clear hx hy fn fm hd hge hq hr hg;clear hn;have hXe : Ext w (((w.alloc (.cells #[.bool true, .slice A0 l0 c0] 63)).alloc (.cells #[.bool s1, .slice A1 l1 c1] 63)).alloc (.cells #[.bool false, .slice none 0 0, .slice none 0 0] 65)) := ((((Ext.refl w).alloc _).alloc _).alloc _);have kA : Blk (((w.alloc (.cells #[.bool true, .slice A0 l0 c0] 63)).alloc (.cells #[.bool s1, .slice A1 l1 c1] 63)).alloc (.cells #[.bool false, .slice none 0 0, .slice none 0 0] 65)) w.heap.size 63 #[.bool true, .slice A0 l0 c0] := Blk.alloc (Blk.alloc (Blk.at_ (by simp)) _) _;have kB : Blk (((w.alloc (.cells #[.bool true, .slice A0 l0 c0] 63)).alloc (.cells #[.bool s1, .slice A1 l1 c1] 63)).alloc (.cells #[.bool false, .slice none 0 0, .slice none 0 0] 65)) (w.heap.size + 1) 63 #[.bool s1, .slice A1 l1 c1] := Blk.alloc (Blk.at_ (by simp)) _;have kR : Blk (((w.alloc (.cells #[.bool true, .slice A0 l0 c0] 63)).alloc (.cells #[.bool s1, .slice A1 l1 c1] 63)).alloc (.cells #[.bool false, .slice none 0 0, .slice none 0 0] 65)) (w.heap.size + 2) 65 #[.bool false, .slice none 0 0, .slice none 0 0] := Blk.at_ (by simp);go_enter Try.func112, Try.ntmps112
 go_wp2_with fail
 generalize (((w.alloc _).alloc _).alloc _) = w1 at hXe kA kB kR |-;have HX := hid hXe;clear hXe;have KA := hid kA;clear kA;have KB := hid kB;clear kB;have KR := hid kR;clear kR;replace HXX := hid (HXX.out.ext HX.out);replace HYY := hid (HYY.out.ext HX.out);have cA0 : w1.cell? ⟨w.heap.size, 0, none⟩ = some (.bool true) := KA.out.cell 0;have cA1 : w1.cell? ⟨w.heap.size, 1, none⟩ = some (.slice A0 l0 c0) := KA.out.cell 1;have cB0 : w1.cell? ⟨(w.heap.size + 1), 0, none⟩ = some (.bool s1) := KB.out.cell 0;have cB1 : w1.cell? ⟨(w.heap.size + 1), 1, none⟩ = some (.slice A1 l1 c1) := KB.out.cell 1
 go_wp2_with fail
 clear cA0 cA1 cB0 cB1;refine (eG _ _ n0 n1 L _ HXX.out HYY.out HFN.out HFM.out hL).mono ?_;rw [HGE.out];rintro e w2 ⟨v6, rfl, h6, hX⟩;replace hX : Ext w1 w2 := by with_reducible exact hX
 replace HX := hid (HX.out.trans hX);replace HXX := hid (HXX.out.ext hX);replace HYY := hid (HYY.out.ext hX);replace KA := hid (KA.out.ext hX);replace KB := hid (KB.out.ext hX);replace KR := hid (KR.out.ext hX);clear hX;have HG := hid h6;clear h6;have cA0 : w2.cell? ⟨w.heap.size, 0, none⟩ = some (.bool true) := KA.out.cell 0;have cA1 : w2.cell? ⟨w.heap.size, 1, none⟩ = some (.slice A0 l0 c0) := KA.out.cell 1;have cB0 : w2.cell? ⟨(w.heap.size + 1), 0, none⟩ = some (.bool s1) := KB.out.cell 0;have cB1 : w2.cell? ⟨(w.heap.size + 1), 1, none⟩ = some (.slice A1 l1 c1) := KB.out.cell 1
 go_wp2_with fail
 clear cA0 cA1 cB0 cB1;refine (bF _ _ n0 g L _ HXX.out HG.out HFN.out hL HGP.out).mono ?_;rw [HQ.out];rintro e w3 ⟨v7, v7', rfl, h7, h7', hX⟩;replace hX : Ext w2 w3 := by with_reducible exact hX
 replace HX := hid (HX.out.trans hX);replace HXX := hid (HXX.out.ext hX);replace HYY := hid (HYY.out.ext hX);replace HG := hid (HG.out.ext hX);replace KA := hid (KA.out.ext hX);replace KB := hid (KB.out.ext hX);replace KR := hid (KR.out.ext hX);clear hX;obtain ⟨A7, l7, c7, rfl, hv7, hz7⟩ := Z16.open h7;have HV := hid hv7;clear h7 h7' hv7
 have hl7 : (0 : Int) < (l7 : Int) := by
  rcases Nat.eq_zero_or_pos l7 with h | h
  .
   have := hz7.1 h; omega
  .
   omega
 have hl7' : 0 < l7 := by omega
 clear hz7;have cA0 : w3.cell? ⟨w.heap.size, 0, none⟩ = some (.bool true) := KA.out.cell 0;have cA1 : w3.cell? ⟨w.heap.size, 1, none⟩ = some (.slice A0 l0 c0) := KA.out.cell 1;have cB0 : w3.cell? ⟨(w.heap.size + 1), 0, none⟩ = some (.bool s1) := KB.out.cell 0;have cB1 : w3.cell? ⟨(w.heap.size + 1), 1, none⟩ = some (.slice A1 l1 c1) := KB.out.cell 1
 go_wp2_with fail
 clear cA0 cA1 cB0 cB1;refine (bF _ _ n1 g L _ HYY.out HG.out HFM.out hL HGP.out).mono ?_;rw [HR.out];rintro e w4 ⟨v8, v8', rfl, h8, h8', hX⟩;replace hX : Ext w3 w4 := by with_reducible exact hX
 replace HX := hid (HX.out.trans hX);replace HXX := hid (HXX.out.ext hX);replace HYY := hid (HYY.out.ext hX);replace HG := hid (HG.out.ext hX);replace HV := hid (HV.out.ext hX);replace KA := hid (KA.out.ext hX);replace KB := hid (KB.out.ext hX);replace KR := hid (KR.out.ext hX);clear hX;obtain ⟨A8, l8, c8, rfl, hv8, _⟩ := Z16.open h8;have HW := hid hv8;clear h8 h8' hv8;have HNI := hid (NoInts.three KR.out);have cA0 : w4.cell? ⟨w.heap.size, 0, none⟩ = some (.bool true) := KA.out.cell 0;have cA1 : w4.cell? ⟨w.heap.size, 1, none⟩ = some (.slice A0 l0 c0) := KA.out.cell 1;have cR0 : w4.cell? ⟨(w.heap.size + 2), 0, none⟩ = some (.bool false) := KR.out.cell 0;have fR0 : w4.frozen? ⟨(w.heap.size + 2), 0, none⟩ = false := KR.out.free 0;have cR1 : w4.cell? ⟨(w.heap.size + 2), 1, none⟩ = some (.slice none 0 0) := KR.out.cell 1;have fR1 : w4.frozen? ⟨(w.heap.size + 2), 1, none⟩ = false := KR.out.free 1;have cR2 : w4.cell? ⟨(w.heap.size + 2), 2, none⟩ = some (.slice none 0 0) := KR.out.cell 2;have fR2 : w4.frozen? ⟨(w.heap.size + 2), 2, none⟩ = false := KR.out.free 2;go_wp2;refine bodyPost_ret (v := .agg #[.bool true, .slice A7 l7 c7, .slice A8 l8 c8]) (by simp [results, Try.results112, go_sem, *]) rfl ?_;exact ⟨_, rfl, ⟨_, _, _, _, _, _, _, rfl, hneg.out.symm, by rw [HAB.out]; exact HV.out.box3 HNI.out _ _ _ _ _ _ _, by rw [HDN.out]; exact HW.out.box3 HNI.out _ _ _ _ _ _ _⟩, Ext.boxed HX.out (by omega) _ _ _⟩
theorem mn (s1 : Bool) (A0 A1 : Option Addr) (l0 c0 l1 c1 n0 n1 L : Nat) (w : World) (hx : Z16 w (.slice A0 l0 c0) n0) (hy : Z16 w (.slice A1 l1 c1) n1) (fn : Fit 65536 n0 L) (fm : Fit 65536 n1 L) (hL : L <= 400000) (hd : 0 < n1) (hn : n0 = 0) :
  Calls Try.prog 112 #[.agg #[.bool true, .slice A0 l0 c0], .agg #[.bool s1, .slice A1 l1 c1]] w (RetQz w (ax true n0 n1)) := by
 have HXX := hid hx;have HYY := hid hy;have HFN := hid fn;have HFM := hid fm;have HD := hid hd;have hg : 0 < Nat.gcd n0 n1 := Nat.gcd_pos_of_pos_right n0 hd
 have hneg : Hid (decide ((ax true n0 n1).num < 0) = false) := by
  show _ = _;rw [(bm true n0 n1 hd).1];rw [hn]; rfl
 have HAB := hid (bm true n0 n1 hd).2;have HDN := hid (cP true n0 n1 hd).2;have hq0 : n0 / Nat.gcd n0 n1 = 0 := by rw [hn]; simp
 obtain ⟨g, hge⟩ : ∃ g, Nat.gcd n0 n1 = g := ⟨_, rfl⟩;obtain ⟨q, hq⟩ : ∃ q, n0 / Nat.gcd n0 n1 = q := ⟨_, rfl⟩;obtain ⟨r, hr⟩ : ∃ r, n1 / Nat.gcd n0 n1 = r := ⟨_, rfl⟩;rw [hq] at HAB;rw [hq] at hq0;rw [hr] at HDN;rw [hge] at hq hr hg;have HGE := hid hge;have HQ := hid hq;have HR := hid hr;have HGP := hid hg;clear hx hy fn fm hd hge hq hr hg;clear hn;have hXe : Ext w (((w.alloc (.cells #[.bool true, .slice A0 l0 c0] 63)).alloc (.cells #[.bool s1, .slice A1 l1 c1] 63)).alloc (.cells #[.bool false, .slice none 0 0, .slice none 0 0] 65)) := ((((Ext.refl w).alloc _).alloc _).alloc _);have kA : Blk (((w.alloc (.cells #[.bool true, .slice A0 l0 c0] 63)).alloc (.cells #[.bool s1, .slice A1 l1 c1] 63)).alloc (.cells #[.bool false, .slice none 0 0, .slice none 0 0] 65)) w.heap.size 63 #[.bool true, .slice A0 l0 c0] := Blk.alloc (Blk.alloc (Blk.at_ (by simp)) _) _;have kB : Blk (((w.alloc (.cells #[.bool true, .slice A0 l0 c0] 63)).alloc (.cells #[.bool s1, .slice A1 l1 c1] 63)).alloc (.cells #[.bool false, .slice none 0 0, .slice none 0 0] 65)) (w.heap.size + 1) 63 #[.bool s1, .slice A1 l1 c1] := Blk.alloc (Blk.at_ (by simp)) _;have kR : Blk (((w.alloc (.cells #[.bool true, .slice A0 l0 c0] 63)).alloc (.cells #[.bool s1, .slice A1 l1 c1] 63)).alloc (.cells #[.bool false, .slice none 0 0, .slice none 0 0] 65)) (w.heap.size + 2) 65 #[.bool false, .slice none 0 0, .slice none 0 0] := Blk.at_ (by simp);go_enter Try.func112, Try.ntmps112
 go_wp2_with fail
 generalize (((w.alloc _).alloc _).alloc _) = w1 at hXe kA kB kR |-;have HX := hid hXe;clear hXe;have KA := hid kA;clear kA;have KB := hid kB;clear kB;have KR := hid kR;clear kR;replace HXX := hid (HXX.out.ext HX.out);replace HYY := hid (HYY.out.ext HX.out);have cA0 : w1.cell? ⟨w.heap.size, 0, none⟩ = some (.bool true) := KA.out.cell 0;have cA1 : w1.cell? ⟨w.heap.size, 1, none⟩ = some (.slice A0 l0 c0) := KA.out.cell 1;have cB0 : w1.cell? ⟨(w.heap.size + 1), 0, none⟩ = some (.bool s1) := KB.out.cell 0;have cB1 : w1.cell? ⟨(w.heap.size + 1), 1, none⟩ = some (.slice A1 l1 c1) := KB.out.cell 1
 go_wp2_with fail
 clear cA0 cA1 cB0 cB1;refine (eG _ _ n0 n1 L _ HXX.out HYY.out HFN.out HFM.out hL).mono ?_;rw [HGE.out];rintro e w2 ⟨v6, rfl, h6, hX⟩;replace hX : Ext w1 w2 := by with_reducible exact hX
 replace HX := hid (HX.out.trans hX);replace HXX := hid (HXX.out.ext hX);replace HYY := hid (HYY.out.ext hX);replace KA := hid (KA.out.ext hX);replace KB := hid (KB.out.ext hX);replace KR := hid (KR.out.ext hX);clear hX;have HG := hid h6;clear h6;have cA0 : w2.cell? ⟨w.heap.size, 0, none⟩ = some (.bool true) := KA.out.cell 0;have cA1 : w2.cell? ⟨w.heap.size, 1, none⟩ = some (.slice A0 l0 c0) := KA.out.cell 1;have cB0 : w2.cell? ⟨(w.heap.size + 1), 0, none⟩ = some (.bool s1) := KB.out.cell 0;have cB1 : w2.cell? ⟨(w.heap.size + 1), 1, none⟩ = some (.slice A1 l1 c1) := KB.out.cell 1
 go_wp2_with fail
 clear cA0 cA1 cB0 cB1;refine (bF _ _ n0 g L _ HXX.out HG.out HFN.out hL HGP.out).mono ?_;rw [HQ.out];rintro e w3 ⟨v7, v7', rfl, h7, h7', hX⟩;replace hX : Ext w2 w3 := by with_reducible exact hX
 replace HX := hid (HX.out.trans hX);replace HXX := hid (HXX.out.ext hX);replace HYY := hid (HYY.out.ext hX);replace HG := hid (HG.out.ext hX);replace KA := hid (KA.out.ext hX);replace KB := hid (KB.out.ext hX);replace KR := hid (KR.out.ext hX);clear hX;obtain ⟨A7, l7, c7, rfl, hv7, hz7⟩ := Z16.open h7;have HV := hid hv7;clear h7 h7' hv7;obtain rfl : l7 = 0 := hz7.2 hq0;clear hz7;have cA0 : w3.cell? ⟨w.heap.size, 0, none⟩ = some (.bool true) := KA.out.cell 0;have cA1 : w3.cell? ⟨w.heap.size, 1, none⟩ = some (.slice A0 l0 c0) := KA.out.cell 1;have cB0 : w3.cell? ⟨(w.heap.size + 1), 0, none⟩ = some (.bool s1) := KB.out.cell 0;have cB1 : w3.cell? ⟨(w.heap.size + 1), 1, none⟩ = some (.slice A1 l1 c1) := KB.out.cell 1
 go_wp2_with fail
 clear cA0 cA1 cB0 cB1;refine (bF _ _ n1 g L _ HYY.out HG.out HFM.out hL HGP.out).mono ?_;rw [HR.out];rintro e w4 ⟨v8, v8', rfl, h8, h8', hX⟩;replace hX : Ext w3 w4 := by with_reducible exact hX
 replace HX := hid (HX.out.trans hX);replace HXX := hid (HXX.out.ext hX);replace HYY := hid (HYY.out.ext hX);replace HG := hid (HG.out.ext hX);replace HV := hid (HV.out.ext hX);replace KA := hid (KA.out.ext hX);replace KB := hid (KB.out.ext hX);replace KR := hid (KR.out.ext hX);clear hX;obtain ⟨A8, l8, c8, rfl, hv8, _⟩ := Z16.open h8;have HW := hid hv8;clear h8 h8' hv8;have HNI := hid (NoInts.three KR.out);have cA0 : w4.cell? ⟨w.heap.size, 0, none⟩ = some (.bool true) := KA.out.cell 0;have cA1 : w4.cell? ⟨w.heap.size, 1, none⟩ = some (.slice A0 l0 c0) := KA.out.cell 1;have cR0 : w4.cell? ⟨(w.heap.size + 2), 0, none⟩ = some (.bool false) := KR.out.cell 0;have fR0 : w4.frozen? ⟨(w.heap.size + 2), 0, none⟩ = false := KR.out.free 0;have cR1 : w4.cell? ⟨(w.heap.size + 2), 1, none⟩ = some (.slice none 0 0) := KR.out.cell 1;have fR1 : w4.frozen? ⟨(w.heap.size + 2), 1, none⟩ = false := KR.out.free 1;have cR2 : w4.cell? ⟨(w.heap.size + 2), 2, none⟩ = some (.slice none 0 0) := KR.out.cell 2;have fR2 : w4.frozen? ⟨(w.heap.size + 2), 2, none⟩ = false := KR.out.free 2;go_wp2;refine bodyPost_ret (v := .agg #[.bool false, .slice A7 0 c7, .slice A8 l8 c8]) (by simp [results, Try.results112, go_sem, *]) rfl ?_;exact ⟨_, rfl, ⟨_, _, _, _, _, _, _, rfl, hneg.out.symm, by rw [HAB.out]; exact HV.out.box3 HNI.out _ _ _ _ _ _ _, by rw [HDN.out]; exact HW.out.box3 HNI.out _ _ _ _ _ _ _⟩, Ext.boxed HX.out (by omega) _ _ _⟩
theorem ox (s s1 : Bool) (A0 A1 : Option Addr) (l0 c0 l1 c1 n d L : Nat) (w : World) (hx : Z16 w (.slice A0 l0 c0) n) (hy : Z16 w (.slice A1 l1 c1) d) (fn : Fit 65536 n L) (fm : Fit 65536 d L) (hL : L <= 400000) (hd : 0 < d) :
  Calls Try.prog 112 #[.agg #[.bool s, .slice A0 l0 c0], .agg #[.bool s1, .slice A1 l1 c1]] w (RetQz w (ax s n d)) := by
 cases s
 .
  exact oi s1 A0 A1 l0 c0 l1 c1 n d L w hx hy fn fm hL hd
 .
  rcases Nat.eq_zero_or_pos n with h | h
  .
   exact mn s1 A0 A1 l0 c0 l1 c1 n d L w hx hy fn fm hL hd h
  .
   exact oo s1 A0 A1 l0 c0 l1 c1 n d L w hx hy fn fm hL hd h
theorem oy (va : Value) (x : Int) (s1 : Bool) (A1 : Option Addr) (l1 c1 d L : Nat) (w : World) (ha : IntZ w va x) (hy : Z16 w (.slice A1 l1 c1) d) (fn : Fit 65536 x.natAbs L) (fm : Fit 65536 d L) (hL : L <= 400000) (hd : 0 < d) :
  Calls Try.prog 112 #[va, .agg #[.bool s1, .slice A1 l1 c1]] w (RetQz w (ax (decide (x < 0)) x.natAbs d)) := by
 obtain ⟨A0, l0, c0, rfl, hx⟩ := ha;exact ox _ s1 A0 A1 l0 c0 l1 c1 _ d L w hx hy fn fm hL hd
theorem bJ (n : Int) (w : World) (h0 : -9223372036854775808 <= n) (h1 : n <= 9223372036854775807) :
  Calls Try.prog 31 #[.int .i64 n] w (RetQz w (n : Rat)) := by
 have hXe : Ext w (w.alloc (.cells #[.bool false, .slice none 0 0, .slice none 0 0] 65)) := ((Ext.refl w).alloc _);have kR : Blk (w.alloc (.cells #[.bool false, .slice none 0 0, .slice none 0 0] 65)) w.heap.size 65 #[.bool false, .slice none 0 0, .slice none 0 0] := Blk.at_ (by simp);go_enter Try.func31, Try.ntmps31
 go_wp2_with fail
 generalize (w.alloc _) = w1 at hXe kR |-;have HX := hid hXe;clear hXe;have KR := hid kR;clear kR;refine (di n _ h0 h1).mono ?_;rintro e w2 ⟨v7, rfl, h7, hX⟩;replace hX : Ext w1 w2 := by with_reducible exact hX
 replace HX := hid (HX.out.trans hX);replace KR := hid (KR.out.ext hX);clear hX;obtain ⟨A7, l7, c7, rfl, hv7⟩ := h7;have HV := hid hv7;clear hv7;have HNI := hid (NoInts.three KR.out);have HS : Hid (decide (n < 0) = decide ((n : Rat).num < 0)) := by rw [Rat.num_intCast]; rfl
 have rl := KR.out.lt;have cR0 : w2.cell? ⟨w.heap.size, 0, none⟩ = some (.bool false) := KR.out.cell 0;have fR0 : w2.frozen? ⟨w.heap.size, 0, none⟩ = false := KR.out.free 0;have cR1 : w2.cell? ⟨w.heap.size, 1, none⟩ = some (.slice none 0 0) := KR.out.cell 1;have fR1 : w2.frozen? ⟨w.heap.size, 1, none⟩ = false := KR.out.free 1;have cR2 : w2.cell? ⟨w.heap.size, 2, none⟩ = some (.slice none 0 0) := KR.out.cell 2;have fR2 : w2.frozen? ⟨w.heap.size, 2, none⟩ = false := KR.out.free 2;go_wp2;refine bodyPost_ret (v := .agg #[.bool (decide (n < 0)), .slice A7 l7 c7, .slice (some ⟨w2.heap.size, 0, none⟩) 1 1]) (by simp [results, Try.results31, go_sem, *]) rfl ?_;exact ⟨_, rfl, ⟨_, _, _, _, _, _, _, rfl, HS.out, by rw [Rat.num_intCast]; exact (HV.out.box3 HNI.out _ _ _ _ _ _ _).ext ((Ext.refl _).alloc _), by rw [Rat.den_intCast]; exact (Blk.at_ (by simp)).one16⟩, (Ext.boxed HX.out (by omega) _ _ _).alloc _⟩
theorem Ints.keepsNI {k : IntKind} {w w' : World} {A : Option Addr} {n : Nat} {xs : List Int} {L : List Nat} (h : Ints k w A n xs) (hk : Keeps L w w') (hN : ∀ g ∈ L, NoInts w g) : Ints k w' A n xs := by
 refine ⟨h.1, h.2.1, fun hn => ?_⟩;obtain ⟨b, off, hA, hc⟩ := h.2.2 hn;refine ⟨b, off, hA, fun j u hj => ?_⟩;have hcell := hc j u hj
 have hne : b ∉ L := by
  intro e;have hni := (hN b e).cell (off + j) u hcell;rw [List.getElem?_map] at hj
  rcases hxj : xs[j]? with _ | y
  .
   rw [hxj] at hj; cases hj
  .
   rw [hxj] at hj;simp only [Option.map_some, Option.some.injEq] at hj;exact hni k y hj.symm
 rw [<- hcell];exact World.cell?_of_block (w := w) (hk.block b (World.block_lt_of_cell? w _ hcell) hne)
theorem NatV.keepsNI {k : IntKind} {B : Int} {w w' : World} {x : Value} {n : Nat} {L : List Nat} (h : NatV k B w x n) (hk : Keeps L w w') (hN : ∀ g ∈ L, NoInts w g) : NatV k B w' x n := by
 obtain ⟨A, l, c, xs, h1, h2, h3⟩ := h;exact ⟨A, l, c, xs, h1, h2.keepsNI hk hN, h3⟩
section
variable {w w' : World} {x : Value} {q : Rat} {L : List Nat}
theorem NumV.keepsNI {s : Bool} {n d : Nat} (h : NumV w x s n d) (hk : Keeps L w w') (hN : ∀ g ∈ L, NoInts w g) : NumV w' x s n d := by
 obtain ⟨vn, vd, h1, h2, h3⟩ := h;exact ⟨vn, vd, h1, NatV.keepsNI h2 hk hN, NatV.keepsNI h3 hk hN⟩
theorem NumX.keepsNI {K : Nat} (h : NumX w x q K) (hk : Keeps L w w') (hN : ∀ g ∈ L, NoInts w g) : NumX w' x q K := by
 obtain ⟨s, n, d, h1, h2⟩ := h;exact ⟨s, n, d, h1.keepsNI hk hN, h2⟩
theorem IntZ.keepsNI {z : Int} (h : IntZ w x z) (hk : Keeps L w w') (hN : ∀ g ∈ L, NoInts w g) : IntZ w' x z := by
 obtain ⟨A, l, c, h1, h2⟩ := h;exact ⟨A, l, c, h1, NatV.keepsNI h2 hk hN⟩
theorem QZ.keepsNI (h : QZ w x q) (hk : Keeps L w w') (hN : ∀ g ∈ L, NoInts w g) : QZ w' x q := by
 obtain ⟨b, A, l, c, B, m, k, h0, h1, h2, h3⟩ := h;exact ⟨b, A, l, c, B, m, k, h0, h1, NatV.keepsNI h2 hk hN, NatV.keepsNI h3 hk hN⟩
end
section
variable {P : Program}
/-- 'make([]T, n)', T of any number of cells: the cells are those of T's zero value, kJ and kJ. -/
theorem dq (w : World) {t e : TypeId} {size bytes : Nat} {z : Value} (E : Elem P t e size bytes z) {ops : Array Oper} {rest : List Oper} {o : Oper} {a : Act} {Q : Exit -> Act -> World -> Prop}
  (hgd : o.guard = none) (l c : Operand) (ho : o.op = .makeSlice t l c) (base : Nat) (kl kc : IntKind) (L C : Int) (n m : Nat) (hl : a.eval l = .int kl L) (hc : a.eval c = .int kc C)
  (hL : L = n) (hC : C = m) (hnm : n <= m) (_hb : bytes * m <= 281474976710656) (hm : m <= maxLen) (hbase : base <= w.heap.size)
  (h : ∀ w' xs, w'.ownsRow base e size (.slice (some ⟨w.heap.size, 0, none⟩) n m) n xs -> (∀ i, i < n * size -> xs[i]? = z.cells[i % size]?) -> (∀ u ∈ xs, u ∈ z.cells) -> Ext w w' -> w.heap.size < w'.heap.size -> wpList P ops Q rest (a.put o.dst (.slice (some ⟨w.heap.size, 0, none⟩) n m)) w') :
  wpList P ops Q (o :: rest) a w :=
 wpList_plain hgd fun K hK => by
  obtain ⟨i, hi, hz, hs, hby⟩ := E.info;subst hL hC hby
  have hbI : (i.bytes : Int) * (m : Int) <= 281474976710656 := by
   have h : ((i.bytes * m : Nat) : Int) <= 281474976710656 := by omega
   rwa [Int.natCast_mul] at h
  have hrun := run_make (P := P) w t e i z E.und hi hz kl kc n m (by omega) (by omega) hbI (by unfold maxLen at hm; omega);simp only [Int.toNat_natCast] at hrun;rw [hs] at hrun;have hle : n * size <= m * size := Nat.mul_le_mul_right _ hnm;have hcs := E.cells;have hp := E.pos
  have hget : ∀ k, k < m * size -> (madeCells z.cells (m * size))[k]? = z.cells[k % size]? := fun k hk => by
   have : k % size < z.cells.size := by rw [hcs]; exact Nat.mod_lt _ hp
   simp [madeCells, hk, hcs];rw [getElem!_pos z.cells _ this, Array.getElem?_eq_getElem this]
  have hown : (w.alloc (.cells (madeCells z.cells (m * size)) e)).ownsRow base e size (.slice (some ⟨w.heap.size, 0, none⟩) n m) n ((madeCells z.cells (m * size)).toList.take (n * size)) := by
   refine ⟨by simp [size_madeCells, hle], .inr ⟨w.heap.size, m, _, rfl, hbase, heap_alloc_new w _, hnm, hm, by rw [size_madeCells], rfl⟩⟩
  unfold Oper.wp;simp [execOp, ho, hl, hc, hrun, Result.andThen];refine hK _ _ (h _ _ hown (fun k hk => ?_) (fun u hu => ?_) ((Ext.refl w).alloc _) (by simp))
  .
   rw [List.getElem?_take, if_pos hk, Array.getElem?_toList];exact hget k (by omega)
  .
   obtain ⟨k, hk, rfl⟩ := List.getElem_of_mem (List.mem_of_mem_take hu);have hk' : k < m * size := by simpa [size_madeCells] using hk
   have h1 := hget k hk';rw [<- Array.getElem?_toList, List.getElem?_eq_getElem hk] at h1;exact Array.mem_of_getElem? h1.symm
end
end Go.Proofs.Ytikhlcgnlbinfaa
namespace Go.Proofs.Ytikhlcgnlbinfaa
open Lib (hid)
abbrev bt := Nat -> Rat
/-- Goes through the columns, taking each in turn, with changing signs. -/
def cR (f : Nat -> List Nat -> Rat) : List Nat -> Rat
 | [] => 0
 | c :: cs => f c cs - cR (fun x l => f x (c :: l)) cs
def cI : List bt -> List Nat -> Rat
 | [], _ => 1
 | r :: rs, cs => cR (fun c l => r c * cI rs l) cs
theorem eo (f g : Nat -> List Nat -> Rat) (cs : List Nat) : cR (fun c l => f c l + g c l) cs = cR f cs + cR g cs := by
 induction cs generalizing f g with
 | nil => simp [cR]; grind
 | cons c cs ih => simp only [cR]; rw [ih]; grind
theorem dj (k : Rat) (f : Nat -> List Nat -> Rat) (cs : List Nat) : cR (fun c l => k * f c l) cs = k * cR f cs := by
 induction cs generalizing f with
 | nil => simp only [cR]; grind
 | cons c cs ih => simp only [cR]; rw [ih]; grind
theorem cS (cs : List Nat) : cR (fun _ _ => 0) cs = 0 := by
 induction cs with
 | nil => rfl
 | cons c cs ih => simp only [cR]; rw [ih]; grind
theorem a8 {f g : Nat -> List Nat -> Rat} {cs : List Nat} (h : ∀ c l, c ∈ cs -> f c l = g c l) : cR f cs = cR g cs := by
 induction cs generalizing f g with
 | nil => rfl
 | cons c cs ih =>
  simp only [cR];rw [h c cs (by simp), ih fun x l hx => h x (c :: l) (by simp [hx])]
theorem cT {f g : Nat -> List Nat -> Rat} {cs : List Nat} (h : ∀ c l, c ∈ cs -> l.length + 1 = cs.length -> (∀ x ∈ l, x ∈ cs) -> f c l = g c l) : cR f cs = cR g cs := by
 induction cs generalizing f g with
 | nil => rfl
 | cons c cs ih =>
  simp only [cR]
  rw [h c cs (by simp) (by simp) (fun x hx => by simp [hx]), ih fun x l hx hl hs => h x (c :: l) (by simp [hx]) (by simp; omega) (fun y hy => by
   rcases List.mem_cons.1 hy with rfl | hy
   .
    simp
   .
    simp [hs y hy])]
/-- Two columns taken one behind the other, by a symmetric rule. -/
theorem qN (g : Nat -> Nat -> List Nat -> Rat) (hg : ∀ x y l, g x y l = g y x l) (cs : List Nat) : cR (fun x l => cR (fun y l' => g x y l') l) cs = 0 := by
 induction cs generalizing g with
 | nil => rfl
 | cons c cs ih =>
  simp only [cR]
  have h1 : cR (fun x l => g x c l - cR (fun y l' => g x y (c :: l')) l) cs = cR (fun x l => g x c l) cs - cR (fun x l => cR (fun y l' => g x y (c :: l')) l) cs := by
   have e : (fun x l => g x c l - cR (fun y l' => g x y (c :: l')) l) = fun x l => g x c l + (-1) * cR (fun y l' => g x y (c :: l')) l := by
    funext x l; grind
   rw [e, eo, dj];grind
  rw [h1, ih (fun x y l => g x y (c :: l)) fun x y l => hg x y _];have h2 : cR (fun x l => g x c l) cs = cR (fun y l' => g c y l') cs := a8 fun x l _ => hg x c l
  rw [h2];grind
theorem lj (A B : List bt) (x y : bt) (k : Rat) (cs : List Nat) : cI (A ++ (fun c => x c + k * y c) :: B) cs = cI (A ++ x :: B) cs + k * cI (A ++ y :: B) cs := by
 induction A generalizing cs with
 | nil =>
  simp only [List.nil_append, cI];rw [<- dj, <- eo];exact a8 fun c l _ => by grind
 | cons a A ih =>
  simp only [List.cons_append, cI];rw [<- dj, <- eo];exact a8 fun c l _ => by rw [ih]; grind
theorem mo (A B : List bt) (x : bt) (k : Rat) (cs : List Nat) : cI (A ++ (fun c => k * x c) :: B) cs = k * cI (A ++ x :: B) cs := by
 induction A generalizing cs with
 | nil =>
  simp only [List.nil_append, cI];rw [<- dj];exact a8 fun c l _ => by grind
 | cons a A ih =>
  simp only [List.cons_append, cI];rw [<- dj];exact a8 fun c l _ => by rw [ih]; grind
/-- Two rows next to each other at the front. -/
theorem lm (x y : bt) (B : List bt) (cs : List Nat) : cI (x :: y :: B) cs = cR (fun c l => cR (fun d l' => x c * y d * cI B l') l) cs := by
 simp only [cI];exact a8 fun c l _ => by rw [<- dj]; exact a8 fun d l' _ => by grind
theorem iQ (x y : bt) (B : List bt) (cs : List Nat) : cI (x :: y :: B) cs = -cI (y :: x :: B) cs := by
 have h := qN (fun c d l => (x c * y d + y c * x d) * cI B l) (fun c d l => by grind) cs
 have e : cI (x :: y :: B) cs + cI (y :: x :: B) cs = 0 := by
  rw [lm, lm, <- eo, <- h]
  exact a8 fun c l _ => by
   rw [<- eo];exact a8 fun d l' _ => by grind
 grind
theorem mr (r : bt) (B C : List bt) (cs : List Nat) : cI (r :: (B ++ r :: C)) cs = 0 := by
 induction B generalizing cs with
 | nil =>
  have h := iQ r r C cs;rw [List.nil_append];grind
 | cons b B ih =>
  rw [List.cons_append, iQ]
  have e : cI (b :: r :: (B ++ r :: C)) cs = 0 := by
   simp only [cI];refine Eq.trans (a8 (g := fun _ _ => 0) fun c l _ => ?_) (cS cs);have := ih l;simp only [cI] at this;rw [this];grind
  rw [e];grind
theorem iR (A B C : List bt) (r : bt) (cs : List Nat) : cI (A ++ r :: (B ++ r :: C)) cs = 0 := by
 induction A generalizing cs with
 | nil => exact mr r B C cs
 | cons a A ih =>
  simp only [List.cons_append, cI];refine Eq.trans (a8 (g := fun _ _ => 0) fun c l _ => ?_) (cS cs);rw [ih]; grind
/-- Multiples of one row may be added to all others. -/
theorem eX (A B C : List bt) (r : bt) (k : bt -> Rat) (cs : List Nat) : cI (C ++ (A.map fun x => fun c => x c + k x * r c) ++ r :: B) cs = cI (C ++ A ++ r :: B) cs := by
 induction A generalizing C with
 | nil => rfl
 | cons a A ih =>
  have h1 : C ++ ((a :: A).map fun x => fun c => x c + k x * r c) ++ r :: B = C ++ (fun c => a c + k a * r c) :: ((A.map fun x => fun c => x c + k x * r c) ++ r :: B) := by simp
  have h2 : C ++ a :: ((A.map fun x => fun c => x c + k x * r c) ++ r :: B) = (C ++ [a]) ++ (A.map fun x => fun c => x c + k x * r c) ++ r :: B := by simp
  have h3 : (C ++ [a]) ++ A ++ r :: B = C ++ a :: A ++ r :: B := by simp
  rw [h1, lj, h2, ih, h3];have h4 := iR C (A.map fun x => fun c => x c + k x * r c) B r cs;rw [h4];grind
theorem fF (A B C : List bt) (r : bt) (k : bt -> Rat) (cs : List Nat) : cI (A ++ r :: (C ++ B.map fun x => fun c => x c + k x * r c)) cs = cI (A ++ r :: (C ++ B)) cs := by
 induction B generalizing C with
 | nil => rfl
 | cons b B ih =>
  have h1 : A ++ r :: (C ++ (b :: B).map fun x => fun c => x c + k x * r c) = (A ++ r :: C) ++ (fun c => b c + k b * r c) :: (B.map fun x => fun c => x c + k x * r c) := by simp
  have h2 : (A ++ r :: C) ++ b :: (B.map fun x => fun c => x c + k x * r c) = A ++ r :: ((C ++ [b]) ++ B.map fun x => fun c => x c + k x * r c) := by simp
  have h3 : A ++ r :: ((C ++ [b]) ++ B) = A ++ r :: (C ++ b :: B) := by simp
  rw [h1, lj, h2, ih, h3];have h4 := iR A C (B.map fun x => fun c => x c + k x * r c) r cs;have h5 : (A ++ r :: C) ++ r :: (B.map fun x => fun c => x c + k x * r c) = A ++ r :: (C ++ r :: B.map fun x => fun c => x c + k x * r c) := by simp
  rw [h5, h4];grind
theorem iS (rs : List bt) (j : Nat) (cs : List Nat) (hr : rs.length = cs.length + 1) (h : ∀ r ∈ rs, r j = 0) : cI rs (j :: cs) = 0 := by
 induction rs generalizing cs with
 | nil => simp at hr
 | cons r rs ih =>
  simp only [cI, cR];rw [h r (by simp)]
  have e : cR (fun x l => r x * cI rs (j :: l)) cs = 0 := by
   refine Eq.trans (cT (g := fun _ _ => 0) fun c l _ hl _ => ?_) (cS cs);rw [ih l (by simp at hr; omega) fun x hx => h x (by simp [hx])];grind
  rw [e];grind
/-- Rows that are unit vectors in the columns J (row i in column J[i]), and one more row that is 0 there. -/
def UnitR (rs : List bt) (J : List Nat) : Prop := rs.length = J.length /\ ∀ (i : Nat) (r : bt), rs[i]? = some r -> ∀ (k j : Nat), J[k]? = some j -> r j = if i = k then 1 else 0
theorem UnitR.tail {r : bt} {rs : List bt} {j : Nat} {J : List Nat} (h : UnitR (r :: rs) (j :: J)) : UnitR rs J := by
 refine ⟨by have := h.1; simpa using this, fun i x hx k c hc => ?_⟩;have := h.2 (i + 1) x (by simpa using hx) (k + 1) c (by simpa using hc)
 simpa using this
theorem UnitR.head {r : bt} {rs : List bt} {j : Nat} {J : List Nat} (h : UnitR (r :: rs) (j :: J)) : r j = 1 /\ (∀ c ∈ J, r c = 0) /\ (∀ x ∈ rs, x j = 0) := by
 refine ⟨by simpa using h.2 0 r rfl 0 j rfl, fun c hc => ?_, fun x hx => ?_⟩
 .
  obtain ⟨k, hk⟩ := List.mem_iff_getElem?.1 hc
  simpa using h.2 0 r rfl (k + 1) c (by simpa using hk)
 .
  obtain ⟨k, hk⟩ := List.mem_iff_getElem?.1 hx
  simpa using h.2 (k + 1) x (by simpa using hk) 0 j rfl
/-- One row more, that is 0 in the columns of the unit vectors. -/
theorem f7 {rs : List bt} {J : List Nat} {x : bt} {c : Nat} (h : UnitR rs J) (hx : ∀ j ∈ J, x j = 0) : cI (rs ++ [x]) (J ++ [c]) = x c := by
 induction rs generalizing J with
 | nil =>
  obtain rfl : J = [] := List.eq_nil_of_length_eq_zero (by simpa using h.1.symm);simp [cI, cR];grind
 | cons r rs ih =>
  obtain ⟨j, J, rfl⟩ : ∃ j J', J = j :: J' := by
   cases J with
   | nil => have := h.1; simp at this
   | cons j J => exact ⟨j, J, rfl⟩
  obtain ⟨h1, h2, h3⟩ := h.head;have hl := h.tail.1;simp only [List.cons_append, cI, cR];rw [h1, ih h.tail fun j hj => hx j (by simp [hj])]
  have e : cR (fun x_1 l => r x_1 * cI (rs ++ [x]) (j :: l)) (J ++ [c]) = 0 := by
   refine Eq.trans (cT (g := fun _ _ => 0) fun y l hy hlen _ => ?_) (cS _);rw [iS _ _ _ (by simp at hlen |-; omega) fun z hz => ?_]
   .
    grind
   .
    rcases List.mem_append.1 hz with hz | hz
    .
     exact h3 z hz
    .
     simp at hz; subst hz; exact hx j (by simp)
  rw [e];grind
theorem iT {rs : List bt} {J : List Nat} (h : UnitR rs J) : cI rs J = 1 := by
 induction rs generalizing J with
 | nil => rfl
 | cons r rs ih =>
  obtain ⟨j, J, rfl⟩ : ∃ j J', J = j :: J' := by
   cases J with
   | nil => have := h.1; simp at this
   | cons j J => exact ⟨j, J, rfl⟩
  obtain ⟨h1, h2, h3⟩ := h.head;simp only [cI, cR];rw [h1, ih h.tail]
  have e : cR (fun x l => r x * cI rs (j :: l)) J = 0 := by
   refine Eq.trans (cT (g := fun _ _ => 0) fun y l hy hlen _ => ?_) (cS _);rw [h2 y hy];grind
  rw [e];grind
/-- One of the columns is another one. -/
theorem gX {rs : List bt} {J : List Nat} {i : Nat} {r : bt} {c : Nat} (h : UnitR rs J) (hi : rs[i]? = some r) : cI rs (J.set i c) = r c := by
 induction rs generalizing J i with
 | nil => simp at hi
 | cons x rs ih =>
  obtain ⟨j, J, rfl⟩ : ∃ j J', J = j :: J' := by
   cases J with
   | nil => have := h.1; simp at this
   | cons j J => exact ⟨j, J, rfl⟩
  obtain ⟨h1, h2, h3⟩ := h.head;have hl := h.tail.1
  cases i with
  | zero =>
   simp at hi;subst hi;simp only [List.set_cons_zero, cI, cR];rw [iT h.tail]
   have e : cR (fun y l => x y * cI rs (c :: l)) J = 0 := by
    refine Eq.trans (cT (g := fun _ _ => 0) fun y l hy hlen _ => ?_) (cS _);rw [h2 y hy];grind
   rw [e];grind
  | succ i =>
   simp only [List.set_cons_succ, cI, cR];rw [h1, ih h.tail (by simpa using hi)]
   have e : cR (fun y l => x y * cI rs (j :: l)) (J.set i c) = 0 := by
    refine Eq.trans (cT (g := fun _ _ => 0) fun y l hy hlen _ => ?_) (cS _);rw [iS rs j l (by simp at hlen; omega) h3];grind
   rw [e];grind
def tC (r : bt) (cs : List Nat) (B : Nat) : Prop := ∀ c ∈ cs, ∃ z : Int, r c = (z : Rat) /\ z.natAbs <= B
theorem qO {f : Nat -> List Nat -> Rat} {cs : List Nat} {B : Nat} (h : ∀ c l, c ∈ cs -> l.length + 1 = cs.length -> (∀ x ∈ l, x ∈ cs) -> ∃ z : Int, f c l = (z : Rat) /\ z.natAbs <= B) : ∃ z : Int, cR f cs = (z : Rat) /\ z.natAbs <= cs.length * B := by
 induction cs generalizing f with
 | nil => exact ⟨0, by simp [cR], by simp⟩
 | cons c cs ih =>
  obtain ⟨z, hz, hB⟩ := h c cs (by simp) (by simp) (fun x hx => by simp [hx])
  obtain ⟨y, hy, hC⟩ := ih (f := fun x l => f x (c :: l)) fun x l hx hl hs => h x (c :: l) (by simp [hx]) (by simp; omega) (fun y hy => by
   rcases List.mem_cons.1 hy with rfl | hy
   .
    simp
   .
    simp [hs y hy])
  refine ⟨z - y, by simp only [cR]; rw [hz, hy, Rat.intCast_sub], ?_⟩;rw [List.length_cons, Nat.add_mul, Nat.one_mul];omega
theorem qP {rs : List bt} {cs : List Nat} {B : Nat} (h : ∀ r ∈ rs, tC r cs B) (hl : rs.length = cs.length) : ∃ z : Int, cI rs cs = (z : Rat) /\ z.natAbs <= (cs.length * B) ^ cs.length := by
 induction rs generalizing cs with
 | nil =>
  have h0 : cs.length = 0 := by simpa using hl.symm
  exact ⟨1, by simp [cI], by rw [h0]; simp⟩
 | cons r rs ih =>
  simp only [cI];have hc : 0 < cs.length := by simp at hl; omega
  obtain ⟨m, hm⟩ : ∃ m, cs.length = m + 1 := ⟨cs.length - 1, by omega⟩
  obtain ⟨z, hz, hB⟩ := qO (f := fun c l => r c * cI rs l) (cs := cs) (B := B * (cs.length * B) ^ m) fun c l hcm hlen hs => by
   obtain ⟨a, ha, hA⟩ := h r (by simp) c hcm;obtain ⟨b, hb, hBB⟩ := ih (cs := l) (fun x hx y hy => h x (by simp [hx]) y (hs y hy)) (by simp at hl; omega);refine ⟨a * b, by rw [ha, hb, Rat.intCast_mul], ?_⟩;rw [Int.natAbs_mul];refine Nat.mul_le_mul hA (Nat.le_trans hBB ?_);rw [show l.length = m by omega];exact Nat.pow_le_pow_left (Nat.mul_le_mul_right _ (by omega)) _
  refine ⟨z, hz, Nat.le_trans hB (Nat.le_of_eq ?_)⟩;rw [hm, Nat.pow_succ, Nat.mul_comm ((( m + 1) * B) ^ m), Nat.mul_assoc]
end Go.Proofs.Ytikhlcgnlbinfaa
namespace Go.Proofs.Ytikhlcgnlbinfaa
open Lib (hid)
abbrev de := Nat -> bt
/-- The first row from i on, of f rows, whose entry in column j is not 0. -/
def bK (T : de) (j : Nat) : Nat -> Nat -> Option Nat
 | 0, _ => none
 | f + 1, i => if T i j = 0 then bK T j f (i + 1) else some i
def aL (T : de) (a b : Nat) : de := fun i => if i = a then T b else if i = b then T a else T i
def bj (T : de) (top : Nat) (lead : Rat) : de := fun i => if i = top then fun c => T top c / lead else T i
def aT (T : de) (top j : Nat) : de := fun i => if i = top then T top else fun c => T i c - T i j * T top c
structure j0 where
 tab : de
 top : Nat
 piv : List (Option Nat)
 last : Rat
 cols : List Nat
/-- One column. -/
def bs (n j : Nat) (s : j0) : j0 := match bK s.tab j (n - s.top) s.top with
 | none => ⟨s.tab, s.top, s.piv ++ [none], s.last, s.cols⟩
 | some at' => ⟨aT (bj (aL s.tab s.top at') s.top (s.tab at' j)) s.top j, s.top + 1, s.piv ++ [some s.top], s.last * s.tab at' j, s.cols ++ [j]⟩
def aU (n : Nat) (T : de) : Nat -> j0
 | 0 => ⟨T, 0, [], 1, []⟩
 | j + 1 => bs n j (aU n T j)
theorem dU {T : de} {j f i k : Nat} (h : bK T j f i = some k) : i <= k /\ k < i + f /\ T k j ≠ 0 /\ ∀ m, i <= m -> m < k -> T m j = 0 := by
 induction f generalizing i with
 | zero => cases h
 | succ f ih =>
  unfold bK at h;split at h
  .
   rename_i h0
   obtain ⟨h1, h2, h3, h4⟩ := ih h;refine ⟨by omega, by omega, h3, fun m hm hk => ?_⟩
   rcases Nat.eq_or_lt_of_le hm with rfl | hm
   .
    exact h0
   .
    exact h4 m (by omega) hk
  .
   rename_i h0
   injection h with h;subst h;exact ⟨Nat.le_refl _, by omega, h0, fun m h1 h2 => by omega⟩
theorem j1 {T : de} {j f i : Nat} (h : bK T j f i = none) : ∀ m, i <= m -> m < i + f -> T m j = 0 := by
 induction f generalizing i with
 | zero => intro m h1 h2; omega
 | succ f ih =>
  unfold bK at h;split at h
  .
   rename_i h0
   intro m h1 h2
   rcases Nat.eq_or_lt_of_le h1 with rfl | h1
   .
    exact h0
   .
    exact ih h m (by omega) (by omega)
  .
   cases h
/-- Where the reduction stands: M's rows in another order; every determinant of them (the first 'top' rows and any others behind) is 'last' times that of the table. -/
structure Stage (n B : Nat) (s : j0) (Mp : de) : Prop where
 le : s.top <= n
 len : s.cols.length = s.top
 nz : s.last ≠ 0
 col : ∀ c ∈ s.cols, c < n
 one : ∀ i j, s.cols[i]? = some j -> ∀ r, r < n -> s.tab r j = if r = i then 1 else 0
 dt : ∀ is : List Nat, (∀ i ∈ is, s.top <= i /\ i < n) -> ∀ cs, cI ((List.range s.top ++ is).map Mp) cs = s.last * cI ((List.range s.top ++ is).map s.tab) cs
 int : ∀ i, i < n -> ∀ c, c <= n -> ∃ z : Int, Mp i c = (z : Rat) /\ z.natAbs <= B
theorem Stage.start {n B : Nat} {M : de} (h : ∀ i, i < n -> ∀ c, c <= n -> ∃ z : Int, M i c = (z : Rat) /\ z.natAbs <= B) : Stage n B ⟨M, 0, [], 1, []⟩ M where
 le := Nat.zero_le _
 len := rfl
 nz := (by decide : (1 : Rat) ≠ 0)
 col := by simp
 one := by simp
 dt := fun is _ cs => by simp only [List.range_zero, List.nil_append]; grind
 int := h
/-- Two rows of those that are left change their places. -/
theorem Stage.swap {n B : Nat} {s : j0} {Mp : de} (h : Stage n B s Mp) {a : Nat} (_ha : s.top <= a) (hn : a < n) : Stage n B ⟨aL s.tab s.top a, s.top, s.piv, s.last, s.cols⟩ (aL Mp s.top a) := by
 have hsw : ∀ (T : de) i, aL T s.top a i = T (if i = s.top then a else if i = a then s.top else i) := fun T i => by
  unfold aL;split
  .
   rfl
  .
   split <;> rfl
 refine ⟨h.le, h.len, h.nz, h.col, fun i j hj r hr => ?_, fun is hi cs => ?_, fun i hi c hc => ?_⟩
 .
  simp only at hj |-;have hik : i < s.top := by have := (List.getElem?_eq_some_iff.1 hj).1; have := h.len; omega
  simp only [hsw];rw [h.one i j hj _ (by split; omega; split <;> omega)]
  by_cases e : r = i
  .
   subst e;rw [if_neg (show ¬ r = s.top by omega), if_neg (show ¬ r = a by omega)]
  .
   rw [if_neg e, if_neg];split
   .
    omega
   .
    split <;> omega
 .
  simp only
  have e : ∀ T : de, (List.range s.top ++ is).map (aL T s.top a) = (List.range s.top ++ is.map fun i => if i = s.top then a else if i = a then s.top else i).map T := fun T => by
   rw [List.map_append, List.map_append, List.map_map]
   congr 1
   .
    refine List.map_congr_left fun i hi => ?_
    have := List.mem_range.1 hi;rw [hsw, if_neg (by omega), if_neg (by omega)]
   .
    exact List.map_congr_left fun i _ => hsw T i
  rw [e, e];refine h.dt _ (fun i hi' => ?_) cs;obtain ⟨x, hx, rfl⟩ := List.mem_map.1 hi';have := hi x hx;simp only at this;split
  .
   omega
  .
   split <;> omega
 .
  rw [hsw];refine h.int _ ?_ c hc;split
  .
   exact hn
  .
   split
   .
    omega
   .
    exact hi
/-- The row on top is divided by its first entry, and multiples of it are taken from all others. -/
theorem Stage.clear {n B j : Nat} {s : j0} {Mp : de} (h : Stage n B s Mp) (ht : s.top < n) (hj : j < n) (h0 : s.tab s.top j ≠ 0) (piv : List (Option Nat)) : Stage n B ⟨aT (bj s.tab s.top (s.tab s.top j)) s.top j, s.top + 1, piv, s.last * s.tab s.top j, s.cols ++ [j]⟩ Mp := by
 obtain ⟨lead, hl⟩ : ∃ x, s.tab s.top j = x := ⟨_, rfl⟩;rw [hl] at h0 |-;have htop : aT (bj s.tab s.top lead) s.top j s.top = fun c => s.tab s.top c / lead := by simp [aT, bj]
 have hoth : ∀ i, i ≠ s.top -> aT (bj s.tab s.top lead) s.top j i = fun c => s.tab i c - s.tab i j * (s.tab s.top c / lead) := fun i hi => by
  unfold aT bj;rw [if_neg hi, if_neg hi, if_pos rfl]
 have hlj : lead / lead = 1 := by rw [Rat.div_def]; exact Rat.mul_inv_cancel _ h0
 refine ⟨ht, by rw [List.length_append, h.len]; rfl, ?_, ?_, fun i c hc r hr => ?_, fun is hi cs => ?_, h.int⟩
 .
  exact fun e => (Rat.mul_eq_zero.1 e).elim h.nz h0
 .
  intro c hc
  rcases List.mem_append.1 hc with hc | hc
  .
   exact h.col c hc
  .
   simp at hc; subst hc; exact hj
 .
  simp only at hc |-
  by_cases hi : i < s.top
  .
   rw [List.getElem?_append_left (by rw [h.len]; exact hi)] at hc;have htc : s.tab s.top c = 0 := by rw [h.one i c hc _ ht, if_neg (by omega)]
   by_cases hr2 : r = s.top
   .
    subst hr2;rw [htop];simp only;rw [htc, if_neg (by omega)];grind
   .
    rw [hoth r hr2];simp only;rw [htc, h.one i c hc r hr];grind
  .
   have hit : i = s.top := by
    have := (List.getElem?_eq_some_iff.1 hc).1;rw [List.length_append, h.len] at this;simp at this;omega
   subst hit;rw [List.getElem?_append_right (by rw [h.len]; exact Nat.le_refl _), h.len, Nat.sub_self] at hc;simp at hc;subst hc
   by_cases hr2 : r = s.top
   .
    subst hr2;rw [htop, if_pos rfl];simp only;rw [hl, hlj]
   .
    rw [hoth r hr2, if_neg hr2];simp only;rw [hl, hlj];grind
 .
  simp only at hi |-;have e1 : List.range (s.top + 1) ++ is = List.range s.top ++ s.top :: is := by rw [List.range_succ, List.append_assoc]; rfl
  rw [e1]
  have h1 := h.dt (s.top :: is) (fun i hx => by
   rcases List.mem_cons.1 hx with rfl | hx
   .
    exact ⟨Nat.le_refl _, ht⟩
   .
    have := hi i hx; omega) cs
  rw [h1, List.map_append, List.map_append, List.map_cons, List.map_cons, htop]
  -- the rows as rows of the elder table, each with a multiple of the new one
  have ef : (List.range s.top).map (aT (bj s.tab s.top lead) s.top j) = ((List.range s.top).map s.tab).map fun x => fun c => x c + (-(x j)) * (s.tab s.top c / lead) := by
   rw [List.map_map];refine List.map_congr_left fun i hi => ?_
   have := List.mem_range.1 hi;rw [hoth i (by omega)]
   funext c
   simp only [Function.comp];grind
  have eb : is.map (aT (bj s.tab s.top lead) s.top j) = (is.map s.tab).map fun x => fun c => x c + (-(x j)) * (s.tab s.top c / lead) := by
   rw [List.map_map];refine List.map_congr_left fun i hx => ?_
   have := hi i hx;rw [hoth i (by omega)]
   funext c
   simp only [Function.comp];grind
  rw [ef, eb];have h2 := eX ((List.range s.top).map s.tab) ((is.map s.tab).map fun x => fun c => x c + (-(x j)) * (s.tab s.top c / lead)) [] (fun c => s.tab s.top c / lead) (fun x => -(x j)) cs;simp only [List.nil_append] at h2;rw [h2];have h3 := fF ((List.range s.top).map s.tab) (is.map s.tab) [] (fun c => s.tab s.top c / lead) (fun x => -(x j)) cs;simp only [List.nil_append] at h3;rw [h3];have h4 := mo ((List.range s.top).map s.tab) (is.map s.tab) (fun c => s.tab s.top c / lead) lead cs
  have h5 : (fun c => lead * (s.tab s.top c / lead)) = s.tab s.top := by
   funext c
   rw [Rat.div_def, Rat.mul_comm (s.tab s.top c), <- Rat.mul_assoc, Rat.mul_inv_cancel _ h0, Rat.one_mul]
  rw [h5] at h4;rw [h4];grind
theorem Stage.step {n B j : Nat} {s : j0} {Mp : de} (h : Stage n B s Mp) (hj : j < n) : ∃ Mp', Stage n B (bs n j s) Mp' := by
 unfold bs
 cases hf : bK s.tab j (n - s.top) s.top with
 | none => exact ⟨Mp, h.le, h.len, h.nz, h.col, h.one, h.dt, h.int⟩
 | some a =>
  obtain ⟨h1, h2, h3, _⟩ := dU hf;have hle := h.le;have hs := h.swap h1 (by omega);have hc := hs.clear (j := j) (by simp only; omega) hj (by simp only [aL, if_pos]; exact h3) (s.piv ++ [some s.top]);simp only [aL, if_pos] at hc;exact ⟨_, hc⟩
theorem Stage.run {n B : Nat} {M : de} (h : ∀ i, i < n -> ∀ c, c <= n -> ∃ z : Int, M i c = (z : Rat) /\ z.natAbs <= B) (j : Nat) (_hj : j <= n) : ∃ Mp, Stage n B (aU n M j) Mp := by
 induction j with
 | zero => exact ⟨M, Stage.start h⟩
 | succ j ih =>
  obtain ⟨Mp, hs⟩ := ih (by omega);exact hs.step (by omega)
/-- The last product of pivots, and it times every entry, are integers, and not too large. -/
theorem Stage.ints {n B : Nat} {s : j0} {Mp : de} (h : Stage n B s Mp) : (∃ z : Int, s.last = (z : Rat) /\ z.natAbs <= ((n + 1) * (B + 1)) ^ (n + 1)) /\ ∀ i, i < n -> ∀ c, c <= n -> ∃ z : Int, s.last * s.tab i c = (z : Rat) /\ z.natAbs <= ((n + 1) * (B + 1)) ^ (n + 1) := by
 have hle := h.le
 have hB : ∀ k, k <= n + 1 -> (k * B) ^ k <= ((n + 1) * (B + 1)) ^ (n + 1) := fun k hk => by
  refine Nat.le_trans (Nat.pow_le_pow_left (Nat.mul_le_mul hk (Nat.le_succ B)) k) (Nat.pow_le_pow_right ?_ hk);exact Nat.mul_pos (by omega) (by omega)
 have hi : ∀ (is cs : List Nat), (∀ i ∈ is, i < n) -> (∀ c ∈ cs, c <= n) -> is.length = cs.length -> cs.length <= n + 1 -> ∃ z : Int, cI (is.map Mp) cs = (z : Rat) /\ z.natAbs <= ((n + 1) * (B + 1)) ^ (n + 1) := fun is cs h1 h2 h3 h4 => by
  obtain ⟨z, hz, hb⟩ := qP (rs := is.map Mp) (cs := cs) (B := B) (fun r hr c hc => by
   obtain ⟨i, hi, rfl⟩ := List.mem_map.1 hr;exact h.int i (h1 i hi) c (h2 c hc)) (by rw [List.length_map]; exact h3)
  exact ⟨z, hz, Nat.le_trans hb (hB _ h4)⟩
 have hu : UnitR ((List.range s.top).map s.tab) s.cols := by
  refine ⟨by simp [h.len], fun i r hr k j hj => ?_⟩;rw [List.getElem?_map] at hr;obtain ⟨x, hx, rfl⟩ := Option.map_eq_some_iff.1 hr;have hlt := (List.getElem?_eq_some_iff.1 hx).1;simp at hlt;rw [List.getElem?_range hlt] at hx;injection hx with hx;subst hx;exact h.one k j hj i (by omega)
 have hr : ∀ i ∈ List.range s.top, i < n := fun i hi => by have := List.mem_range.1 hi; omega
 have hc : ∀ c ∈ s.cols, c <= n := fun c hc => Nat.le_of_lt (h.col c hc)
 refine ⟨?_, fun i hin c hcn => ?_⟩
 .
  have h1 := h.dt [] (by simp) s.cols;rw [List.append_nil, iT hu] at h1;obtain ⟨z, hz, hb⟩ := hi (List.range s.top) s.cols hr hc (by simp [h.len]) (by rw [h.len]; omega);exact ⟨z, by rw [<- hz, h1]; grind, hb⟩
 .
  by_cases hit : i < s.top
  .
   have h1 := h.dt [] (by simp) (s.cols.set i c);rw [List.append_nil, gX (r := s.tab i) hu (by rw [List.getElem?_map, List.getElem?_range hit]; rfl)] at h1
   obtain ⟨z, hz, hb⟩ := hi (List.range s.top) (s.cols.set i c) hr (fun x hx => by
    rcases List.mem_or_eq_of_mem_set hx with hx | hx
    .
     exact hc x hx
    .
     subst hx; exact hcn) (by simp [h.len]) (by simp [h.len]; omega)
   exact ⟨z, by rw [<- hz, h1], hb⟩
  .
   have h1 := h.dt [i] (by simp; omega) (s.cols ++ [c]);rw [List.map_append, List.map_append, List.map_cons, List.map_nil, List.map_cons, List.map_nil, f7 hu (fun j hj => ?_)] at h1
   .
    obtain ⟨z, hz, hb⟩ := hi (List.range s.top ++ [i]) (s.cols ++ [c]) (fun x hx => by
     rcases List.mem_append.1 hx with hx | hx
     .
      exact hr x hx
     .
      simp at hx; omega) (fun x hx => by
     rcases List.mem_append.1 hx with hx | hx
     .
      exact hc x hx
     .
      simp at hx; omega) (by simp [h.len]) (by simp [h.len]; omega)
    rw [List.map_append, List.map_cons, List.map_nil] at hz;exact ⟨z, by rw [<- hz, h1], hb⟩
   .
    obtain ⟨k, hk⟩ := List.mem_iff_getElem?.1 hj;rw [h.one k j hk i hin, if_neg];have := (List.getElem?_eq_some_iff.1 hk).1;have := h.len;omega
end Go.Proofs.Ytikhlcgnlbinfaa
namespace Go.Proofs.Ytikhlcgnlbinfaa
open Lib (hid)
def bp : Nat -> (Nat -> Rat) -> Rat
 | 0, _ => 0
 | n + 1, f => bp n f + f n
theorem iU (n : Nat) (f g : Nat -> Rat) : bp n (fun i => f i + g i) = bp n f + bp n g := by
 induction n with
 | zero => simp [bp]; grind
 | succ n ih => simp only [bp]; rw [ih]; grind
theorem dk (n : Nat) (k : Rat) (f : Nat -> Rat) : bp n (fun i => k * f i) = k * bp n f := by
 induction n with
 | zero => simp only [bp]; grind
 | succ n ih => simp only [bp]; rw [ih]; grind
theorem mA (n : Nat) : bp n (fun _ => 0) = 0 := by
 induction n with
 | zero => rfl
 | succ n ih => simp only [bp]; rw [ih]; grind
theorem bZ {n : Nat} {f g : Nat -> Rat} (h : ∀ i, i < n -> f i = g i) : bp n f = bp n g := by
 induction n with
 | zero => rfl
 | succ n ih => simp only [bp]; rw [ih fun i hi => h i (by omega), h n (by omega)]
theorem iV (n : Nat) (f g : Nat -> Rat) : bp n (fun i => f i - g i) = bp n f - bp n g := by
 have h := iU n f (fun i => (-1) * g i);rw [dk] at h;have e : (fun i => f i - g i) = fun i => f i + (-1) * g i := by funext i; grind
 rw [e, h]; grind
theorem iW {n k : Nat} {f : Nat -> Rat} (_hk : k < n) (h : ∀ i, i < n -> i ≠ k -> f i = 0) : bp n f = f k := by
 induction n with
 | zero => omega
 | succ n ih =>
  simp only [bp]
  by_cases e : k = n
  .
   subst e;rw [bZ (g := fun _ => 0) fun i hi => h i (by omega) (by omega), mA];grind
  .
   rw [ih (by omega) fun i hi hne => h i (by omega) hne, h n (by omega) (fun q => e q.symm)];grind
def oz (n : Nat) (T : de) (v : Nat -> Rat) : Prop := ∀ i, i < n -> bp n (fun j => T i j * v j) = T i n
/-- Row i of the table is a sum of multiples of M's rows. -/
def Comb (n : Nat) (M : de) (r : bt) : Prop := ∃ y : Nat -> Rat, ∀ c, c <= n -> r c = bp n fun i => y i * M i c
theorem Comb.row {n : Nat} {M : de} {i : Nat} (hi : i < n) : Comb n M (M i) := ⟨fun k => if k = i then 1 else 0, fun c _ => by
 rw [iW hi fun k _ hne => by simp only [if_neg hne]; grind];simp only [if_pos]; grind⟩
theorem Comb.add {n : Nat} {M : de} {r s : bt} (hr : Comb n M r) (hs : Comb n M s) (a b : Rat) : Comb n M (fun c => a * r c + b * s c) := by
 obtain ⟨y, hy⟩ := hr;obtain ⟨z, hz⟩ := hs;refine ⟨fun i => a * y i + b * z i, fun c hc => ?_⟩;simp only;rw [hy c hc, hz c hc, <- dk, <- dk, <- iU];exact bZ fun i _ => by grind
theorem oA {n : Nat} {T : de} {a b : Nat} (ha : a < n) (hb : b < n) (v : Nat -> Rat) : oz n (aL T a b) v ↔ oz n T v := by
 unfold oz aL;constructor
 .
  intro h i hi
  by_cases h1 : i = a
  .
   have := h b hb
   by_cases e : b = a
   .
    subst e h1; simpa using this
   .
    simp only [if_neg e, if_pos] at this; subst h1; exact this
  .
   by_cases h2 : i = b
   .
    have := h a ha; simp only [if_pos] at this; subst h2; exact this
   .
    have := h i hi; simp only [if_neg h1, if_neg h2] at this; exact this
 .
  intro h i hi
  by_cases h1 : i = a
  .
   subst h1; simp only [if_pos]; exact h b hb
  .
   by_cases h2 : i = b
   .
    subst h2; simp only [if_neg h1, if_pos]; exact h a ha
   .
    simp only [if_neg h1, if_neg h2]; exact h i hi
theorem oB {n : Nat} {T : de} {top : Nat} {lead : Rat} (h0 : lead ≠ 0) (_ht : top < n) (v : Nat -> Rat) : oz n (bj T top lead) v ↔ oz n T v := by
 have key : ∀ x y : Rat, x / lead = y / lead ↔ x = y := fun x y => by
  constructor
  .
   intro h;rw [Rat.div_def, Rat.div_def] at h;have h2 : x * lead⁻¹ * lead = y * lead⁻¹ * lead := by rw [h]
   rw [Rat.mul_assoc, Rat.mul_assoc, Rat.inv_mul_cancel _ h0, Rat.mul_one, Rat.mul_one] at h2;exact h2
  .
   intro h; rw [h]
 have hrow : bp n (fun j => T top j / lead * v j) = T top n / lead ↔ bp n (fun j => T top j * v j) = T top n := by
  rw [<- key (bp n (fun j => T top j * v j))]
  have e : bp n (fun j => T top j / lead * v j) = bp n (fun j => T top j * v j) / lead := by
   rw [Rat.div_def, Rat.mul_comm, <- dk];exact bZ fun j _ => by rw [Rat.div_def]; grind
  rw [e]
 unfold oz bj;constructor
 .
  intro h i hi
  by_cases h1 : i = top
  .
   have := h i hi; simp only [if_pos h1] at this; subst h1; exact hrow.1 this
  .
   have := h i hi; simp only [if_neg h1] at this; exact this
 .
  intro h i hi
  by_cases h1 : i = top
  .
   subst h1; simp only [if_pos]; exact hrow.2 (h i hi)
  .
   simp only [if_neg h1]; exact h i hi
theorem mB {n : Nat} {T : de} {top j : Nat} (ht : top < n) (v : Nat -> Rat) : oz n (aT T top j) v ↔ oz n T v := by
 have e : ∀ i, bp n (fun c => (T i c - T i j * T top c) * v c) = bp n (fun c => T i c * v c) - T i j * bp n (fun c => T top c * v c) := fun i => by
  rw [<- dk, <- iV];exact bZ fun c _ => by grind
 unfold oz aT;constructor
 .
  intro h;have h0 := h top ht;simp only [if_pos] at h0;intro i hi
  by_cases h1 : i = top
  .
   subst h1; exact h0
  .
   have := h i hi;simp only [if_neg h1] at this;rw [e, h0] at this;grind
 .
  intro h i hi
  by_cases h1 : i = top
  .
   subst h1; simp only [if_pos]; exact h i hi
  .
   simp only [if_neg h1];rw [e, h i hi, h top ht]
/-- What the reduction of the first j columns leaves. -/
structure Left (n j : Nat) (M : de) (s : j0) : Prop where
 sol : ∀ v, oz n s.tab v ↔ oz n M v
 comb : ∀ i, i < n -> Comb n M (s.tab i)
 zero : ∀ i, s.top <= i -> i < n -> ∀ c, c < j -> s.tab i c = 0
 plen : s.piv.length = j
 psome : ∀ (c i : Nat), s.piv[c]? = some (some i) -> s.cols[i]? = some c
 pnone : ∀ (c : Nat), s.piv[c]? = some none -> c ∉ s.cols
 lt : ∀ c ∈ s.cols, c < j
theorem Left.start (n : Nat) (M : de) : Left n 0 M ⟨M, 0, [], 1, []⟩ where
 sol := fun _ => Iff.rfl
 comb := fun i hi => Comb.row hi
 zero := fun i _ _ c hc => by omega
 plen := rfl
 psome := fun c i h => by simp at h
 pnone := fun c h => by simp at h
 lt := by simp
theorem Left.step {n j B : Nat} {M : de} {s : j0} {Mp : de} (h : Left n j M s) (hst : Stage n B s Mp) (_hj : j < n) : Left n (j + 1) M (bs n j s) := by
 unfold bs
 cases hf : bK s.tab j (n - s.top) s.top with
 | none =>
  have hz := j1 hf;have hle := hst.le;refine ⟨h.sol, h.comb, fun i h1 h2 c hc => ?_, by simp [h.plen], fun c i hp => ?_, fun c hp => ?_, fun c hc => by have := h.lt c hc; omega⟩
  .
   by_cases e : c = j
   .
    subst e; exact hz i h1 (by simp only at h1; omega)
   .
    exact h.zero i h1 h2 c (by omega)
  .
   simp only at hp |-
   by_cases e : c < j
   .
    rw [List.getElem?_append_left (by rw [h.plen]; exact e)] at hp;exact h.psome c i hp
   .
    rw [List.getElem?_append_right (by rw [h.plen]; omega)] at hp;have := List.mem_of_getElem? hp;simp at this
  .
   simp only at hp |-
   by_cases e : c < j
   .
    rw [List.getElem?_append_left (by rw [h.plen]; exact e)] at hp;exact h.pnone c hp
   .
    intro hc;have := h.lt c hc;omega
 | some a =>
  obtain ⟨h1, h2, h3, _⟩ := dU hf;have hle := hst.le;have ha : a < n := by omega
  have ht : s.top < n := by omega
  have htop : ∀ c, aT (bj (aL s.tab s.top a) s.top (s.tab a j)) s.top j s.top c = s.tab a c / s.tab a j := fun c => by simp [aT, bj, aL]
  have hoth : ∀ i, i ≠ s.top -> ∀ c, aT (bj (aL s.tab s.top a) s.top (s.tab a j)) s.top j i c = s.tab (if i = a then s.top else i) c - s.tab (if i = a then s.top else i) j * (s.tab a c / s.tab a j) := fun i hi c => by
   simp only [aT, bj, aL, if_neg hi, if_pos]
   by_cases e : i = a
   .
    simp only [if_pos e]
   .
    simp only [if_neg e]
  have hfa : ∀ i, i < n -> (if i = a then s.top else i) < n := fun i hi => by split <;> omega
  refine ⟨fun v => ?_, fun i hi => ?_, fun i hi1 hi2 c hc => ?_, by simp [h.plen], fun c i hp => ?_, fun c hp => ?_, fun c hc => ?_⟩
  .
   rw [mB ht, oB h3 ht, oA ht ha, h.sol]
  .
   by_cases e : i = s.top
   .
    subst e;obtain ⟨y, hy⟩ := (h.comb a ha).add (h.comb a ha) (s.tab a j)⁻¹ 0;refine ⟨y, fun c hc => ?_⟩;simp only;rw [htop, <- hy c hc, Rat.div_def];grind
   .
    obtain ⟨y, hy⟩ := (h.comb _ (hfa i hi)).add (h.comb a ha) 1 (-(s.tab (if i = a then s.top else i) j * (s.tab a j)⁻¹));refine ⟨y, fun c hc => ?_⟩;simp only;rw [hoth i e, <- hy c hc, Rat.div_def];grind
  .
   simp only at hi1 |-;rw [hoth i (by omega)];have hx : s.top <= (if i = a then s.top else i) := by split <;> omega
   by_cases e : c = j
   .
    subst e;rw [Rat.div_def, Rat.mul_inv_cancel _ h3];grind
   .
    rw [h.zero _ hx (hfa i hi2) c (by omega), h.zero a h1 ha c (by omega), Rat.div_def];grind
  .
   simp only at hp |-
   by_cases e : c < j
   .
    rw [List.getElem?_append_left (by rw [h.plen]; exact e)] at hp;have := h.psome c i hp;rw [List.getElem?_append_left (List.getElem?_eq_some_iff.1 this).1];exact this
   .
    rw [List.getElem?_append_right (by rw [h.plen]; omega), h.plen] at hp
    have hcj : c - j = 0 := by
     have := (List.getElem?_eq_some_iff.1 hp).1
     simpa using this
    rw [hcj] at hp;simp at hp;subst hp;rw [<- hst.len, List.getElem?_append_right (Nat.le_refl _), Nat.sub_self];simp;omega
  .
   simp only at hp |-
   by_cases e : c < j
   .
    rw [List.getElem?_append_left (by rw [h.plen]; exact e)] at hp;intro hc
    rcases List.mem_append.1 hc with hc | hc
    .
     exact h.pnone c hp hc
    .
     simp at hc; omega
   .
    rw [List.getElem?_append_right (by rw [h.plen]; omega)] at hp;have := List.mem_of_getElem? hp;simp at this
  .
   rcases List.mem_append.1 hc with hc | hc
   .
    have := h.lt c hc; omega
   .
    simp at hc; omega
theorem Left.run {n B : Nat} {M : de} (h : ∀ i, i < n -> ∀ c, c <= n -> ∃ z : Int, M i c = (z : Rat) /\ z.natAbs <= B) (j : Nat) (_hj : j <= n) : Left n j M (aU n M j) := by
 induction j with
 | zero => exact Left.start n M
 | succ j ih =>
  obtain ⟨Mp, hs⟩ := Stage.run h j (by omega);exact (ih (by omega)).step hs (by omega)
/-- The solution: what stands on the right in the row of each pivot; 0 for all others. -/
def iX (n : Nat) (s : j0) (j : Nat) : Rat := match s.piv[j]? with
 | some (some i) => s.tab i n
 | _ => 0
end Go.Proofs.Ytikhlcgnlbinfaa
namespace Go.Proofs.Ytikhlcgnlbinfaa
open Lib (hid)
/-- A match. -/
structure Mt where
 a : Int
 b : Int
 x : Int
 y : Int
 z : Int
 d : Int
 w : Int
 deriving DecidableEq
def Mt.nrm (m : Mt) (k : Nat) : Int := if k = 0 then m.x else if k = 1 then m.y else m.z
/-- The coefficient of an unknown. -/
def aM (m : Mt) (u : Nat) : Int := if ((u / 3 : Nat) : Int) = m.a then m.nrm (u % 3) else if ((u / 3 : Nat) : Int) = m.b then -(m.nrm (u % 3)) else 0
structure VM (S : Int) (m : Mt) : Prop where
 a0 : 0 <= m.a
 aS : m.a < S
 b0 : -1 <= m.b
 bS : m.b < S
 ne : m.a ≠ m.b
 nz : ¬ (m.x = 0 /\ m.y = 0 /\ m.z = 0)
 x1 : -100 <= m.x
 x2 : m.x <= 100
 y1 : -100 <= m.y
 y2 : m.y <= 100
 z1 : -100 <= m.z
 z2 : m.z <= 100
 d1 : -274877906944 <= m.d
 d2 : m.d <= 274877906944
 w1 : 1 <= m.w
 w2 : m.w <= 1000
def VP (S : Int) (ms : List Mt) : Prop := 1 <= S /\ S <= 8 /\ ms.length <= 64 /\ ∀ m ∈ ms, VM S m
theorem b7 {S : Int} {m : Mt} (h : VM S m) (u : Nat) : -100 <= aM m u /\ aM m u <= 100 := by
 have := h.x1; have := h.x2; have := h.y1; have := h.y2; have := h.z1; have := h.z2;have hn : ∀ k, -100 <= m.nrm k /\ m.nrm k <= 100 := fun k => by unfold Mt.nrm; split; omega; split <;> omega
 have := hn (u % 3);unfold aM;split
 .
  omega
 .
  split <;> omega
/-- Left and right side of the normal equations. -/
def cU : List Mt -> Nat -> Nat -> Int
 | [], _, _ => 0
 | m :: ms, i, j => m.w * aM m i * aM m j + cU ms i j
def cV : List Mt -> Nat -> Int
 | [], _ => 0
 | m :: ms, i => -(m.w * m.d * aM m i) + cV ms i
theorem j2 (a b : List Mt) (i j : Nat) : cU (a ++ b) i j = cU a i j + cU b i j := by
 induction a with
 | nil => simp [cU]
 | cons m a ih => simp only [List.cons_append, cU, ih]; omega
theorem j3 (a b : List Mt) (i : Nat) : cV (a ++ b) i = cV a i + cV b i := by
 induction a with
 | nil => simp [cV]
 | cons m a ih => simp only [List.cons_append, cV, ih]; omega
theorem ch {x y A B : Int} (_h1 : -A <= x) (_h2 : x <= A) (_h3 : -B <= y) (_h4 : y <= B) : -(A * B) <= x * y /\ x * y <= A * B := by
 have e1 := Int.mul_nonneg (show 0 <= A - x by omega) (show 0 <= B - y by omega);have e2 := Int.mul_nonneg (show 0 <= A + x by omega) (show 0 <= B + y by omega);have e3 := Int.mul_nonneg (show 0 <= A - x by omega) (show 0 <= B + y by omega);have e4 := Int.mul_nonneg (show 0 <= A + x by omega) (show 0 <= B - y by omega);have f1 : (A - x) * (B - y) = A * B - A * y - x * B + x * y := by grind
 have f2 : (A + x) * (B + y) = A * B + A * y + x * B + x * y := by grind
 have f3 : (A - x) * (B + y) = A * B + A * y - x * B - x * y := by grind
 have f4 : (A + x) * (B - y) = A * B - A * y + x * B - x * y := by grind
 omega
theorem oC {S : Int} {m : Mt} (h : VM S m) (i j : Nat) : -10000000 <= m.w * aM m i * aM m j /\ m.w * aM m i * aM m j <= 10000000 := by
 have h1 := b7 h i;have h2 := b7 h j;have a := ch (A := 1000) (B := 100) (by have := h.w1; omega) h.w2 h1.1 h1.2;exact ch (A := 100000) (B := 100) (by omega) (by omega) h2.1 h2.2
theorem ln {S : Int} {m : Mt} (h : VM S m) : -274877906944000 <= m.w * m.d /\ m.w * m.d <= 274877906944000 :=
 ch (A := 1000) (B := 274877906944) (by have := h.w1; omega) h.w2 h.d1 h.d2
theorem oD {S : Int} {m : Mt} (h : VM S m) (i : Nat) : -27487790694400000 <= m.w * m.d * aM m i /\ m.w * m.d * aM m i <= 27487790694400000 := by
 have h1 := b7 h i;exact ch (A := 274877906944000) (B := 100) (ln h).1 (ln h).2 h1.1 h1.2
theorem dG {S : Int} {ms : List Mt} (h : ∀ m ∈ ms, VM S m) (i j : Nat) : -(10000000 * (ms.length : Int)) <= cU ms i j /\ cU ms i j <= 10000000 * (ms.length : Int) := by
 induction ms with
 | nil => simp [cU]
 | cons m ms ih =>
  have a := ih fun x hx => h x (List.mem_cons_of_mem _ hx)
  have b := oC (h m List.mem_cons_self) i j;simp only [cU, List.length_cons];omega
theorem dH {S : Int} {ms : List Mt} (h : ∀ m ∈ ms, VM S m) (i : Nat) : -(27487790694400000 * (ms.length : Int)) <= cV ms i /\ cV ms i <= 27487790694400000 * (ms.length : Int) := by
 induction ms with
 | nil => simp [cV]
 | cons m ms ih =>
  have a := ih fun x hx => h x (List.mem_cons_of_mem _ hx)
  have b := oD (h m List.mem_cons_self) i;simp only [cV, List.length_cons];omega
/-- The table of the normal equations, the right side in column n. -/
def bl (ms : List Mt) (n : Nat) : de := fun i c => if c = n then ((cV ms i : Int) : Rat) else ((cU ms i c : Int) : Rat)
theorem oE {S : Int} {ms : List Mt} {L : Nat} (h : ∀ m ∈ ms, VM S m) (_hl : ms.length <= L) (n : Nat) (i c : Nat) : ∃ z : Int, bl ms n i c = (z : Rat) /\ z.natAbs <= 27487790694400000 * L := by
 unfold bl;split
 .
  refine ⟨_, rfl, ?_⟩;have := dH h i;omega
 .
  refine ⟨_, rfl, ?_⟩;have := dG h i c;omega
/-- Sums kJ matches. -/
def iY : List Mt -> (Mt -> Rat) -> Rat
 | [], _ => 0
 | m :: ms, f => f m + iY ms f
theorem iZ (a b : List Mt) (f : Mt -> Rat) : iY (a ++ b) f = iY a f + iY b f := by
 induction a with
 | nil => simp only [List.nil_append, iY]; grind
 | cons m a ih => simp only [List.cons_append, iY, ih]; grind
def sX (n : Nat) (m : Mt) (u : Nat -> Rat) : Rat := bp n fun j => (aM m j : Rat) * u j
/-- Residual, cZ, slopes. -/
def dV (n : Nat) (m : Mt) (u : Nat -> Rat) : Rat := (m.d : Rat) + sX n m u
def cW (n : Nat) (u : Nat -> Rat) (m : Mt) : Rat := (m.w : Rat) * (dV n m u * dV n m u)
def cZ (n : Nat) (ms : List Mt) (u : Nat -> Rat) : Rat := iY ms (cW n u)
/-- The solution of a problem. -/
def bz (n : Nat) (ms : List Mt) : Nat -> Rat := iX n (aU n (bl ms n) n)
theorem bC {S : Int} {ms : List Mt} (h : ∀ m ∈ ms, VM S m) (n : Nat) : ∀ i, i < n -> ∀ c, c <= n -> ∃ z : Int, bl ms n i c = (z : Rat) /\ z.natAbs <= 27487790694400000 * ms.length := fun i _ c _ => oE h (Nat.le_refl _) n i c
end Go.Proofs.Ytikhlcgnlbinfaa
namespace Go.Proofs.Ytikhlcgnlbinfaa
open Lib (hid)
theorem Stage.pivtop {n : Nat} {T : de} (j : Nat) : ∀ c i : Nat, (aU n T j).piv[c]? = some (some i) -> i < (aU n T j).top := by
 induction j with
 | zero => intro c i h; simp [aU] at h
 | succ j ih =>
  intro c i h;simp only [aU] at h |-;generalize aU n T j = s at *;unfold bs at h |-
  cases hf : bK s.tab j (n - s.top) s.top with
  | none =>
   simp only [hf] at h |-;rw [List.getElem?_append] at h;split at h
   .
    exact ih c i h
   .
    have := List.mem_of_getElem? h;simp at this
  | some a =>
   simp only [hf] at h |-;rw [List.getElem?_append] at h;split at h
   .
    have := ih c i h; omega
   .
    have := List.mem_of_getElem? h;simp at this;omega
theorem mC (n : Nat) (T : de) (j : Nat) : (aU n T j).piv.length = j := by
 induction j with
 | zero => rfl
 | succ j ih =>
  simp only [aU];unfold bs;split <;> simp [ih]
end Go.Proofs.Ytikhlcgnlbinfaa
namespace Go.Proofs.Ytikhlcgnlbinfaa
open Lib (hid)
theorem qQ (q : Rat) : q * (q.den : Rat) = (q.num : Rat) := by
 have h := Rat.num_divInt_den q;rw [Rat.divInt_eq_div] at h
 have h0 : ((q.den : Int) : Rat) ≠ 0 := fun e => q.den_nz (by
  have e2 : ((q.den : Int) : Rat) = ((0 : Int) : Rat) := e;have e3 : (q.den : Int) = 0 := Rat.intCast_inj.1 e2;omega)
 have h2 := Rat.mul_inv_cancel _ h0;rw [Rat.div_def] at h;show q * ((q.den : Int) : Rat) = _;grind
/-- Powers of 2^32. -/
def BB (k : Nat) : Nat := 4294967296 ^ k
theorem sd (a b : Nat) : BB (a + b) = BB a * BB b := Nat.pow_add _ _ _
theorem se (k : Nat) : 0 < BB k := Nat.pow_pos (by decide)
theorem oF {a b : Nat} (h : a <= b) : BB a <= BB b := Nat.pow_le_pow_right (by decide) h
theorem sh : BB 1 = 4294967296 := Nat.pow_one _
def OverD (P Z : Nat) (q : Rat) : Prop := ∃ z : Int, q * (P : Rat) = (z : Rat) /\ z.natAbs <= Z
/-- In lowest terms it is no greater. -/
theorem OverD.low {P Z : Nat} {q : Rat} (hP : 0 < P) (h : OverD P Z q) : q.num.natAbs <= Z /\ q.den <= P := by
 obtain ⟨z, h1, h2⟩ := h
 have e : q.num * (P : Int) = z * (q.den : Int) := by
  have h3 : (q.num : Rat) = q * (q.den : Rat) := (qQ q).symm
  have h4 : ((q.num * (P : Int) : Int) : Rat) = ((z * (q.den : Int) : Int) : Rat) := by
   rw [Rat.intCast_mul, Rat.intCast_mul, <- h1, h3];show q * (q.den : Rat) * (P : Rat) = q * (P : Rat) * (q.den : Rat);grind
  exact Rat.intCast_inj.1 h4
 have e2 : q.num.natAbs * P = z.natAbs * q.den := by
  have := congrArg Int.natAbs e
  rwa [Int.natAbs_mul, Int.natAbs_mul, Int.natAbs_natCast, Int.natAbs_natCast] at this
 have hd : q.den ∣ P := by
  have h5 : q.den ∣ q.num.natAbs * P := ⟨z.natAbs, by rw [e2, Nat.mul_comm]⟩;exact (Nat.Coprime.dvd_of_dvd_mul_left (Nat.Coprime.symm q.reduced) h5)
 have hle := Nat.le_of_dvd hP hd;refine ⟨?_, hle⟩
 have h6 : q.num.natAbs * P <= Z * P := by
  rw [e2];exact Nat.mul_le_mul h2 hle
 exact Nat.le_of_mul_le_mul_right h6 hP
/-- What the matches say of the shifts of their strips alone. -/
theorem j4 (S : Nat) (f : Nat -> Rat) : bp (3 * S) f = bp S fun s => f (3 * s) + f (3 * s + 1) + f (3 * s + 2) := by
 induction S with
 | zero => rfl
 | succ S ih =>
  show bp (3 * S + 3) f = _;simp only [bp];rw [ih];grind
theorem gY {n k : Nat} (hk : k < n) (f : Nat -> Rat) : bp n (fun i => if i = k then f i else 0) = f k := by
 rw [iW hk fun i _ hne => if_neg hne, if_pos rfl]
/-- The shift of the strip of a match, less that of the other one. -/
def pV (m : Mt) (u : Nat -> Rat) (k : Nat) : Rat := if 0 <= m.b then u (3 * m.a.toNat + k) - u (3 * m.b.toNat + k) else u (3 * m.a.toNat + k)
theorem mD {S : Nat} {m : Mt} (h : VM S m) (u : Nat -> Rat) : sX (3 * S) m u = (m.x : Rat) * pV m u 0 + (m.y : Rat) * pV m u 1 + (m.z : Rat) * pV m u 2 := by
 unfold sX;rw [j4];have ha0 := h.a0;have haS := h.aS;have hb0 := h.b0;have hbS := h.bS;have hne := h.ne
 have hc : ∀ s k, k < 3 -> aM m (3 * s + k) = if s = m.a.toNat then m.nrm k else if 0 <= m.b /\ s = m.b.toNat then -(m.nrm k) else 0 := fun s k hk => by
  unfold aM;rw [show (3 * s + k) / 3 = s by omega, show (3 * s + k) % 3 = k by omega]
  by_cases e1 : s = m.a.toNat
  .
   rw [if_pos (by omega), if_pos e1]
  .
   rw [if_neg (by omega), if_neg e1]
   by_cases e2 : 0 <= m.b /\ s = m.b.toNat
   .
    rw [if_pos (by omega), if_pos e2]
   .
    rw [if_neg (by omega), if_neg e2]
 have h0 : ∀ s, aM m (3 * s) = if s = m.a.toNat then m.x else if 0 <= m.b /\ s = m.b.toNat then -m.x else 0 := fun s => hc s 0 (by omega)
 have h1 : ∀ s, aM m (3 * s + 1) = if s = m.a.toNat then m.y else if 0 <= m.b /\ s = m.b.toNat then -m.y else 0 := fun s => hc s 1 (by omega)
 have h2 : ∀ s, aM m (3 * s + 2) = if s = m.a.toNat then m.z else if 0 <= m.b /\ s = m.b.toNat then -m.z else 0 := fun s => hc s 2 (by omega)
 obtain ⟨g, hg⟩ : ∃ g : Nat -> Rat, ∀ s, g s = (m.x : Rat) * u (3 * s) + (m.y : Rat) * u (3 * s + 1) + (m.z : Rat) * u (3 * s + 2) := ⟨_, fun _ => rfl⟩
 by_cases hb : 0 <= m.b
 .
  have e : ∀ s, s < S -> (aM m (3 * s) : Rat) * u (3 * s) + (aM m (3 * s + 1) : Rat) * u (3 * s + 1) + (aM m (3 * s + 2) : Rat) * u (3 * s + 2) = (if s = m.a.toNat then g s else 0) - (if s = m.b.toNat then g s else 0) := fun s _ => by
   rw [h0, h1, h2, hg]
   by_cases e1 : s = m.a.toNat
   .
    rw [if_pos e1, if_pos e1, if_pos e1, if_pos e1, if_neg (by omega)]; grind
   .
    rw [if_neg e1, if_neg e1, if_neg e1, if_neg e1]
    by_cases e2 : s = m.b.toNat
    .
     rw [if_pos ⟨hb, e2⟩, if_pos ⟨hb, e2⟩, if_pos ⟨hb, e2⟩, if_pos e2, Rat.intCast_neg, Rat.intCast_neg, Rat.intCast_neg]; grind
    .
     rw [if_neg (fun q => e2 q.2), if_neg (fun q => e2 q.2), if_neg (fun q => e2 q.2), if_neg e2, show ((0 : Int) : Rat) = 0 from rfl]; grind
  rw [bZ e, iV, gY (by omega), gY (by omega), hg, hg];unfold pV;simp only [if_pos hb, Nat.add_zero];grind
 .
  have e : ∀ s, s < S -> (aM m (3 * s) : Rat) * u (3 * s) + (aM m (3 * s + 1) : Rat) * u (3 * s + 1) + (aM m (3 * s + 2) : Rat) * u (3 * s + 2) = if s = m.a.toNat then g s else 0 := fun s _ => by
   rw [h0, h1, h2, hg]
   by_cases e1 : s = m.a.toNat
   .
    rw [if_pos e1, if_pos e1, if_pos e1, if_pos e1]
   .
    rw [if_neg e1, if_neg e1, if_neg e1, if_neg e1, if_neg (fun q => hb q.1), if_neg (fun q => hb q.1), if_neg (fun q => hb q.1), show ((0 : Int) : Rat) = 0 from rfl]; grind
  rw [bZ e, gY (by omega), hg];unfold pV;simp only [if_neg hb, Nat.add_zero]
end Go.Proofs.Ytikhlcgnlbinfaa
namespace Go.Proofs.Ytikhlcgnlbinfaa
open Lib (hid)
/-- The order of matches by what they are. -/
def eI : List (Int × Int) -> Bool
 | [] => false
 | (x, y) :: l => if x = y then eI l else decide (x < y)
def pW (p q : Mt) : Bool := eI [(p.a, q.a), (p.b, q.b), (p.x, q.x), (p.y, q.y), (p.z, q.z), (p.d, q.d), (p.w, q.w)]
def aZ (ms : List Mt) (i : Nat) : Mt := ms[i]?.getD ⟨0, 0, 0, 0, 0, 0, 0⟩
/-- One match is compared with the worst so far. -/
def dM (n : Nat) (u : Nat -> Rat) (ms : List Mt) (k : Nat) (s : Option Nat × Rat) : Option Nat × Rat :=
 match s.1 with
 | none => (some k, cW n u (aZ ms k))
 | some a => if s.2 < cW n u (aZ ms k) \/ cW n u (aZ ms k) = s.2 /\ pW (aZ ms k) (aZ ms a) = true then (some k, cW n u (aZ ms k)) else s
def bW (n : Nat) (u : Nat -> Rat) (ms : List Mt) : Nat -> Option Nat × Rat
 | 0 => (none, 0)
 | k + 1 => dM n u ms k (bW n u ms k)
theorem fG (n : Nat) (u : Nat -> Rat) (ms : List Mt) (k : Nat) : ∃ a, (bW n u ms (k + 1)).1 = some a /\ a <= k /\ (bW n u ms (k + 1)).2 = cW n u (aZ ms a) := by
 induction k with
 | zero => exact ⟨0, rfl, Nat.le_refl _, rfl⟩
 | succ k ih =>
  obtain ⟨a, h1, h2, h3⟩ := ih;show ∃ b, (dM n u ms (k + 1) (bW n u ms (k + 1))).1 = some b /\ b <= k + 1 /\ (dM n u ms (k + 1) (bW n u ms (k + 1))).2 = cW n u (aZ ms b);unfold dM;rw [h1];simp only;split
  .
   exact ⟨k + 1, rfl, Nat.le_refl _, rfl⟩
  .
   exact ⟨a, h1, by omega, h3⟩
/-- The worst match of a problem: its place, and its weighted square. -/
def bT (n : Nat) (u : Nat -> Rat) (ms : List Mt) : Option Nat × Rat := bW n u ms ms.length
theorem gG {n : Nat} {u : Nat -> Rat} {ms : List Mt} {a : Nat} (h : (bT n u ms).1 = some a) : a < ms.length := by
 cases ms with
 | nil => simp [bT, bW] at h
 | cons m l =>
  obtain ⟨b, h1, h2, _⟩ := fG n u (m :: l) l.length;unfold bT at h;simp only [List.length_cons] at h |-;rw [h] at h1;injection h1 with h1;omega
/-- The indexes that are left. -/
def al (drop : List Int) (n : Nat) : List Nat := (List.range n).filter fun i => !drop.contains (i : Int)
def a9 (ms : List Mt) (drop : List Int) : List Mt := (al drop ms.length).map (aZ ms)
theorem dW (drop : List Int) (n : Nat) : al drop (n + 1) = al drop n ++ if drop.contains (n : Int) then [] else [n] := by
 unfold al;rw [List.range_succ, List.filter_append]
 congr 1
 simp only [List.filter_cons, List.filter_nil]
 cases drop.contains (n : Int) <;> rfl
theorem i7 (drop : List Int) (n : Nat) : (al drop n).Nodup := List.nodup_range.filter _
theorem bL {drop : List Int} {n i : Nat} : i ∈ al drop n ↔ i < n /\ (i : Int) ∉ drop := by
 unfold al;simp [List.mem_filter]
theorem oG {ms : List Mt} {i : Nat} (h : i < ms.length) : aZ ms i ∈ ms := by
 unfold aZ;rw [List.getElem?_eq_getElem h];exact List.getElem_mem h
theorem oH {ms : List Mt} {drop : List Int} {m : Mt} (h : m ∈ a9 ms drop) : m ∈ ms := by
 unfold a9 at h;obtain ⟨i, hi, rfl⟩ := List.mem_map.1 h;exact oG (bL.1 hi).1
theorem qR (ms : List Mt) (drop : List Int) : (a9 ms drop).length <= ms.length := by
 unfold a9 al;rw [List.length_map];refine Nat.le_trans (List.length_filter_le _ _) ?_;rw [List.length_range];exact Nat.le_refl _
theorem f8 {l : List Nat} (h : l.Nodup) (k : Nat) (hk : k < l.length) : l.filter (fun i => !(i == l[k])) = l.eraseIdx k := by
 induction l generalizing k with
 | nil => simp at hk
 | cons a l ih =>
  obtain ⟨h1, h2⟩ := List.nodup_cons.1 h
  cases k with
  | zero =>
   simp only [List.getElem_cons_zero, List.eraseIdx_cons_zero, List.filter_cons];rw [if_neg (by simp), List.filter_eq_self.2];intro i hi;have : i ≠ a := fun e => h1 (e ▸ hi)
   simp [this]
  | succ k =>
   have hk' : k < l.length := by simp at hk; omega
   simp only [List.getElem_cons_succ, List.eraseIdx_cons_succ, List.filter_cons];have : a ≠ l[k] := fun e => h1 (e ▸ List.getElem_mem hk')
   rw [if_pos (by simp [this]), ih h2 k hk']
theorem j5 {drop : List Int} {n k : Nat} (hk : k < (al drop n).length) : al (drop ++ [(((al drop n)[k] : Nat) : Int)]) n = (al drop n).eraseIdx k := by
 rw [<- f8 (i7 drop n) k hk];generalize (al drop n)[k] = x;unfold al;rw [List.filter_filter];refine List.filter_congr fun i _ => ?_
 by_cases e : i = x
 .
  subst e; simp
 .
  have : ¬ (i : Int) = (x : Int) := by omega
  simp [e, this]
/-- A list of indexes that may be dropped. -/
def DropOk (n : Nat) (drop : List Int) : Prop := (∀ i ∈ drop, 0 <= i /\ i < n) /\ drop.Nodup
theorem DropOk.nil (n : Nat) : DropOk n [] := ⟨by simp, List.nodup_nil⟩
theorem DropOk.more {n : Nat} {drop : List Int} (h : DropOk n drop) {k : Nat} (hk : k < (al drop n).length) : DropOk n (drop ++ [(((al drop n)[k] : Nat) : Int)]) := by
 obtain ⟨h1, h2⟩ := bL.1 (List.getElem_mem hk);refine ⟨fun i hi => ?_, ?_⟩
 .
  rcases List.mem_append.1 hi with hi | hi
  .
   exact h.1 i hi
  .
   simp at hi; omega
 .
  rw [List.nodup_append];refine ⟨h.2, by simp, fun a ha b hb => ?_⟩;simp at hb;subst hb;exact fun e => h2 (e ▸ ha)
/-- One round of adjustment. -/
def eJ (n : Nat) (ms : List Mt) (drop : List Int) : Option Nat × Rat := bT n (bz n (a9 ms drop)) (a9 ms drop)
def br (n : Nat) (ms : List Mt) (limit : Int) (drop : List Int) : Prop := (eJ n ms drop).1 = none \/ (eJ n ms drop).2 <= (limit : Rat)
def cL (n : Nat) (ms : List Mt) (drop : List Int) : List Int := match (eJ n ms drop).1 with
 | none => drop
 | some k => drop ++ [(((al drop ms.length)[k]?.getD 0 : Nat) : Int)]
def ap (n : Nat) (ms : List Mt) : Nat -> List Int
 | 0 => []
 | r + 1 => cL n ms (ap n ms r)
theorem j6 {n : Nat} {ms : List Mt} {drop : List Int} (h : DropOk ms.length drop) : DropOk ms.length (cL n ms drop) := by
 unfold cL;split
 .
  exact h
 .
  rename_i k hk
  have hlt := gG hk;unfold a9 at hlt;rw [List.length_map] at hlt;rw [List.getElem?_eq_getElem hlt];exact h.more hlt
theorem gZ (n : Nat) (ms : List Mt) (r : Nat) : DropOk ms.length (ap n ms r) := by
 induction r with
 | zero => exact DropOk.nil _
 | succ r ih => exact j6 ih
theorem ep {n : Nat} {ms : List Mt} {drop : List Int} {k : Nat} (hk : (eJ n ms drop).1 = some k) : ∃ h : k < (al drop ms.length).length, cL n ms drop = drop ++ [(((al drop ms.length)[k] : Nat) : Int)] /\ al (cL n ms drop) ms.length = (al drop ms.length).eraseIdx k := by
 have hlt := gG hk;unfold a9 at hlt;rw [List.length_map] at hlt;refine ⟨hlt, ?_⟩
 have e : cL n ms drop = drop ++ [(((al drop ms.length)[k] : Nat) : Int)] := by
  unfold cL;rw [hk];simp only;rw [List.getElem?_eq_getElem hlt];rfl
 exact ⟨e, by rw [e]; exact j5 hlt⟩
/-- Two places of ends before which there is none are one. -/
theorem oI {n : Nat} {ms : List Mt} {limit : Int} {r s : Nat} (h1 : br n ms limit (ap n ms r)) (h2 : ∀ k, k < r -> ¬ br n ms limit (ap n ms k)) (h3 : br n ms limit (ap n ms s)) (h4 : ∀ k, k < s -> ¬ br n ms limit (ap n ms k)) : r = s := by
 rcases Nat.lt_trichotomy r s with h | h | h
 .
  exact absurd h1 (h4 r h)
 .
  exact h
 .
  exact absurd h3 (h2 s h)
theorem i8 {n : Nat} {ms : List Mt} {limit : Int} {r : Nat} (h2 : ∀ k, k < r -> ¬ br n ms limit (ap n ms k)) : (ap n ms r).length = r := by
 induction r with
 | zero => rfl
 | succ r ih =>
  have h := h2 r (by omega);have ih' := ih fun k hk => h2 k (by omega)
  cases e : (eJ n ms (ap n ms r)).1 with
  | none => exact absurd (Or.inl e) h
  | some k =>
   obtain ⟨_, h1, _⟩ := ep e;show (cL n ms (ap n ms r)).length = r + 1;rw [h1, List.length_append, ih'];rfl
end Go.Proofs.Ytikhlcgnlbinfaa
namespace Go.Proofs.Ytikhlcgnlbinfaa
open Lib (hid)
/-- The whole numbers of the reference: the last pivot, and the table times the last pivot. -/
def zl (s : j0) : Int := s.last.num
def zt (s : j0) (i c : Nat) : Int := (s.last * s.tab i c).num
section
variable {n j B : Nat} {M : de} {s : j0} {Mp : de}
theorem fg (h : Stage n B s Mp) : ((zl s : Int) : Rat) = s.last := by
 obtain ⟨⟨z, hz, _⟩, _⟩ := h.ints;unfold zl;rw [hz, Rat.num_intCast]
theorem cB (h : Stage n B s Mp) {i c : Nat} (hi : i < n) (hc : c <= n) : ((zt s i c : Int) : Rat) = s.last * s.tab i c := by
 obtain ⟨z, hz, _⟩ := h.ints.2 i hi c hc;unfold zt;rw [hz, Rat.num_intCast]
theorem oJ (h : Stage n B s Mp) : (zl s).natAbs <= ((n + 1) * (B + 1)) ^ (n + 1) := by
 obtain ⟨⟨z, hz, hb⟩, _⟩ := h.ints;unfold zl;rw [hz, Rat.num_intCast];exact hb
theorem oK (h : Stage n B s Mp) {i c : Nat} (hi : i < n) (hc : c <= n) : (zt s i c).natAbs <= ((n + 1) * (B + 1)) ^ (n + 1) := by
 obtain ⟨z, hz, hb⟩ := h.ints.2 i hi c hc;unfold zt;rw [hz, Rat.num_intCast];exact hb
theorem sY (h : Stage n B s Mp) : zl s ≠ 0 := fun e => h.nz (by rw [<- fg h, e]; rfl)
theorem g7 (h : Stage n B s Mp) {i c : Nat} (hi : i < n) (hc : c <= n) : zt s i c = 0 ↔ s.tab i c = 0 := by
 have h1 := cB h hi hc;constructor
 .
  intro e;rw [e] at h1
  rcases Rat.mul_eq_zero.1 h1.symm with h2 | h2
  .
   exact absurd h2 h.nz
  .
   exact h2
 .
  intro e;rw [e] at h1;have : ((zt s i c : Int) : Rat) = ((0 : Int) : Rat) := by rw [h1]; show s.last * 0 = 0; grind
  exact Rat.intCast_inj.1 this
theorem fH (hf : bK s.tab j (n - s.top) s.top = none) : bs n j s = ⟨s.tab, s.top, s.piv ++ [none], s.last, s.cols⟩ := by
 unfold bs; rw [hf]
theorem dX {a : Nat} (hf : bK s.tab j (n - s.top) s.top = some a) : bs n j s = ⟨aT (bj (aL s.tab s.top a) s.top (s.tab a j)) s.top j, s.top + 1, s.piv ++ [some s.top], s.last * s.tab a j, s.cols ++ [j]⟩ := by
 unfold bs; rw [hf]
/-- One column: what the reference computes. -/
theorem qT {Mp' : de} (h : Stage n B s Mp) (h' : Stage n B (bs n j s) Mp') {a : Nat} (hf : bK s.tab j (n - s.top) s.top = some a) (_hj : j < n) :
  zl (bs n j s) = zt s a j /\ (∀ c, c <= n -> zt (bs n j s) s.top c = zt s a c) /\
  ∀ i, i < n -> i ≠ s.top -> ∀ c, c <= n -> zt s (if i = a then s.top else i) c * zt s a j + -(zt s a c * zt s (if i = a then s.top else i) j) = zl s * zt (bs n j s) i c := by
 obtain ⟨h1, h2, h3, _⟩ := dU hf;have hle := h.le;have ha : a < n := by omega
 have ht : s.top < n := by omega
 have hinv := Rat.mul_inv_cancel _ h3;have e := dX hf;have htop : ∀ c, (bs n j s).tab s.top c = s.tab a c / s.tab a j := fun c => by rw [e]; simp [aT, bj, aL]
 have hoth : ∀ i, i ≠ s.top -> ∀ c, (bs n j s).tab i c = s.tab (if i = a then s.top else i) c - s.tab (if i = a then s.top else i) j * (s.tab a c / s.tab a j) := fun i hi c => by
  rw [e];simp only [aT, bj, aL, if_neg hi, if_pos]
  by_cases e : i = a
  .
   simp only [if_pos e]
  .
   simp only [if_neg e]
 have hlast : (bs n j s).last = s.last * s.tab a j := by rw [e]
 refine ⟨?_, fun c hc => ?_, fun i hi hne c hc => ?_⟩
 .
  apply Rat.intCast_inj.1;rw [fg h', cB h ha (by omega), hlast]
 .
  apply Rat.intCast_inj.1;rw [cB h' ht hc, cB h ha hc, hlast, htop, Rat.div_def];grind
 .
  have hfi : (if i = a then s.top else i) < n := by split <;> omega
  apply Rat.intCast_inj.1;rw [Rat.intCast_add, Rat.intCast_neg, Rat.intCast_mul, Rat.intCast_mul, Rat.intCast_mul, fg h, cB h' hi hc, cB h ha hc, cB h ha (by omega), cB h hfi hc, cB h hfi (by omega), hlast, hoth i hne, Rat.div_def];generalize s.tab (if i = a then s.top else i) c = x;generalize s.tab (if i = a then s.top else i) j = y;grind
/-- The column of the pivot of a row. -/
theorem Left.pivcol (h : Left n n M s) (hs : Stage n B s Mp) {i j : Nat} (hi : s.cols[i]? = some j) : s.piv[j]? = some (some i) := by
 have hjn : j < n := hs.col j (List.mem_of_getElem? hi);obtain ⟨o, ho⟩ : ∃ o, s.piv[j]? = some o := ⟨_, List.getElem?_eq_getElem (by rw [h.plen]; exact hjn)⟩;have hin : i < n := by have := (List.getElem?_eq_some_iff.1 hi).1; have := hs.len; have := hs.le; omega
 cases o with
 | none => exact absurd (List.mem_of_getElem? hi) (h.pnone _ ho)
 | some k =>
  have hk := h.psome _ k ho
  have hik : k = i := by
   have h1 := hs.one k _ hk i hin;have h2 := hs.one i _ hi i hin;rw [if_pos rfl] at h2;rw [h2] at h1
   by_cases e : i = k
   .
    exact e.symm
   .
    rw [if_neg e] at h1; exact absurd h1 (by decide)
  rw [ho, hik]
theorem mE (h : Left n n M s) (hs : Stage n B s Mp) {i j : Nat} (hi : s.cols[i]? = some j) : iX n s j = s.tab i n := by
 unfold iX;rw [h.pivcol hs hi]
theorem mF (h : Left n n M s) {j : Nat} (hj : j < n) (hn : j ∉ s.cols) : iX n s j = 0 /\ s.piv[j]? = some none := by
 obtain ⟨o, ho⟩ : ∃ o, s.piv[j]? = some o := ⟨_, List.getElem?_eq_getElem (by rw [h.plen]; exact hj)⟩
 cases o with
 | none => exact ⟨by unfold iX; rw [ho], ho⟩
 | some k => exact absurd (List.mem_of_getElem? (h.psome _ k ho)) hn
/-- What the reference divides for a shift. -/
theorem mG (h : Stage n B s Mp) {i : Nat} (hi : i < n) : (((if zl s < 0 then -(zt s i n) else zt s i n) : Int) : Rat) / (((zl s).natAbs : Nat) : Rat) = s.tab i n := by
 have h1 := cB h hi (Nat.le_refl n);have h2 := fg h;have h3 := Rat.mul_inv_cancel _ h.nz
 by_cases e : zl s < 0
 .
  have : (((zl s).natAbs : Nat) : Rat) = -s.last := by
   have : (((zl s).natAbs : Int) : Rat) = -s.last := by rw [show ((zl s).natAbs : Int) = -(zl s) by omega, Rat.intCast_neg, h2]
   exact this
  have h4 : (-s.last) * (-s.last)⁻¹ = 1 := Rat.mul_inv_cancel _ (fun q => h.nz (by grind));rw [if_pos e, this, Rat.intCast_neg, h1, Rat.div_def];grind
 .
  have : (((zl s).natAbs : Nat) : Rat) = s.last := by
   have : (((zl s).natAbs : Int) : Rat) = s.last := by rw [show ((zl s).natAbs : Int) = zl s by omega, h2]
   exact this
  rw [if_neg e, this, h1, Rat.div_def];grind
end
end Go.Proofs.Ytikhlcgnlbinfaa
