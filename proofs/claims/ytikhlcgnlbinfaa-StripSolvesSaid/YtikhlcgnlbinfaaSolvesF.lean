/- Lemmas of the proof that follows (Solves, part 6): walks of functions by contract, and plain lemmas. Conditions: none. -/
import Derived.Test.YtikhlcgnlbinfaaSolvesE
set_option maxRecDepth 100000
set_option maxHeartbeats 2000000
namespace Go.Proofs.Ytikhlcgnlbinfaa
open Lib (hid)
open Go.RowKit
/-- A rational number of the reference. -/
def QZ (w : World) (v : Value) (q : Rat) : Prop := ∃ b A l c B m k, v = .agg #[.bool b, .slice A l c, .slice B m k] /\ b = decide (q.num < 0) /\ Z16 w (.slice A l c) q.num.natAbs /\ Z16 w (.slice B m k) q.den
theorem QZ.ext {w w' : World} {v : Value} {q : Rat} (h : QZ w v q) (he : Ext w w') : QZ w' v q := by
 obtain ⟨b, A, l, c, B, m, k, h0, h1, h2, h3⟩ := h;exact ⟨b, A, l, c, B, m, k, h0, h1, h2.ext he, h3.ext he⟩
theorem QZ.open {w : World} {v : Value} {q : Rat} (h : QZ w v q) : ∃ b A l c B m k, v = .agg #[.bool b, .slice A l c, .slice B m k] := by
 obtain ⟨b, A, l, c, B, m, k, h0, _⟩ := h;exact ⟨b, A, l, c, B, m, k, h0⟩
section
variable {w : World} {b : Bool} {A B : Option Addr} {l c m k : Nat} {q : Rat}
theorem QZ.num (h : QZ w (.agg #[.bool b, .slice A l c, .slice B m k]) q) : IntZ w (.agg #[.bool b, .slice A l c]) q.num := by
 obtain ⟨b', A', l', c', B', m', k', e, h1, h2, h3⟩ := h;simp only [Value.agg.injEq, Array.mk.injEq, List.cons.injEq, Value.bool.injEq, Value.slice.injEq, and_true] at e;obtain ⟨rfl, ⟨rfl, rfl, rfl⟩, rfl, rfl, rfl⟩ := e;exact ⟨_, _, _, by rw [h1], h2⟩
theorem QZ.sgn (h : QZ w (.agg #[.bool b, .slice A l c, .slice B m k]) q) : b = decide (q.num < 0) := by
 obtain ⟨b', A', l', c', B', m', k', e, h1, h2, h3⟩ := h;simp only [Value.agg.injEq, Array.mk.injEq, List.cons.injEq, Value.bool.injEq, Value.slice.injEq, and_true] at e;rw [e.1, h1]
theorem QZ.nat (h : QZ w (.agg #[.bool b, .slice A l c, .slice B m k]) q) : Z16 w (.slice A l c) q.num.natAbs := by
 obtain ⟨b', A', l', c', B', m', k', e, h1, h2, h3⟩ := h;simp only [Value.agg.injEq, Array.mk.injEq, List.cons.injEq, Value.bool.injEq, Value.slice.injEq, and_true] at e;obtain ⟨rfl, ⟨rfl, rfl, rfl⟩, rfl, rfl, rfl⟩ := e;exact h2
theorem QZ.den (h : QZ w (.agg #[.bool b, .slice A l c, .slice B m k]) q) : Z16 w (.slice B m k) q.den := by
 obtain ⟨b', A', l', c', B', m', k', e, h1, h2, h3⟩ := h;simp only [Value.agg.injEq, Array.mk.injEq, List.cons.injEq, Value.bool.injEq, Value.slice.injEq, and_true] at e;obtain ⟨rfl, ⟨rfl, rfl, rfl⟩, rfl, rfl, rfl⟩ := e;exact h3
theorem QZ.past (h : QZ w (.agg #[.bool b, .slice A l c, .slice B m k]) q) {g : Nat} (hN : NoInts w g) : QZ (((w.setCell ⟨g, 0, none⟩ (.bool b)).setCell ⟨g, 1, none⟩ (.slice A l c)).setCell ⟨g, 2, none⟩ (.slice B m k)) (.agg #[.bool b, .slice A l c, .slice B m k]) q :=
 ⟨_, _, _, _, _, _, _, rfl, h.sgn, h.nat.box3 hN _ _ _ _ _ _ _, h.den.box3 hN _ _ _ _ _ _ _⟩
end
/-- What a call returns that makes a rational number. -/
def RetQz (w : World) (q : Rat) (e : Ending) (w' : World) : Prop := ∃ v, e = .returned v /\ QZ w' v q /\ Ext w w'
/-- How many limbs a rational number has. -/
def FitR (q : Rat) (L : Nat) : Prop := Fit 65536 q.num.natAbs L /\ Fit 65536 q.den L
theorem FitR.mono {q : Rat} {L M : Nat} (h : FitR q L) (k : L <= M) : FitR q M := ⟨h.1.mono (by omega) k, h.2.mono (by omega) k⟩
theorem fh {s : Bool} {n d L : Nat} (hd : 0 < d) (h1 : Fit 65536 n L) (h2 : Fit 65536 d L) : FitR (aw s n d) L := by
 refine ⟨?_, ?_⟩
 .
  rw [(bf s n d hd).2]; exact h1.le (Nat.div_le_self _ _)
 .
  rw [(cD s n d hd).2]; exact h2.le (Nat.div_le_self _ _)
theorem RetQz.of {w : World} {q r : Rat} (h : q = r) : ∀ e w', RetQz w q e w' -> RetQz w r e w' := by rintro e w' ⟨v, h1, h2, h3⟩; exact ⟨v, h1, h ▸ h2, h3⟩
theorem rT (q r : Rat) : aw (decide (q.num * (r.den : Int) + r.num * (q.den : Int) < 0)) (q.num * (r.den : Int) + r.num * (q.den : Int)).natAbs (q.den * r.den) = q + r := by
 unfold aw; rw [dW]; exact (Rat.add_def' q r).symm
theorem rU (q r : Rat) : aw (decide (q.num * r.num < 0)) (q.num * r.num).natAbs (q.den * r.den) = q * r := by
 unfold aw; rw [dW]; exact (Rat.mul_def' q r).symm
theorem gF {n m a b L : Nat} (h : Fit 65536 n a) (k : Fit 65536 m b) (hL : a + b <= L) : Fit 65536 (n * m) L := (h.mul (by omega) k).mono (by omega) hL
theorem bJ {x y : Int} {a b L : Nat} (h : Fit 65536 x.natAbs a) (k : Fit 65536 y.natAbs b) (hL : a + b <= L) : Fit 65536 (x * y).natAbs L := by
 rw [Int.natAbs_mul]; exact gF h k hL
theorem ip {x y : Int} {a L : Nat} (h : Fit 65536 x.natAbs a) (k : Fit 65536 y.natAbs a) (hL : a + 1 <= L) : Fit 65536 (x + y).natAbs L :=
 ((h.add (by omega) k).le (Int.natAbs_add_le x y)).mono (by omega) hL
theorem np {q : Rat} {L : Nat} (h : FitR q L) : FitR (-q) L := ⟨by rw [Rat.neg_num, Int.natAbs_neg]; exact h.1, by rw [Rat.neg_den]; exact h.2⟩
theorem nr (s1 : Bool) (A0 A1 : Option Addr) (l0 c0 l1 c1 n0 n1 L : Nat) (w : World) (hx : Z16 w (.slice A0 l0 c0) n0) (hy : Z16 w (.slice A1 l1 c1) n1) (fn : Fit 65536 n0 L) (fm : Fit 65536 n1 L) (hL : L <= 400000) (hd : 0 < n1)  :
  Calls Try.prog 112 #[.agg #[.bool false, .slice A0 l0 c0], .agg #[.bool s1, .slice A1 l1 c1]] w (RetQz w (aw false n0 n1)) := by
 have HXX := hid hx;have HYY := hid hy;have HFN := hid fn;have HFM := hid fm;have HD := hid hd;have hg : 0 < Nat.gcd n0 n1 := Nat.gcd_pos_of_pos_right n0 hd
 have hneg : Hid (decide ((aw false n0 n1).num < 0) = false) := by
  show _ = _;rw [(bf false n0 n1 hd).1];rfl
 have HAB := hid (bf false n0 n1 hd).2;have HDN := hid (cD false n0 n1 hd).2;obtain ⟨g, hge⟩ : ∃ g, Nat.gcd n0 n1 = g := ⟨_, rfl⟩;obtain ⟨q, hq⟩ : ∃ q, n0 / Nat.gcd n0 n1 = q := ⟨_, rfl⟩;obtain ⟨r, hr⟩ : ∃ r, n1 / Nat.gcd n0 n1 = r := ⟨_, rfl⟩;rw [hq] at HAB;rw [hr] at HDN;rw [hge] at hq hr hg;have HGE := hid hge;have HQ := hid hq;have HR := hid hr;have HGP := hid hg;clear hx hy fn fm hd hge hq hr hg;have hXe : Ext w (((w.alloc (.cells #[.bool false, .slice A0 l0 c0] 63)).alloc (.cells #[.bool s1, .slice A1 l1 c1] 63)).alloc (.cells #[.bool false, .slice none 0 0, .slice none 0 0] 65)) := ((((Ext.refl w).alloc _).alloc _).alloc _);have kA : Blk (((w.alloc (.cells #[.bool false, .slice A0 l0 c0] 63)).alloc (.cells #[.bool s1, .slice A1 l1 c1] 63)).alloc (.cells #[.bool false, .slice none 0 0, .slice none 0 0] 65)) w.heap.size 63 #[.bool false, .slice A0 l0 c0] := Blk.alloc (Blk.alloc (Blk.at_ (by simp)) _) _;have kB : Blk (((w.alloc (.cells #[.bool false, .slice A0 l0 c0] 63)).alloc (.cells #[.bool s1, .slice A1 l1 c1] 63)).alloc (.cells #[.bool false, .slice none 0 0, .slice none 0 0] 65)) (w.heap.size + 1) 63 #[.bool s1, .slice A1 l1 c1] := Blk.alloc (Blk.at_ (by simp)) _;have kR : Blk (((w.alloc (.cells #[.bool false, .slice A0 l0 c0] 63)).alloc (.cells #[.bool s1, .slice A1 l1 c1] 63)).alloc (.cells #[.bool false, .slice none 0 0, .slice none 0 0] 65)) (w.heap.size + 2) 65 #[.bool false, .slice none 0 0, .slice none 0 0] := Blk.at_ (by simp);go_enter Try.func112, Try.ntmps112
 go_wp2_with fail
 generalize (((w.alloc _).alloc _).alloc _) = w1 at hXe kA kB kR |-;have HX := hid hXe;clear hXe;have KA := hid kA;clear kA;have KB := hid kB;clear kB;have KR := hid kR;clear kR;replace HXX := hid (HXX.out.ext HX.out);replace HYY := hid (HYY.out.ext HX.out);have cA0 : w1.cell? ⟨w.heap.size, 0, none⟩ = some (.bool false) := KA.out.cell 0;have cA1 : w1.cell? ⟨w.heap.size, 1, none⟩ = some (.slice A0 l0 c0) := KA.out.cell 1;have cB0 : w1.cell? ⟨(w.heap.size + 1), 0, none⟩ = some (.bool s1) := KB.out.cell 0;have cB1 : w1.cell? ⟨(w.heap.size + 1), 1, none⟩ = some (.slice A1 l1 c1) := KB.out.cell 1
 go_wp2_with fail
 clear cA0 cA1 cB0 cB1;refine (ew _ _ n0 n1 L _ HXX.out HYY.out HFN.out HFM.out hL).mono ?_;rw [HGE.out];rintro e w2 ⟨v6, rfl, h6, hX⟩;replace hX : Ext w1 w2 := by with_reducible exact hX
 replace HX := hid (HX.out.trans hX);replace HXX := hid (HXX.out.ext hX);replace HYY := hid (HYY.out.ext hX);replace KA := hid (KA.out.ext hX);replace KB := hid (KB.out.ext hX);replace KR := hid (KR.out.ext hX);clear hX;have HG := hid h6;clear h6;have cA0 : w2.cell? ⟨w.heap.size, 0, none⟩ = some (.bool false) := KA.out.cell 0;have cA1 : w2.cell? ⟨w.heap.size, 1, none⟩ = some (.slice A0 l0 c0) := KA.out.cell 1;have cB0 : w2.cell? ⟨(w.heap.size + 1), 0, none⟩ = some (.bool s1) := KB.out.cell 0;have cB1 : w2.cell? ⟨(w.heap.size + 1), 1, none⟩ = some (.slice A1 l1 c1) := KB.out.cell 1
 go_wp2_with fail
 clear cA0 cA1 cB0 cB1;refine (bx _ _ n0 g L _ HXX.out HG.out HFN.out hL HGP.out).mono ?_;rw [HQ.out];rintro e w3 ⟨v7, v7', rfl, h7, h7', hX⟩;replace hX : Ext w2 w3 := by with_reducible exact hX
 replace HX := hid (HX.out.trans hX);replace HXX := hid (HXX.out.ext hX);replace HYY := hid (HYY.out.ext hX);replace HG := hid (HG.out.ext hX);replace KA := hid (KA.out.ext hX);replace KB := hid (KB.out.ext hX);replace KR := hid (KR.out.ext hX);clear hX;obtain ⟨A7, l7, c7, rfl, hv7, hz7⟩ := Z16.open h7;have HV := hid hv7;clear h7 h7' hv7;clear hz7;have cA0 : w3.cell? ⟨w.heap.size, 0, none⟩ = some (.bool false) := KA.out.cell 0;have cA1 : w3.cell? ⟨w.heap.size, 1, none⟩ = some (.slice A0 l0 c0) := KA.out.cell 1;have cB0 : w3.cell? ⟨(w.heap.size + 1), 0, none⟩ = some (.bool s1) := KB.out.cell 0;have cB1 : w3.cell? ⟨(w.heap.size + 1), 1, none⟩ = some (.slice A1 l1 c1) := KB.out.cell 1
 go_wp2_with fail
 clear cA0 cA1 cB0 cB1;refine (bx _ _ n1 g L _ HYY.out HG.out HFM.out hL HGP.out).mono ?_;rw [HR.out];rintro e w4 ⟨v8, v8', rfl, h8, h8', hX⟩;replace hX : Ext w3 w4 := by with_reducible exact hX
 replace HX := hid (HX.out.trans hX);replace HXX := hid (HXX.out.ext hX);replace HYY := hid (HYY.out.ext hX);replace HG := hid (HG.out.ext hX);replace HV := hid (HV.out.ext hX);replace KA := hid (KA.out.ext hX);replace KB := hid (KB.out.ext hX);replace KR := hid (KR.out.ext hX);clear hX;obtain ⟨A8, l8, c8, rfl, hv8, _⟩ := Z16.open h8;have HW := hid hv8;clear h8 h8' hv8;have HNI := hid (NoInts.three KR.out);have cA0 : w4.cell? ⟨w.heap.size, 0, none⟩ = some (.bool false) := KA.out.cell 0;have cA1 : w4.cell? ⟨w.heap.size, 1, none⟩ = some (.slice A0 l0 c0) := KA.out.cell 1;have cR0 : w4.cell? ⟨(w.heap.size + 2), 0, none⟩ = some (.bool false) := KR.out.cell 0;have fR0 : w4.frozen? ⟨(w.heap.size + 2), 0, none⟩ = false := KR.out.free 0;have cR1 : w4.cell? ⟨(w.heap.size + 2), 1, none⟩ = some (.slice none 0 0) := KR.out.cell 1;have fR1 : w4.frozen? ⟨(w.heap.size + 2), 1, none⟩ = false := KR.out.free 1;have cR2 : w4.cell? ⟨(w.heap.size + 2), 2, none⟩ = some (.slice none 0 0) := KR.out.cell 2;have fR2 : w4.frozen? ⟨(w.heap.size + 2), 2, none⟩ = false := KR.out.free 2;go_wp2;refine bodyPost_ret (v := .agg #[.bool false, .slice A7 l7 c7, .slice A8 l8 c8]) (by simp [results, Try.results112, go_sem, *]) rfl ?_;exact ⟨_, rfl, ⟨_, _, _, _, _, _, _, rfl, hneg.out.symm, by rw [HAB.out]; exact HV.out.box3 HNI.out _ _ _ _ _ _ _, by rw [HDN.out]; exact HW.out.box3 HNI.out _ _ _ _ _ _ _⟩, Ext.boxed HX.out (by omega) _ _ _⟩
theorem ns (s1 : Bool) (A0 A1 : Option Addr) (l0 c0 l1 c1 n0 n1 L : Nat) (w : World) (hx : Z16 w (.slice A0 l0 c0) n0) (hy : Z16 w (.slice A1 l1 c1) n1) (fn : Fit 65536 n0 L) (fm : Fit 65536 n1 L) (hL : L <= 400000) (hd : 0 < n1) (hn : 0 < n0) :
  Calls Try.prog 112 #[.agg #[.bool true, .slice A0 l0 c0], .agg #[.bool s1, .slice A1 l1 c1]] w (RetQz w (aw true n0 n1)) := by
 have HXX := hid hx;have HYY := hid hy;have HFN := hid fn;have HFM := hid fm;have HD := hid hd;have hg : 0 < Nat.gcd n0 n1 := Nat.gcd_pos_of_pos_right n0 hd
 have hneg : Hid (decide ((aw true n0 n1).num < 0) = true) := by
  show _ = _;rw [(bf true n0 n1 hd).1];exact jk _ (by omega)
 have HAB := hid (bf true n0 n1 hd).2;have HDN := hid (cD true n0 n1 hd).2;have hq0 : 0 < n0 / Nat.gcd n0 n1 := Nat.div_pos (Nat.le_of_dvd hn (Nat.gcd_dvd_left _ _)) hg;obtain ⟨g, hge⟩ : ∃ g, Nat.gcd n0 n1 = g := ⟨_, rfl⟩;obtain ⟨q, hq⟩ : ∃ q, n0 / Nat.gcd n0 n1 = q := ⟨_, rfl⟩;obtain ⟨r, hr⟩ : ∃ r, n1 / Nat.gcd n0 n1 = r := ⟨_, rfl⟩;rw [hq] at HAB;rw [hq] at hq0;rw [hr] at HDN;rw [hge] at hq hr hg;have HGE := hid hge;have HQ := hid hq;have HR := hid hr;have HGP := hid hg;clear hx hy fn fm hd hge hq hr hg;clear hn;have hXe : Ext w (((w.alloc (.cells #[.bool true, .slice A0 l0 c0] 63)).alloc (.cells #[.bool s1, .slice A1 l1 c1] 63)).alloc (.cells #[.bool false, .slice none 0 0, .slice none 0 0] 65)) := ((((Ext.refl w).alloc _).alloc _).alloc _);have kA : Blk (((w.alloc (.cells #[.bool true, .slice A0 l0 c0] 63)).alloc (.cells #[.bool s1, .slice A1 l1 c1] 63)).alloc (.cells #[.bool false, .slice none 0 0, .slice none 0 0] 65)) w.heap.size 63 #[.bool true, .slice A0 l0 c0] := Blk.alloc (Blk.alloc (Blk.at_ (by simp)) _) _;have kB : Blk (((w.alloc (.cells #[.bool true, .slice A0 l0 c0] 63)).alloc (.cells #[.bool s1, .slice A1 l1 c1] 63)).alloc (.cells #[.bool false, .slice none 0 0, .slice none 0 0] 65)) (w.heap.size + 1) 63 #[.bool s1, .slice A1 l1 c1] := Blk.alloc (Blk.at_ (by simp)) _;have kR : Blk (((w.alloc (.cells #[.bool true, .slice A0 l0 c0] 63)).alloc (.cells #[.bool s1, .slice A1 l1 c1] 63)).alloc (.cells #[.bool false, .slice none 0 0, .slice none 0 0] 65)) (w.heap.size + 2) 65 #[.bool false, .slice none 0 0, .slice none 0 0] := Blk.at_ (by simp);go_enter Try.func112, Try.ntmps112
 go_wp2_with fail
 generalize (((w.alloc _).alloc _).alloc _) = w1 at hXe kA kB kR |-;have HX := hid hXe;clear hXe;have KA := hid kA;clear kA;have KB := hid kB;clear kB;have KR := hid kR;clear kR;replace HXX := hid (HXX.out.ext HX.out);replace HYY := hid (HYY.out.ext HX.out);have cA0 : w1.cell? ⟨w.heap.size, 0, none⟩ = some (.bool true) := KA.out.cell 0;have cA1 : w1.cell? ⟨w.heap.size, 1, none⟩ = some (.slice A0 l0 c0) := KA.out.cell 1;have cB0 : w1.cell? ⟨(w.heap.size + 1), 0, none⟩ = some (.bool s1) := KB.out.cell 0;have cB1 : w1.cell? ⟨(w.heap.size + 1), 1, none⟩ = some (.slice A1 l1 c1) := KB.out.cell 1
 go_wp2_with fail
 clear cA0 cA1 cB0 cB1;refine (ew _ _ n0 n1 L _ HXX.out HYY.out HFN.out HFM.out hL).mono ?_;rw [HGE.out];rintro e w2 ⟨v6, rfl, h6, hX⟩;replace hX : Ext w1 w2 := by with_reducible exact hX
 replace HX := hid (HX.out.trans hX);replace HXX := hid (HXX.out.ext hX);replace HYY := hid (HYY.out.ext hX);replace KA := hid (KA.out.ext hX);replace KB := hid (KB.out.ext hX);replace KR := hid (KR.out.ext hX);clear hX;have HG := hid h6;clear h6;have cA0 : w2.cell? ⟨w.heap.size, 0, none⟩ = some (.bool true) := KA.out.cell 0;have cA1 : w2.cell? ⟨w.heap.size, 1, none⟩ = some (.slice A0 l0 c0) := KA.out.cell 1;have cB0 : w2.cell? ⟨(w.heap.size + 1), 0, none⟩ = some (.bool s1) := KB.out.cell 0;have cB1 : w2.cell? ⟨(w.heap.size + 1), 1, none⟩ = some (.slice A1 l1 c1) := KB.out.cell 1
 go_wp2_with fail
 clear cA0 cA1 cB0 cB1;refine (bx _ _ n0 g L _ HXX.out HG.out HFN.out hL HGP.out).mono ?_;rw [HQ.out];rintro e w3 ⟨v7, v7', rfl, h7, h7', hX⟩;replace hX : Ext w2 w3 := by with_reducible exact hX
 replace HX := hid (HX.out.trans hX);replace HXX := hid (HXX.out.ext hX);replace HYY := hid (HYY.out.ext hX);replace HG := hid (HG.out.ext hX);replace KA := hid (KA.out.ext hX);replace KB := hid (KB.out.ext hX);replace KR := hid (KR.out.ext hX);clear hX;obtain ⟨A7, l7, c7, rfl, hv7, hz7⟩ := Z16.open h7;have HV := hid hv7;clear h7 h7' hv7
 have hl7 : (0 : Int) < (l7 : Int) := by
  rcases Nat.eq_zero_or_pos l7 with h | h
  .
   have := hz7.1 h; omega
  .
   omega
 have hl7' : 0 < l7 := by omega
 clear hz7;have cA0 : w3.cell? ⟨w.heap.size, 0, none⟩ = some (.bool true) := KA.out.cell 0;have cA1 : w3.cell? ⟨w.heap.size, 1, none⟩ = some (.slice A0 l0 c0) := KA.out.cell 1;have cB0 : w3.cell? ⟨(w.heap.size + 1), 0, none⟩ = some (.bool s1) := KB.out.cell 0;have cB1 : w3.cell? ⟨(w.heap.size + 1), 1, none⟩ = some (.slice A1 l1 c1) := KB.out.cell 1
 go_wp2_with fail
 clear cA0 cA1 cB0 cB1;refine (bx _ _ n1 g L _ HYY.out HG.out HFM.out hL HGP.out).mono ?_;rw [HR.out];rintro e w4 ⟨v8, v8', rfl, h8, h8', hX⟩;replace hX : Ext w3 w4 := by with_reducible exact hX
 replace HX := hid (HX.out.trans hX);replace HXX := hid (HXX.out.ext hX);replace HYY := hid (HYY.out.ext hX);replace HG := hid (HG.out.ext hX);replace HV := hid (HV.out.ext hX);replace KA := hid (KA.out.ext hX);replace KB := hid (KB.out.ext hX);replace KR := hid (KR.out.ext hX);clear hX;obtain ⟨A8, l8, c8, rfl, hv8, _⟩ := Z16.open h8;have HW := hid hv8;clear h8 h8' hv8;have HNI := hid (NoInts.three KR.out);have cA0 : w4.cell? ⟨w.heap.size, 0, none⟩ = some (.bool true) := KA.out.cell 0;have cA1 : w4.cell? ⟨w.heap.size, 1, none⟩ = some (.slice A0 l0 c0) := KA.out.cell 1;have cR0 : w4.cell? ⟨(w.heap.size + 2), 0, none⟩ = some (.bool false) := KR.out.cell 0;have fR0 : w4.frozen? ⟨(w.heap.size + 2), 0, none⟩ = false := KR.out.free 0;have cR1 : w4.cell? ⟨(w.heap.size + 2), 1, none⟩ = some (.slice none 0 0) := KR.out.cell 1;have fR1 : w4.frozen? ⟨(w.heap.size + 2), 1, none⟩ = false := KR.out.free 1;have cR2 : w4.cell? ⟨(w.heap.size + 2), 2, none⟩ = some (.slice none 0 0) := KR.out.cell 2;have fR2 : w4.frozen? ⟨(w.heap.size + 2), 2, none⟩ = false := KR.out.free 2;go_wp2;refine bodyPost_ret (v := .agg #[.bool true, .slice A7 l7 c7, .slice A8 l8 c8]) (by simp [results, Try.results112, go_sem, *]) rfl ?_;exact ⟨_, rfl, ⟨_, _, _, _, _, _, _, rfl, hneg.out.symm, by rw [HAB.out]; exact HV.out.box3 HNI.out _ _ _ _ _ _ _, by rw [HDN.out]; exact HW.out.box3 HNI.out _ _ _ _ _ _ _⟩, Ext.boxed HX.out (by omega) _ _ _⟩
theorem lA (s1 : Bool) (A0 A1 : Option Addr) (l0 c0 l1 c1 n0 n1 L : Nat) (w : World) (hx : Z16 w (.slice A0 l0 c0) n0) (hy : Z16 w (.slice A1 l1 c1) n1) (fn : Fit 65536 n0 L) (fm : Fit 65536 n1 L) (hL : L <= 400000) (hd : 0 < n1) (hn : n0 = 0) :
  Calls Try.prog 112 #[.agg #[.bool true, .slice A0 l0 c0], .agg #[.bool s1, .slice A1 l1 c1]] w (RetQz w (aw true n0 n1)) := by
 have HXX := hid hx;have HYY := hid hy;have HFN := hid fn;have HFM := hid fm;have HD := hid hd;have hg : 0 < Nat.gcd n0 n1 := Nat.gcd_pos_of_pos_right n0 hd
 have hneg : Hid (decide ((aw true n0 n1).num < 0) = false) := by
  show _ = _;rw [(bf true n0 n1 hd).1];rw [hn]; rfl
 have HAB := hid (bf true n0 n1 hd).2;have HDN := hid (cD true n0 n1 hd).2;have hq0 : n0 / Nat.gcd n0 n1 = 0 := by rw [hn]; simp
 obtain ⟨g, hge⟩ : ∃ g, Nat.gcd n0 n1 = g := ⟨_, rfl⟩;obtain ⟨q, hq⟩ : ∃ q, n0 / Nat.gcd n0 n1 = q := ⟨_, rfl⟩;obtain ⟨r, hr⟩ : ∃ r, n1 / Nat.gcd n0 n1 = r := ⟨_, rfl⟩;rw [hq] at HAB;rw [hq] at hq0;rw [hr] at HDN;rw [hge] at hq hr hg;have HGE := hid hge;have HQ := hid hq;have HR := hid hr;have HGP := hid hg;clear hx hy fn fm hd hge hq hr hg;clear hn;have hXe : Ext w (((w.alloc (.cells #[.bool true, .slice A0 l0 c0] 63)).alloc (.cells #[.bool s1, .slice A1 l1 c1] 63)).alloc (.cells #[.bool false, .slice none 0 0, .slice none 0 0] 65)) := ((((Ext.refl w).alloc _).alloc _).alloc _);have kA : Blk (((w.alloc (.cells #[.bool true, .slice A0 l0 c0] 63)).alloc (.cells #[.bool s1, .slice A1 l1 c1] 63)).alloc (.cells #[.bool false, .slice none 0 0, .slice none 0 0] 65)) w.heap.size 63 #[.bool true, .slice A0 l0 c0] := Blk.alloc (Blk.alloc (Blk.at_ (by simp)) _) _;have kB : Blk (((w.alloc (.cells #[.bool true, .slice A0 l0 c0] 63)).alloc (.cells #[.bool s1, .slice A1 l1 c1] 63)).alloc (.cells #[.bool false, .slice none 0 0, .slice none 0 0] 65)) (w.heap.size + 1) 63 #[.bool s1, .slice A1 l1 c1] := Blk.alloc (Blk.at_ (by simp)) _;have kR : Blk (((w.alloc (.cells #[.bool true, .slice A0 l0 c0] 63)).alloc (.cells #[.bool s1, .slice A1 l1 c1] 63)).alloc (.cells #[.bool false, .slice none 0 0, .slice none 0 0] 65)) (w.heap.size + 2) 65 #[.bool false, .slice none 0 0, .slice none 0 0] := Blk.at_ (by simp);go_enter Try.func112, Try.ntmps112
 go_wp2_with fail
 generalize (((w.alloc _).alloc _).alloc _) = w1 at hXe kA kB kR |-;have HX := hid hXe;clear hXe;have KA := hid kA;clear kA;have KB := hid kB;clear kB;have KR := hid kR;clear kR;replace HXX := hid (HXX.out.ext HX.out);replace HYY := hid (HYY.out.ext HX.out);have cA0 : w1.cell? ⟨w.heap.size, 0, none⟩ = some (.bool true) := KA.out.cell 0;have cA1 : w1.cell? ⟨w.heap.size, 1, none⟩ = some (.slice A0 l0 c0) := KA.out.cell 1;have cB0 : w1.cell? ⟨(w.heap.size + 1), 0, none⟩ = some (.bool s1) := KB.out.cell 0;have cB1 : w1.cell? ⟨(w.heap.size + 1), 1, none⟩ = some (.slice A1 l1 c1) := KB.out.cell 1
 go_wp2_with fail
 clear cA0 cA1 cB0 cB1;refine (ew _ _ n0 n1 L _ HXX.out HYY.out HFN.out HFM.out hL).mono ?_;rw [HGE.out];rintro e w2 ⟨v6, rfl, h6, hX⟩;replace hX : Ext w1 w2 := by with_reducible exact hX
 replace HX := hid (HX.out.trans hX);replace HXX := hid (HXX.out.ext hX);replace HYY := hid (HYY.out.ext hX);replace KA := hid (KA.out.ext hX);replace KB := hid (KB.out.ext hX);replace KR := hid (KR.out.ext hX);clear hX;have HG := hid h6;clear h6;have cA0 : w2.cell? ⟨w.heap.size, 0, none⟩ = some (.bool true) := KA.out.cell 0;have cA1 : w2.cell? ⟨w.heap.size, 1, none⟩ = some (.slice A0 l0 c0) := KA.out.cell 1;have cB0 : w2.cell? ⟨(w.heap.size + 1), 0, none⟩ = some (.bool s1) := KB.out.cell 0;have cB1 : w2.cell? ⟨(w.heap.size + 1), 1, none⟩ = some (.slice A1 l1 c1) := KB.out.cell 1
 go_wp2_with fail
 clear cA0 cA1 cB0 cB1;refine (bx _ _ n0 g L _ HXX.out HG.out HFN.out hL HGP.out).mono ?_;rw [HQ.out];rintro e w3 ⟨v7, v7', rfl, h7, h7', hX⟩;replace hX : Ext w2 w3 := by with_reducible exact hX
 replace HX := hid (HX.out.trans hX);replace HXX := hid (HXX.out.ext hX);replace HYY := hid (HYY.out.ext hX);replace HG := hid (HG.out.ext hX);replace KA := hid (KA.out.ext hX);replace KB := hid (KB.out.ext hX);replace KR := hid (KR.out.ext hX);clear hX;obtain ⟨A7, l7, c7, rfl, hv7, hz7⟩ := Z16.open h7;have HV := hid hv7;clear h7 h7' hv7;obtain rfl : l7 = 0 := hz7.2 hq0;clear hz7;have cA0 : w3.cell? ⟨w.heap.size, 0, none⟩ = some (.bool true) := KA.out.cell 0;have cA1 : w3.cell? ⟨w.heap.size, 1, none⟩ = some (.slice A0 l0 c0) := KA.out.cell 1;have cB0 : w3.cell? ⟨(w.heap.size + 1), 0, none⟩ = some (.bool s1) := KB.out.cell 0;have cB1 : w3.cell? ⟨(w.heap.size + 1), 1, none⟩ = some (.slice A1 l1 c1) := KB.out.cell 1
 go_wp2_with fail
 clear cA0 cA1 cB0 cB1;refine (bx _ _ n1 g L _ HYY.out HG.out HFM.out hL HGP.out).mono ?_;rw [HR.out];rintro e w4 ⟨v8, v8', rfl, h8, h8', hX⟩;replace hX : Ext w3 w4 := by with_reducible exact hX
 replace HX := hid (HX.out.trans hX);replace HXX := hid (HXX.out.ext hX);replace HYY := hid (HYY.out.ext hX);replace HG := hid (HG.out.ext hX);replace HV := hid (HV.out.ext hX);replace KA := hid (KA.out.ext hX);replace KB := hid (KB.out.ext hX);replace KR := hid (KR.out.ext hX);clear hX;obtain ⟨A8, l8, c8, rfl, hv8, _⟩ := Z16.open h8;have HW := hid hv8;clear h8 h8' hv8;have HNI := hid (NoInts.three KR.out);have cA0 : w4.cell? ⟨w.heap.size, 0, none⟩ = some (.bool true) := KA.out.cell 0;have cA1 : w4.cell? ⟨w.heap.size, 1, none⟩ = some (.slice A0 l0 c0) := KA.out.cell 1;have cR0 : w4.cell? ⟨(w.heap.size + 2), 0, none⟩ = some (.bool false) := KR.out.cell 0;have fR0 : w4.frozen? ⟨(w.heap.size + 2), 0, none⟩ = false := KR.out.free 0;have cR1 : w4.cell? ⟨(w.heap.size + 2), 1, none⟩ = some (.slice none 0 0) := KR.out.cell 1;have fR1 : w4.frozen? ⟨(w.heap.size + 2), 1, none⟩ = false := KR.out.free 1;have cR2 : w4.cell? ⟨(w.heap.size + 2), 2, none⟩ = some (.slice none 0 0) := KR.out.cell 2;have fR2 : w4.frozen? ⟨(w.heap.size + 2), 2, none⟩ = false := KR.out.free 2;go_wp2;refine bodyPost_ret (v := .agg #[.bool false, .slice A7 0 c7, .slice A8 l8 c8]) (by simp [results, Try.results112, go_sem, *]) rfl ?_;exact ⟨_, rfl, ⟨_, _, _, _, _, _, _, rfl, hneg.out.symm, by rw [HAB.out]; exact HV.out.box3 HNI.out _ _ _ _ _ _ _, by rw [HDN.out]; exact HW.out.box3 HNI.out _ _ _ _ _ _ _⟩, Ext.boxed HX.out (by omega) _ _ _⟩
theorem nt (s s1 : Bool) (A0 A1 : Option Addr) (l0 c0 l1 c1 n d L : Nat) (w : World) (hx : Z16 w (.slice A0 l0 c0) n) (hy : Z16 w (.slice A1 l1 c1) d) (fn : Fit 65536 n L) (fm : Fit 65536 d L) (hL : L <= 400000) (hd : 0 < d) :
  Calls Try.prog 112 #[.agg #[.bool s, .slice A0 l0 c0], .agg #[.bool s1, .slice A1 l1 c1]] w (RetQz w (aw s n d)) := by
 cases s
 .
  exact nr s1 A0 A1 l0 c0 l1 c1 n d L w hx hy fn fm hL hd
 .
  rcases Nat.eq_zero_or_pos n with h | h
  .
   exact lA s1 A0 A1 l0 c0 l1 c1 n d L w hx hy fn fm hL hd h
  .
   exact ns s1 A0 A1 l0 c0 l1 c1 n d L w hx hy fn fm hL hd h
theorem nA (va : Value) (x : Int) (s1 : Bool) (A1 : Option Addr) (l1 c1 d L : Nat) (w : World) (ha : IntZ w va x) (hy : Z16 w (.slice A1 l1 c1) d) (fn : Fit 65536 x.natAbs L) (fm : Fit 65536 d L) (hL : L <= 400000) (hd : 0 < d) :
  Calls Try.prog 112 #[va, .agg #[.bool s1, .slice A1 l1 c1]] w (RetQz w (aw (decide (x < 0)) x.natAbs d)) := by
 obtain ⟨A0, l0, c0, rfl, hx⟩ := ha;exact nt _ s1 A0 A1 l0 c0 l1 c1 _ d L w hx hy fn fm hL hd
theorem bO (n : Int) (w : World) (h0 : -9223372036854775808 <= n) (h1 : n <= 9223372036854775807) :
  Calls Try.prog 31 #[.int .i64 n] w (RetQz w (n : Rat)) := by
 have hXe : Ext w (w.alloc (.cells #[.bool false, .slice none 0 0, .slice none 0 0] 65)) := ((Ext.refl w).alloc _);have kR : Blk (w.alloc (.cells #[.bool false, .slice none 0 0, .slice none 0 0] 65)) w.heap.size 65 #[.bool false, .slice none 0 0, .slice none 0 0] := Blk.at_ (by simp);go_enter Try.func31, Try.ntmps31
 go_wp2_with fail
 generalize (w.alloc _) = w1 at hXe kR |-;have HX := hid hXe;clear hXe;have KR := hid kR;clear kR;refine (cV n _ h0 h1).mono ?_;rintro e w2 ⟨v7, rfl, h7, hX⟩;replace hX : Ext w1 w2 := by with_reducible exact hX
 replace HX := hid (HX.out.trans hX);replace KR := hid (KR.out.ext hX);clear hX;obtain ⟨A7, l7, c7, rfl, hv7⟩ := h7;have HV := hid hv7;clear hv7;have HNI := hid (NoInts.three KR.out);have HS : Hid (decide (n < 0) = decide ((n : Rat).num < 0)) := by rw [Rat.num_intCast]; rfl
 have rl := KR.out.lt;have cR0 : w2.cell? ⟨w.heap.size, 0, none⟩ = some (.bool false) := KR.out.cell 0;have fR0 : w2.frozen? ⟨w.heap.size, 0, none⟩ = false := KR.out.free 0;have cR1 : w2.cell? ⟨w.heap.size, 1, none⟩ = some (.slice none 0 0) := KR.out.cell 1;have fR1 : w2.frozen? ⟨w.heap.size, 1, none⟩ = false := KR.out.free 1;have cR2 : w2.cell? ⟨w.heap.size, 2, none⟩ = some (.slice none 0 0) := KR.out.cell 2;have fR2 : w2.frozen? ⟨w.heap.size, 2, none⟩ = false := KR.out.free 2;go_wp2;refine bodyPost_ret (v := .agg #[.bool (decide (n < 0)), .slice A7 l7 c7, .slice (some ⟨w2.heap.size, 0, none⟩) 1 1]) (by simp [results, Try.results31, go_sem, *]) rfl ?_;exact ⟨_, rfl, ⟨_, _, _, _, _, _, _, rfl, HS.out, by rw [Rat.num_intCast]; exact (HV.out.box3 HNI.out _ _ _ _ _ _ _).ext ((Ext.refl _).alloc _), by rw [Rat.den_intCast]; exact (Blk.at_ (by simp)).one16⟩, (Ext.boxed HX.out (by omega) _ _ _).alloc _⟩
theorem Ints.keepsNI {k : IntKind} {w w' : World} {A : Option Addr} {n : Nat} {xs : List Int} {L : List Nat} (h : Ints k w A n xs) (hk : Keeps L w w') (hN : ∀ g ∈ L, NoInts w g) : Ints k w' A n xs := by
 refine ⟨h.1, h.2.1, fun hn => ?_⟩;obtain ⟨b, off, hA, hc⟩ := h.2.2 hn;refine ⟨b, off, hA, fun j u hj => ?_⟩;have hcell := hc j u hj
 have hne : b ∉ L := by
  intro e;have hni := (hN b e).cell (off + j) u hcell;rw [List.getElem?_map] at hj
  rcases hxj : xs[j]? with _ | y
  .
   rw [hxj] at hj; cases hj
  .
   rw [hxj] at hj;simp only [Option.map_some, Option.some.injEq] at hj;exact hni k y hj.symm
 rw [<- hcell];exact World.cell?_of_block (w := w) (hk.block b (World.block_lt_of_cell? w _ hcell) hne)
theorem NatV.keepsNI {k : IntKind} {B : Int} {w w' : World} {x : Value} {n : Nat} {L : List Nat} (h : NatV k B w x n) (hk : Keeps L w w') (hN : ∀ g ∈ L, NoInts w g) : NatV k B w' x n := by
 obtain ⟨A, l, c, xs, h1, h2, h3⟩ := h;exact ⟨A, l, c, xs, h1, h2.keepsNI hk hN, h3⟩
section
variable {w w' : World} {x : Value} {q : Rat} {L : List Nat}
theorem NumV.keepsNI {s : Bool} {n d : Nat} (h : NumV w x s n d) (hk : Keeps L w w') (hN : ∀ g ∈ L, NoInts w g) : NumV w' x s n d := by
 obtain ⟨vn, vd, h1, h2, h3⟩ := h;exact ⟨vn, vd, h1, NatV.keepsNI h2 hk hN, NatV.keepsNI h3 hk hN⟩
theorem NumX.keepsNI {K : Nat} (h : NumX w x q K) (hk : Keeps L w w') (hN : ∀ g ∈ L, NoInts w g) : NumX w' x q K := by
 obtain ⟨s, n, d, h1, h2⟩ := h;exact ⟨s, n, d, h1.keepsNI hk hN, h2⟩
theorem IntZ.keepsNI {z : Int} (h : IntZ w x z) (hk : Keeps L w w') (hN : ∀ g ∈ L, NoInts w g) : IntZ w' x z := by
 obtain ⟨A, l, c, h1, h2⟩ := h;exact ⟨A, l, c, h1, NatV.keepsNI h2 hk hN⟩
theorem QZ.keepsNI (h : QZ w x q) (hk : Keeps L w w') (hN : ∀ g ∈ L, NoInts w g) : QZ w' x q := by
 obtain ⟨b, A, l, c, B, m, k, h0, h1, h2, h3⟩ := h;exact ⟨b, A, l, c, B, m, k, h0, h1, NatV.keepsNI h2 hk hN, NatV.keepsNI h3 hk hN⟩
end
section
variable {P : Program}
/-- 'make([]T, n)', T of any number of cells: the cells are those of T's zero value, je and je. -/
theorem dg (w : World) {t e : TypeId} {size bytes : Nat} {z : Value} (E : Elem P t e size bytes z) {ops : Array Oper} {rest : List Oper} {o : Oper} {a : Act} {Q : Exit -> Act -> World -> Prop}
  (hgd : o.guard = none) (l c : Operand) (ho : o.op = .makeSlice t l c) (base : Nat) (kl kc : IntKind) (L C : Int) (n m : Nat) (hl : a.eval l = .int kl L) (hc : a.eval c = .int kc C)
  (hL : L = n) (hC : C = m) (hnm : n <= m) (_hb : bytes * m <= 281474976710656) (hm : m <= maxLen) (hbase : base <= w.heap.size)
  (h : ∀ w' xs, w'.ownsRow base e size (.slice (some ⟨w.heap.size, 0, none⟩) n m) n xs -> (∀ i, i < n * size -> xs[i]? = z.cells[i % size]?) -> (∀ u ∈ xs, u ∈ z.cells) -> Ext w w' -> w.heap.size < w'.heap.size -> wpList P ops Q rest (a.put o.dst (.slice (some ⟨w.heap.size, 0, none⟩) n m)) w') :
  wpList P ops Q (o :: rest) a w :=
 wpList_plain hgd fun K hK => by
  obtain ⟨i, hi, hz, hs, hby⟩ := E.info;subst hL hC hby
  have hbI : (i.bytes : Int) * (m : Int) <= 281474976710656 := by
   have h : ((i.bytes * m : Nat) : Int) <= 281474976710656 := by omega
   rwa [Int.natCast_mul] at h
  have hrun := run_make (P := P) w t e i z E.und hi hz kl kc n m (by omega) (by omega) hbI (by unfold maxLen at hm; omega);simp only [Int.toNat_natCast] at hrun;rw [hs] at hrun;have hle : n * size <= m * size := Nat.mul_le_mul_right _ hnm;have hcs := E.cells;have hp := E.pos
  have hget : ∀ k, k < m * size -> (madeCells z.cells (m * size))[k]? = z.cells[k % size]? := fun k hk => by
   have : k % size < z.cells.size := by rw [hcs]; exact Nat.mod_lt _ hp
   simp [madeCells, hk, hcs];rw [getElem!_pos z.cells _ this, Array.getElem?_eq_getElem this]
  have hown : (w.alloc (.cells (madeCells z.cells (m * size)) e)).ownsRow base e size (.slice (some ⟨w.heap.size, 0, none⟩) n m) n ((madeCells z.cells (m * size)).toList.take (n * size)) := by
   refine ⟨by simp [size_madeCells, hle], .inr ⟨w.heap.size, m, _, rfl, hbase, heap_alloc_new w _, hnm, hm, by rw [size_madeCells], rfl⟩⟩
  unfold Oper.wp;simp [execOp, ho, hl, hc, hrun, Result.andThen];refine hK _ _ (h _ _ hown (fun k hk => ?_) (fun u hu => ?_) ((Ext.refl w).alloc _) (by simp))
  .
   rw [List.getElem?_take, if_pos hk, Array.getElem?_toList];exact hget k (by omega)
  .
   obtain ⟨k, hk, rfl⟩ := List.getElem_of_mem (List.mem_of_mem_take hu);have hk' : k < m * size := by simpa [size_madeCells] using hk
   have h1 := hget k hk';rw [<- Array.getElem?_toList, List.getElem?_eq_getElem hk] at h1;exact Array.mem_of_getElem? h1.symm
end
end Go.Proofs.Ytikhlcgnlbinfaa
namespace Go.Proofs.Ytikhlcgnlbinfaa
open Lib (hid)
abbrev bk := Nat -> Rat
/-- Goes through the columns, taking each in turn, with changing signs. -/
def cG (f : Nat -> List Nat -> Rat) : List Nat -> Rat
 | [] => 0
 | c :: cs => f c cs - cG (fun x l => f x (c :: l)) cs
def cm : List bk -> List Nat -> Rat
 | [], _ => 1
 | r :: rs, cs => cG (fun c l => r c * cm rs l) cs
theorem dZ (f g : Nat -> List Nat -> Rat) (cs : List Nat) : cG (fun c l => f c l + g c l) cs = cG f cs + cG g cs := by
 induction cs generalizing f g with
 | nil => simp [cG]; grind
 | cons c cs ih => simp only [cG]; rw [ih]; grind
theorem cW (k : Rat) (f : Nat -> List Nat -> Rat) (cs : List Nat) : cG (fun c l => k * f c l) cs = k * cG f cs := by
 induction cs generalizing f with
 | nil => simp only [cG]; grind
 | cons c cs ih => simp only [cG]; rw [ih]; grind
theorem cH (cs : List Nat) : cG (fun _ _ => 0) cs = 0 := by
 induction cs with
 | nil => rfl
 | cons c cs ih => simp only [cG]; rw [ih]; grind
theorem aU {f g : Nat -> List Nat -> Rat} {cs : List Nat} (h : ∀ c l, c ∈ cs -> f c l = g c l) : cG f cs = cG g cs := by
 induction cs generalizing f g with
 | nil => rfl
 | cons c cs ih =>
  simp only [cG];rw [h c cs (by simp), ih fun x l hx => h x (c :: l) (by simp [hx])]
theorem cI {f g : Nat -> List Nat -> Rat} {cs : List Nat} (h : ∀ c l, c ∈ cs -> l.length + 1 = cs.length -> (∀ x ∈ l, x ∈ cs) -> f c l = g c l) : cG f cs = cG g cs := by
 induction cs generalizing f g with
 | nil => rfl
 | cons c cs ih =>
  simp only [cG]
  rw [h c cs (by simp) (by simp) (fun x hx => by simp [hx]), ih fun x l hx hl hs => h x (c :: l) (by simp [hx]) (by simp; omega) (fun y hy => by
   rcases List.mem_cons.1 hy with rfl | hy
   .
    simp
   .
    simp [hs y hy])]
/-- Two columns taken one behind the other, by a symmetric rule. -/
theorem pO (g : Nat -> Nat -> List Nat -> Rat) (hg : ∀ x y l, g x y l = g y x l) (cs : List Nat) : cG (fun x l => cG (fun y l' => g x y l') l) cs = 0 := by
 induction cs generalizing g with
 | nil => rfl
 | cons c cs ih =>
  simp only [cG]
  have h1 : cG (fun x l => g x c l - cG (fun y l' => g x y (c :: l')) l) cs = cG (fun x l => g x c l) cs - cG (fun x l => cG (fun y l' => g x y (c :: l')) l) cs := by
   have e : (fun x l => g x c l - cG (fun y l' => g x y (c :: l')) l) = fun x l => g x c l + (-1) * cG (fun y l' => g x y (c :: l')) l := by
    funext x l; grind
   rw [e, dZ, cW];grind
  rw [h1, ih (fun x y l => g x y (c :: l)) fun x y l => hg x y _];have h2 : cG (fun x l => g x c l) cs = cG (fun y l' => g c y l') cs := aU fun x l _ => hg x c l
  rw [h2];grind
theorem ke (A B : List bk) (x y : bk) (k : Rat) (cs : List Nat) : cm (A ++ (fun c => x c + k * y c) :: B) cs = cm (A ++ x :: B) cs + k * cm (A ++ y :: B) cs := by
 induction A generalizing cs with
 | nil =>
  simp only [List.nil_append, cm];rw [<- cW, <- dZ];exact aU fun c l _ => by grind
 | cons a A ih =>
  simp only [List.cons_append, cm];rw [<- cW, <- dZ];exact aU fun c l _ => by rw [ih]; grind
theorem lB (A B : List bk) (x : bk) (k : Rat) (cs : List Nat) : cm (A ++ (fun c => k * x c) :: B) cs = k * cm (A ++ x :: B) cs := by
 induction A generalizing cs with
 | nil =>
  simp only [List.nil_append, cm];rw [<- cW];exact aU fun c l _ => by grind
 | cons a A ih =>
  simp only [List.cons_append, cm];rw [<- cW];exact aU fun c l _ => by rw [ih]; grind
/-- Two rows next to each other at the front. -/
theorem kf (x y : bk) (B : List bk) (cs : List Nat) : cm (x :: y :: B) cs = cG (fun c l => cG (fun d l' => x c * y d * cm B l') l) cs := by
 simp only [cm];exact aU fun c l _ => by rw [<- cW]; exact aU fun d l' _ => by grind
theorem iq (x y : bk) (B : List bk) (cs : List Nat) : cm (x :: y :: B) cs = -cm (y :: x :: B) cs := by
 have h := pO (fun c d l => (x c * y d + y c * x d) * cm B l) (fun c d l => by grind) cs
 have e : cm (x :: y :: B) cs + cm (y :: x :: B) cs = 0 := by
  rw [kf, kf, <- dZ, <- h]
  exact aU fun c l _ => by
   rw [<- dZ];exact aU fun d l' _ => by grind
 grind
theorem lC (r : bk) (B C : List bk) (cs : List Nat) : cm (r :: (B ++ r :: C)) cs = 0 := by
 induction B generalizing cs with
 | nil =>
  have h := iq r r C cs;rw [List.nil_append];grind
 | cons b B ih =>
  rw [List.cons_append, iq]
  have e : cm (b :: r :: (B ++ r :: C)) cs = 0 := by
   simp only [cm];refine Eq.trans (aU (g := fun _ _ => 0) fun c l _ => ?_) (cH cs);have := ih l;simp only [cm] at this;rw [this];grind
  rw [e];grind
theorem ir (A B C : List bk) (r : bk) (cs : List Nat) : cm (A ++ r :: (B ++ r :: C)) cs = 0 := by
 induction A generalizing cs with
 | nil => exact lC r B C cs
 | cons a A ih =>
  simp only [List.cons_append, cm];refine Eq.trans (aU (g := fun _ _ => 0) fun c l _ => ?_) (cH cs);rw [ih]; grind
/-- Multiples of one row may be added to all others. -/
theorem eN (A B C : List bk) (r : bk) (k : bk -> Rat) (cs : List Nat) : cm (C ++ (A.map fun x => fun c => x c + k x * r c) ++ r :: B) cs = cm (C ++ A ++ r :: B) cs := by
 induction A generalizing C with
 | nil => rfl
 | cons a A ih =>
  have h1 : C ++ ((a :: A).map fun x => fun c => x c + k x * r c) ++ r :: B = C ++ (fun c => a c + k a * r c) :: ((A.map fun x => fun c => x c + k x * r c) ++ r :: B) := by simp
  have h2 : C ++ a :: ((A.map fun x => fun c => x c + k x * r c) ++ r :: B) = (C ++ [a]) ++ (A.map fun x => fun c => x c + k x * r c) ++ r :: B := by simp
  have h3 : (C ++ [a]) ++ A ++ r :: B = C ++ a :: A ++ r :: B := by simp
  rw [h1, ke, h2, ih, h3];have h4 := ir C (A.map fun x => fun c => x c + k x * r c) B r cs;rw [h4];grind
theorem fi (A B C : List bk) (r : bk) (k : bk -> Rat) (cs : List Nat) : cm (A ++ r :: (C ++ B.map fun x => fun c => x c + k x * r c)) cs = cm (A ++ r :: (C ++ B)) cs := by
 induction B generalizing C with
 | nil => rfl
 | cons b B ih =>
  have h1 : A ++ r :: (C ++ (b :: B).map fun x => fun c => x c + k x * r c) = (A ++ r :: C) ++ (fun c => b c + k b * r c) :: (B.map fun x => fun c => x c + k x * r c) := by simp
  have h2 : (A ++ r :: C) ++ b :: (B.map fun x => fun c => x c + k x * r c) = A ++ r :: ((C ++ [b]) ++ B.map fun x => fun c => x c + k x * r c) := by simp
  have h3 : A ++ r :: ((C ++ [b]) ++ B) = A ++ r :: (C ++ b :: B) := by simp
  rw [h1, ke, h2, ih, h3];have h4 := ir A C (B.map fun x => fun c => x c + k x * r c) r cs;have h5 : (A ++ r :: C) ++ r :: (B.map fun x => fun c => x c + k x * r c) = A ++ r :: (C ++ r :: B.map fun x => fun c => x c + k x * r c) := by simp
  rw [h5, h4];grind
theorem iu (rs : List bk) (j : Nat) (cs : List Nat) (hr : rs.length = cs.length + 1) (h : ∀ r ∈ rs, r j = 0) : cm rs (j :: cs) = 0 := by
 induction rs generalizing cs with
 | nil => simp at hr
 | cons r rs ih =>
  simp only [cm, cG];rw [h r (by simp)]
  have e : cG (fun x l => r x * cm rs (j :: l)) cs = 0 := by
   refine Eq.trans (cI (g := fun _ _ => 0) fun c l _ hl _ => ?_) (cH cs);rw [ih l (by simp at hr; omega) fun x hx => h x (by simp [hx])];grind
  rw [e];grind
/-- Rows that are unit vectors in the columns J (row i in column J[i]), and one more row that is 0 there. -/
def UnitR (rs : List bk) (J : List Nat) : Prop := rs.length = J.length /\ ∀ (i : Nat) (r : bk), rs[i]? = some r -> ∀ (k j : Nat), J[k]? = some j -> r j = if i = k then 1 else 0
theorem UnitR.tail {r : bk} {rs : List bk} {j : Nat} {J : List Nat} (h : UnitR (r :: rs) (j :: J)) : UnitR rs J := by
 refine ⟨by have := h.1; simpa using this, fun i x hx k c hc => ?_⟩;have := h.2 (i + 1) x (by simpa using hx) (k + 1) c (by simpa using hc)
 simpa using this
theorem UnitR.head {r : bk} {rs : List bk} {j : Nat} {J : List Nat} (h : UnitR (r :: rs) (j :: J)) : r j = 1 /\ (∀ c ∈ J, r c = 0) /\ (∀ x ∈ rs, x j = 0) := by
 refine ⟨by simpa using h.2 0 r rfl 0 j rfl, fun c hc => ?_, fun x hx => ?_⟩
 .
  obtain ⟨k, hk⟩ := List.mem_iff_getElem?.1 hc
  simpa using h.2 0 r rfl (k + 1) c (by simpa using hk)
 .
  obtain ⟨k, hk⟩ := List.mem_iff_getElem?.1 hx
  simpa using h.2 (k + 1) x (by simpa using hk) 0 j rfl
/-- One row more, that is 0 in the columns of the unit vectors. -/
theorem fK {rs : List bk} {J : List Nat} {x : bk} {c : Nat} (h : UnitR rs J) (hx : ∀ j ∈ J, x j = 0) : cm (rs ++ [x]) (J ++ [c]) = x c := by
 induction rs generalizing J with
 | nil =>
  obtain rfl : J = [] := List.eq_nil_of_length_eq_zero (by simpa using h.1.symm);simp [cm, cG];grind
 | cons r rs ih =>
  obtain ⟨j, J, rfl⟩ : ∃ j J', J = j :: J' := by
   cases J with
   | nil => have := h.1; simp at this
   | cons j J => exact ⟨j, J, rfl⟩
  obtain ⟨h1, h2, h3⟩ := h.head;have hl := h.tail.1;simp only [List.cons_append, cm, cG];rw [h1, ih h.tail fun j hj => hx j (by simp [hj])]
  have e : cG (fun x_1 l => r x_1 * cm (rs ++ [x]) (j :: l)) (J ++ [c]) = 0 := by
   refine Eq.trans (cI (g := fun _ _ => 0) fun y l hy hlen _ => ?_) (cH _);rw [iu _ _ _ (by simp at hlen |-; omega) fun z hz => ?_]
   .
    grind
   .
    rcases List.mem_append.1 hz with hz | hz
    .
     exact h3 z hz
    .
     simp at hz; subst hz; exact hx j (by simp)
  rw [e];grind
theorem iw {rs : List bk} {J : List Nat} (h : UnitR rs J) : cm rs J = 1 := by
 induction rs generalizing J with
 | nil => rfl
 | cons r rs ih =>
  obtain ⟨j, J, rfl⟩ : ∃ j J', J = j :: J' := by
   cases J with
   | nil => have := h.1; simp at this
   | cons j J => exact ⟨j, J, rfl⟩
  obtain ⟨h1, h2, h3⟩ := h.head;simp only [cm, cG];rw [h1, ih h.tail]
  have e : cG (fun x l => r x * cm rs (j :: l)) J = 0 := by
   refine Eq.trans (cI (g := fun _ _ => 0) fun y l hy hlen _ => ?_) (cH _);rw [h2 y hy];grind
  rw [e];grind
/-- One of the columns is another one. -/
theorem gG {rs : List bk} {J : List Nat} {i : Nat} {r : bk} {c : Nat} (h : UnitR rs J) (hi : rs[i]? = some r) : cm rs (J.set i c) = r c := by
 induction rs generalizing J i with
 | nil => simp at hi
 | cons x rs ih =>
  obtain ⟨j, J, rfl⟩ : ∃ j J', J = j :: J' := by
   cases J with
   | nil => have := h.1; simp at this
   | cons j J => exact ⟨j, J, rfl⟩
  obtain ⟨h1, h2, h3⟩ := h.head;have hl := h.tail.1
  cases i with
  | zero =>
   simp at hi;subst hi;simp only [List.set_cons_zero, cm, cG];rw [iw h.tail]
   have e : cG (fun y l => x y * cm rs (c :: l)) J = 0 := by
    refine Eq.trans (cI (g := fun _ _ => 0) fun y l hy hlen _ => ?_) (cH _);rw [h2 y hy];grind
   rw [e];grind
  | succ i =>
   simp only [List.set_cons_succ, cm, cG];rw [h1, ih h.tail (by simpa using hi)]
   have e : cG (fun y l => x y * cm rs (j :: l)) (J.set i c) = 0 := by
    refine Eq.trans (cI (g := fun _ _ => 0) fun y l hy hlen _ => ?_) (cH _);rw [iu rs j l (by simp at hlen; omega) h3];grind
   rw [e];grind
def sn (r : bk) (cs : List Nat) (B : Nat) : Prop := ∀ c ∈ cs, ∃ z : Int, r c = (z : Rat) /\ z.natAbs <= B
theorem pP {f : Nat -> List Nat -> Rat} {cs : List Nat} {B : Nat} (h : ∀ c l, c ∈ cs -> l.length + 1 = cs.length -> (∀ x ∈ l, x ∈ cs) -> ∃ z : Int, f c l = (z : Rat) /\ z.natAbs <= B) : ∃ z : Int, cG f cs = (z : Rat) /\ z.natAbs <= cs.length * B := by
 induction cs generalizing f with
 | nil => exact ⟨0, by simp [cG], by simp⟩
 | cons c cs ih =>
  obtain ⟨z, hz, hB⟩ := h c cs (by simp) (by simp) (fun x hx => by simp [hx])
  obtain ⟨y, hy, hC⟩ := ih (f := fun x l => f x (c :: l)) fun x l hx hl hs => h x (c :: l) (by simp [hx]) (by simp; omega) (fun y hy => by
   rcases List.mem_cons.1 hy with rfl | hy
   .
    simp
   .
    simp [hs y hy])
  refine ⟨z - y, by simp only [cG]; rw [hz, hy, Rat.intCast_sub], ?_⟩;rw [List.length_cons, Nat.add_mul, Nat.one_mul];omega
theorem pQ {rs : List bk} {cs : List Nat} {B : Nat} (h : ∀ r ∈ rs, sn r cs B) (hl : rs.length = cs.length) : ∃ z : Int, cm rs cs = (z : Rat) /\ z.natAbs <= (cs.length * B) ^ cs.length := by
 induction rs generalizing cs with
 | nil =>
  have h0 : cs.length = 0 := by simpa using hl.symm
  exact ⟨1, by simp [cm], by rw [h0]; simp⟩
 | cons r rs ih =>
  simp only [cm];have hc : 0 < cs.length := by simp at hl; omega
  obtain ⟨m, hm⟩ : ∃ m, cs.length = m + 1 := ⟨cs.length - 1, by omega⟩
  obtain ⟨z, hz, hB⟩ := pP (f := fun c l => r c * cm rs l) (cs := cs) (B := B * (cs.length * B) ^ m) fun c l hcm hlen hs => by
   obtain ⟨a, ha, hA⟩ := h r (by simp) c hcm;obtain ⟨b, hb, hBB⟩ := ih (cs := l) (fun x hx y hy => h x (by simp [hx]) y (hs y hy)) (by simp at hl; omega);refine ⟨a * b, by rw [ha, hb, Rat.intCast_mul], ?_⟩;rw [Int.natAbs_mul];refine Nat.mul_le_mul hA (Nat.le_trans hBB ?_);rw [show l.length = m by omega];exact Nat.pow_le_pow_left (Nat.mul_le_mul_right _ (by omega)) _
  refine ⟨z, hz, Nat.le_trans hB (Nat.le_of_eq ?_)⟩;rw [hm, Nat.pow_succ, Nat.mul_comm ((( m + 1) * B) ^ m), Nat.mul_assoc]
end Go.Proofs.Ytikhlcgnlbinfaa
namespace Go.Proofs.Ytikhlcgnlbinfaa
open Lib (hid)
abbrev cR := Nat -> bk
/-- The first row from i on, of f rows, whose entry in column j is not 0. -/
def bD (T : cR) (j : Nat) : Nat -> Nat -> Option Nat
 | 0, _ => none
 | f + 1, i => if T i j = 0 then bD T j f (i + 1) else some i
def aK (T : cR) (a b : Nat) : cR := fun i => if i = a then T b else if i = b then T a else T i
def a7 (T : cR) (top : Nat) (lead : Rat) : cR := fun i => if i = top then fun c => T top c / lead else T i
def aP (T : cR) (top j : Nat) : cR := fun i => if i = top then T top else fun c => T i c - T i j * T top c
structure jr where
 tab : cR
 top : Nat
 piv : List (Option Nat)
 last : Rat
 cols : List Nat
/-- One column. -/
def bi (n j : Nat) (s : jr) : jr := match bD s.tab j (n - s.top) s.top with
 | none => ⟨s.tab, s.top, s.piv ++ [none], s.last, s.cols⟩
 | some at' => ⟨aP (a7 (aK s.tab s.top at') s.top (s.tab at' j)) s.top j, s.top + 1, s.piv ++ [some s.top], s.last * s.tab at' j, s.cols ++ [j]⟩
def aQ (n : Nat) (T : cR) : Nat -> jr
 | 0 => ⟨T, 0, [], 1, []⟩
 | j + 1 => bi n j (aQ n T j)
theorem dL {T : cR} {j f i k : Nat} (h : bD T j f i = some k) : i <= k /\ k < i + f /\ T k j ≠ 0 /\ ∀ m, i <= m -> m < k -> T m j = 0 := by
 induction f generalizing i with
 | zero => cases h
 | succ f ih =>
  unfold bD at h;split at h
  .
   rename_i h0
   obtain ⟨h1, h2, h3, h4⟩ := ih h;refine ⟨by omega, by omega, h3, fun m hm hk => ?_⟩
   rcases Nat.eq_or_lt_of_le hm with rfl | hm
   .
    exact h0
   .
    exact h4 m (by omega) hk
  .
   rename_i h0
   injection h with h;subst h;exact ⟨Nat.le_refl _, by omega, h0, fun m h1 h2 => by omega⟩
theorem js {T : cR} {j f i : Nat} (h : bD T j f i = none) : ∀ m, i <= m -> m < i + f -> T m j = 0 := by
 induction f generalizing i with
 | zero => intro m h1 h2; omega
 | succ f ih =>
  unfold bD at h;split at h
  .
   rename_i h0
   intro m h1 h2
   rcases Nat.eq_or_lt_of_le h1 with rfl | h1
   .
    exact h0
   .
    exact ih h m (by omega) (by omega)
  .
   cases h
/-- Where the reduction stands: M's rows in another order; every determinant of them (the first 'top' rows and any others behind) is 'last' times that of the table. -/
structure Stage (n B : Nat) (s : jr) (Mp : cR) : Prop where
 le : s.top <= n
 len : s.cols.length = s.top
 nz : s.last ≠ 0
 col : ∀ c ∈ s.cols, c < n
 one : ∀ i j, s.cols[i]? = some j -> ∀ r, r < n -> s.tab r j = if r = i then 1 else 0
 dt : ∀ is : List Nat, (∀ i ∈ is, s.top <= i /\ i < n) -> ∀ cs, cm ((List.range s.top ++ is).map Mp) cs = s.last * cm ((List.range s.top ++ is).map s.tab) cs
 int : ∀ i, i < n -> ∀ c, c <= n -> ∃ z : Int, Mp i c = (z : Rat) /\ z.natAbs <= B
theorem Stage.start {n B : Nat} {M : cR} (h : ∀ i, i < n -> ∀ c, c <= n -> ∃ z : Int, M i c = (z : Rat) /\ z.natAbs <= B) : Stage n B ⟨M, 0, [], 1, []⟩ M where
 le := Nat.zero_le _
 len := rfl
 nz := (by decide : (1 : Rat) ≠ 0)
 col := by simp
 one := by simp
 dt := fun is _ cs => by simp only [List.range_zero, List.nil_append]; grind
 int := h
/-- Two rows of those that are left change their places. -/
theorem Stage.swap {n B : Nat} {s : jr} {Mp : cR} (h : Stage n B s Mp) {a : Nat} (_ha : s.top <= a) (hn : a < n) : Stage n B ⟨aK s.tab s.top a, s.top, s.piv, s.last, s.cols⟩ (aK Mp s.top a) := by
 have hsw : ∀ (T : cR) i, aK T s.top a i = T (if i = s.top then a else if i = a then s.top else i) := fun T i => by
  unfold aK;split
  .
   rfl
  .
   split <;> rfl
 refine ⟨h.le, h.len, h.nz, h.col, fun i j hj r hr => ?_, fun is hi cs => ?_, fun i hi c hc => ?_⟩
 .
  simp only at hj |-;have hik : i < s.top := by have := (List.getElem?_eq_some_iff.1 hj).1; have := h.len; omega
  simp only [hsw];rw [h.one i j hj _ (by split; omega; split <;> omega)]
  by_cases e : r = i
  .
   subst e;rw [if_neg (show ¬ r = s.top by omega), if_neg (show ¬ r = a by omega)]
  .
   rw [if_neg e, if_neg];split
   .
    omega
   .
    split <;> omega
 .
  simp only
  have e : ∀ T : cR, (List.range s.top ++ is).map (aK T s.top a) = (List.range s.top ++ is.map fun i => if i = s.top then a else if i = a then s.top else i).map T := fun T => by
   rw [List.map_append, List.map_append, List.map_map]
   congr 1
   .
    refine List.map_congr_left fun i hi => ?_
    have := List.mem_range.1 hi;rw [hsw, if_neg (by omega), if_neg (by omega)]
   .
    exact List.map_congr_left fun i _ => hsw T i
  rw [e, e];refine h.dt _ (fun i hi' => ?_) cs;obtain ⟨x, hx, rfl⟩ := List.mem_map.1 hi';have := hi x hx;simp only at this;split
  .
   omega
  .
   split <;> omega
 .
  rw [hsw];refine h.int _ ?_ c hc;split
  .
   exact hn
  .
   split
   .
    omega
   .
    exact hi
/-- The row on top is divided by its first entry, and multiples of it are taken from all others. -/
theorem Stage.clear {n B j : Nat} {s : jr} {Mp : cR} (h : Stage n B s Mp) (ht : s.top < n) (hj : j < n) (h0 : s.tab s.top j ≠ 0) (piv : List (Option Nat)) : Stage n B ⟨aP (a7 s.tab s.top (s.tab s.top j)) s.top j, s.top + 1, piv, s.last * s.tab s.top j, s.cols ++ [j]⟩ Mp := by
 obtain ⟨lead, hl⟩ : ∃ x, s.tab s.top j = x := ⟨_, rfl⟩;rw [hl] at h0 |-;have htop : aP (a7 s.tab s.top lead) s.top j s.top = fun c => s.tab s.top c / lead := by simp [aP, a7]
 have hoth : ∀ i, i ≠ s.top -> aP (a7 s.tab s.top lead) s.top j i = fun c => s.tab i c - s.tab i j * (s.tab s.top c / lead) := fun i hi => by
  unfold aP a7;rw [if_neg hi, if_neg hi, if_pos rfl]
 have hlj : lead / lead = 1 := by rw [Rat.div_def]; exact Rat.mul_inv_cancel _ h0
 refine ⟨ht, by rw [List.length_append, h.len]; rfl, ?_, ?_, fun i c hc r hr => ?_, fun is hi cs => ?_, h.int⟩
 .
  exact fun e => (Rat.mul_eq_zero.1 e).elim h.nz h0
 .
  intro c hc
  rcases List.mem_append.1 hc with hc | hc
  .
   exact h.col c hc
  .
   simp at hc; subst hc; exact hj
 .
  simp only at hc |-
  by_cases hi : i < s.top
  .
   rw [List.getElem?_append_left (by rw [h.len]; exact hi)] at hc;have htc : s.tab s.top c = 0 := by rw [h.one i c hc _ ht, if_neg (by omega)]
   by_cases hr2 : r = s.top
   .
    subst hr2;rw [htop];simp only;rw [htc, if_neg (by omega)];grind
   .
    rw [hoth r hr2];simp only;rw [htc, h.one i c hc r hr];grind
  .
   have hit : i = s.top := by
    have := (List.getElem?_eq_some_iff.1 hc).1;rw [List.length_append, h.len] at this;simp at this;omega
   subst hit;rw [List.getElem?_append_right (by rw [h.len]; exact Nat.le_refl _), h.len, Nat.sub_self] at hc;simp at hc;subst hc
   by_cases hr2 : r = s.top
   .
    subst hr2;rw [htop, if_pos rfl];simp only;rw [hl, hlj]
   .
    rw [hoth r hr2, if_neg hr2];simp only;rw [hl, hlj];grind
 .
  simp only at hi |-;have e1 : List.range (s.top + 1) ++ is = List.range s.top ++ s.top :: is := by rw [List.range_succ, List.append_assoc]; rfl
  rw [e1]
  have h1 := h.dt (s.top :: is) (fun i hx => by
   rcases List.mem_cons.1 hx with rfl | hx
   .
    exact ⟨Nat.le_refl _, ht⟩
   .
    have := hi i hx; omega) cs
  rw [h1, List.map_append, List.map_append, List.map_cons, List.map_cons, htop]
  -- the rows as rows of the elder table, each with a multiple of the new one
  have ef : (List.range s.top).map (aP (a7 s.tab s.top lead) s.top j) = ((List.range s.top).map s.tab).map fun x => fun c => x c + (-(x j)) * (s.tab s.top c / lead) := by
   rw [List.map_map];refine List.map_congr_left fun i hi => ?_
   have := List.mem_range.1 hi;rw [hoth i (by omega)]
   funext c
   simp only [Function.comp];grind
  have eb : is.map (aP (a7 s.tab s.top lead) s.top j) = (is.map s.tab).map fun x => fun c => x c + (-(x j)) * (s.tab s.top c / lead) := by
   rw [List.map_map];refine List.map_congr_left fun i hx => ?_
   have := hi i hx;rw [hoth i (by omega)]
   funext c
   simp only [Function.comp];grind
  rw [ef, eb];have h2 := eN ((List.range s.top).map s.tab) ((is.map s.tab).map fun x => fun c => x c + (-(x j)) * (s.tab s.top c / lead)) [] (fun c => s.tab s.top c / lead) (fun x => -(x j)) cs;simp only [List.nil_append] at h2;rw [h2];have h3 := fi ((List.range s.top).map s.tab) (is.map s.tab) [] (fun c => s.tab s.top c / lead) (fun x => -(x j)) cs;simp only [List.nil_append] at h3;rw [h3];have h4 := lB ((List.range s.top).map s.tab) (is.map s.tab) (fun c => s.tab s.top c / lead) lead cs
  have h5 : (fun c => lead * (s.tab s.top c / lead)) = s.tab s.top := by
   funext c
   rw [Rat.div_def, Rat.mul_comm (s.tab s.top c), <- Rat.mul_assoc, Rat.mul_inv_cancel _ h0, Rat.one_mul]
  rw [h5] at h4;rw [h4];grind
theorem Stage.step {n B j : Nat} {s : jr} {Mp : cR} (h : Stage n B s Mp) (hj : j < n) : ∃ Mp', Stage n B (bi n j s) Mp' := by
 unfold bi
 cases hf : bD s.tab j (n - s.top) s.top with
 | none => exact ⟨Mp, h.le, h.len, h.nz, h.col, h.one, h.dt, h.int⟩
 | some a =>
  obtain ⟨h1, h2, h3, _⟩ := dL hf;have hle := h.le;have hs := h.swap h1 (by omega);have hc := hs.clear (j := j) (by simp only; omega) hj (by simp only [aK, if_pos]; exact h3) (s.piv ++ [some s.top]);simp only [aK, if_pos] at hc;exact ⟨_, hc⟩
theorem Stage.run {n B : Nat} {M : cR} (h : ∀ i, i < n -> ∀ c, c <= n -> ∃ z : Int, M i c = (z : Rat) /\ z.natAbs <= B) (j : Nat) (_hj : j <= n) : ∃ Mp, Stage n B (aQ n M j) Mp := by
 induction j with
 | zero => exact ⟨M, Stage.start h⟩
 | succ j ih =>
  obtain ⟨Mp, hs⟩ := ih (by omega);exact hs.step (by omega)
/-- The last product of pivots, and it times every entry, are integers, and not too large. -/
theorem Stage.ints {n B : Nat} {s : jr} {Mp : cR} (h : Stage n B s Mp) : (∃ z : Int, s.last = (z : Rat) /\ z.natAbs <= ((n + 1) * (B + 1)) ^ (n + 1)) /\ ∀ i, i < n -> ∀ c, c <= n -> ∃ z : Int, s.last * s.tab i c = (z : Rat) /\ z.natAbs <= ((n + 1) * (B + 1)) ^ (n + 1) := by
 have hle := h.le
 have hB : ∀ k, k <= n + 1 -> (k * B) ^ k <= ((n + 1) * (B + 1)) ^ (n + 1) := fun k hk => by
  refine Nat.le_trans (Nat.pow_le_pow_left (Nat.mul_le_mul hk (Nat.le_succ B)) k) (Nat.pow_le_pow_right ?_ hk);exact Nat.mul_pos (by omega) (by omega)
 have hi : ∀ (is cs : List Nat), (∀ i ∈ is, i < n) -> (∀ c ∈ cs, c <= n) -> is.length = cs.length -> cs.length <= n + 1 -> ∃ z : Int, cm (is.map Mp) cs = (z : Rat) /\ z.natAbs <= ((n + 1) * (B + 1)) ^ (n + 1) := fun is cs h1 h2 h3 h4 => by
  obtain ⟨z, hz, hb⟩ := pQ (rs := is.map Mp) (cs := cs) (B := B) (fun r hr c hc => by
   obtain ⟨i, hi, rfl⟩ := List.mem_map.1 hr;exact h.int i (h1 i hi) c (h2 c hc)) (by rw [List.length_map]; exact h3)
  exact ⟨z, hz, Nat.le_trans hb (hB _ h4)⟩
 have hu : UnitR ((List.range s.top).map s.tab) s.cols := by
  refine ⟨by simp [h.len], fun i r hr k j hj => ?_⟩;rw [List.getElem?_map] at hr;obtain ⟨x, hx, rfl⟩ := Option.map_eq_some_iff.1 hr;have hlt := (List.getElem?_eq_some_iff.1 hx).1;simp at hlt;rw [List.getElem?_range hlt] at hx;injection hx with hx;subst hx;exact h.one k j hj i (by omega)
 have hr : ∀ i ∈ List.range s.top, i < n := fun i hi => by have := List.mem_range.1 hi; omega
 have hc : ∀ c ∈ s.cols, c <= n := fun c hc => Nat.le_of_lt (h.col c hc)
 refine ⟨?_, fun i hin c hcn => ?_⟩
 .
  have h1 := h.dt [] (by simp) s.cols;rw [List.append_nil, iw hu] at h1;obtain ⟨z, hz, hb⟩ := hi (List.range s.top) s.cols hr hc (by simp [h.len]) (by rw [h.len]; omega);exact ⟨z, by rw [<- hz, h1]; grind, hb⟩
 .
  by_cases hit : i < s.top
  .
   have h1 := h.dt [] (by simp) (s.cols.set i c);rw [List.append_nil, gG (r := s.tab i) hu (by rw [List.getElem?_map, List.getElem?_range hit]; rfl)] at h1
   obtain ⟨z, hz, hb⟩ := hi (List.range s.top) (s.cols.set i c) hr (fun x hx => by
    rcases List.mem_or_eq_of_mem_set hx with hx | hx
    .
     exact hc x hx
    .
     subst hx; exact hcn) (by simp [h.len]) (by simp [h.len]; omega)
   exact ⟨z, by rw [<- hz, h1], hb⟩
  .
   have h1 := h.dt [i] (by simp; omega) (s.cols ++ [c]);rw [List.map_append, List.map_append, List.map_cons, List.map_nil, List.map_cons, List.map_nil, fK hu (fun j hj => ?_)] at h1
   .
    obtain ⟨z, hz, hb⟩ := hi (List.range s.top ++ [i]) (s.cols ++ [c]) (fun x hx => by
     rcases List.mem_append.1 hx with hx | hx
     .
      exact hr x hx
     .
      simp at hx; omega) (fun x hx => by
     rcases List.mem_append.1 hx with hx | hx
     .
      exact hc x hx
     .
      simp at hx; omega) (by simp [h.len]) (by simp [h.len]; omega)
    rw [List.map_append, List.map_cons, List.map_nil] at hz;exact ⟨z, by rw [<- hz, h1], hb⟩
   .
    obtain ⟨k, hk⟩ := List.mem_iff_getElem?.1 hj;rw [h.one k j hk i hin, if_neg];have := (List.getElem?_eq_some_iff.1 hk).1;have := h.len;omega
end Go.Proofs.Ytikhlcgnlbinfaa
namespace Go.Proofs.Ytikhlcgnlbinfaa
open Lib (hid)
def sumN : Nat -> (Nat -> Rat) -> Rat
 | 0, _ => 0
 | n + 1, f => sumN n f + f n
theorem ix (n : Nat) (f g : Nat -> Rat) : sumN n (fun i => f i + g i) = sumN n f + sumN n g := by
 induction n with
 | zero => simp [sumN]; grind
 | succ n ih => simp only [sumN]; rw [ih]; grind
theorem cX (n : Nat) (k : Rat) (f : Nat -> Rat) : sumN n (fun i => k * f i) = k * sumN n f := by
 induction n with
 | zero => simp only [sumN]; grind
 | succ n ih => simp only [sumN]; rw [ih]; grind
theorem lD (n : Nat) : sumN n (fun _ => 0) = 0 := by
 induction n with
 | zero => rfl
 | succ n ih => simp only [sumN]; rw [ih]; grind
theorem bP {n : Nat} {f g : Nat -> Rat} (h : ∀ i, i < n -> f i = g i) : sumN n f = sumN n g := by
 induction n with
 | zero => rfl
 | succ n ih => simp only [sumN]; rw [ih fun i hi => h i (by omega), h n (by omega)]
theorem iy (n : Nat) (f g : Nat -> Rat) : sumN n (fun i => f i - g i) = sumN n f - sumN n g := by
 have h := ix n f (fun i => (-1) * g i);rw [cX] at h;have e : (fun i => f i - g i) = fun i => f i + (-1) * g i := by funext i; grind
 rw [e, h]; grind
theorem iz {n k : Nat} {f : Nat -> Rat} (_hk : k < n) (h : ∀ i, i < n -> i ≠ k -> f i = 0) : sumN n f = f k := by
 induction n with
 | zero => omega
 | succ n ih =>
  simp only [sumN]
  by_cases e : k = n
  .
   subst e;rw [bP (g := fun _ => 0) fun i hi => h i (by omega) (by omega), lD];grind
  .
   rw [ih (by omega) fun i hi hne => h i (by omega) hne, h n (by omega) (fun q => e q.symm)];grind
def nB (n : Nat) (T : cR) (v : Nat -> Rat) : Prop := ∀ i, i < n -> sumN n (fun j => T i j * v j) = T i n
/-- Row i of the table is a sum of multiples of M's rows. -/
def Comb (n : Nat) (M : cR) (r : bk) : Prop := ∃ y : Nat -> Rat, ∀ c, c <= n -> r c = sumN n fun i => y i * M i c
theorem Comb.row {n : Nat} {M : cR} {i : Nat} (hi : i < n) : Comb n M (M i) := ⟨fun k => if k = i then 1 else 0, fun c _ => by
 rw [iz hi fun k _ hne => by simp only [if_neg hne]; grind];simp only [if_pos]; grind⟩
theorem Comb.add {n : Nat} {M : cR} {r s : bk} (hr : Comb n M r) (hs : Comb n M s) (a b : Rat) : Comb n M (fun c => a * r c + b * s c) := by
 obtain ⟨y, hy⟩ := hr;obtain ⟨z, hz⟩ := hs;refine ⟨fun i => a * y i + b * z i, fun c hc => ?_⟩;simp only;rw [hy c hc, hz c hc, <- cX, <- cX, <- ix];exact bP fun i _ => by grind
theorem nC {n : Nat} {T : cR} {a b : Nat} (ha : a < n) (hb : b < n) (v : Nat -> Rat) : nB n (aK T a b) v ↔ nB n T v := by
 unfold nB aK;constructor
 .
  intro h i hi
  by_cases h1 : i = a
  .
   have := h b hb
   by_cases e : b = a
   .
    subst e h1; simpa using this
   .
    simp only [if_neg e, if_pos] at this; subst h1; exact this
  .
   by_cases h2 : i = b
   .
    have := h a ha; simp only [if_pos] at this; subst h2; exact this
   .
    have := h i hi; simp only [if_neg h1, if_neg h2] at this; exact this
 .
  intro h i hi
  by_cases h1 : i = a
  .
   subst h1; simp only [if_pos]; exact h b hb
  .
   by_cases h2 : i = b
   .
    subst h2; simp only [if_neg h1, if_pos]; exact h a ha
   .
    simp only [if_neg h1, if_neg h2]; exact h i hi
theorem nD {n : Nat} {T : cR} {top : Nat} {lead : Rat} (h0 : lead ≠ 0) (_ht : top < n) (v : Nat -> Rat) : nB n (a7 T top lead) v ↔ nB n T v := by
 have key : ∀ x y : Rat, x / lead = y / lead ↔ x = y := fun x y => by
  constructor
  .
   intro h;rw [Rat.div_def, Rat.div_def] at h;have h2 : x * lead⁻¹ * lead = y * lead⁻¹ * lead := by rw [h]
   rw [Rat.mul_assoc, Rat.mul_assoc, Rat.inv_mul_cancel _ h0, Rat.mul_one, Rat.mul_one] at h2;exact h2
  .
   intro h; rw [h]
 have hrow : sumN n (fun j => T top j / lead * v j) = T top n / lead ↔ sumN n (fun j => T top j * v j) = T top n := by
  rw [<- key (sumN n (fun j => T top j * v j))]
  have e : sumN n (fun j => T top j / lead * v j) = sumN n (fun j => T top j * v j) / lead := by
   rw [Rat.div_def, Rat.mul_comm, <- cX];exact bP fun j _ => by rw [Rat.div_def]; grind
  rw [e]
 unfold nB a7;constructor
 .
  intro h i hi
  by_cases h1 : i = top
  .
   have := h i hi; simp only [if_pos h1] at this; subst h1; exact hrow.1 this
  .
   have := h i hi; simp only [if_neg h1] at this; exact this
 .
  intro h i hi
  by_cases h1 : i = top
  .
   subst h1; simp only [if_pos]; exact hrow.2 (h i hi)
  .
   simp only [if_neg h1]; exact h i hi
theorem lE {n : Nat} {T : cR} {top j : Nat} (ht : top < n) (v : Nat -> Rat) : nB n (aP T top j) v ↔ nB n T v := by
 have e : ∀ i, sumN n (fun c => (T i c - T i j * T top c) * v c) = sumN n (fun c => T i c * v c) - T i j * sumN n (fun c => T top c * v c) := fun i => by
  rw [<- cX, <- iy];exact bP fun c _ => by grind
 unfold nB aP;constructor
 .
  intro h;have h0 := h top ht;simp only [if_pos] at h0;intro i hi
  by_cases h1 : i = top
  .
   subst h1; exact h0
  .
   have := h i hi;simp only [if_neg h1] at this;rw [e, h0] at this;grind
 .
  intro h i hi
  by_cases h1 : i = top
  .
   subst h1; simp only [if_pos]; exact h i hi
  .
   simp only [if_neg h1];rw [e, h i hi, h top ht]
/-- What the reduction of the first j columns leaves. -/
structure Left (n j : Nat) (M : cR) (s : jr) : Prop where
 sol : ∀ v, nB n s.tab v ↔ nB n M v
 comb : ∀ i, i < n -> Comb n M (s.tab i)
 zero : ∀ i, s.top <= i -> i < n -> ∀ c, c < j -> s.tab i c = 0
 plen : s.piv.length = j
 psome : ∀ (c i : Nat), s.piv[c]? = some (some i) -> s.cols[i]? = some c
 pnone : ∀ (c : Nat), s.piv[c]? = some none -> c ∉ s.cols
 lt : ∀ c ∈ s.cols, c < j
theorem Left.start (n : Nat) (M : cR) : Left n 0 M ⟨M, 0, [], 1, []⟩ where
 sol := fun _ => Iff.rfl
 comb := fun i hi => Comb.row hi
 zero := fun i _ _ c hc => by omega
 plen := rfl
 psome := fun c i h => by simp at h
 pnone := fun c h => by simp at h
 lt := by simp
theorem Left.step {n j B : Nat} {M : cR} {s : jr} {Mp : cR} (h : Left n j M s) (hst : Stage n B s Mp) (_hj : j < n) : Left n (j + 1) M (bi n j s) := by
 unfold bi
 cases hf : bD s.tab j (n - s.top) s.top with
 | none =>
  have hz := js hf;have hle := hst.le;refine ⟨h.sol, h.comb, fun i h1 h2 c hc => ?_, by simp [h.plen], fun c i hp => ?_, fun c hp => ?_, fun c hc => by have := h.lt c hc; omega⟩
  .
   by_cases e : c = j
   .
    subst e; exact hz i h1 (by simp only at h1; omega)
   .
    exact h.zero i h1 h2 c (by omega)
  .
   simp only at hp |-
   by_cases e : c < j
   .
    rw [List.getElem?_append_left (by rw [h.plen]; exact e)] at hp;exact h.psome c i hp
   .
    rw [List.getElem?_append_right (by rw [h.plen]; omega)] at hp;have := List.mem_of_getElem? hp;simp at this
  .
   simp only at hp |-
   by_cases e : c < j
   .
    rw [List.getElem?_append_left (by rw [h.plen]; exact e)] at hp;exact h.pnone c hp
   .
    intro hc;have := h.lt c hc;omega
 | some a =>
  obtain ⟨h1, h2, h3, _⟩ := dL hf;have hle := hst.le;have ha : a < n := by omega
  have ht : s.top < n := by omega
  have htop : ∀ c, aP (a7 (aK s.tab s.top a) s.top (s.tab a j)) s.top j s.top c = s.tab a c / s.tab a j := fun c => by simp [aP, a7, aK]
  have hoth : ∀ i, i ≠ s.top -> ∀ c, aP (a7 (aK s.tab s.top a) s.top (s.tab a j)) s.top j i c = s.tab (if i = a then s.top else i) c - s.tab (if i = a then s.top else i) j * (s.tab a c / s.tab a j) := fun i hi c => by
   simp only [aP, a7, aK, if_neg hi, if_pos]
   by_cases e : i = a
   .
    simp only [if_pos e]
   .
    simp only [if_neg e]
  have hfa : ∀ i, i < n -> (if i = a then s.top else i) < n := fun i hi => by split <;> omega
  refine ⟨fun v => ?_, fun i hi => ?_, fun i hi1 hi2 c hc => ?_, by simp [h.plen], fun c i hp => ?_, fun c hp => ?_, fun c hc => ?_⟩
  .
   rw [lE ht, nD h3 ht, nC ht ha, h.sol]
  .
   by_cases e : i = s.top
   .
    subst e;obtain ⟨y, hy⟩ := (h.comb a ha).add (h.comb a ha) (s.tab a j)⁻¹ 0;refine ⟨y, fun c hc => ?_⟩;simp only;rw [htop, <- hy c hc, Rat.div_def];grind
   .
    obtain ⟨y, hy⟩ := (h.comb _ (hfa i hi)).add (h.comb a ha) 1 (-(s.tab (if i = a then s.top else i) j * (s.tab a j)⁻¹));refine ⟨y, fun c hc => ?_⟩;simp only;rw [hoth i e, <- hy c hc, Rat.div_def];grind
  .
   simp only at hi1 |-;rw [hoth i (by omega)];have hx : s.top <= (if i = a then s.top else i) := by split <;> omega
   by_cases e : c = j
   .
    subst e;rw [Rat.div_def, Rat.mul_inv_cancel _ h3];grind
   .
    rw [h.zero _ hx (hfa i hi2) c (by omega), h.zero a h1 ha c (by omega), Rat.div_def];grind
  .
   simp only at hp |-
   by_cases e : c < j
   .
    rw [List.getElem?_append_left (by rw [h.plen]; exact e)] at hp;have := h.psome c i hp;rw [List.getElem?_append_left (List.getElem?_eq_some_iff.1 this).1];exact this
   .
    rw [List.getElem?_append_right (by rw [h.plen]; omega), h.plen] at hp
    have hcj : c - j = 0 := by
     have := (List.getElem?_eq_some_iff.1 hp).1
     simpa using this
    rw [hcj] at hp;simp at hp;subst hp;rw [<- hst.len, List.getElem?_append_right (Nat.le_refl _), Nat.sub_self];simp;omega
  .
   simp only at hp |-
   by_cases e : c < j
   .
    rw [List.getElem?_append_left (by rw [h.plen]; exact e)] at hp;intro hc
    rcases List.mem_append.1 hc with hc | hc
    .
     exact h.pnone c hp hc
    .
     simp at hc; omega
   .
    rw [List.getElem?_append_right (by rw [h.plen]; omega)] at hp;have := List.mem_of_getElem? hp;simp at this
  .
   rcases List.mem_append.1 hc with hc | hc
   .
    have := h.lt c hc; omega
   .
    simp at hc; omega
theorem Left.run {n B : Nat} {M : cR} (h : ∀ i, i < n -> ∀ c, c <= n -> ∃ z : Int, M i c = (z : Rat) /\ z.natAbs <= B) (j : Nat) (_hj : j <= n) : Left n j M (aQ n M j) := by
 induction j with
 | zero => exact Left.start n M
 | succ j ih =>
  obtain ⟨Mp, hs⟩ := Stage.run h j (by omega);exact (ih (by omega)).step hs (by omega)
/-- The solution: what stands on the right in the row of each pivot; 0 for all others. -/
def gH (n : Nat) (s : jr) (j : Nat) : Rat := match s.piv[j]? with
 | some (some i) => s.tab i n
 | _ => 0
end Go.Proofs.Ytikhlcgnlbinfaa
namespace Go.Proofs.Ytikhlcgnlbinfaa
open Lib (hid)
/-- A match. -/
structure Mt where
 a : Int
 b : Int
 x : Int
 y : Int
 z : Int
 d : Int
 w : Int
 deriving DecidableEq
def Mt.nrm (m : Mt) (k : Nat) : Int := if k = 0 then m.x else if k = 1 then m.y else m.z
/-- The coefficient of an unknown. -/
def aG (m : Mt) (u : Nat) : Int := if ((u / 3 : Nat) : Int) = m.a then m.nrm (u % 3) else if ((u / 3 : Nat) : Int) = m.b then -(m.nrm (u % 3)) else 0
structure VM (S : Int) (m : Mt) : Prop where
 a0 : 0 <= m.a
 aS : m.a < S
 b0 : -1 <= m.b
 bS : m.b < S
 ne : m.a ≠ m.b
 nz : ¬ (m.x = 0 /\ m.y = 0 /\ m.z = 0)
 x1 : -100 <= m.x
 x2 : m.x <= 100
 y1 : -100 <= m.y
 y2 : m.y <= 100
 z1 : -100 <= m.z
 z2 : m.z <= 100
 d1 : -274877906944 <= m.d
 d2 : m.d <= 274877906944
 w1 : 1 <= m.w
 w2 : m.w <= 1000
def VP (S : Int) (ms : List Mt) : Prop := 1 <= S /\ S <= 8 /\ ms.length <= 64 /\ ∀ m ∈ ms, VM S m
theorem bE {S : Int} {m : Mt} (h : VM S m) (u : Nat) : -100 <= aG m u /\ aG m u <= 100 := by
 have := h.x1; have := h.x2; have := h.y1; have := h.y2; have := h.z1; have := h.z2;have hn : ∀ k, -100 <= m.nrm k /\ m.nrm k <= 100 := fun k => by unfold Mt.nrm; split; omega; split <;> omega
 have := hn (u % 3);unfold aG;split
 .
  omega
 .
  split <;> omega
/-- Left and right side of the normal equations. -/
def cJ : List Mt -> Nat -> Nat -> Int
 | [], _, _ => 0
 | m :: ms, i, j => m.w * aG m i * aG m j + cJ ms i j
def cK : List Mt -> Nat -> Int
 | [], _ => 0
 | m :: ms, i => -(m.w * m.d * aG m i) + cK ms i
theorem jt (a b : List Mt) (i j : Nat) : cJ (a ++ b) i j = cJ a i j + cJ b i j := by
 induction a with
 | nil => simp [cJ]
 | cons m a ih => simp only [List.cons_append, cJ, ih]; omega
theorem ju (a b : List Mt) (i : Nat) : cK (a ++ b) i = cK a i + cK b i := by
 induction a with
 | nil => simp [cK]
 | cons m a ih => simp only [List.cons_append, cK, ih]; omega
theorem bQ {x y A B : Int} (_h1 : -A <= x) (_h2 : x <= A) (_h3 : -B <= y) (_h4 : y <= B) : -(A * B) <= x * y /\ x * y <= A * B := by
 have e1 := Int.mul_nonneg (show 0 <= A - x by omega) (show 0 <= B - y by omega);have e2 := Int.mul_nonneg (show 0 <= A + x by omega) (show 0 <= B + y by omega);have e3 := Int.mul_nonneg (show 0 <= A - x by omega) (show 0 <= B + y by omega);have e4 := Int.mul_nonneg (show 0 <= A + x by omega) (show 0 <= B - y by omega);have f1 : (A - x) * (B - y) = A * B - A * y - x * B + x * y := by grind
 have f2 : (A + x) * (B + y) = A * B + A * y + x * B + x * y := by grind
 have f3 : (A - x) * (B + y) = A * B + A * y - x * B - x * y := by grind
 have f4 : (A + x) * (B - y) = A * B - A * y + x * B - x * y := by grind
 omega
theorem nE {S : Int} {m : Mt} (h : VM S m) (i j : Nat) : -10000000 <= m.w * aG m i * aG m j /\ m.w * aG m i * aG m j <= 10000000 := by
 have h1 := bE h i;have h2 := bE h j;have a := bQ (A := 1000) (B := 100) (by have := h.w1; omega) h.w2 h1.1 h1.2;exact bQ (A := 100000) (B := 100) (by omega) (by omega) h2.1 h2.2
theorem kg {S : Int} {m : Mt} (h : VM S m) : -274877906944000 <= m.w * m.d /\ m.w * m.d <= 274877906944000 :=
 bQ (A := 1000) (B := 274877906944) (by have := h.w1; omega) h.w2 h.d1 h.d2
theorem nF {S : Int} {m : Mt} (h : VM S m) (i : Nat) : -27487790694400000 <= m.w * m.d * aG m i /\ m.w * m.d * aG m i <= 27487790694400000 := by
 have h1 := bE h i;exact bQ (A := 274877906944000) (B := 100) (kg h).1 (kg h).2 h1.1 h1.2
theorem dv {S : Int} {ms : List Mt} (h : ∀ m ∈ ms, VM S m) (i j : Nat) : -(10000000 * (ms.length : Int)) <= cJ ms i j /\ cJ ms i j <= 10000000 * (ms.length : Int) := by
 induction ms with
 | nil => simp [cJ]
 | cons m ms ih =>
  have a := ih fun x hx => h x (List.mem_cons_of_mem _ hx)
  have b := nE (h m List.mem_cons_self) i j;simp only [cJ, List.length_cons];omega
theorem dw {S : Int} {ms : List Mt} (h : ∀ m ∈ ms, VM S m) (i : Nat) : -(27487790694400000 * (ms.length : Int)) <= cK ms i /\ cK ms i <= 27487790694400000 * (ms.length : Int) := by
 induction ms with
 | nil => simp [cK]
 | cons m ms ih =>
  have a := ih fun x hx => h x (List.mem_cons_of_mem _ hx)
  have b := nF (h m List.mem_cons_self) i;simp only [cK, List.length_cons];omega
/-- The table of the normal equations, the right side in column n. -/
def a9 (ms : List Mt) (n : Nat) : cR := fun i c => if c = n then ((cK ms i : Int) : Rat) else ((cJ ms i c : Int) : Rat)
theorem nG {S : Int} {ms : List Mt} {L : Nat} (h : ∀ m ∈ ms, VM S m) (_hl : ms.length <= L) (n : Nat) (i c : Nat) : ∃ z : Int, a9 ms n i c = (z : Rat) /\ z.natAbs <= 27487790694400000 * L := by
 unfold a9;split
 .
  refine ⟨_, rfl, ?_⟩;have := dw h i;omega
 .
  refine ⟨_, rfl, ?_⟩;have := dv h i c;omega
/-- Sums je matches. -/
def iA : List Mt -> (Mt -> Rat) -> Rat
 | [], _ => 0
 | m :: ms, f => f m + iA ms f
theorem iB (a b : List Mt) (f : Mt -> Rat) : iA (a ++ b) f = iA a f + iA b f := by
 induction a with
 | nil => simp only [List.nil_append, iA]; grind
 | cons m a ih => simp only [List.cons_append, iA, ih]; grind
def rV (n : Nat) (m : Mt) (u : Nat -> Rat) : Rat := sumN n fun j => (aG m j : Rat) * u j
/-- Residual, cP, slopes. -/
def dA (n : Nat) (m : Mt) (u : Nat -> Rat) : Rat := (m.d : Rat) + rV n m u
def cL (n : Nat) (u : Nat -> Rat) (m : Mt) : Rat := (m.w : Rat) * (dA n m u * dA n m u)
def cP (n : Nat) (ms : List Mt) (u : Nat -> Rat) : Rat := iA ms (cL n u)
/-- The solution of a problem. -/
def bp (n : Nat) (ms : List Mt) : Nat -> Rat := gH n (aQ n (a9 ms n) n)
theorem bj {S : Int} {ms : List Mt} (h : ∀ m ∈ ms, VM S m) (n : Nat) : ∀ i, i < n -> ∀ c, c <= n -> ∃ z : Int, a9 ms n i c = (z : Rat) /\ z.natAbs <= 27487790694400000 * ms.length := fun i _ c _ => nG h (Nat.le_refl _) n i c
end Go.Proofs.Ytikhlcgnlbinfaa
namespace Go.Proofs.Ytikhlcgnlbinfaa
open Lib (hid)
theorem Stage.pivtop {n : Nat} {T : cR} (j : Nat) : ∀ c i : Nat, (aQ n T j).piv[c]? = some (some i) -> i < (aQ n T j).top := by
 induction j with
 | zero => intro c i h; simp [aQ] at h
 | succ j ih =>
  intro c i h;simp only [aQ] at h |-;generalize aQ n T j = s at *;unfold bi at h |-
  cases hf : bD s.tab j (n - s.top) s.top with
  | none =>
   simp only [hf] at h |-;rw [List.getElem?_append] at h;split at h
   .
    exact ih c i h
   .
    have := List.mem_of_getElem? h;simp at this
  | some a =>
   simp only [hf] at h |-;rw [List.getElem?_append] at h;split at h
   .
    have := ih c i h; omega
   .
    have := List.mem_of_getElem? h;simp at this;omega
theorem lF (n : Nat) (T : cR) (j : Nat) : (aQ n T j).piv.length = j := by
 induction j with
 | zero => rfl
 | succ j ih =>
  simp only [aQ];unfold bi;split <;> simp [ih]
/-- Groups: one match spreads the lesser number. -/
def cY (l : Nat -> Int) (m : Mt) : Nat -> Int := fun i =>
 if (i : Int) = m.a \/ (i : Int) = m.b then (if 0 <= m.b then min (l m.a.toNat) (l m.b.toNat) else -1) else l i
def aO (l : Nat -> Int) : List Mt -> Nat -> Int
 | [] => l
 | m :: ms => aO (cY l m) ms
def ao (ms : List Mt) : Nat -> Nat -> Int
 | 0 => fun i => (i : Int)
 | r + 1 => aO (ao ms r) ms
theorem pR {l : Nat -> Int} {m : Mt} (hl : ∀ i, -1 <= l i) (_h0 : 0 <= m.a) (i : Nat) : cY l m i <= l i /\ -1 <= cY l m i := by
 have h1 := hl i;have h2 := hl m.a.toNat;have h3 := hl m.b.toNat;unfold cY;split
 .
  rename_i e
  split
  .
   rename_i hb
   rcases e with e | e
   .
    have : m.a.toNat = i := by omega
    rw [this] at h2 |-;omega
   .
    have : m.b.toNat = i := by omega
    rw [this] at h3 |-;omega
  .
   omega
 .
  omega
theorem ea {ms : List Mt} (h0 : ∀ m ∈ ms, 0 <= m.a) {l : Nat -> Int} (hl : ∀ i, -1 <= l i) (i : Nat) : aO l ms i <= l i /\ -1 <= aO l ms i := by
 induction ms generalizing l with
 | nil => exact ⟨by simp only [aO]; omega, hl i⟩
 | cons m ms ih =>
  have h1 := fun i => pR hl (h0 m List.mem_cons_self) i
  have h2 := ih (fun x hx => h0 x (List.mem_cons_of_mem _ hx)) (l := cY l m) (fun i => (h1 i).2);simp only [aO];have := h1 i;omega
theorem jA {l k : Nat -> Int} {m : Mt} {v : Int} (h : ∀ i, l i <= v ↔ k i <= v) (i : Nat) : cY l m i <= v ↔ cY k m i <= v := by
 have h1 := h i;have h2 := h m.a.toNat;have h3 := h m.b.toNat;unfold cY;split
 .
  split
  .
   omega
  .
   exact Iff.rfl
 .
  exact h1
theorem jC {ms : List Mt} {v : Int} {l k : Nat -> Int} (h : ∀ i, l i <= v ↔ k i <= v) (i : Nat) : aO l ms i <= v ↔ aO k ms i <= v := by
 induction ms generalizing l k with
 | nil => exact h i
 | cons m ms ih => exact ih fun i => jA h i
theorem cZ {ms : List Mt} (h0 : ∀ m ∈ ms, 0 <= m.a) (r : Nat) : ∀ i, -1 <= ao ms r i := by
 induction r with
 | zero => intro i; simp only [ao]; omega
 | succ r ih => exact fun i => (ea h0 ih i).2
theorem nH {S : Int} {ms : List Mt} (h0 : ∀ m ∈ ms, m.a < S /\ m.b < S) (r : Nat) (i : Nat) (_hi : S <= (i : Int)) : ao ms r i = i := by
 induction r with
 | zero => rfl
 | succ r ih =>
  have : ∀ (l : Nat -> Int), l i = i -> aO l ms i = i := by
   clear ih
   induction ms with
   | nil => intro l hl; exact hl
   | cons m ms ihm =>
    intro l hl;simp only [aO];refine ihm (fun x hx => h0 x (List.mem_cons_of_mem _ hx)) _ ?_;have := h0 m List.mem_cons_self;unfold cY;rw [if_neg (by omega)];exact hl
  exact this _ ih
def jD (S : Nat) (v : Int) (l : Nat -> Int) : Nat := (List.range S).countP fun i => decide (l i <= v)
theorem pS {v : Int} {l k : Nat -> Int} (hle : ∀ i, k i <= l i) (S : Nat) {i : Nat} (_hi : i < S) (h1 : ¬ l i <= v) (h2 : k i <= v) : jD S v l < jD S v k := by
 unfold jD
 induction S with
 | zero => omega
 | succ S ih =>
  rw [List.range_succ, List.countP_append, List.countP_append]
  have hmono : (List.range S).countP (fun i => decide (l i <= v)) <= (List.range S).countP (fun i => decide (k i <= v)) :=
   List.countP_mono_left fun x _ h => by simp at h |-; have := hle x; omega
  by_cases e : i = S
  .
   subst e;simp only [List.countP_cons, List.countP_nil, decide_eq_true_eq, h1, h2, if_true, if_false];simp;omega
  .
   have := ih (by omega);have hS := hle S;simp only [List.countP_cons, List.countP_nil, decide_eq_true_eq]
   by_cases a1 : l S <= v
   .
    rw [if_pos a1, if_pos (show k S <= v by omega)]; omega
   .
    rw [if_neg a1]; omega
/-- After S rounds nothing changes any more. -/
theorem fj {S : Nat} {ms : List Mt} (h0 : ∀ m ∈ ms, 0 <= m.a /\ m.a < S /\ m.b < S) : ao ms (S + 1) = ao ms S := by
 have ha : ∀ m ∈ ms, 0 <= m.a := fun m hm => (h0 m hm).1
 have hle : ∀ r i, ao ms (r + 1) i <= ao ms r i := fun r i => (ea ha (cZ ha r) i).1
 have key : ∀ v : Int, ∀ r, (∀ i, ao ms (r + 1) i <= v ↔ ao ms r i <= v) \/ r + 1 <= jD S v (ao ms (r + 1)) := by
  intro v r
  have step : ∀ r, (∀ i, ao ms (r + 1) i <= v ↔ ao ms r i <= v) \/ jD S v (ao ms r) < jD S v (ao ms (r + 1)) := fun r => by
   by_cases e : ∀ i, ao ms (r + 1) i <= v ↔ ao ms r i <= v
   .
    exact .inl e
   .
    right
    obtain ⟨i, hi⟩ := Classical.not_forall.1 e;have h1 := hle r i;have h2 : ¬ ao ms r i <= v /\ ao ms (r + 1) i <= v := by omega
    have hiS : i < S := by
     by_cases x : i < S
     .
      exact x
     .
      exfalso;have hout := fun r => nH (S := S) (fun m hm => (h0 m hm).2) r i (by omega)
      rw [hout, hout] at h2;omega
    exact pS (hle r) S hiS h2.1 h2.2
  induction r with
  | zero =>
   rcases step 0 with h | h
   .
    exact .inl h
   .
    right; omega
  | succ r ih =>
   rcases ih with h | h
   .
    left
    intro i;exact jC h i
   .
    rcases step (r + 1) with h2 | h2
    .
     exact .inl h2
    .
     right; omega
 funext i
 have hb : ∀ v : Int, ao ms (S + 1) i <= v ↔ ao ms S i <= v := fun v => by
  rcases key v S with h | h
  .
   exact h i
  .
   exfalso;have : jD S v (ao ms (S + 1)) <= (List.range S).length := List.countP_le_length;rw [List.length_range] at this;omega
 have h1 := (hb (ao ms S i)).2 (by omega);have h2 := (hb (ao ms (S + 1) i)).1 (by omega);omega
theorem jE {ms : List Mt} {r : Nat} (h : ao ms (r + 1) = ao ms r) (k : Nat) : ao ms (r + k) = ao ms r := by
 induction k with
 | zero => rfl
 | succ k ih =>
  rw [<- Nat.add_assoc];show aO (ao ms (r + k)) ms = _;rw [ih];exact h
end Go.Proofs.Ytikhlcgnlbinfaa
namespace Go.Proofs.Ytikhlcgnlbinfaa
open Lib (hid)
theorem pT (q : Rat) : q * (q.den : Rat) = (q.num : Rat) := by
 have h := Rat.num_divInt_den q;rw [Rat.divInt_eq_div] at h
 have h0 : ((q.den : Int) : Rat) ≠ 0 := fun e => q.den_nz (by
  have e2 : ((q.den : Int) : Rat) = ((0 : Int) : Rat) := e;have e3 : (q.den : Int) = 0 := Rat.intCast_inj.1 e2;omega)
 have h2 := Rat.mul_inv_cancel _ h0;rw [Rat.div_def] at h;show q * ((q.den : Int) : Rat) = _;grind
/-- Powers of 2^32. -/
def BB (k : Nat) : Nat := 4294967296 ^ k
theorem eA (a b : Nat) : BB (a + b) = BB a * BB b := Nat.pow_add _ _ _
theorem ri (k : Nat) : 0 < BB k := Nat.pow_pos (by decide)
theorem ki {a b : Nat} (h : a <= b) : BB a <= BB b := Nat.pow_le_pow_right (by decide) h
theorem jF : BB 1 = 4294967296 := Nat.pow_one _
theorem rj : BB 2 = 18446744073709551616 := by rw [eA 1 1, jF]
def OverD (P Z : Nat) (q : Rat) : Prop := ∃ z : Int, q * (P : Rat) = (z : Rat) /\ z.natAbs <= Z
theorem OverD.mono {P Z Y : Nat} {q : Rat} (h : OverD P Z q) (_hl : Z <= Y) : OverD P Y q := by
 obtain ⟨z, h1, h2⟩ := h;exact ⟨z, h1, by omega⟩
theorem OverD.add {P Z Y : Nat} {q r : Rat} (h : OverD P Z q) (k : OverD P Y r) : OverD P (Z + Y) (q + r) := by
 obtain ⟨z, h1, h2⟩ := h;obtain ⟨y, k1, k2⟩ := k;exact ⟨z + y, by rw [Rat.intCast_add, <- h1, <- k1]; grind, by omega⟩
theorem OverD.smul {P Z K : Nat} {q : Rat} (h : OverD P Z q) {c : Int} (hc : c.natAbs <= K) : OverD P (K * Z) ((c : Rat) * q) := by
 obtain ⟨z, h1, h2⟩ := h;refine ⟨c * z, by rw [Rat.intCast_mul, <- h1]; grind, ?_⟩;rw [Int.natAbs_mul];exact Nat.mul_le_mul hc h2
theorem OverD.mul {P Z Q Y : Nat} {q r : Rat} (h : OverD P Z q) (k : OverD Q Y r) : OverD (P * Q) (Z * Y) (q * r) := by
 obtain ⟨z, h1, h2⟩ := h;obtain ⟨y, k1, k2⟩ := k;refine ⟨z * y, by rw [Rat.intCast_mul, <- h1, <- k1, Rat.natCast_mul]; grind, ?_⟩;rw [Int.natAbs_mul];exact Nat.mul_le_mul h2 k2
theorem OverD.int (P : Nat) (c : Int) : OverD P (c.natAbs * P) (c : Rat) := ⟨c * P, by rw [Rat.intCast_mul]; rfl, by rw [Int.natAbs_mul]; exact Nat.le_refl _⟩
theorem OverD.sumN {P Z : Nat} {n : Nat} {f : Nat -> Rat} (h : ∀ j, j < n -> OverD P Z (f j)) : OverD P (n * Z) (sumN n f) := by
 induction n with
 | zero => exact ⟨0, by simp only [Go.Proofs.Ytikhlcgnlbinfaa.sumN]; grind, by simp⟩
 | succ n ih =>
  simp only [Go.Proofs.Ytikhlcgnlbinfaa.sumN];exact ((ih fun j hj => h j (by omega)).add (h n (by omega))).mono (by rw [Nat.succ_mul]; omega)
/-- In lowest terms it is no greater. -/
theorem OverD.low {P Z : Nat} {q : Rat} (hP : 0 < P) (h : OverD P Z q) : q.num.natAbs <= Z /\ q.den <= P := by
 obtain ⟨z, h1, h2⟩ := h
 have e : q.num * (P : Int) = z * (q.den : Int) := by
  have h3 : (q.num : Rat) = q * (q.den : Rat) := (pT q).symm
  have h4 : ((q.num * (P : Int) : Int) : Rat) = ((z * (q.den : Int) : Int) : Rat) := by
   rw [Rat.intCast_mul, Rat.intCast_mul, <- h1, h3];show q * (q.den : Rat) * (P : Rat) = q * (P : Rat) * (q.den : Rat);grind
  exact Rat.intCast_inj.1 h4
 have e2 : q.num.natAbs * P = z.natAbs * q.den := by
  have := congrArg Int.natAbs e
  rwa [Int.natAbs_mul, Int.natAbs_mul, Int.natAbs_natCast, Int.natAbs_natCast] at this
 have hd : q.den ∣ P := by
  have h5 : q.den ∣ q.num.natAbs * P := ⟨z.natAbs, by rw [e2, Nat.mul_comm]⟩;exact (Nat.Coprime.dvd_of_dvd_mul_left (Nat.Coprime.symm q.reduced) h5)
 have hle := Nat.le_of_dvd hP hd;refine ⟨?_, hle⟩
 have h6 : q.num.natAbs * P <= Z * P := by
  rw [e2];exact Nat.mul_le_mul h2 hle
 exact Nat.le_of_mul_le_mul_right h6 hP
/-- Shifts that are not too long. -/
def pU (n : Nat) (u : Nat -> Rat) : Prop := ∃ P : Nat, 0 < P /\ P <= BB 52 /\ ∀ j, j < n -> OverD P (BB 52) (u j)
theorem nI {S : Int} {m : Mt} (hm : VM S m) {n : Nat} (_hn : n <= 24) {u : Nat -> Rat} {P : Nat} (_h1 : 0 < P) (h2 : P <= BB 52) (h3 : ∀ j, j < n -> OverD P (BB 52) (u j)) {k : Nat} (_hk : k <= n) : OverD P (BB 54) (dA k m u) := by
 have a := OverD.int P m.d;have b := OverD.sumN (n := k) (f := fun j => (aG m j : Rat) * u j) fun j hj => (h3 j (by omega)).smul (K := 100) (by have := bE hm j; omega)
 refine (a.add b).mono ?_;have hd : m.d.natAbs <= 2 ^ 38 := by have := hm.d1; have := hm.d2; omega
 have e1 : m.d.natAbs * P <= 2 ^ 38 * BB 52 := Nat.mul_le_mul hd h2;have e2 : k * (100 * BB 52) <= 24 * (100 * BB 52) := Nat.mul_le_mul_right _ (by omega);have e3 : BB 54 = BB 52 * BB 2 := eA 52 2;rw [rj] at e3;omega
theorem nJ {S : Int} {m : Mt} (hm : VM S m) {n : Nat} (hn : n <= 24) {u : Nat -> Rat} {P : Nat} (h1 : 0 < P) (h2 : P <= BB 52) (h3 : ∀ j, j < n -> OverD P (BB 52) (u j)) : OverD (P * P) (BB 109) (cL n u m) := by
 have a := nI hm hn h1 h2 h3 (Nat.le_refl n);refine ((a.mul a).smul (K := 1000) (by have := hm.w1; have := hm.w2; omega)).mono ?_;have e1 : BB 108 = BB 54 * BB 54 := eA 54 54;have e2 : BB 109 = BB 108 * BB 1 := eA 108 1;rw [jF] at e2;omega
/-- What the solution is je: the product of the pivots. -/
theorem lG {S : Int} {ms : List Mt} (h : ∀ m ∈ ms, VM S m) (_hl : ms.length <= 64) {n : Nat} (_hn : n <= 12) : ∃ P : Nat, 0 < P /\ P <= BB 27 /\ ∀ j, OverD P (BB 27) (bp n ms j) := by
 obtain ⟨Mp, hs⟩ := Stage.run (bj h n) n (Nat.le_refl _);obtain ⟨⟨z, hz, hb⟩, ht⟩ := hs.ints
 have hB : ((n + 1) * (27487790694400000 * ms.length + 1)) ^ (n + 1) <= BB 27 := by
  have e1 : (n + 1) * (27487790694400000 * ms.length + 1) <= 13 * (27487790694400000 * 64 + 1) := Nat.mul_le_mul (by omega) (by omega);refine Nat.le_trans (Nat.pow_le_pow_left e1 _) (Nat.le_trans (Nat.pow_le_pow_right (by decide) (show n + 1 <= 13 by omega)) ?_);unfold BB;decide
 have hz0 : z ≠ 0 := fun e => hs.nz (by rw [hz, e]; rfl)
 refine ⟨z.natAbs, by omega, by omega, fun j => ?_⟩;unfold bp gH;split
 .
  rename_i i hp
  have hi := Stage.pivtop n j i hp;have hle := hs.le;obtain ⟨y, hy, hyb⟩ := ht i (by omega) n (Nat.le_refl _);rw [hz] at hy
  by_cases e : 0 <= z
  .
   refine ⟨y, ?_, by omega⟩
   have : ((z.natAbs : Nat) : Rat) = (z : Rat) := by
    have : ((z.natAbs : Int) : Rat) = (z : Rat) := by rw [Int.natAbs_of_nonneg e]
    exact this
   rw [this, <- hy];grind
  .
   refine ⟨-y, ?_, by omega⟩
   have : ((z.natAbs : Nat) : Rat) = -(z : Rat) := by
    have : ((z.natAbs : Int) : Rat) = -(z : Rat) := by
     rw [show (z.natAbs : Int) = -z by omega, Rat.intCast_neg]
    exact this
   rw [this, Rat.intCast_neg, <- hy];grind
 .
  exact ⟨0, by grind, by simp⟩
theorem lH {S : Int} {ms : List Mt} (h : ∀ m ∈ ms, VM S m) (hl : ms.length <= 64) {n : Nat} (hn : n <= 12) : pU n (bp n ms) := by
 obtain ⟨P, h1, h2, h3⟩ := lG h hl hn;have : BB 27 <= BB 52 := ki (by omega);exact ⟨P, h1, by omega, fun j _ => (h3 j).mono this⟩
/-- What the matches say of the shifts of their strips alone. -/
theorem jG (S : Nat) (f : Nat -> Rat) : sumN (3 * S) f = sumN S fun s => f (3 * s) + f (3 * s + 1) + f (3 * s + 2) := by
 induction S with
 | zero => rfl
 | succ S ih =>
  show sumN (3 * S + 3) f = _;simp only [sumN];rw [ih];grind
theorem gI {n k : Nat} (hk : k < n) (f : Nat -> Rat) : sumN n (fun i => if i = k then f i else 0) = f k := by
 rw [iz hk fun i _ hne => if_neg hne, if_pos rfl]
/-- The shift of the strip of a match, less that of the other one. -/
def oZ (m : Mt) (u : Nat -> Rat) (k : Nat) : Rat := if 0 <= m.b then u (3 * m.a.toNat + k) - u (3 * m.b.toNat + k) else u (3 * m.a.toNat + k)
theorem lI {S : Nat} {m : Mt} (h : VM S m) (u : Nat -> Rat) : rV (3 * S) m u = (m.x : Rat) * oZ m u 0 + (m.y : Rat) * oZ m u 1 + (m.z : Rat) * oZ m u 2 := by
 unfold rV;rw [jG];have ha0 := h.a0;have haS := h.aS;have hb0 := h.b0;have hbS := h.bS;have hne := h.ne
 have hc : ∀ s k, k < 3 -> aG m (3 * s + k) = if s = m.a.toNat then m.nrm k else if 0 <= m.b /\ s = m.b.toNat then -(m.nrm k) else 0 := fun s k hk => by
  unfold aG;rw [show (3 * s + k) / 3 = s by omega, show (3 * s + k) % 3 = k by omega]
  by_cases e1 : s = m.a.toNat
  .
   rw [if_pos (by omega), if_pos e1]
  .
   rw [if_neg (by omega), if_neg e1]
   by_cases e2 : 0 <= m.b /\ s = m.b.toNat
   .
    rw [if_pos (by omega), if_pos e2]
   .
    rw [if_neg (by omega), if_neg e2]
 have h0 : ∀ s, aG m (3 * s) = if s = m.a.toNat then m.x else if 0 <= m.b /\ s = m.b.toNat then -m.x else 0 := fun s => hc s 0 (by omega)
 have h1 : ∀ s, aG m (3 * s + 1) = if s = m.a.toNat then m.y else if 0 <= m.b /\ s = m.b.toNat then -m.y else 0 := fun s => hc s 1 (by omega)
 have h2 : ∀ s, aG m (3 * s + 2) = if s = m.a.toNat then m.z else if 0 <= m.b /\ s = m.b.toNat then -m.z else 0 := fun s => hc s 2 (by omega)
 obtain ⟨g, hg⟩ : ∃ g : Nat -> Rat, ∀ s, g s = (m.x : Rat) * u (3 * s) + (m.y : Rat) * u (3 * s + 1) + (m.z : Rat) * u (3 * s + 2) := ⟨_, fun _ => rfl⟩
 by_cases hb : 0 <= m.b
 .
  have e : ∀ s, s < S -> (aG m (3 * s) : Rat) * u (3 * s) + (aG m (3 * s + 1) : Rat) * u (3 * s + 1) + (aG m (3 * s + 2) : Rat) * u (3 * s + 2) = (if s = m.a.toNat then g s else 0) - (if s = m.b.toNat then g s else 0) := fun s _ => by
   rw [h0, h1, h2, hg]
   by_cases e1 : s = m.a.toNat
   .
    rw [if_pos e1, if_pos e1, if_pos e1, if_pos e1, if_neg (by omega)]; grind
   .
    rw [if_neg e1, if_neg e1, if_neg e1, if_neg e1]
    by_cases e2 : s = m.b.toNat
    .
     rw [if_pos ⟨hb, e2⟩, if_pos ⟨hb, e2⟩, if_pos ⟨hb, e2⟩, if_pos e2, Rat.intCast_neg, Rat.intCast_neg, Rat.intCast_neg]; grind
    .
     rw [if_neg (fun q => e2 q.2), if_neg (fun q => e2 q.2), if_neg (fun q => e2 q.2), if_neg e2, show ((0 : Int) : Rat) = 0 from rfl]; grind
  rw [bP e, iy, gI (by omega), gI (by omega), hg, hg];unfold oZ;simp only [if_pos hb, Nat.add_zero];grind
 .
  have e : ∀ s, s < S -> (aG m (3 * s) : Rat) * u (3 * s) + (aG m (3 * s + 1) : Rat) * u (3 * s + 1) + (aG m (3 * s + 2) : Rat) * u (3 * s + 2) = if s = m.a.toNat then g s else 0 := fun s _ => by
   rw [h0, h1, h2, hg]
   by_cases e1 : s = m.a.toNat
   .
    rw [if_pos e1, if_pos e1, if_pos e1, if_pos e1]
   .
    rw [if_neg e1, if_neg e1, if_neg e1, if_neg e1, if_neg (fun q => hb q.1), if_neg (fun q => hb q.1), if_neg (fun q => hb q.1), show ((0 : Int) : Rat) = 0 from rfl]; grind
  rw [bP e, gI (by omega), hg];unfold oZ;simp only [if_neg hb, Nat.add_zero]
end Go.Proofs.Ytikhlcgnlbinfaa
namespace Go.Proofs.Ytikhlcgnlbinfaa
open Lib (hid)
/-- The order of matches by what they are. -/
def eB : List (Int × Int) -> Bool
 | [] => false
 | (x, y) :: l => if x = y then eB l else decide (x < y)
def o3 (p q : Mt) : Bool := eB [(p.a, q.a), (p.b, q.b), (p.x, q.x), (p.y, q.y), (p.z, q.z), (p.d, q.d), (p.w, q.w)]
def cM (ms : List Mt) (i : Nat) : Mt := ms[i]?.getD ⟨0, 0, 0, 0, 0, 0, 0⟩
/-- One match is compared with the worst so far. -/
def dB (n : Nat) (u : Nat -> Rat) (ms : List Mt) (k : Nat) (s : Option Nat × Rat) : Option Nat × Rat :=
 match s.1 with
 | none => (some k, cL n u (cM ms k))
 | some a => if s.2 < cL n u (cM ms k) \/ cL n u (cM ms k) = s.2 /\ o3 (cM ms k) (cM ms a) = true then (some k, cL n u (cM ms k)) else s
def bM (n : Nat) (u : Nat -> Rat) (ms : List Mt) : Nat -> Option Nat × Rat
 | 0 => (none, 0)
 | k + 1 => dB n u ms k (bM n u ms k)
theorem ec (n : Nat) (u : Nat -> Rat) (ms : List Mt) (k : Nat) : ∃ a, (bM n u ms (k + 1)).1 = some a /\ a <= k /\ (bM n u ms (k + 1)).2 = cL n u (cM ms a) := by
 induction k with
 | zero => exact ⟨0, rfl, Nat.le_refl _, rfl⟩
 | succ k ih =>
  obtain ⟨a, h1, h2, h3⟩ := ih;show ∃ b, (dB n u ms (k + 1) (bM n u ms (k + 1))).1 = some b /\ b <= k + 1 /\ (dB n u ms (k + 1) (bM n u ms (k + 1))).2 = cL n u (cM ms b);unfold dB;rw [h1];simp only;split
  .
   exact ⟨k + 1, rfl, Nat.le_refl _, rfl⟩
  .
   exact ⟨a, h1, by omega, h3⟩
/-- The worst match of a problem: its place, and its weighted square. -/
def bh (n : Nat) (u : Nat -> Rat) (ms : List Mt) : Option Nat × Rat := bM n u ms ms.length
theorem iC (n : Nat) (u : Nat -> Rat) (ms : List Mt) : (bh n u ms).1 = none ↔ ms = [] := by
 cases ms with
 | nil => simp [bh, bM]
 | cons m l =>
  obtain ⟨a, h, _⟩ := ec n u (m :: l) l.length;unfold bh;simp only [List.length_cons, h];simp
theorem nK {ms : List Mt} {i : Nat} (h : i < ms.length) : cM ms i ∈ ms := by
 unfold cM;rw [List.getElem?_eq_getElem h];exact List.getElem_mem h
end Go.Proofs.Ytikhlcgnlbinfaa
namespace Go.Proofs.Ytikhlcgnlbinfaa
open Lib (hid)
/-- The whole numbers of the reference: the last pivot, and the table times the last pivot. -/
def zl (s : jr) : Int := s.last.num
def zt (s : jr) (i c : Nat) : Int := (s.last * s.tab i c).num
section
variable {n j B : Nat} {M : cR} {s : jr} {Mp : cR}
theorem eR (h : Stage n B s Mp) : ((zl s : Int) : Rat) = s.last := by
 obtain ⟨⟨z, hz, _⟩, _⟩ := h.ints;unfold zl;rw [hz, Rat.num_intCast]
theorem bW (h : Stage n B s Mp) {i c : Nat} (hi : i < n) (hc : c <= n) : ((zt s i c : Int) : Rat) = s.last * s.tab i c := by
 obtain ⟨z, hz, _⟩ := h.ints.2 i hi c hc;unfold zt;rw [hz, Rat.num_intCast]
theorem nL (h : Stage n B s Mp) : (zl s).natAbs <= ((n + 1) * (B + 1)) ^ (n + 1) := by
 obtain ⟨⟨z, hz, hb⟩, _⟩ := h.ints;unfold zl;rw [hz, Rat.num_intCast];exact hb
theorem nM (h : Stage n B s Mp) {i c : Nat} (hi : i < n) (hc : c <= n) : (zt s i c).natAbs <= ((n + 1) * (B + 1)) ^ (n + 1) := by
 obtain ⟨z, hz, hb⟩ := h.ints.2 i hi c hc;unfold zt;rw [hz, Rat.num_intCast];exact hb
theorem rW (h : Stage n B s Mp) : zl s ≠ 0 := fun e => h.nz (by rw [<- eR h, e]; rfl)
theorem gJ (h : Stage n B s Mp) {i c : Nat} (hi : i < n) (hc : c <= n) : zt s i c = 0 ↔ s.tab i c = 0 := by
 have h1 := bW h hi hc;constructor
 .
  intro e;rw [e] at h1
  rcases Rat.mul_eq_zero.1 h1.symm with h2 | h2
  .
   exact absurd h2 h.nz
  .
   exact h2
 .
  intro e;rw [e] at h1;have : ((zt s i c : Int) : Rat) = ((0 : Int) : Rat) := by rw [h1]; show s.last * 0 = 0; grind
  exact Rat.intCast_inj.1 this
theorem fk (hf : bD s.tab j (n - s.top) s.top = none) : bi n j s = ⟨s.tab, s.top, s.piv ++ [none], s.last, s.cols⟩ := by
 unfold bi; rw [hf]
theorem dM {a : Nat} (hf : bD s.tab j (n - s.top) s.top = some a) : bi n j s = ⟨aP (a7 (aK s.tab s.top a) s.top (s.tab a j)) s.top j, s.top + 1, s.piv ++ [some s.top], s.last * s.tab a j, s.cols ++ [j]⟩ := by
 unfold bi; rw [hf]
/-- One column: what the reference computes. -/
theorem pV {Mp' : cR} (h : Stage n B s Mp) (h' : Stage n B (bi n j s) Mp') {a : Nat} (hf : bD s.tab j (n - s.top) s.top = some a) (_hj : j < n) :
  zl (bi n j s) = zt s a j /\ (∀ c, c <= n -> zt (bi n j s) s.top c = zt s a c) /\
  ∀ i, i < n -> i ≠ s.top -> ∀ c, c <= n -> zt s (if i = a then s.top else i) c * zt s a j + -(zt s a c * zt s (if i = a then s.top else i) j) = zl s * zt (bi n j s) i c := by
 obtain ⟨h1, h2, h3, _⟩ := dL hf;have hle := h.le;have ha : a < n := by omega
 have ht : s.top < n := by omega
 have hinv := Rat.mul_inv_cancel _ h3;have e := dM hf;have htop : ∀ c, (bi n j s).tab s.top c = s.tab a c / s.tab a j := fun c => by rw [e]; simp [aP, a7, aK]
 have hoth : ∀ i, i ≠ s.top -> ∀ c, (bi n j s).tab i c = s.tab (if i = a then s.top else i) c - s.tab (if i = a then s.top else i) j * (s.tab a c / s.tab a j) := fun i hi c => by
  rw [e];simp only [aP, a7, aK, if_neg hi, if_pos]
  by_cases e : i = a
  .
   simp only [if_pos e]
  .
   simp only [if_neg e]
 have hlast : (bi n j s).last = s.last * s.tab a j := by rw [e]
 refine ⟨?_, fun c hc => ?_, fun i hi hne c hc => ?_⟩
 .
  apply Rat.intCast_inj.1;rw [eR h', bW h ha (by omega), hlast]
 .
  apply Rat.intCast_inj.1;rw [bW h' ht hc, bW h ha hc, hlast, htop, Rat.div_def];grind
 .
  have hfi : (if i = a then s.top else i) < n := by split <;> omega
  apply Rat.intCast_inj.1;rw [Rat.intCast_add, Rat.intCast_neg, Rat.intCast_mul, Rat.intCast_mul, Rat.intCast_mul, eR h, bW h' hi hc, bW h ha hc, bW h ha (by omega), bW h hfi hc, bW h hfi (by omega), hlast, hoth i hne, Rat.div_def];generalize s.tab (if i = a then s.top else i) c = x;generalize s.tab (if i = a then s.top else i) j = y;grind
/-- The column of the pivot of a row. -/
theorem Left.pivcol (h : Left n n M s) (hs : Stage n B s Mp) {i j : Nat} (hi : s.cols[i]? = some j) : s.piv[j]? = some (some i) := by
 have hjn : j < n := hs.col j (List.mem_of_getElem? hi);obtain ⟨o, ho⟩ : ∃ o, s.piv[j]? = some o := ⟨_, List.getElem?_eq_getElem (by rw [h.plen]; exact hjn)⟩;have hin : i < n := by have := (List.getElem?_eq_some_iff.1 hi).1; have := hs.len; have := hs.le; omega
 cases o with
 | none => exact absurd (List.mem_of_getElem? hi) (h.pnone _ ho)
 | some k =>
  have hk := h.psome _ k ho
  have hik : k = i := by
   have h1 := hs.one k _ hk i hin;have h2 := hs.one i _ hi i hin;rw [if_pos rfl] at h2;rw [h2] at h1
   by_cases e : i = k
   .
    exact e.symm
   .
    rw [if_neg e] at h1; exact absurd h1 (by decide)
  rw [ho, hik]
theorem lJ (h : Left n n M s) (hs : Stage n B s Mp) {i j : Nat} (hi : s.cols[i]? = some j) : gH n s j = s.tab i n := by
 unfold gH;rw [h.pivcol hs hi]
theorem lK (h : Left n n M s) {j : Nat} (hj : j < n) (hn : j ∉ s.cols) : gH n s j = 0 /\ s.piv[j]? = some none := by
 obtain ⟨o, ho⟩ : ∃ o, s.piv[j]? = some o := ⟨_, List.getElem?_eq_getElem (by rw [h.plen]; exact hj)⟩
 cases o with
 | none => exact ⟨by unfold gH; rw [ho], ho⟩
 | some k => exact absurd (List.mem_of_getElem? (h.psome _ k ho)) hn
/-- What the reference divides for a shift. -/
theorem lL (h : Stage n B s Mp) {i : Nat} (hi : i < n) : (((if zl s < 0 then -(zt s i n) else zt s i n) : Int) : Rat) / (((zl s).natAbs : Nat) : Rat) = s.tab i n := by
 have h1 := bW h hi (Nat.le_refl n);have h2 := eR h;have h3 := Rat.mul_inv_cancel _ h.nz
 by_cases e : zl s < 0
 .
  have : (((zl s).natAbs : Nat) : Rat) = -s.last := by
   have : (((zl s).natAbs : Int) : Rat) = -s.last := by rw [show ((zl s).natAbs : Int) = -(zl s) by omega, Rat.intCast_neg, h2]
   exact this
  have h4 : (-s.last) * (-s.last)⁻¹ = 1 := Rat.mul_inv_cancel _ (fun q => h.nz (by grind));rw [if_pos e, this, Rat.intCast_neg, h1, Rat.div_def];grind
 .
  have : (((zl s).natAbs : Nat) : Rat) = s.last := by
   have : (((zl s).natAbs : Int) : Rat) = s.last := by rw [show ((zl s).natAbs : Int) = zl s by omega, h2]
   exact this
  rw [if_neg e, this, h1, Rat.div_def];grind
end
end Go.Proofs.Ytikhlcgnlbinfaa
