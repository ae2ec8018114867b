/- Lemmas of the proof that follows (Places, part 4): walks of functions by contract, and plain lemmas. Conditions: none. -/
import Derived.Test.YtikhlcgnlbinfaaPlacesC
set_option maxRecDepth 100000
set_option maxHeartbeats 2000000
namespace Go.Proofs.Ytikhlcgnlbinfaa
open Lib (hid)
open Go.RowKit
/-- A rational number of the reference. -/
def QZ (w : World) (v : Value) (q : Rat) : Prop := ∃ b A l c B m k, v = .agg #[.bool b, .slice A l c, .slice B m k] /\ b = decide (q.num < 0) /\ Z16 w (.slice A l c) q.num.natAbs /\ Z16 w (.slice B m k) q.den
theorem QZ.ext {w w' : World} {v : Value} {q : Rat} (h : QZ w v q) (he : Ext w w') : QZ w' v q := by
 obtain ⟨b, A, l, c, B, m, k, h0, h1, h2, h3⟩ := h;exact ⟨b, A, l, c, B, m, k, h0, h1, h2.ext he, h3.ext he⟩
theorem QZ.open {w : World} {v : Value} {q : Rat} (h : QZ w v q) : ∃ b A l c B m k, v = .agg #[.bool b, .slice A l c, .slice B m k] := by
 obtain ⟨b, A, l, c, B, m, k, h0, _⟩ := h;exact ⟨b, A, l, c, B, m, k, h0⟩
section
variable {w : World} {b : Bool} {A B : Option Addr} {l c m k : Nat} {q : Rat}
theorem QZ.num (h : QZ w (.agg #[.bool b, .slice A l c, .slice B m k]) q) : IntZ w (.agg #[.bool b, .slice A l c]) q.num := by
 obtain ⟨b', A', l', c', B', m', k', e, h1, h2, h3⟩ := h;simp only [Value.agg.injEq, Array.mk.injEq, List.cons.injEq, Value.bool.injEq, Value.slice.injEq, and_true] at e;obtain ⟨rfl, ⟨rfl, rfl, rfl⟩, rfl, rfl, rfl⟩ := e;exact ⟨_, _, _, by rw [h1], h2⟩
theorem QZ.sgn (h : QZ w (.agg #[.bool b, .slice A l c, .slice B m k]) q) : b = decide (q.num < 0) := by
 obtain ⟨b', A', l', c', B', m', k', e, h1, h2, h3⟩ := h;simp only [Value.agg.injEq, Array.mk.injEq, List.cons.injEq, Value.bool.injEq, Value.slice.injEq, and_true] at e;rw [e.1, h1]
theorem QZ.nat (h : QZ w (.agg #[.bool b, .slice A l c, .slice B m k]) q) : Z16 w (.slice A l c) q.num.natAbs := by
 obtain ⟨b', A', l', c', B', m', k', e, h1, h2, h3⟩ := h;simp only [Value.agg.injEq, Array.mk.injEq, List.cons.injEq, Value.bool.injEq, Value.slice.injEq, and_true] at e;obtain ⟨rfl, ⟨rfl, rfl, rfl⟩, rfl, rfl, rfl⟩ := e;exact h2
theorem QZ.den (h : QZ w (.agg #[.bool b, .slice A l c, .slice B m k]) q) : Z16 w (.slice B m k) q.den := by
 obtain ⟨b', A', l', c', B', m', k', e, h1, h2, h3⟩ := h;simp only [Value.agg.injEq, Array.mk.injEq, List.cons.injEq, Value.bool.injEq, Value.slice.injEq, and_true] at e;obtain ⟨rfl, ⟨rfl, rfl, rfl⟩, rfl, rfl, rfl⟩ := e;exact h3
theorem QZ.past (h : QZ w (.agg #[.bool b, .slice A l c, .slice B m k]) q) {g : Nat} (hN : NoInts w g) : QZ (((w.setCell ⟨g, 0, none⟩ (.bool b)).setCell ⟨g, 1, none⟩ (.slice A l c)).setCell ⟨g, 2, none⟩ (.slice B m k)) (.agg #[.bool b, .slice A l c, .slice B m k]) q :=
 ⟨_, _, _, _, _, _, _, rfl, h.sgn, h.nat.box3 hN _ _ _ _ _ _ _, h.den.box3 hN _ _ _ _ _ _ _⟩
end
/-- What a call returns that makes a rational number. -/
def RetQz (w : World) (q : Rat) (e : Ending) (w' : World) : Prop := ∃ v, e = .returned v /\ QZ w' v q /\ Ext w w'
/-- How many limbs a rational number has. -/
def FitR (q : Rat) (L : Nat) : Prop := Fit 65536 q.num.natAbs L /\ Fit 65536 q.den L
theorem FitR.mono {q : Rat} {L M : Nat} (h : FitR q L) (k : L <= M) : FitR q M := ⟨h.1.mono (by omega) k, h.2.mono (by omega) k⟩
theorem ew {s : Bool} {n d L : Nat} (hd : 0 < d) (h1 : Fit 65536 n L) (h2 : Fit 65536 d L) : FitR (aW s n d) L := by
 refine ⟨?_, ?_⟩
 .
  rw [(bP s n d hd).2]; exact h1.le (Nat.div_le_self _ _)
 .
  rw [(cI s n d hd).2]; exact h2.le (Nat.div_le_self _ _)
theorem RetQz.of {w : World} {q r : Rat} (h : q = r) : ∀ e w', RetQz w q e w' -> RetQz w r e w' := by rintro e w' ⟨v, h1, h2, h3⟩; exact ⟨v, h1, h ▸ h2, h3⟩
theorem pG (q r : Rat) : aW (decide (q.num * (r.den : Int) + r.num * (q.den : Int) < 0)) (q.num * (r.den : Int) + r.num * (q.den : Int)).natAbs (q.den * r.den) = q + r := by
 unfold aW; rw [ed]; exact (Rat.add_def' q r).symm
theorem pH (q r : Rat) : aW (decide (q.num * r.num < 0)) (q.num * r.num).natAbs (q.den * r.den) = q * r := by
 unfold aW; rw [ed]; exact (Rat.mul_def' q r).symm
theorem fR {n m a b L : Nat} (h : Fit 65536 n a) (k : Fit 65536 m b) (hL : a + b <= L) : Fit 65536 (n * m) L := (h.mul (by omega) k).mono (by omega) hL
theorem aV {x y : Int} {a b L : Nat} (h : Fit 65536 x.natAbs a) (k : Fit 65536 y.natAbs b) (hL : a + b <= L) : Fit 65536 (x * y).natAbs L := by
 rw [Int.natAbs_mul]; exact fR h k hL
theorem lC {x y : Int} {a L : Nat} (h : Fit 65536 x.natAbs a) (k : Fit 65536 y.natAbs a) (hL : a + 1 <= L) : Fit 65536 (x + y).natAbs L :=
 ((h.add (by omega) k).le (Int.natAbs_add_le x y)).mono (by omega) hL
theorem gT {q : Rat} {L : Nat} (h : FitR q L) : FitR (-q) L := ⟨by rw [Rat.neg_num, Int.natAbs_neg]; exact h.1, by rw [Rat.neg_den]; exact h.2⟩
theorem lD (s1 : Bool) (A0 A1 : Option Addr) (l0 c0 l1 c1 n0 n1 L : Nat) (w : World) (hx : Z16 w (.slice A0 l0 c0) n0) (hy : Z16 w (.slice A1 l1 c1) n1) (fn : Fit 65536 n0 L) (fm : Fit 65536 n1 L) (hL : L <= 400000) (hd : 0 < n1)  :
  Calls Try.prog 112 #[.agg #[.bool false, .slice A0 l0 c0], .agg #[.bool s1, .slice A1 l1 c1]] w (RetQz w (aW false n0 n1)) := by
 have HXX := hid hx;have HYY := hid hy;have HFN := hid fn;have HFM := hid fm;have HD := hid hd;have hg : 0 < Nat.gcd n0 n1 := Nat.gcd_pos_of_pos_right n0 hd
 have hneg : Hid (decide ((aW false n0 n1).num < 0) = false) := by
  show _ = _;rw [(bP false n0 n1 hd).1];rfl
 have HAB := hid (bP false n0 n1 hd).2;have HDN := hid (cI false n0 n1 hd).2;obtain ⟨g, hge⟩ : ∃ g, Nat.gcd n0 n1 = g := ⟨_, rfl⟩;obtain ⟨q, hq⟩ : ∃ q, n0 / Nat.gcd n0 n1 = q := ⟨_, rfl⟩;obtain ⟨r, hr⟩ : ∃ r, n1 / Nat.gcd n0 n1 = r := ⟨_, rfl⟩;rw [hq] at HAB;rw [hr] at HDN;rw [hge] at hq hr hg;have HGE := hid hge;have HQ := hid hq;have HR := hid hr;have HGP := hid hg;clear hx hy fn fm hd hge hq hr hg;obtain ⟨hXe, KA, KB, KR⟩ := xB3 w 63 #[.bool false, .slice A0 l0 c0] 63 #[.bool s1, .slice A1 l1 c1] 65 #[.bool false, .slice none 0 0, .slice none 0 0];go_enter Try.func112, Try.ntmps112
 go_wp2_with fail
 generalize (((w.alloc _).alloc _).alloc _) = w1 at hXe KA KB KR |-;have HX := hid hXe;clear hXe;replace HXX := hid (HXX.out.ext HX.out);replace HYY := hid (HYY.out.ext HX.out);have cA0 : w1.cell? ⟨w.heap.size, 0, none⟩ = some (.bool false) := KA.out.cell 0;have cA1 : w1.cell? ⟨w.heap.size, 1, none⟩ = some (.slice A0 l0 c0) := KA.out.cell 1;have cB0 : w1.cell? ⟨(w.heap.size + 1), 0, none⟩ = some (.bool s1) := KB.out.cell 0;have cB1 : w1.cell? ⟨(w.heap.size + 1), 1, none⟩ = some (.slice A1 l1 c1) := KB.out.cell 1
 go_wp2_with fail
 clear cA0 cA1 cB0 cB1;refine (dF _ _ n0 n1 L _ HXX.out HYY.out HFN.out HFM.out hL).mono ?_;rw [HGE.out];rintro e w2 ⟨v6, rfl, h6, hX⟩;replace hX : Ext w1 w2 := by with_reducible exact hX
 replace HX := xT HX hX;replace HXX := hid (HXX.out.ext hX);replace HYY := hid (HYY.out.ext hX);replace KA := xE KA hX;replace KB := xE KB hX;replace KR := xE KR hX;clear hX;have HG := hid h6;clear h6;have cA0 : w2.cell? ⟨w.heap.size, 0, none⟩ = some (.bool false) := KA.out.cell 0;have cA1 : w2.cell? ⟨w.heap.size, 1, none⟩ = some (.slice A0 l0 c0) := KA.out.cell 1;have cB0 : w2.cell? ⟨(w.heap.size + 1), 0, none⟩ = some (.bool s1) := KB.out.cell 0;have cB1 : w2.cell? ⟨(w.heap.size + 1), 1, none⟩ = some (.slice A1 l1 c1) := KB.out.cell 1
 go_wp2_with fail
 clear cA0 cA1 cB0 cB1;refine (aM _ _ n0 g L _ HXX.out HG.out HFN.out hL HGP.out).mono ?_;rw [HQ.out];rintro e w3 ⟨v7, v7', rfl, h7, h7', hX⟩;replace hX : Ext w2 w3 := by with_reducible exact hX
 replace HX := xT HX hX;replace HXX := hid (HXX.out.ext hX);replace HYY := hid (HYY.out.ext hX);replace HG := hid (HG.out.ext hX);replace KA := xE KA hX;replace KB := xE KB hX;replace KR := xE KR hX;clear hX;obtain ⟨A7, l7, c7, rfl, hv7, hz7⟩ := Z16.open h7;have HV := hid hv7;clear h7 h7' hv7 hz7;have cA0 : w3.cell? ⟨w.heap.size, 0, none⟩ = some (.bool false) := KA.out.cell 0;have cA1 : w3.cell? ⟨w.heap.size, 1, none⟩ = some (.slice A0 l0 c0) := KA.out.cell 1;have cB0 : w3.cell? ⟨(w.heap.size + 1), 0, none⟩ = some (.bool s1) := KB.out.cell 0;have cB1 : w3.cell? ⟨(w.heap.size + 1), 1, none⟩ = some (.slice A1 l1 c1) := KB.out.cell 1
 go_wp2_with fail
 clear cA0 cA1 cB0 cB1;refine (aM _ _ n1 g L _ HYY.out HG.out HFM.out hL HGP.out).mono ?_;rw [HR.out];rintro e w4 ⟨v8, v8', rfl, h8, h8', hX⟩;replace hX : Ext w3 w4 := by with_reducible exact hX
 replace HX := xT HX hX;replace HXX := hid (HXX.out.ext hX);replace HYY := hid (HYY.out.ext hX);replace HG := hid (HG.out.ext hX);replace HV := hid (HV.out.ext hX);replace KA := xE KA hX;replace KB := xE KB hX;replace KR := xE KR hX;clear hX;obtain ⟨A8, l8, c8, rfl, hv8, _⟩ := Z16.open h8;have HW := hid hv8;clear h8 h8' hv8;have HNI := hid (NoInts.three KR.out);have cA0 : w4.cell? ⟨w.heap.size, 0, none⟩ = some (.bool false) := KA.out.cell 0;have cA1 : w4.cell? ⟨w.heap.size, 1, none⟩ = some (.slice A0 l0 c0) := KA.out.cell 1;have cR0 : w4.cell? ⟨(w.heap.size + 2), 0, none⟩ = some (.bool false) := KR.out.cell 0;have fR0 : w4.frozen? ⟨(w.heap.size + 2), 0, none⟩ = false := KR.out.free 0;have cR1 : w4.cell? ⟨(w.heap.size + 2), 1, none⟩ = some (.slice none 0 0) := KR.out.cell 1;have fR1 : w4.frozen? ⟨(w.heap.size + 2), 1, none⟩ = false := KR.out.free 1;have cR2 : w4.cell? ⟨(w.heap.size + 2), 2, none⟩ = some (.slice none 0 0) := KR.out.cell 2;have fR2 : w4.frozen? ⟨(w.heap.size + 2), 2, none⟩ = false := KR.out.free 2;go_wp2;refine bodyPost_ret (v := .agg #[.bool false, .slice A7 l7 c7, .slice A8 l8 c8]) (by simp [results, Try.results112, go_sem, *]) rfl ?_;exact ⟨_, rfl, ⟨_, _, _, _, _, _, _, rfl, hneg.out.symm, by rw [HAB.out]; exact HV.out.box3 HNI.out _ _ _ _ _ _ _, by rw [HDN.out]; exact HW.out.box3 HNI.out _ _ _ _ _ _ _⟩, Ext.boxed HX.out (by omega) _ _ _⟩
theorem lE (s1 : Bool) (A0 A1 : Option Addr) (l0 c0 l1 c1 n0 n1 L : Nat) (w : World) (hx : Z16 w (.slice A0 l0 c0) n0) (hy : Z16 w (.slice A1 l1 c1) n1) (fn : Fit 65536 n0 L) (fm : Fit 65536 n1 L) (hL : L <= 400000) (hd : 0 < n1) (hn : 0 < n0) :
  Calls Try.prog 112 #[.agg #[.bool true, .slice A0 l0 c0], .agg #[.bool s1, .slice A1 l1 c1]] w (RetQz w (aW true n0 n1)) := by
 have HXX := hid hx;have HYY := hid hy;have HFN := hid fn;have HFM := hid fm;have HD := hid hd;have hg : 0 < Nat.gcd n0 n1 := Nat.gcd_pos_of_pos_right n0 hd
 have hneg : Hid (decide ((aW true n0 n1).num < 0) = true) := by
  show _ = _;rw [(bP true n0 n1 hd).1];exact oR _ (by omega)
 have HAB := hid (bP true n0 n1 hd).2;have HDN := hid (cI true n0 n1 hd).2;have hq0 : 0 < n0 / Nat.gcd n0 n1 := Nat.div_pos (Nat.le_of_dvd hn (Nat.gcd_dvd_left _ _)) hg;obtain ⟨g, hge⟩ : ∃ g, Nat.gcd n0 n1 = g := ⟨_, rfl⟩;obtain ⟨q, hq⟩ : ∃ q, n0 / Nat.gcd n0 n1 = q := ⟨_, rfl⟩;obtain ⟨r, hr⟩ : ∃ r, n1 / Nat.gcd n0 n1 = r := ⟨_, rfl⟩;rw [hq] at HAB;rw [hq] at hq0;rw [hr] at HDN;rw [hge] at hq hr hg;have HGE := hid hge;have HQ := hid hq;have HR := hid hr;have HGP := hid hg;clear hx hy fn fm hd hge hq hr hg hn;obtain ⟨hXe, KA, KB, KR⟩ := xB3 w 63 #[.bool true, .slice A0 l0 c0] 63 #[.bool s1, .slice A1 l1 c1] 65 #[.bool false, .slice none 0 0, .slice none 0 0];go_enter Try.func112, Try.ntmps112
 go_wp2_with fail
 generalize (((w.alloc _).alloc _).alloc _) = w1 at hXe KA KB KR |-;have HX := hid hXe;clear hXe;replace HXX := hid (HXX.out.ext HX.out);replace HYY := hid (HYY.out.ext HX.out);have cA0 : w1.cell? ⟨w.heap.size, 0, none⟩ = some (.bool true) := KA.out.cell 0;have cA1 : w1.cell? ⟨w.heap.size, 1, none⟩ = some (.slice A0 l0 c0) := KA.out.cell 1;have cB0 : w1.cell? ⟨(w.heap.size + 1), 0, none⟩ = some (.bool s1) := KB.out.cell 0;have cB1 : w1.cell? ⟨(w.heap.size + 1), 1, none⟩ = some (.slice A1 l1 c1) := KB.out.cell 1
 go_wp2_with fail
 clear cA0 cA1 cB0 cB1;refine (dF _ _ n0 n1 L _ HXX.out HYY.out HFN.out HFM.out hL).mono ?_;rw [HGE.out];rintro e w2 ⟨v6, rfl, h6, hX⟩;replace hX : Ext w1 w2 := by with_reducible exact hX
 replace HX := xT HX hX;replace HXX := hid (HXX.out.ext hX);replace HYY := hid (HYY.out.ext hX);replace KA := xE KA hX;replace KB := xE KB hX;replace KR := xE KR hX;clear hX;have HG := hid h6;clear h6;have cA0 : w2.cell? ⟨w.heap.size, 0, none⟩ = some (.bool true) := KA.out.cell 0;have cA1 : w2.cell? ⟨w.heap.size, 1, none⟩ = some (.slice A0 l0 c0) := KA.out.cell 1;have cB0 : w2.cell? ⟨(w.heap.size + 1), 0, none⟩ = some (.bool s1) := KB.out.cell 0;have cB1 : w2.cell? ⟨(w.heap.size + 1), 1, none⟩ = some (.slice A1 l1 c1) := KB.out.cell 1
 go_wp2_with fail
 clear cA0 cA1 cB0 cB1;refine (aM _ _ n0 g L _ HXX.out HG.out HFN.out hL HGP.out).mono ?_;rw [HQ.out];rintro e w3 ⟨v7, v7', rfl, h7, h7', hX⟩;replace hX : Ext w2 w3 := by with_reducible exact hX
 replace HX := xT HX hX;replace HXX := hid (HXX.out.ext hX);replace HYY := hid (HYY.out.ext hX);replace HG := hid (HG.out.ext hX);replace KA := xE KA hX;replace KB := xE KB hX;replace KR := xE KR hX;clear hX;obtain ⟨A7, l7, c7, rfl, hv7, hz7⟩ := Z16.open h7;have HV := hid hv7;clear h7 h7' hv7
 have hl7 : (0 : Int) < (l7 : Int) := by
  rcases Nat.eq_zero_or_pos l7 with h | h
  .
   have := hz7.1 h; omega
  .
   omega
 have hl7' : 0 < l7 := by omega
 clear hz7;have cA0 : w3.cell? ⟨w.heap.size, 0, none⟩ = some (.bool true) := KA.out.cell 0;have cA1 : w3.cell? ⟨w.heap.size, 1, none⟩ = some (.slice A0 l0 c0) := KA.out.cell 1;have cB0 : w3.cell? ⟨(w.heap.size + 1), 0, none⟩ = some (.bool s1) := KB.out.cell 0;have cB1 : w3.cell? ⟨(w.heap.size + 1), 1, none⟩ = some (.slice A1 l1 c1) := KB.out.cell 1
 go_wp2_with fail
 clear cA0 cA1 cB0 cB1;refine (aM _ _ n1 g L _ HYY.out HG.out HFM.out hL HGP.out).mono ?_;rw [HR.out];rintro e w4 ⟨v8, v8', rfl, h8, h8', hX⟩;replace hX : Ext w3 w4 := by with_reducible exact hX
 replace HX := xT HX hX;replace HXX := hid (HXX.out.ext hX);replace HYY := hid (HYY.out.ext hX);replace HG := hid (HG.out.ext hX);replace HV := hid (HV.out.ext hX);replace KA := xE KA hX;replace KB := xE KB hX;replace KR := xE KR hX;clear hX;obtain ⟨A8, l8, c8, rfl, hv8, _⟩ := Z16.open h8;have HW := hid hv8;clear h8 h8' hv8;have HNI := hid (NoInts.three KR.out);have cA0 : w4.cell? ⟨w.heap.size, 0, none⟩ = some (.bool true) := KA.out.cell 0;have cA1 : w4.cell? ⟨w.heap.size, 1, none⟩ = some (.slice A0 l0 c0) := KA.out.cell 1;have cR0 : w4.cell? ⟨(w.heap.size + 2), 0, none⟩ = some (.bool false) := KR.out.cell 0;have fR0 : w4.frozen? ⟨(w.heap.size + 2), 0, none⟩ = false := KR.out.free 0;have cR1 : w4.cell? ⟨(w.heap.size + 2), 1, none⟩ = some (.slice none 0 0) := KR.out.cell 1;have fR1 : w4.frozen? ⟨(w.heap.size + 2), 1, none⟩ = false := KR.out.free 1;have cR2 : w4.cell? ⟨(w.heap.size + 2), 2, none⟩ = some (.slice none 0 0) := KR.out.cell 2;have fR2 : w4.frozen? ⟨(w.heap.size + 2), 2, none⟩ = false := KR.out.free 2;go_wp2;refine bodyPost_ret (v := .agg #[.bool true, .slice A7 l7 c7, .slice A8 l8 c8]) (by simp [results, Try.results112, go_sem, *]) rfl ?_;exact ⟨_, rfl, ⟨_, _, _, _, _, _, _, rfl, hneg.out.symm, by rw [HAB.out]; exact HV.out.box3 HNI.out _ _ _ _ _ _ _, by rw [HDN.out]; exact HW.out.box3 HNI.out _ _ _ _ _ _ _⟩, Ext.boxed HX.out (by omega) _ _ _⟩
theorem jY (s1 : Bool) (A0 A1 : Option Addr) (l0 c0 l1 c1 n0 n1 L : Nat) (w : World) (hx : Z16 w (.slice A0 l0 c0) n0) (hy : Z16 w (.slice A1 l1 c1) n1) (fn : Fit 65536 n0 L) (fm : Fit 65536 n1 L) (hL : L <= 400000) (hd : 0 < n1) (hn : n0 = 0) :
  Calls Try.prog 112 #[.agg #[.bool true, .slice A0 l0 c0], .agg #[.bool s1, .slice A1 l1 c1]] w (RetQz w (aW true n0 n1)) := by
 have HXX := hid hx;have HYY := hid hy;have HFN := hid fn;have HFM := hid fm;have HD := hid hd;have hg : 0 < Nat.gcd n0 n1 := Nat.gcd_pos_of_pos_right n0 hd
 have hneg : Hid (decide ((aW true n0 n1).num < 0) = false) := by
  show _ = _;rw [(bP true n0 n1 hd).1];rw [hn]; rfl
 have HAB := hid (bP true n0 n1 hd).2;have HDN := hid (cI true n0 n1 hd).2;have hq0 : n0 / Nat.gcd n0 n1 = 0 := by rw [hn]; simp
 obtain ⟨g, hge⟩ : ∃ g, Nat.gcd n0 n1 = g := ⟨_, rfl⟩;obtain ⟨q, hq⟩ : ∃ q, n0 / Nat.gcd n0 n1 = q := ⟨_, rfl⟩;obtain ⟨r, hr⟩ : ∃ r, n1 / Nat.gcd n0 n1 = r := ⟨_, rfl⟩;rw [hq] at HAB;rw [hq] at hq0;rw [hr] at HDN;rw [hge] at hq hr hg;have HGE := hid hge;have HQ := hid hq;have HR := hid hr;have HGP := hid hg;clear hx hy fn fm hd hge hq hr hg hn;obtain ⟨hXe, KA, KB, KR⟩ := xB3 w 63 #[.bool true, .slice A0 l0 c0] 63 #[.bool s1, .slice A1 l1 c1] 65 #[.bool false, .slice none 0 0, .slice none 0 0];go_enter Try.func112, Try.ntmps112
 go_wp2_with fail
 generalize (((w.alloc _).alloc _).alloc _) = w1 at hXe KA KB KR |-;have HX := hid hXe;clear hXe;replace HXX := hid (HXX.out.ext HX.out);replace HYY := hid (HYY.out.ext HX.out);have cA0 : w1.cell? ⟨w.heap.size, 0, none⟩ = some (.bool true) := KA.out.cell 0;have cA1 : w1.cell? ⟨w.heap.size, 1, none⟩ = some (.slice A0 l0 c0) := KA.out.cell 1;have cB0 : w1.cell? ⟨(w.heap.size + 1), 0, none⟩ = some (.bool s1) := KB.out.cell 0;have cB1 : w1.cell? ⟨(w.heap.size + 1), 1, none⟩ = some (.slice A1 l1 c1) := KB.out.cell 1
 go_wp2_with fail
 clear cA0 cA1 cB0 cB1;refine (dF _ _ n0 n1 L _ HXX.out HYY.out HFN.out HFM.out hL).mono ?_;rw [HGE.out];rintro e w2 ⟨v6, rfl, h6, hX⟩;replace hX : Ext w1 w2 := by with_reducible exact hX
 replace HX := xT HX hX;replace HXX := hid (HXX.out.ext hX);replace HYY := hid (HYY.out.ext hX);replace KA := xE KA hX;replace KB := xE KB hX;replace KR := xE KR hX;clear hX;have HG := hid h6;clear h6;have cA0 : w2.cell? ⟨w.heap.size, 0, none⟩ = some (.bool true) := KA.out.cell 0;have cA1 : w2.cell? ⟨w.heap.size, 1, none⟩ = some (.slice A0 l0 c0) := KA.out.cell 1;have cB0 : w2.cell? ⟨(w.heap.size + 1), 0, none⟩ = some (.bool s1) := KB.out.cell 0;have cB1 : w2.cell? ⟨(w.heap.size + 1), 1, none⟩ = some (.slice A1 l1 c1) := KB.out.cell 1
 go_wp2_with fail
 clear cA0 cA1 cB0 cB1;refine (aM _ _ n0 g L _ HXX.out HG.out HFN.out hL HGP.out).mono ?_;rw [HQ.out];rintro e w3 ⟨v7, v7', rfl, h7, h7', hX⟩;replace hX : Ext w2 w3 := by with_reducible exact hX
 replace HX := xT HX hX;replace HXX := hid (HXX.out.ext hX);replace HYY := hid (HYY.out.ext hX);replace HG := hid (HG.out.ext hX);replace KA := xE KA hX;replace KB := xE KB hX;replace KR := xE KR hX;clear hX;obtain ⟨A7, l7, c7, rfl, hv7, hz7⟩ := Z16.open h7;have HV := hid hv7;clear h7 h7' hv7;obtain rfl : l7 = 0 := hz7.2 hq0;clear hz7;have cA0 : w3.cell? ⟨w.heap.size, 0, none⟩ = some (.bool true) := KA.out.cell 0;have cA1 : w3.cell? ⟨w.heap.size, 1, none⟩ = some (.slice A0 l0 c0) := KA.out.cell 1;have cB0 : w3.cell? ⟨(w.heap.size + 1), 0, none⟩ = some (.bool s1) := KB.out.cell 0;have cB1 : w3.cell? ⟨(w.heap.size + 1), 1, none⟩ = some (.slice A1 l1 c1) := KB.out.cell 1
 go_wp2_with fail
 clear cA0 cA1 cB0 cB1;refine (aM _ _ n1 g L _ HYY.out HG.out HFM.out hL HGP.out).mono ?_;rw [HR.out];rintro e w4 ⟨v8, v8', rfl, h8, h8', hX⟩;replace hX : Ext w3 w4 := by with_reducible exact hX
 replace HX := xT HX hX;replace HXX := hid (HXX.out.ext hX);replace HYY := hid (HYY.out.ext hX);replace HG := hid (HG.out.ext hX);replace HV := hid (HV.out.ext hX);replace KA := xE KA hX;replace KB := xE KB hX;replace KR := xE KR hX;clear hX;obtain ⟨A8, l8, c8, rfl, hv8, _⟩ := Z16.open h8;have HW := hid hv8;clear h8 h8' hv8;have HNI := hid (NoInts.three KR.out);have cA0 : w4.cell? ⟨w.heap.size, 0, none⟩ = some (.bool true) := KA.out.cell 0;have cA1 : w4.cell? ⟨w.heap.size, 1, none⟩ = some (.slice A0 l0 c0) := KA.out.cell 1;have cR0 : w4.cell? ⟨(w.heap.size + 2), 0, none⟩ = some (.bool false) := KR.out.cell 0;have fR0 : w4.frozen? ⟨(w.heap.size + 2), 0, none⟩ = false := KR.out.free 0;have cR1 : w4.cell? ⟨(w.heap.size + 2), 1, none⟩ = some (.slice none 0 0) := KR.out.cell 1;have fR1 : w4.frozen? ⟨(w.heap.size + 2), 1, none⟩ = false := KR.out.free 1;have cR2 : w4.cell? ⟨(w.heap.size + 2), 2, none⟩ = some (.slice none 0 0) := KR.out.cell 2;have fR2 : w4.frozen? ⟨(w.heap.size + 2), 2, none⟩ = false := KR.out.free 2;go_wp2;refine bodyPost_ret (v := .agg #[.bool false, .slice A7 0 c7, .slice A8 l8 c8]) (by simp [results, Try.results112, go_sem, *]) rfl ?_;exact ⟨_, rfl, ⟨_, _, _, _, _, _, _, rfl, hneg.out.symm, by rw [HAB.out]; exact HV.out.box3 HNI.out _ _ _ _ _ _ _, by rw [HDN.out]; exact HW.out.box3 HNI.out _ _ _ _ _ _ _⟩, Ext.boxed HX.out (by omega) _ _ _⟩
theorem dp (s s1 : Bool) (A0 A1 : Option Addr) (l0 c0 l1 c1 n d L : Nat) (w : World) (hx : Z16 w (.slice A0 l0 c0) n) (hy : Z16 w (.slice A1 l1 c1) d) (fn : Fit 65536 n L) (fm : Fit 65536 d L) (hL : L <= 400000) (hd : 0 < d) :
  Calls Try.prog 112 #[.agg #[.bool s, .slice A0 l0 c0], .agg #[.bool s1, .slice A1 l1 c1]] w (RetQz w (aW s n d)) := by
 cases s
 .
  exact lD s1 A0 A1 l0 c0 l1 c1 n d L w hx hy fn fm hL hd
 .
  rcases Nat.eq_zero_or_pos n with h | h
  .
   exact jY s1 A0 A1 l0 c0 l1 c1 n d L w hx hy fn fm hL hd h
  .
   exact lE s1 A0 A1 l0 c0 l1 c1 n d L w hx hy fn fm hL hd h
theorem oI (va : Value) (x : Int) (s1 : Bool) (A1 : Option Addr) (l1 c1 d L : Nat) (w : World) (ha : IntZ w va x) (hy : Z16 w (.slice A1 l1 c1) d) (fn : Fit 65536 x.natAbs L) (fm : Fit 65536 d L) (hL : L <= 400000) (hd : 0 < d) :
  Calls Try.prog 112 #[va, .agg #[.bool s1, .slice A1 l1 c1]] w (RetQz w (aW (decide (x < 0)) x.natAbs d)) := by
 obtain ⟨A0, l0, c0, rfl, hx⟩ := ha;exact dp _ s1 A0 A1 l0 c0 l1 c1 _ d L w hx hy fn fm hL hd
theorem jZ (n : Int) (w : World) (h0 : -9223372036854775808 <= n) (h1 : n <= 9223372036854775807) :
  Calls Try.prog 31 #[.int .i64 n] w (RetQz w (n : Rat)) := by
 obtain ⟨hXe, KR⟩ := xB1 w 65 #[.bool false, .slice none 0 0, .slice none 0 0];go_enter Try.func31, Try.ntmps31
 go_wp2_with fail
 generalize (w.alloc _) = w1 at hXe KR |-;have HX := hid hXe;clear hXe;refine (fw n _ h0 h1).mono ?_;rintro e w2 ⟨v7, rfl, h7, hX⟩;replace hX : Ext w1 w2 := by with_reducible exact hX
 replace HX := xT HX hX;replace KR := xE KR hX;clear hX;obtain ⟨A7, l7, c7, rfl, hv7⟩ := h7;have HV := hid hv7;clear hv7;have HNI := hid (NoInts.three KR.out);have HS : Hid (decide (n < 0) = decide ((n : Rat).num < 0)) := by rw [Rat.num_intCast]; rfl
 have rl := KR.out.lt;have cR0 : w2.cell? ⟨w.heap.size, 0, none⟩ = some (.bool false) := KR.out.cell 0;have fR0 : w2.frozen? ⟨w.heap.size, 0, none⟩ = false := KR.out.free 0;have cR1 : w2.cell? ⟨w.heap.size, 1, none⟩ = some (.slice none 0 0) := KR.out.cell 1;have fR1 : w2.frozen? ⟨w.heap.size, 1, none⟩ = false := KR.out.free 1;have cR2 : w2.cell? ⟨w.heap.size, 2, none⟩ = some (.slice none 0 0) := KR.out.cell 2;have fR2 : w2.frozen? ⟨w.heap.size, 2, none⟩ = false := KR.out.free 2;go_wp2;refine bodyPost_ret (v := .agg #[.bool (decide (n < 0)), .slice A7 l7 c7, .slice (some ⟨w2.heap.size, 0, none⟩) 1 1]) (by simp [results, Try.results31, go_sem, *]) rfl ?_;exact ⟨_, rfl, ⟨_, _, _, _, _, _, _, rfl, HS.out, by rw [Rat.num_intCast]; exact (HV.out.box3 HNI.out _ _ _ _ _ _ _).ext ((Ext.refl _).alloc _), by rw [Rat.den_intCast]; exact (Blk.at_ (by simp)).one16⟩, (Ext.boxed HX.out (by omega) _ _ _).alloc _⟩
theorem Ints.keepsNI {k : IntKind} {w w' : World} {A : Option Addr} {n : Nat} {xs : List Int} {L : List Nat} (h : Ints k w A n xs) (hk : Keeps L w w') (hN : ∀ g ∈ L, NoInts w g) : Ints k w' A n xs := by
 refine ⟨h.1, h.2.1, fun hn => ?_⟩;obtain ⟨b, off, hA, hc⟩ := h.2.2 hn;refine ⟨b, off, hA, fun j u hj => ?_⟩;have hcell := hc j u hj
 have hne : b ∉ L := by
  intro e;have hni := (hN b e).cell (off + j) u hcell;rw [List.getElem?_map] at hj
  rcases hxj : xs[j]? with _ | y
  .
   rw [hxj] at hj; cases hj
  .
   rw [hxj] at hj;simp only [Option.map_some, Option.some.injEq] at hj;exact hni k y hj.symm
 rw [<- hcell];exact World.cell?_of_block (w := w) (hk.block b (World.block_lt_of_cell? w _ hcell) hne)
theorem NatV.keepsNI {k : IntKind} {B : Int} {w w' : World} {x : Value} {n : Nat} {L : List Nat} (h : NatV k B w x n) (hk : Keeps L w w') (hN : ∀ g ∈ L, NoInts w g) : NatV k B w' x n := by
 obtain ⟨A, l, c, xs, h1, h2, h3⟩ := h;exact ⟨A, l, c, xs, h1, h2.keepsNI hk hN, h3⟩
section
variable {w w' : World} {x : Value} {q : Rat} {L : List Nat}
theorem QZ.keepsNI (h : QZ w x q) (hk : Keeps L w w') (hN : ∀ g ∈ L, NoInts w g) : QZ w' x q := by
 obtain ⟨b, A, l, c, B, m, k, h0, h1, h2, h3⟩ := h;exact ⟨b, A, l, c, B, m, k, h0, h1, NatV.keepsNI h2 hk hN, NatV.keepsNI h3 hk hN⟩
end
end Go.Proofs.Ytikhlcgnlbinfaa
namespace Go.Proofs.Ytikhlcgnlbinfaa
open Lib (hid)
abbrev qg := Nat -> Rat
end Go.Proofs.Ytikhlcgnlbinfaa
namespace Go.Proofs.Ytikhlcgnlbinfaa
open Lib (hid)
abbrev qh := Nat -> qg
structure qk where
 tab : qh
 top : Nat
 piv : List (Option Nat)
 last : Rat
 cols : List Nat
end Go.Proofs.Ytikhlcgnlbinfaa
namespace Go.Proofs.Ytikhlcgnlbinfaa
open Lib (hid)
/-- The whole numbers of the reference: the last pivot, and the table times the last pivot. -/
def zl (s : qk) : Int := s.last.num
section
variable {n j B : Nat} {M : qh} {s : qk} {Mp : qh}
end
end Go.Proofs.Ytikhlcgnlbinfaa
namespace Go.Proofs.Ytikhlcgnlbinfaa
open Lib (hid)
open Go.RowKit
theorem Z16.pos {w : World} {A : Option Addr} {l c n : Nat} (h : Z16 w (.slice A l c) n) : IntZ w (.agg #[.bool false, .slice A l c]) (n : Int) := ⟨A, l, c, by rw [decide_eq_false (by omega)], h⟩
theorem IntZ.open {w : World} {v : Value} {z : Int} (h : IntZ w v z) : ∃ A l c, v = .agg #[.bool (decide (z < 0)), .slice A l c] /\ Z16 w (.slice A l c) z.natAbs := by
 obtain ⟨A, l, c, rfl, h1⟩ := h;exact ⟨A, l, c, rfl, h1⟩
theorem QZ.mk' {w : World} {b : Bool} {A B : Option Addr} {l c m k : Nat} {q : Rat} (hb : b = decide (q.num < 0)) (h : Z16 w (.slice A l c) q.num.natAbs) (h' : Z16 w (.slice B m k) q.den) : QZ w (.agg #[.bool b, .slice A l c, .slice B m k]) q :=
 ⟨_, _, _, _, _, _, _, rfl, hb, h, h'⟩
theorem oV (b : Bool) (A B : Option Addr) (l c m k : Nat) (w : World) : (Instr.field 65 (.agg #[.bool b, .slice A l c, .slice B m k]) 0).run Try.prog w = .ok (.agg #[.bool b, .slice A l c]) w := by kernel_rfl
theorem nd (q : Rat) : oU q.num = aU q := by
 unfold oU aU
 by_cases h : q.num < 0
 .
  rw [if_pos h, if_pos h]
 .
  rw [if_neg h, if_neg h]
  by_cases h0 : q.num = 0
  .
   rw [if_pos h0, if_neg (by omega)]
  .
   rw [if_neg h0, if_pos (by omega)]
theorem j0 (ga : Nat) (s0 : Bool) (A0 B0 : Option Addr) (l0 c0 m0 k0 : Nat) (q : Rat) (w : World) (x0 : w.cell? ⟨ga, 0, none⟩ = some (.bool s0)) (x1 : w.cell? ⟨ga, 1, none⟩ = some (.slice A0 l0 c0)) (x2 : w.cell? ⟨ga, 2, none⟩ = some (.slice B0 m0 k0)) (hx : QZ w (.agg #[.bool s0, .slice A0 l0 c0, .slice B0 m0 k0]) q) (a : Act) (Q : Exit -> Act -> World -> Prop) (hsize : 8 <= a.tmps.size)
  (s1 : a.tmps[1]? = some (.pointer (some ⟨ga, 0, none⟩)))
  (hend : ∀ (xv0 xv1 xv2 xv3 xv4 : Value) (W : World), (xv0 = .pointer (some ⟨ga, 0, none⟩)) -> (xv1 = .agg #[.bool s0, .slice A0 l0 c0]) -> (IntZ W xv2 (-q.num)) -> (xv3 = .pointer (some ⟨ga, 2, none⟩)) -> (xv4 = .slice B0 m0 k0) -> Ext w W -> wpList Try.prog (ae Try.f174 1).toArray Q ((ae Try.f174 1).drop 5) (((((a.put (some 3) xv0).put (some 4) xv1).put (some 5) xv2).put (some 6) xv3).put (some 7) xv4) W) :
  (Code.region 1 (ae Try.f174 1).toArray true).wp Try.prog Q a w := by
 refine bX 5 [some 3, some 4, some 5, some 6, some 7] [[], [0], [1], [], [3]] [dh (.pointer (some ⟨ga, 0, none⟩)), dh (.agg #[.bool s0, .slice A0 l0 c0]), fun v W => IntZ W v (-q.num), dh (.pointer (some ⟨ga, 2, none⟩)), dh (.slice B0 m0 k0)] (by kernel_rfl) (by kernel_rfl) rfl (by decide) hsize ⟨bp, bp, by intro v W W' h hX; exact IntZ.ext h hX, bp, bp, trivial⟩ ?_ ?_
 .
  clear hend;simp only [ae, Try.f174, ab, Option.bind_some, Nat.reduceBEq, if_true, if_false, Bool.false_eq_true, Option.getD_some];simp only [List.take_succ_cons, List.take_zero];refine ⟨?_, ?_, ?_, ?_, ?_, trivial⟩
  .
   rintro us W hJ _ b hb hbz K hK0 hK Qz;have e1 := (hbz 1 (by simp)).trans s1;clear hb hbz;go_simp;exact hK0 _ rfl
  .
   rintro us W hJ d0 b hb hbz K hK0 hK Qz;have e3 := aP (hb 0 3 rfl) d0;clear hb hbz d0;have z0 := Ext.cell hJ x0;have z1 := Ext.cell hJ x1;go_simp;exact hK0 _ rfl
  .
   rintro us W hJ d1 b hb hbz K hK0 hK Qz;have e4 := aP (hb 1 4 rfl) d1;clear hb hbz d1;go_simp;refine (ev _ _ _ (IntZ.ext (QZ.num hx) hJ)).mono ?_;rintro e w' ⟨v, rfl, hv, hX⟩;exact hK _ _ hv hX
  .
   rintro us W hJ _ b hb hbz K hK0 hK Qz;have e1 := (hbz 1 (by simp)).trans s1;clear hb hbz;go_simp;exact hK0 _ rfl
  .
   rintro us W hJ d3 b hb hbz K hK0 hK Qz;have e6 := aP (hb 3 6 rfl) d3;clear hb hbz d3;have q := Ext.cell hJ x2;go_simp;exact hK0 _ rfl
 .
  rintro us W ⟨v0, v1, v2, v3, v4, _⟩ hJ;exact hend _ _ _ _ _ W v0 v1 v2 v3 v4 hJ
theorem lF (s0 : Bool) (A0 B0 : Option Addr) (l0 c0 m0 k0 : Nat) (q : Rat) (w : World) (hx : QZ w (.agg #[.bool s0, .slice A0 l0 c0, .slice B0 m0 k0]) q) :
  Calls Try.prog 174 #[.agg #[.bool s0, .slice A0 l0 c0, .slice B0 m0 k0]] w (RetQz w (-q)) := by
 have HXX := hid hx;clear hx;obtain ⟨hXe, KA, KR⟩ := xB2 w 65 #[.bool s0, .slice A0 l0 c0, .slice B0 m0 k0] 65 #[.bool false, .slice none 0 0, .slice none 0 0];go_enter Try.func174, Try.ntmps174
 go_wp2_with fail
 generalize ((w.alloc _).alloc _) = w1 at hXe KA KR |-;have HX := hid hXe;clear hXe;replace HXX := hid (HXX.out.ext HX.out)
 go_upto_region 1 with (fail)
 refine j0 w.heap.size s0 A0 B0 l0 c0 m0 k0 q w1 (KA.out.cell 0) (KA.out.cell 1) (KA.out.cell 2) HXX.out _ _ (by simp) rfl ?_;rintro xv0 xv1 xv2 xv3 xv4 w2 rfl rfl hv rfl rfl hXW;simp only [ae, Try.f174, ab, Option.bind_some, Nat.reduceBEq, if_true, if_false, Bool.false_eq_true, Option.getD_some, List.drop_succ_cons, List.drop_zero];simp only [Act.put, List.setIfInBounds_toArray, List.set_cons_succ, List.set_cons_zero];replace HX := xT HX hXW;replace HXX := hid (HXX.out.ext hXW);replace KA := xE KA hXW;replace KR := xE KR hXW;clear hXW;obtain ⟨A9, l9, c9, rfl, hv9⟩ := hv.open;obtain ⟨b9, hb9⟩ : ∃ b, decide (-q.num < 0) = b := ⟨_, rfl⟩;rw [hb9];have HD := hid HXX.out.den;have HV : Hid (QZ w2 (.agg #[.bool b9, .slice A9 l9 c9, .slice B0 m0 k0]) (-q)) := QZ.mk' (by rw [Rat.neg_num, hb9]) (by rw [Rat.neg_num]; exact hv9) (by rw [Rat.neg_den]; exact HD.out);clear hv hv9 hb9;replace HV := hid (QZ.past HV.out (NoInts.three KR.out));have cR0 : w2.cell? ⟨(w.heap.size + 1), 0, none⟩ = some (.bool false) := KR.out.cell 0;have fR0 : w2.frozen? ⟨(w.heap.size + 1), 0, none⟩ = false := KR.out.free 0;have cR1 : w2.cell? ⟨(w.heap.size + 1), 1, none⟩ = some (.slice none 0 0) := KR.out.cell 1;have fR1 : w2.frozen? ⟨(w.heap.size + 1), 1, none⟩ = false := KR.out.free 1;have cR2 : w2.cell? ⟨(w.heap.size + 1), 2, none⟩ = some (.slice none 0 0) := KR.out.cell 2;have fR2 : w2.frozen? ⟨(w.heap.size + 1), 2, none⟩ = false := KR.out.free 2;go_wp2;refine bodyPost_ret (v := .agg #[.bool b9, .slice A9 l9 c9, .slice B0 m0 k0]) (by simp [results, Try.results174, go_sem, *]) rfl ?_;exact ⟨_, rfl, HV.out, Ext.boxed HX.out (by omega) _ _ _⟩
theorem ex (va : Value) (q : Rat) (w : World) (hx : QZ w va q) : Calls Try.prog 174 #[va] w (RetQz w (-q)) := by
 obtain ⟨s0, A0, l0, c0, B0, m0, k0, rfl⟩ := hx.open;exact lF s0 A0 B0 l0 c0 m0 k0 q w hx
theorem nf (ga gb L M : Nat) (s0 : Bool) (A0 B0 : Option Addr) (l0 c0 m0 k0 : Nat) (s1 : Bool) (A1 B1 : Option Addr) (l1 c1 m1 k1 : Nat) (q r : Rat) (w : World) (x0 : w.cell? ⟨ga, 0, none⟩ = some (.bool s0)) (x1 : w.cell? ⟨ga, 1, none⟩ = some (.slice A0 l0 c0)) (x2 : w.cell? ⟨ga, 2, none⟩ = some (.slice B0 m0 k0)) (y0 : w.cell? ⟨gb, 0, none⟩ = some (.bool s1)) (y1 : w.cell? ⟨gb, 1, none⟩ = some (.slice A1 l1 c1)) (y2 : w.cell? ⟨gb, 2, none⟩ = some (.slice B1 m1 k1)) (hx : QZ w (.agg #[.bool s0, .slice A0 l0 c0, .slice B0 m0 k0]) q) (hy : QZ w (.agg #[.bool s1, .slice A1 l1 c1, .slice B1 m1 k1]) r) (fq : FitR q L) (fr : FitR r M) (_hLM : L + M + 1 <= 400000) (a : Act) (Q : Exit -> Act -> World -> Prop) (hsize : 25 <= a.tmps.size)
  (s2 : a.tmps[2]? = some (.pointer (some ⟨ga, 0, none⟩)))
  (s3 : a.tmps[3]? = some (.pointer (some ⟨gb, 0, none⟩)))
  (hend : ∀ (xv0 xv1 xv2 xv3 xv4 xv5 xv6 xv7 xv8 xv9 xv10 xv11 xv12 xv13 xv14 xv15 xv16 xv17 xv18 xv19 : Value) (W : World), (xv0 = .pointer (some ⟨ga, 0, none⟩)) -> (xv1 = .agg #[.bool s0, .slice A0 l0 c0]) -> (xv2 = .pointer (some ⟨gb, 2, none⟩)) -> (xv3 = .slice B1 m1 k1) -> (xv4 = .agg #[.bool false, .slice B1 m1 k1]) -> (IntZ W xv5 (q.num * (r.den : Int))) -> (xv6 = .pointer (some ⟨gb, 0, none⟩)) -> (xv7 = .agg #[.bool s1, .slice A1 l1 c1]) -> (xv8 = .pointer (some ⟨ga, 2, none⟩)) -> (xv9 = .slice B0 m0 k0) -> (xv10 = .agg #[.bool false, .slice B0 m0 k0]) -> (IntZ W xv11 (r.num * (q.den : Int))) -> (IntZ W xv12 (q.num * (r.den : Int) + r.num * (q.den : Int))) -> (xv13 = .pointer (some ⟨ga, 2, none⟩)) -> (xv14 = .slice B0 m0 k0) -> (xv15 = .pointer (some ⟨gb, 2, none⟩)) -> (xv16 = .slice B1 m1 k1) -> (Z16 W xv17 (q.den * r.den)) -> (∃ A l c, xv18 = .agg #[.bool false, .slice A l c] /\ Z16 W (.slice A l c) (q.den * r.den)) -> (QZ W xv19 (q + r)) -> Ext w W -> wpList Try.prog (ae Try.f32 1).toArray Q ((ae Try.f32 1).drop 20) ((((((((((((((((((((a.put (some 5) xv0).put (some 6) xv1).put (some 7) xv2).put (some 8) xv3).put (some 9) xv4).put (some 10) xv5).put (some 11) xv6).put (some 12) xv7).put (some 13) xv8).put (some 14) xv9).put (some 15) xv10).put (some 16) xv11).put (some 17) xv12).put (some 18) xv13).put (some 19) xv14).put (some 20) xv15).put (some 21) xv16).put (some 22) xv17).put (some 23) xv18).put (some 24) xv19) W) :
  (Code.region 1 (ae Try.f32 1).toArray true).wp Try.prog Q a w := by
 refine bX 20 [some 5, some 6, some 7, some 8, some 9, some 10, some 11, some 12, some 13, some 14, some 15, some 16, some 17, some 18, some 19, some 20, some 21, some 22, some 23, some 24] [[], [0], [], [2], [3], [1, 4], [], [6], [], [8], [9], [7, 10], [5, 11], [], [13], [], [15], [14, 16], [17], [12, 18]] [dh (.pointer (some ⟨ga, 0, none⟩)), dh (.agg #[.bool s0, .slice A0 l0 c0]), dh (.pointer (some ⟨gb, 2, none⟩)), dh (.slice B1 m1 k1), dh (.agg #[.bool false, .slice B1 m1 k1]), fun v W => IntZ W v (q.num * (r.den : Int)), dh (.pointer (some ⟨gb, 0, none⟩)), dh (.agg #[.bool s1, .slice A1 l1 c1]), dh (.pointer (some ⟨ga, 2, none⟩)), dh (.slice B0 m0 k0), dh (.agg #[.bool false, .slice B0 m0 k0]), fun v W => IntZ W v (r.num * (q.den : Int)), fun v W => IntZ W v (q.num * (r.den : Int) + r.num * (q.den : Int)), dh (.pointer (some ⟨ga, 2, none⟩)), dh (.slice B0 m0 k0), dh (.pointer (some ⟨gb, 2, none⟩)), dh (.slice B1 m1 k1), fun v W => Z16 W v (q.den * r.den), fun v W => ∃ A l c, v = .agg #[.bool false, .slice A l c] /\ Z16 W (.slice A l c) (q.den * r.den), fun v W => QZ W v (q + r)] (by kernel_rfl) (by kernel_rfl) rfl (by decide) hsize ⟨bp, bp, bp, bp, bp, by intro v W W' h hX; exact IntZ.ext h hX, bp, bp, bp, bp, bp, by intro v W W' h hX; exact IntZ.ext h hX, by intro v W W' h hX; exact IntZ.ext h hX, bp, bp, bp, bp, by intro v W W' h hX; exact Z16.ext h hX, by intro v W W' h hX; obtain ⟨A, l, c, h1, h2⟩ := h; exact ⟨A, l, c, h1, Z16.ext h2 hX⟩, by intro v W W' h hX; exact QZ.ext h hX, trivial⟩ ?_ ?_
 .
  clear hend;simp only [ae, Try.f32, ab, Option.bind_some, Nat.reduceBEq, if_true, if_false, Bool.false_eq_true, Option.getD_some];simp only [List.take_succ_cons, List.take_zero];refine ⟨?_, ?_, ?_, ?_, ?_, ?_, ?_, ?_, ?_, ?_, ?_, ?_, ?_, ?_, ?_, ?_, ?_, ?_, ?_, ?_, trivial⟩
  .
   rintro us W hJ _ b hb hbz K hK0 hK Qz;have e2 := (hbz 2 (by simp)).trans s2;clear hb hbz;go_simp;exact hK0 _ rfl
  .
   rintro us W hJ d0 b hb hbz K hK0 hK Qz;have e5 := aP (hb 0 5 rfl) d0;clear hb hbz d0;have z0 := Ext.cell hJ x0;have z1 := Ext.cell hJ x1;go_simp;exact hK0 _ rfl
  .
   rintro us W hJ _ b hb hbz K hK0 hK Qz;have e3 := (hbz 3 (by simp)).trans s3;clear hb hbz;go_simp;exact hK0 _ rfl
  .
   rintro us W hJ d2 b hb hbz K hK0 hK Qz;have e7 := aP (hb 2 7 rfl) d2;clear hb hbz d2;have q := Ext.cell hJ y2;go_simp;exact hK0 _ rfl
  .
   rintro us W hJ d3 b hb hbz K hK0 hK Qz;have e8 := aP (hb 3 8 rfl) d3;clear hb hbz d3;go_simp;exact hK0 _ rfl
  .
   rintro us W hJ ⟨d1, d4⟩ b hb hbz K hK0 hK Qz;have e6 := aP (hb 1 6 rfl) d1;have e9 := aP (hb 4 9 rfl) d4;clear hb hbz d1 d4;go_simp;refine (cJ _ _ q.num (r.den : Int) L M _ (IntZ.ext (QZ.num hx) hJ) (IntZ.ext (QZ.den hy).pos hJ) fq.1 (by simpa using fr.2) (by omega) (by omega)).mono ?_;rintro e w' ⟨v, rfl, hv, hX⟩;exact hK _ _ hv hX
  .
   rintro us W hJ _ b hb hbz K hK0 hK Qz;have e3 := (hbz 3 (by simp)).trans s3;clear hb hbz;go_simp;exact hK0 _ rfl
  .
   rintro us W hJ d6 b hb hbz K hK0 hK Qz;have e11 := aP (hb 6 11 rfl) d6;clear hb hbz d6;have z0 := Ext.cell hJ y0;have z1 := Ext.cell hJ y1;go_simp;exact hK0 _ rfl
  .
   rintro us W hJ _ b hb hbz K hK0 hK Qz;have e2 := (hbz 2 (by simp)).trans s2;clear hb hbz;go_simp;exact hK0 _ rfl
  .
   rintro us W hJ d8 b hb hbz K hK0 hK Qz;have e13 := aP (hb 8 13 rfl) d8;clear hb hbz d8;have q := Ext.cell hJ x2;go_simp;exact hK0 _ rfl
  .
   rintro us W hJ d9 b hb hbz K hK0 hK Qz;have e14 := aP (hb 9 14 rfl) d9;clear hb hbz d9;go_simp;exact hK0 _ rfl
  .
   rintro us W hJ ⟨d7, d10⟩ b hb hbz K hK0 hK Qz;have e12 := aP (hb 7 12 rfl) d7;have e15 := aP (hb 10 15 rfl) d10;clear hb hbz d7 d10;go_simp;refine (cJ _ _ r.num (q.den : Int) M L _ (IntZ.ext (QZ.num hy) hJ) (IntZ.ext (QZ.den hx).pos hJ) fr.1 (by simpa using fq.2) (by omega) (by omega)).mono ?_;rintro e w' ⟨v, rfl, hv, hX⟩;exact hK _ _ hv hX
  .
   rintro us W hJ ⟨d5, d11⟩ b hb hbz K hK0 hK Qz;have e10 := hb 5 10 rfl;have e16 := hb 11 16 rfl;clear hb hbz;go_simp;refine (ln _ _ _ _ (L + M) _ d5 d11 (aV fq.1 (by simpa using fr.2) (Nat.le_refl _)) (aV fr.1 (by simpa using fq.2) (by omega)) (by omega)).mono ?_;rintro e w' ⟨v, rfl, hv, hX⟩;exact hK _ _ hv hX
  .
   rintro us W hJ _ b hb hbz K hK0 hK Qz;have e2 := (hbz 2 (by simp)).trans s2;clear hb hbz;go_simp;exact hK0 _ rfl
  .
   rintro us W hJ d13 b hb hbz K hK0 hK Qz;have e18 := aP (hb 13 18 rfl) d13;clear hb hbz d13;have q := Ext.cell hJ x2;go_simp;exact hK0 _ rfl
  .
   rintro us W hJ _ b hb hbz K hK0 hK Qz;have e3 := (hbz 3 (by simp)).trans s3;clear hb hbz;go_simp;exact hK0 _ rfl
  .
   rintro us W hJ d15 b hb hbz K hK0 hK Qz;have e20 := aP (hb 15 20 rfl) d15;clear hb hbz d15;have q := Ext.cell hJ y2;go_simp;exact hK0 _ rfl
  .
   rintro us W hJ ⟨d14, d16⟩ b hb hbz K hK0 hK Qz;have e19 := aP (hb 14 19 rfl) d14;have e21 := aP (hb 16 21 rfl) d16;clear hb hbz d14 d16;go_simp;refine (aR _ _ q.den r.den L M _ (Z16.ext (QZ.den hx) hJ) (Z16.ext (QZ.den hy) hJ) fq.2 fr.2 (by omega) (by omega)).mono ?_;rintro e w' ⟨v, rfl, hv, hX⟩;exact hK _ _ hv hX
  .
   rintro us W hJ d17 b hb hbz K hK0 hK Qz;have e22 := hb 17 22 rfl;clear hb hbz;obtain ⟨A9, l9, c9, hv9, g9, _⟩ := Z16.open d17;rw [hv9] at e22;go_simp;exact hK0 _ ⟨_, _, _, rfl, g9⟩
  .
   rintro us W hJ ⟨d12, d18⟩ b hb hbz K hK0 hK Qz;have e17 := hb 12 17 rfl;have e23 := hb 18 23 rfl;clear hb hbz;obtain ⟨A9, l9, c9, hv9, g9⟩ := d18;rw [hv9] at e23;go_simp;refine ((oI _ _ false A9 l9 c9 _ (L + M + 1) _ d12 g9 (lC (aV fq.1 (by simpa using fr.2) (Nat.le_refl _)) (aV fr.1 (by simpa using fq.2) (by omega)) (by omega)) (fR fq.2 fr.2 (by omega)) (by omega) (Nat.mul_pos q.den_pos r.den_pos)).mono (RetQz.of (pG q r))).mono ?_;rintro e w' ⟨v, rfl, hv, hX⟩;exact hK _ _ hv hX
 .
  rintro us W ⟨v0, v1, v2, v3, v4, v5, v6, v7, v8, v9, v10, v11, v12, v13, v14, v15, v16, v17, v18, v19, _⟩ hJ;exact hend _ _ _ _ _ _ _ _ _ _ _ _ _ _ _ _ _ _ _ _ W v0 v1 v2 v3 v4 v5 v6 v7 v8 v9 v10 v11 v12 v13 v14 v15 v16 v17 v18 v19 hJ
theorem oW (s0 : Bool) (A0 B0 : Option Addr) (l0 c0 m0 k0 : Nat) (s1 : Bool) (A1 B1 : Option Addr) (l1 c1 m1 k1 : Nat) (q r : Rat) (L M : Nat) (w : World) (hx : QZ w (.agg #[.bool s0, .slice A0 l0 c0, .slice B0 m0 k0]) q) (hy : QZ w (.agg #[.bool s1, .slice A1 l1 c1, .slice B1 m1 k1]) r) (fq : FitR q L) (fr : FitR r M) (hLM : L + M + 1 <= 400000) :
  Calls Try.prog 32 #[.agg #[.bool s0, .slice A0 l0 c0, .slice B0 m0 k0], .agg #[.bool s1, .slice A1 l1 c1, .slice B1 m1 k1]] w (RetQz w (q + r)) := by
 have HXX := hid hx;have HYY := hid hy;have HFQ := hid fq;have HFR := hid fr;clear hx hy fq fr;obtain ⟨hXe, KA, KB, KR⟩ := xB3 w 65 #[.bool s0, .slice A0 l0 c0, .slice B0 m0 k0] 65 #[.bool s1, .slice A1 l1 c1, .slice B1 m1 k1] 65 #[.bool false, .slice none 0 0, .slice none 0 0];go_enter Try.func32, Try.ntmps32
 go_wp2_with fail
 generalize (((w.alloc _).alloc _).alloc _) = w1 at hXe KA KB KR |-;have HX := hid hXe;clear hXe;replace HXX := hid (HXX.out.ext HX.out);replace HYY := hid (HYY.out.ext HX.out)
 go_upto_region 1 with (fail)
 refine nf w.heap.size (w.heap.size + 1) L M s0 A0 B0 l0 c0 m0 k0 s1 A1 B1 l1 c1 m1 k1 q r w1 (KA.out.cell 0) (KA.out.cell 1) (KA.out.cell 2) (KB.out.cell 0) (KB.out.cell 1) (KB.out.cell 2) HXX.out HYY.out HFQ.out HFR.out hLM _ _ (by simp) rfl rfl ?_;rintro xv0 xv1 xv2 xv3 xv4 xv5 xv6 xv7 xv8 xv9 xv10 xv11 xv12 xv13 xv14 xv15 xv16 xv17 xv18 xv19 w2 rfl rfl rfl rfl rfl _ rfl rfl rfl rfl rfl _ _ rfl rfl rfl rfl _ _ hv hXW;simp only [ae, Try.f32, ab, Option.bind_some, Nat.reduceBEq, if_true, if_false, Bool.false_eq_true, Option.getD_some, List.drop_succ_cons, List.drop_zero];simp only [Act.put, List.setIfInBounds_toArray, List.set_cons_succ, List.set_cons_zero];replace HX := xT HX hXW;replace HXX := hid (HXX.out.ext hXW);replace HYY := hid (HYY.out.ext hXW);replace KA := xE KA hXW;replace KB := xE KB hXW;replace KR := xE KR hXW;clear hXW;obtain ⟨s9, A9, l9, c9, B9, m9, k9, rfl⟩ := QZ.open hv;have HV := hid (QZ.past hv (NoInts.three KR.out));clear hv;have cR0 : w2.cell? ⟨(w.heap.size + 2), 0, none⟩ = some (.bool false) := KR.out.cell 0;have fR0 : w2.frozen? ⟨(w.heap.size + 2), 0, none⟩ = false := KR.out.free 0;have cR1 : w2.cell? ⟨(w.heap.size + 2), 1, none⟩ = some (.slice none 0 0) := KR.out.cell 1;have fR1 : w2.frozen? ⟨(w.heap.size + 2), 1, none⟩ = false := KR.out.free 1;have cR2 : w2.cell? ⟨(w.heap.size + 2), 2, none⟩ = some (.slice none 0 0) := KR.out.cell 2;have fR2 : w2.frozen? ⟨(w.heap.size + 2), 2, none⟩ = false := KR.out.free 2;go_wp2;refine bodyPost_ret (v := .agg #[.bool s9, .slice A9 l9 c9, .slice B9 m9 k9]) (by simp [results, Try.results32, go_sem, *]) rfl ?_;exact ⟨_, rfl, HV.out, Ext.boxed HX.out (by omega) _ _ _⟩
theorem gU (va vb : Value) (q r : Rat) (L M : Nat) (w : World) (hx : QZ w va q) (hy : QZ w vb r) (fq : FitR q L) (fr : FitR r M) (hLM : L + M + 1 <= 400000) : Calls Try.prog 32 #[va, vb] w (RetQz w (q + r)) := by
 obtain ⟨s0, A0, l0, c0, B0, m0, k0, rfl⟩ := hx.open;obtain ⟨s1, A1, l1, c1, B1, m1, k1, rfl⟩ := hy.open;exact oW s0 A0 B0 l0 c0 m0 k0 s1 A1 B1 l1 c1 m1 k1 q r L M w hx hy fq fr hLM
theorem ng (ga gb L M : Nat) (s0 : Bool) (A0 B0 : Option Addr) (l0 c0 m0 k0 : Nat) (s1 : Bool) (A1 B1 : Option Addr) (l1 c1 m1 k1 : Nat) (q r : Rat) (w : World) (x0 : w.cell? ⟨ga, 0, none⟩ = some (.bool s0)) (x1 : w.cell? ⟨ga, 1, none⟩ = some (.slice A0 l0 c0)) (x2 : w.cell? ⟨ga, 2, none⟩ = some (.slice B0 m0 k0)) (y0 : w.cell? ⟨gb, 0, none⟩ = some (.bool s1)) (y1 : w.cell? ⟨gb, 1, none⟩ = some (.slice A1 l1 c1)) (y2 : w.cell? ⟨gb, 2, none⟩ = some (.slice B1 m1 k1)) (hx : QZ w (.agg #[.bool s0, .slice A0 l0 c0, .slice B0 m0 k0]) q) (hy : QZ w (.agg #[.bool s1, .slice A1 l1 c1, .slice B1 m1 k1]) r) (fq : FitR q L) (fr : FitR r M) (hLM : L + M + 1 <= 400000) (a : Act) (Q : Exit -> Act -> World -> Prop) (hsize : 9 <= a.tmps.size)
  (s2 : a.tmps[2]? = some (.pointer (some ⟨ga, 0, none⟩)))
  (s3 : a.tmps[3]? = some (.pointer (some ⟨gb, 0, none⟩)))
  (hend : ∀ (xv0 xv1 xv2 xv3 : Value) (W : World), (xv0 = .agg #[.bool s0, .slice A0 l0 c0, .slice B0 m0 k0]) -> (xv1 = .agg #[.bool s1, .slice A1 l1 c1, .slice B1 m1 k1]) -> (QZ W xv2 (-r)) -> (QZ W xv3 (q - r)) -> Ext w W -> wpList Try.prog (ae Try.f116 1).toArray Q ((ae Try.f116 1).drop 4) ((((a.put (some 5) xv0).put (some 6) xv1).put (some 7) xv2).put (some 8) xv3) W) :
  (Code.region 1 (ae Try.f116 1).toArray true).wp Try.prog Q a w := by
 refine bX 4 [some 5, some 6, some 7, some 8] [[], [], [1], [0, 2]] [dh (.agg #[.bool s0, .slice A0 l0 c0, .slice B0 m0 k0]), dh (.agg #[.bool s1, .slice A1 l1 c1, .slice B1 m1 k1]), fun v W => QZ W v (-r), fun v W => QZ W v (q - r)] (by kernel_rfl) (by kernel_rfl) rfl (by decide) hsize ⟨bp, bp, by intro v W W' h hX; exact QZ.ext h hX, by intro v W W' h hX; exact QZ.ext h hX, trivial⟩ ?_ ?_
 .
  clear hend;simp only [ae, Try.f116, ab, Option.bind_some, Nat.reduceBEq, if_true, if_false, Bool.false_eq_true, Option.getD_some];simp only [List.take_succ_cons, List.take_zero];refine ⟨?_, ?_, ?_, ?_, trivial⟩
  .
   rintro us W hJ _ b hb hbz K hK0 hK Qz;have e2 := (hbz 2 (by simp)).trans s2;clear hb hbz;have z0 := Ext.cell hJ x0;have z1 := Ext.cell hJ x1;have z2 := Ext.cell hJ x2;go_simp;exact hK0 _ rfl
  .
   rintro us W hJ _ b hb hbz K hK0 hK Qz;have e3 := (hbz 3 (by simp)).trans s3;clear hb hbz;have z0 := Ext.cell hJ y0;have z1 := Ext.cell hJ y1;have z2 := Ext.cell hJ y2;go_simp;exact hK0 _ rfl
  .
   rintro us W hJ d1 b hb hbz K hK0 hK Qz;have e6 := aP (hb 1 6 rfl) d1;clear hb hbz d1;go_simp;refine (ex _ _ _ (QZ.ext hy hJ)).mono ?_;rintro e w' ⟨v, rfl, hv, hX⟩;exact hK _ _ hv hX
  .
   rintro us W hJ ⟨d0, d2⟩ b hb hbz K hK0 hK Qz;have e5 := aP (hb 0 5 rfl) d0;have e7 := hb 2 7 rfl;clear hb hbz d0;go_simp;refine ((gU _ _ q (-r) L M _ (QZ.ext hx hJ) d2 fq (gT fr) hLM).mono (RetQz.of (Rat.sub_eq_add_neg q r).symm)).mono ?_;rintro e w' ⟨v, rfl, hv, hX⟩;exact hK _ _ hv hX
 .
  rintro us W ⟨v0, v1, v2, v3, _⟩ hJ;exact hend _ _ _ _ W v0 v1 v2 v3 hJ
theorem oX (s0 : Bool) (A0 B0 : Option Addr) (l0 c0 m0 k0 : Nat) (s1 : Bool) (A1 B1 : Option Addr) (l1 c1 m1 k1 : Nat) (q r : Rat) (L M : Nat) (w : World) (hx : QZ w (.agg #[.bool s0, .slice A0 l0 c0, .slice B0 m0 k0]) q) (hy : QZ w (.agg #[.bool s1, .slice A1 l1 c1, .slice B1 m1 k1]) r) (fq : FitR q L) (fr : FitR r M) (hLM : L + M + 1 <= 400000) :
  Calls Try.prog 116 #[.agg #[.bool s0, .slice A0 l0 c0, .slice B0 m0 k0], .agg #[.bool s1, .slice A1 l1 c1, .slice B1 m1 k1]] w (RetQz w (q - r)) := by
 have HXX := hid hx;have HYY := hid hy;have HFQ := hid fq;have HFR := hid fr;clear hx hy fq fr;obtain ⟨hXe, KA, KB, KR⟩ := xB3 w 65 #[.bool s0, .slice A0 l0 c0, .slice B0 m0 k0] 65 #[.bool s1, .slice A1 l1 c1, .slice B1 m1 k1] 65 #[.bool false, .slice none 0 0, .slice none 0 0];go_enter Try.func116, Try.ntmps116
 go_wp2_with fail
 generalize (((w.alloc _).alloc _).alloc _) = w1 at hXe KA KB KR |-;have HX := hid hXe;clear hXe;replace HXX := hid (HXX.out.ext HX.out);replace HYY := hid (HYY.out.ext HX.out)
 go_upto_region 1 with (fail)
 refine ng w.heap.size (w.heap.size + 1) L M s0 A0 B0 l0 c0 m0 k0 s1 A1 B1 l1 c1 m1 k1 q r w1 (KA.out.cell 0) (KA.out.cell 1) (KA.out.cell 2) (KB.out.cell 0) (KB.out.cell 1) (KB.out.cell 2) HXX.out HYY.out HFQ.out HFR.out hLM _ _ (by simp) rfl rfl ?_;rintro xv0 xv1 xv2 xv3 w2 rfl rfl _ hv hXW;simp only [ae, Try.f116, ab, Option.bind_some, Nat.reduceBEq, if_true, if_false, Bool.false_eq_true, Option.getD_some, List.drop_succ_cons, List.drop_zero];simp only [Act.put, List.setIfInBounds_toArray, List.set_cons_succ, List.set_cons_zero];replace HX := xT HX hXW;replace HXX := hid (HXX.out.ext hXW);replace HYY := hid (HYY.out.ext hXW);replace KA := xE KA hXW;replace KB := xE KB hXW;replace KR := xE KR hXW;clear hXW;obtain ⟨s9, A9, l9, c9, B9, m9, k9, rfl⟩ := QZ.open hv;have HV := hid (QZ.past hv (NoInts.three KR.out));clear hv;have cR0 : w2.cell? ⟨(w.heap.size + 2), 0, none⟩ = some (.bool false) := KR.out.cell 0;have fR0 : w2.frozen? ⟨(w.heap.size + 2), 0, none⟩ = false := KR.out.free 0;have cR1 : w2.cell? ⟨(w.heap.size + 2), 1, none⟩ = some (.slice none 0 0) := KR.out.cell 1;have fR1 : w2.frozen? ⟨(w.heap.size + 2), 1, none⟩ = false := KR.out.free 1;have cR2 : w2.cell? ⟨(w.heap.size + 2), 2, none⟩ = some (.slice none 0 0) := KR.out.cell 2;have fR2 : w2.frozen? ⟨(w.heap.size + 2), 2, none⟩ = false := KR.out.free 2;go_wp2;refine bodyPost_ret (v := .agg #[.bool s9, .slice A9 l9 c9, .slice B9 m9 k9]) (by simp [results, Try.results116, go_sem, *]) rfl ?_;exact ⟨_, rfl, HV.out, Ext.boxed HX.out (by omega) _ _ _⟩
theorem lG (va vb : Value) (q r : Rat) (L M : Nat) (w : World) (hx : QZ w va q) (hy : QZ w vb r) (fq : FitR q L) (fr : FitR r M) (hLM : L + M + 1 <= 400000) : Calls Try.prog 116 #[va, vb] w (RetQz w (q - r)) := by
 obtain ⟨s0, A0, l0, c0, B0, m0, k0, rfl⟩ := hx.open;obtain ⟨s1, A1, l1, c1, B1, m1, k1, rfl⟩ := hy.open;exact oX s0 A0 B0 l0 c0 m0 k0 s1 A1 B1 l1 c1 m1 k1 q r L M w hx hy fq fr hLM
theorem ni (ga gb L M : Nat) (s0 : Bool) (A0 B0 : Option Addr) (l0 c0 m0 k0 : Nat) (s1 : Bool) (A1 B1 : Option Addr) (l1 c1 m1 k1 : Nat) (q r : Rat) (w : World) (x0 : w.cell? ⟨ga, 0, none⟩ = some (.bool s0)) (x1 : w.cell? ⟨ga, 1, none⟩ = some (.slice A0 l0 c0)) (x2 : w.cell? ⟨ga, 2, none⟩ = some (.slice B0 m0 k0)) (y0 : w.cell? ⟨gb, 0, none⟩ = some (.bool s1)) (y1 : w.cell? ⟨gb, 1, none⟩ = some (.slice A1 l1 c1)) (y2 : w.cell? ⟨gb, 2, none⟩ = some (.slice B1 m1 k1)) (hx : QZ w (.agg #[.bool s0, .slice A0 l0 c0, .slice B0 m0 k0]) q) (hy : QZ w (.agg #[.bool s1, .slice A1 l1 c1, .slice B1 m1 k1]) r) (fq : FitR q L) (fr : FitR r M) (_hLM : L + M + 1 <= 400000) (a : Act) (Q : Exit -> Act -> World -> Prop) (hsize : 17 <= a.tmps.size)
  (s2 : a.tmps[2]? = some (.pointer (some ⟨ga, 0, none⟩)))
  (s3 : a.tmps[3]? = some (.pointer (some ⟨gb, 0, none⟩)))
  (hend : ∀ (xv0 xv1 xv2 xv3 xv4 xv5 xv6 xv7 xv8 xv9 xv10 xv11 : Value) (W : World), (xv0 = .pointer (some ⟨ga, 0, none⟩)) -> (xv1 = .agg #[.bool s0, .slice A0 l0 c0]) -> (xv2 = .pointer (some ⟨gb, 0, none⟩)) -> (xv3 = .agg #[.bool s1, .slice A1 l1 c1]) -> (IntZ W xv4 (q.num * r.num)) -> (xv5 = .pointer (some ⟨ga, 2, none⟩)) -> (xv6 = .slice B0 m0 k0) -> (xv7 = .pointer (some ⟨gb, 2, none⟩)) -> (xv8 = .slice B1 m1 k1) -> (Z16 W xv9 (q.den * r.den)) -> (∃ A l c, xv10 = .agg #[.bool false, .slice A l c] /\ Z16 W (.slice A l c) (q.den * r.den)) -> (QZ W xv11 (q * r)) -> Ext w W -> wpList Try.prog (ae Try.f33 1).toArray Q ((ae Try.f33 1).drop 12) ((((((((((((a.put (some 5) xv0).put (some 6) xv1).put (some 7) xv2).put (some 8) xv3).put (some 9) xv4).put (some 10) xv5).put (some 11) xv6).put (some 12) xv7).put (some 13) xv8).put (some 14) xv9).put (some 15) xv10).put (some 16) xv11) W) :
  (Code.region 1 (ae Try.f33 1).toArray true).wp Try.prog Q a w := by
 refine bX 12 [some 5, some 6, some 7, some 8, some 9, some 10, some 11, some 12, some 13, some 14, some 15, some 16] [[], [0], [], [2], [1, 3], [], [5], [], [7], [6, 8], [9], [4, 10]] [dh (.pointer (some ⟨ga, 0, none⟩)), dh (.agg #[.bool s0, .slice A0 l0 c0]), dh (.pointer (some ⟨gb, 0, none⟩)), dh (.agg #[.bool s1, .slice A1 l1 c1]), fun v W => IntZ W v (q.num * r.num), dh (.pointer (some ⟨ga, 2, none⟩)), dh (.slice B0 m0 k0), dh (.pointer (some ⟨gb, 2, none⟩)), dh (.slice B1 m1 k1), fun v W => Z16 W v (q.den * r.den), fun v W => ∃ A l c, v = .agg #[.bool false, .slice A l c] /\ Z16 W (.slice A l c) (q.den * r.den), fun v W => QZ W v (q * r)] (by kernel_rfl) (by kernel_rfl) rfl (by decide) hsize ⟨bp, bp, bp, bp, by intro v W W' h hX; exact IntZ.ext h hX, bp, bp, bp, bp, by intro v W W' h hX; exact Z16.ext h hX, by intro v W W' h hX; obtain ⟨A, l, c, h1, h2⟩ := h; exact ⟨A, l, c, h1, Z16.ext h2 hX⟩, by intro v W W' h hX; exact QZ.ext h hX, trivial⟩ ?_ ?_
 .
  clear hend;simp only [ae, Try.f33, ab, Option.bind_some, Nat.reduceBEq, if_true, if_false, Bool.false_eq_true, Option.getD_some];simp only [List.take_succ_cons, List.take_zero];refine ⟨?_, ?_, ?_, ?_, ?_, ?_, ?_, ?_, ?_, ?_, ?_, ?_, trivial⟩
  .
   rintro us W hJ _ b hb hbz K hK0 hK Qz;have e2 := (hbz 2 (by simp)).trans s2;clear hb hbz;go_simp;exact hK0 _ rfl
  .
   rintro us W hJ d0 b hb hbz K hK0 hK Qz;have e5 := aP (hb 0 5 rfl) d0;clear hb hbz d0;have z0 := Ext.cell hJ x0;have z1 := Ext.cell hJ x1;go_simp;exact hK0 _ rfl
  .
   rintro us W hJ _ b hb hbz K hK0 hK Qz;have e3 := (hbz 3 (by simp)).trans s3;clear hb hbz;go_simp;exact hK0 _ rfl
  .
   rintro us W hJ d2 b hb hbz K hK0 hK Qz;have e7 := aP (hb 2 7 rfl) d2;clear hb hbz d2;have z0 := Ext.cell hJ y0;have z1 := Ext.cell hJ y1;go_simp;exact hK0 _ rfl
  .
   rintro us W hJ ⟨d1, d3⟩ b hb hbz K hK0 hK Qz;have e6 := aP (hb 1 6 rfl) d1;have e8 := aP (hb 3 8 rfl) d3;clear hb hbz d1 d3;go_simp;refine (cJ _ _ q.num r.num L M _ (IntZ.ext (QZ.num hx) hJ) (IntZ.ext (QZ.num hy) hJ) fq.1 fr.1 (by omega) (by omega)).mono ?_;rintro e w' ⟨v, rfl, hv, hX⟩;exact hK _ _ hv hX
  .
   rintro us W hJ _ b hb hbz K hK0 hK Qz;have e2 := (hbz 2 (by simp)).trans s2;clear hb hbz;go_simp;exact hK0 _ rfl
  .
   rintro us W hJ d5 b hb hbz K hK0 hK Qz;have e10 := aP (hb 5 10 rfl) d5;clear hb hbz d5;have q := Ext.cell hJ x2;go_simp;exact hK0 _ rfl
  .
   rintro us W hJ _ b hb hbz K hK0 hK Qz;have e3 := (hbz 3 (by simp)).trans s3;clear hb hbz;go_simp;exact hK0 _ rfl
  .
   rintro us W hJ d7 b hb hbz K hK0 hK Qz;have e12 := aP (hb 7 12 rfl) d7;clear hb hbz d7;have q := Ext.cell hJ y2;go_simp;exact hK0 _ rfl
  .
   rintro us W hJ ⟨d6, d8⟩ b hb hbz K hK0 hK Qz;have e11 := aP (hb 6 11 rfl) d6;have e13 := aP (hb 8 13 rfl) d8;clear hb hbz d6 d8;go_simp;refine (aR _ _ q.den r.den L M _ (Z16.ext (QZ.den hx) hJ) (Z16.ext (QZ.den hy) hJ) fq.2 fr.2 (by omega) (by omega)).mono ?_;rintro e w' ⟨v, rfl, hv, hX⟩;exact hK _ _ hv hX
  .
   rintro us W hJ d9 b hb hbz K hK0 hK Qz;have e14 := hb 9 14 rfl;clear hb hbz;obtain ⟨A9, l9, c9, hv9, g9, _⟩ := Z16.open d9;rw [hv9] at e14;go_simp;exact hK0 _ ⟨_, _, _, rfl, g9⟩
  .
   rintro us W hJ ⟨d4, d10⟩ b hb hbz K hK0 hK Qz;have e9 := hb 4 9 rfl;have e15 := hb 10 15 rfl;clear hb hbz;obtain ⟨A9, l9, c9, hv9, g9⟩ := d10;rw [hv9] at e15;go_simp;refine ((oI _ _ false A9 l9 c9 _ (L + M + 1) _ d4 g9 (aV fq.1 fr.1 (by omega)) (fR fq.2 fr.2 (by omega)) (by omega) (Nat.mul_pos q.den_pos r.den_pos)).mono (RetQz.of (pH q r))).mono ?_;rintro e w' ⟨v, rfl, hv, hX⟩;exact hK _ _ hv hX
 .
  rintro us W ⟨v0, v1, v2, v3, v4, v5, v6, v7, v8, v9, v10, v11, _⟩ hJ;exact hend _ _ _ _ _ _ _ _ _ _ _ _ W v0 v1 v2 v3 v4 v5 v6 v7 v8 v9 v10 v11 hJ
theorem oY (s0 : Bool) (A0 B0 : Option Addr) (l0 c0 m0 k0 : Nat) (s1 : Bool) (A1 B1 : Option Addr) (l1 c1 m1 k1 : Nat) (q r : Rat) (L M : Nat) (w : World) (hx : QZ w (.agg #[.bool s0, .slice A0 l0 c0, .slice B0 m0 k0]) q) (hy : QZ w (.agg #[.bool s1, .slice A1 l1 c1, .slice B1 m1 k1]) r) (fq : FitR q L) (fr : FitR r M) (hLM : L + M + 1 <= 400000) :
  Calls Try.prog 33 #[.agg #[.bool s0, .slice A0 l0 c0, .slice B0 m0 k0], .agg #[.bool s1, .slice A1 l1 c1, .slice B1 m1 k1]] w (RetQz w (q * r)) := by
 have HXX := hid hx;have HYY := hid hy;have HFQ := hid fq;have HFR := hid fr;clear hx hy fq fr;obtain ⟨hXe, KA, KB, KR⟩ := xB3 w 65 #[.bool s0, .slice A0 l0 c0, .slice B0 m0 k0] 65 #[.bool s1, .slice A1 l1 c1, .slice B1 m1 k1] 65 #[.bool false, .slice none 0 0, .slice none 0 0];go_enter Try.func33, Try.ntmps33
 go_wp2_with fail
 generalize (((w.alloc _).alloc _).alloc _) = w1 at hXe KA KB KR |-;have HX := hid hXe;clear hXe;replace HXX := hid (HXX.out.ext HX.out);replace HYY := hid (HYY.out.ext HX.out)
 go_upto_region 1 with (fail)
 refine ni w.heap.size (w.heap.size + 1) L M s0 A0 B0 l0 c0 m0 k0 s1 A1 B1 l1 c1 m1 k1 q r w1 (KA.out.cell 0) (KA.out.cell 1) (KA.out.cell 2) (KB.out.cell 0) (KB.out.cell 1) (KB.out.cell 2) HXX.out HYY.out HFQ.out HFR.out hLM _ _ (by simp) rfl rfl ?_;rintro xv0 xv1 xv2 xv3 xv4 xv5 xv6 xv7 xv8 xv9 xv10 xv11 w2 rfl rfl rfl rfl _ rfl rfl rfl rfl _ _ hv hXW;simp only [ae, Try.f33, ab, Option.bind_some, Nat.reduceBEq, if_true, if_false, Bool.false_eq_true, Option.getD_some, List.drop_succ_cons, List.drop_zero];simp only [Act.put, List.setIfInBounds_toArray, List.set_cons_succ, List.set_cons_zero];replace HX := xT HX hXW;replace HXX := hid (HXX.out.ext hXW);replace HYY := hid (HYY.out.ext hXW);replace KA := xE KA hXW;replace KB := xE KB hXW;replace KR := xE KR hXW;clear hXW;obtain ⟨s9, A9, l9, c9, B9, m9, k9, rfl⟩ := QZ.open hv;have HV := hid (QZ.past hv (NoInts.three KR.out));clear hv;have cR0 : w2.cell? ⟨(w.heap.size + 2), 0, none⟩ = some (.bool false) := KR.out.cell 0;have fR0 : w2.frozen? ⟨(w.heap.size + 2), 0, none⟩ = false := KR.out.free 0;have cR1 : w2.cell? ⟨(w.heap.size + 2), 1, none⟩ = some (.slice none 0 0) := KR.out.cell 1;have fR1 : w2.frozen? ⟨(w.heap.size + 2), 1, none⟩ = false := KR.out.free 1;have cR2 : w2.cell? ⟨(w.heap.size + 2), 2, none⟩ = some (.slice none 0 0) := KR.out.cell 2;have fR2 : w2.frozen? ⟨(w.heap.size + 2), 2, none⟩ = false := KR.out.free 2;go_wp2;refine bodyPost_ret (v := .agg #[.bool s9, .slice A9 l9 c9, .slice B9 m9 k9]) (by simp [results, Try.results33, go_sem, *]) rfl ?_;exact ⟨_, rfl, HV.out, Ext.boxed HX.out (by omega) _ _ _⟩
theorem lH (va vb : Value) (q r : Rat) (L M : Nat) (w : World) (hx : QZ w va q) (hy : QZ w vb r) (fq : FitR q L) (fr : FitR r M) (hLM : L + M + 1 <= 400000) : Calls Try.prog 33 #[va, vb] w (RetQz w (q * r)) := by
 obtain ⟨s0, A0, l0, c0, B0, m0, k0, rfl⟩ := hx.open;obtain ⟨s1, A1, l1, c1, B1, m1, k1, rfl⟩ := hy.open;exact oY s0 A0 B0 l0 c0 m0 k0 s1 A1 B1 l1 c1 m1 k1 q r L M w hx hy fq fr hLM
theorem oZ (s0 : Bool) (A0 B0 : Option Addr) (l0 c0 m0 k0 : Nat) (s1 : Bool) (A1 B1 : Option Addr) (l1 c1 m1 k1 : Nat) (q r : Rat) (L M : Nat) (w : World) (hx : QZ w (.agg #[.bool s0, .slice A0 l0 c0, .slice B0 m0 k0]) q) (hy : QZ w (.agg #[.bool s1, .slice A1 l1 c1, .slice B1 m1 k1]) r) (fq : FitR q L) (fr : FitR r M) (hLM : L + M + 1 <= 400000) :
  Calls Try.prog 37 #[.agg #[.bool s0, .slice A0 l0 c0, .slice B0 m0 k0], .agg #[.bool s1, .slice A1 l1 c1, .slice B1 m1 k1]] w (fun e w' => e = .returned (.int .i64 (aU (q - r))) /\ Ext w w') := by
 have HXX := hid hx;have HYY := hid hy;have HFQ := hid fq;have HFR := hid fr;clear hx hy fq fr;obtain ⟨hXe, KA, KB⟩ := xB2 w 65 #[.bool s0, .slice A0 l0 c0, .slice B0 m0 k0] 65 #[.bool s1, .slice A1 l1 c1, .slice B1 m1 k1];go_enter Try.func37, Try.ntmps37
 go_wp2_with fail
 generalize ((w.alloc _).alloc _) = w1 at hXe KA KB |-;have HX := hid hXe;clear hXe;replace HXX := hid (HXX.out.ext HX.out);replace HYY := hid (HYY.out.ext HX.out);have cA0 : w1.cell? ⟨w.heap.size, 0, none⟩ = some (.bool s0) := KA.out.cell 0;have cA1 : w1.cell? ⟨w.heap.size, 1, none⟩ = some (.slice A0 l0 c0) := KA.out.cell 1;have cA2 : w1.cell? ⟨w.heap.size, 2, none⟩ = some (.slice B0 m0 k0) := KA.out.cell 2;have cB0 : w1.cell? ⟨(w.heap.size + 1), 0, none⟩ = some (.bool s1) := KB.out.cell 0;have cB1 : w1.cell? ⟨(w.heap.size + 1), 1, none⟩ = some (.slice A1 l1 c1) := KB.out.cell 1;have cB2 : w1.cell? ⟨(w.heap.size + 1), 2, none⟩ = some (.slice B1 m1 k1) := KB.out.cell 2
 go_wp2_with fail
 clear cA0 cA1 cA2 cB0 cB1 cB2;refine (lG _ _ q r L M _ HXX.out HYY.out HFQ.out HFR.out hLM).mono ?_;rintro e w2 ⟨v9, rfl, hv, hX⟩;replace hX : Ext w1 w2 := by with_reducible exact hX
 replace HX := xT HX hX;replace HXX := hid (HXX.out.ext hX);replace HYY := hid (HYY.out.ext hX);replace KA := xE KA hX;replace KB := xE KB hX;clear hX;obtain ⟨s9, A9, l9, c9, B9, m9, k9, rfl⟩ := QZ.open hv;have HV := hid hv.num;clear hv;have hL := oV s9 A9 B9 l9 c9 m9 k9
 go_wp2_with fail
 refine (jT _ _ _ HV.out).mono ?_;rw [nd];rintro e w3 ⟨rfl, hX⟩;replace hX : Ext w2 w3 := by with_reducible exact hX
 replace HX := xT HX hX;replace HXX := hid (HXX.out.ext hX);replace HYY := hid (HYY.out.ext hX);replace HV := hid (HV.out.ext hX);replace KA := xE KA hX;replace KB := xE KB hX;clear hX;go_wp2;go_ret;exact ⟨rfl, HX.out⟩
theorem ey (va vb : Value) (q r : Rat) (L M : Nat) (w : World) (hx : QZ w va q) (hy : QZ w vb r) (fq : FitR q L) (fr : FitR r M) (hLM : L + M + 1 <= 400000) : Calls Try.prog 37 #[va, vb] w fun e w' => e = .returned (.int .i64 (aU (q - r))) /\ Ext w w' := by
 obtain ⟨s0, A0, l0, c0, B0, m0, k0, rfl⟩ := hx.open;obtain ⟨s1, A1, l1, c1, B1, m1, k1, rfl⟩ := hy.open;exact oZ s0 A0 B0 l0 c0 m0 k0 s1 A1 B1 l1 c1 m1 k1 q r L M w hx hy fq fr hLM
theorem lI (s0 : Bool) (A0 B0 : Option Addr) (l0 c0 m0 k0 : Nat) (q : Rat) (L : Nat) (w : World) (hx : QZ w (.agg #[.bool s0, .slice A0 l0 c0, .slice B0 m0 k0]) q) (fq : FitR q L) (hL : L <= 400000) :
  Calls Try.prog 167 #[.agg #[.bool s0, .slice A0 l0 c0, .slice B0 m0 k0]] w (dm w q.floor) := by
 have HXX := hid hx;have HFQ := hid fq;clear hx fq;obtain ⟨hXe, KA, KR⟩ := xB2 w 65 #[.bool s0, .slice A0 l0 c0, .slice B0 m0 k0] 63 #[.bool false, .slice none 0 0];go_enter Try.func167, Try.ntmps167
 go_wp2_with fail
 generalize ((w.alloc _).alloc _) = w1 at hXe KA KR |-;have HX := hid hXe;clear hXe;replace HXX := hid (HXX.out.ext HX.out);have cA0 : w1.cell? ⟨w.heap.size, 0, none⟩ = some (.bool s0) := KA.out.cell 0;have cA1 : w1.cell? ⟨w.heap.size, 1, none⟩ = some (.slice A0 l0 c0) := KA.out.cell 1;have cA2 : w1.cell? ⟨w.heap.size, 2, none⟩ = some (.slice B0 m0 k0) := KA.out.cell 2
 go_wp2_with fail
 clear cA0 cA1 cA2;refine (jW _ q.num false _ _ _ q.den L _ HXX.out.num HXX.out.den HFQ.out.1 hL q.den_pos).mono ?_;rw [<- Rat.floor_def];rintro e w2 ⟨v9, rfl, hv, hX⟩;replace hX : Ext w1 w2 := by with_reducible exact hX
 replace HX := xT HX hX;replace HXX := hid (HXX.out.ext hX);replace KA := xE KA hX;replace KR := xE KR hX;clear hX;obtain ⟨A9, l9, c9, rfl, hv9⟩ := hv.open;obtain ⟨b9, hb9⟩ : ∃ b, decide (q.floor < 0) = b := ⟨_, rfl⟩;rw [hb9];have HB := hid hb9.symm;have HV := hid (Z16.two hv9 (NoInts.two KR.out) b9 A9 l9 c9);clear hv hv9 hb9;have cR0 : w2.cell? ⟨(w.heap.size + 1), 0, none⟩ = some (.bool false) := KR.out.cell 0;have fR0 : w2.frozen? ⟨(w.heap.size + 1), 0, none⟩ = false := KR.out.free 0;have cR1 : w2.cell? ⟨(w.heap.size + 1), 1, none⟩ = some (.slice none 0 0) := KR.out.cell 1;have fR1 : w2.frozen? ⟨(w.heap.size + 1), 1, none⟩ = false := KR.out.free 1;go_wp2;refine bodyPost_ret (v := .agg #[.bool b9, .slice A9 l9 c9]) (by simp [results, Try.results167, go_sem, *]) rfl ?_;exact ⟨_, rfl, ⟨_, _, _, by rw [HB.out], HV.out⟩, HX.out.two (by omega) _ _⟩
theorem bQ (va : Value) (q : Rat) (L : Nat) (w : World) (hx : QZ w va q) (fq : FitR q L) (hL : L <= 400000) : Calls Try.prog 167 #[va] w (dm w q.floor) := by
 obtain ⟨s0, A0, l0, c0, B0, m0, k0, rfl⟩ := hx.open;exact lI s0 A0 B0 l0 c0 m0 k0 q L w hx fq hL
theorem nj (s0 : Bool) (A0 B0 : Option Addr) (l0 c0 m0 k0 : Nat) (q : Rat) (L : Nat) (w : World) (hx : QZ w (.agg #[.bool s0, .slice A0 l0 c0, .slice B0 m0 k0]) q) (fq : FitR q L) (hL : L <= 400000) :
  Calls Try.prog 162 #[.agg #[.bool s0, .slice A0 l0 c0, .slice B0 m0 k0]] w (dm w (-(-q).floor)) := by
 have HXX := hid hx;have HFQ := hid fq;clear hx fq;obtain ⟨z, hz⟩ : ∃ z, (-q).floor = z := ⟨_, rfl⟩;rw [hz];have HZ := hid hz;clear hz;obtain ⟨hXe, KA, KR⟩ := xB2 w 65 #[.bool s0, .slice A0 l0 c0, .slice B0 m0 k0] 63 #[.bool false, .slice none 0 0];go_enter Try.func162, Try.ntmps162
 go_wp2_with fail
 generalize ((w.alloc _).alloc _) = w1 at hXe KA KR |-;have HX := hid hXe;clear hXe;replace HXX := hid (HXX.out.ext HX.out);have cA0 : w1.cell? ⟨w.heap.size, 0, none⟩ = some (.bool s0) := KA.out.cell 0;have cA1 : w1.cell? ⟨w.heap.size, 1, none⟩ = some (.slice A0 l0 c0) := KA.out.cell 1;have cA2 : w1.cell? ⟨w.heap.size, 2, none⟩ = some (.slice B0 m0 k0) := KA.out.cell 2
 go_wp2_with fail
 clear cA0 cA1 cA2;refine (ex _ _ _ HXX.out).mono ?_;rintro e w2 ⟨v7, rfl, h7, hX⟩;replace hX : Ext w1 w2 := by with_reducible exact hX
 replace HX := xT HX hX;replace HXX := hid (HXX.out.ext hX);replace KA := xE KA hX;replace KR := xE KR hX;clear hX;have HV := hid h7;clear h7
 go_wp2_with fail
 refine (bQ _ _ L _ HV.out (gT HFQ.out) hL).mono ?_;rw [HZ.out];rintro e w3 ⟨v8, rfl, h8, hX⟩;replace hX : Ext w2 w3 := by with_reducible exact hX
 replace HX := xT HX hX;replace HXX := hid (HXX.out.ext hX);replace HV := hid (HV.out.ext hX);replace KA := xE KA hX;replace KR := xE KR hX;clear hX;have HW := hid h8;clear h8
 go_wp2_with fail
 refine (ev _ _ _ HW.out).mono ?_;rintro e w4 ⟨v9, rfl, hv, hX⟩;replace hX : Ext w3 w4 := by with_reducible exact hX
 replace HX := xT HX hX;replace HXX := hid (HXX.out.ext hX);replace HV := hid (HV.out.ext hX);replace HW := hid (HW.out.ext hX);replace KA := xE KA hX;replace KR := xE KR hX;clear hX;obtain ⟨A9, l9, c9, rfl, hv9⟩ := hv.open;obtain ⟨b9, hb9⟩ : ∃ b, decide (-z < 0) = b := ⟨_, rfl⟩;rw [hb9];have HB := hid hb9.symm;have HU := hid (Z16.two hv9 (NoInts.two KR.out) b9 A9 l9 c9);clear hv hv9 hb9;have cR0 : w4.cell? ⟨(w.heap.size + 1), 0, none⟩ = some (.bool false) := KR.out.cell 0;have fR0 : w4.frozen? ⟨(w.heap.size + 1), 0, none⟩ = false := KR.out.free 0;have cR1 : w4.cell? ⟨(w.heap.size + 1), 1, none⟩ = some (.slice none 0 0) := KR.out.cell 1;have fR1 : w4.frozen? ⟨(w.heap.size + 1), 1, none⟩ = false := KR.out.free 1;go_wp2;refine bodyPost_ret (v := .agg #[.bool b9, .slice A9 l9 c9]) (by simp [results, Try.results162, go_sem, *]) rfl ?_;exact ⟨_, rfl, ⟨_, _, _, by rw [HB.out], HU.out⟩, HX.out.two (by omega) _ _⟩
theorem cR (va : Value) (q : Rat) (L : Nat) (w : World) (hx : QZ w va q) (fq : FitR q L) (hL : L <= 400000) : Calls Try.prog 162 #[va] w (dm w (-(-q).floor)) := by
 obtain ⟨s0, A0, l0, c0, B0, m0, k0, rfl⟩ := hx.open;exact nj s0 A0 B0 l0 c0 m0 k0 q L w hx fq hL
/-- What one operation must give, mN a frame of which only the slots' values are known. -/
def qo (P : Program) (ops : Array Oper) (J : (Nat -> Prop) -> (Nat -> Value) -> World -> Prop) (D A : List (List Nat)) (ds : List (Option Tmp)) (a : Act) (i : Nat) (o : Oper) : Prop :=
 ∀ (done : Nat -> Prop) (us : Nat -> Value) (W : World), J done us W -> (∀ j ∈ D.getD i [], done j) -> (∀ j ∈ A.getD i [], ¬ done j) -> ¬ done i -> ∀ b : Act, (∀ j d, ds[j]? = some (some d) -> b.tmps[d]? = some (us j)) -> (∀ d, some d ∉ ds -> b.tmps[d]? = a.tmps[d]?) -> ∀ K : Act -> World -> Prop,
   (∀ v W', J (fun k => done k \/ k = i) (dE us i v) W' -> K (b.put o.dst v) W') -> ∀ Q' : Exit -> Act -> World -> Prop,
   if Region.wanted o (yielded ops b.tmps) then o.wp P b W K Q' else K (b.put o.dst undef) W
def GAllq (P : Program) (ops : Array Oper) (J : (Nat -> Prop) -> (Nat -> Value) -> World -> Prop) (D A : List (List Nat)) (ds : List (Option Tmp)) (a : Act) : Nat -> List Oper -> Prop
 | _, [] => True
 | i, o :: rest => qo P ops J D A ds a i o /\ GAllq P ops J D A ds a (i + 1) rest
theorem GAllq.at {P : Program} {ops : Array Oper} {J : (Nat -> Prop) -> (Nat -> Value) -> World -> Prop} {D A : List (List Nat)} {ds : List (Option Tmp)} {a : Act} : ∀ (l : List Oper) (k : Nat), GAllq P ops J D A ds a k l -> ∀ i o, l[i]? = some o -> qo P ops J D A ds a (k + i) o := by
 intro l
 induction l with
 | nil => intro k _ i o h; simp at h
 | cons x l ih =>
  intro k h i o ho
  cases i with
  | zero => simp at ho; subst ho; exact h.1
  | succ i =>
   have := ih (k + 1) h.2 i o (by simpa using ho);rw [show k + 1 + i = k + (i + 1) by omega] at this;exact this
section
variable {P : Program} {l : List Oper} {n : Nat} {ds : List (Option Tmp)} {D A : List (List Nat)} {J : (Nat -> Prop) -> (Nat -> Value) -> World -> Prop} {a : Act} {Q : Exit -> Act -> World -> Prop}
theorem pI (hB : jB l.toArray n ds D A = true) (hs : ∀ d, some d ∈ ds -> d < a.tmps.size) (hJ : ∀ p q us W, (∀ k, p k ↔ q k) -> J p us W -> J q us W) (hop : GAllq P l.toArray J D A ds a 0 (l.take n))
  (hend : ∀ us W, J (fun k => k < n) us W -> wpList P l.toArray Q (l.drop n) (aE a ds us 0) W) :
  ∀ (f : Nat) (rem : List Nat) (listed : Array Bool) (us : Nat -> Value) (W : World), rem.length = f -> rem.Nodup -> HeadInv .any l.toArray n listed -> (∀ j, j < n -> (listed.getD j true = false ↔ j ∈ rem)) -> (∀ j ∈ rem, j < n) ->
   J (fun k => k < n /\ k ∉ rem) us W -> wpAny P .any l.toArray Q (f + (l.toArray.size - n)) listed (aE a ds us 0) W := by
 simp only [jB, Bool.and_eq_true, decide_eq_true_eq] at hB;obtain ⟨⟨⟨⟨⟨⟨hn, hl⟩, hnt⟩, hD⟩, hless⟩, hsc⟩, hseq⟩ := hB;have hnd := cX ds hnt;intro f
 induction f with
 | zero =>
  intro rem listed us W hlen _ inv hrem _ hX;obtain rfl : rem = [] := List.eq_nil_of_length_eq_zero hlen
  have hlist : listed = ((List.range l.toArray.size).map (fun i => decide (i < n))).toArray := by
   apply Array.ext
   .
    simp [inv.size]
   .
    intro i h1 h2;have hsz := inv.size;simp only [List.getElem_toArray, List.getElem_map, List.getElem_range]
    by_cases hi : i < n
    .
     have h3 := hrem i hi;simp only [List.not_mem_nil, iff_false, Bool.not_eq_false] at h3;have h4 : listed.getD i true = listed[i] := by simp [Array.getD, h1]
     rw [h4] at h3;simp [h3, hi]
    .
     have h3 := inv.tail i (by omega) (by omega);have h4 : listed.getD i true = listed[i] := by simp [Array.getD, h1]
     rw [h4] at h3;simp [h3, hi]
  have hdl : (l.drop n).length = l.toArray.size - n := by simp
  rw [Nat.zero_add, <- hdl];refine wpAny_of_seq (l.drop n) n listed _ W (fun j => by simp [List.getElem?_drop]) ?_ (hend us W (hJ _ _ us W (by simp) hX));rw [hdl, hlist];exact hseq
 | succ f ih =>
  intro rem listed us W hlen hnodup inv hrem hlt hX;rw [show f + 1 + (l.toArray.size - n) = (f + (l.toArray.size - n)) + 1 by omega];have hne : rem ≠ [] := by intro e; subst e; simp at hlen
  refine ⟨fun h0 => ?_, fun i hi => ?_⟩
  .
   exfalso
   obtain ⟨k, hk, hmin⟩ : ∃ k ∈ rem, ∀ j ∈ rem, k <= j := by
    obtain ⟨m, hm, hm2⟩ := exists_least (p := fun m => m ∈ rem) (by cases rem with | nil => exact absurd rfl hne | cons x xs => exact ⟨x, List.mem_cons_self ..⟩);exact ⟨m, hm, fun j hj => hm2 j hj⟩
   have hkn := hlt k hk
   have hr : k ∈ Region.ready .any l.toArray listed := by
    refine mem_ready.2 ⟨(hrem k hkn).2 hk, ?_⟩;have h1 := List.all_eq_true.1 hless k (List.mem_range.2 hkn)
    cases ho : l.toArray[k]? with
    | none => rw [ho] at h1; simp at h1
    | some o =>
     rw [ho] at h1;refine ⟨o, rfl, fun e he hb => ?_⟩;have h2 := Array.all_eq_true_iff_forall_mem.1 h1 e he;simp only [hb, Bool.not_true, Bool.false_or, decide_eq_true_eq] at h2;have h3 : e.on ∉ rem := fun h => by have := hmin _ h; omega
     have h4 : listed.getD e.on true = true := by
      cases h5 : listed.getD e.on true with
      | true => rfl
      | false => exact absurd ((hrem e.on (by omega)).1 h5) h3
     have hsz : e.on < listed.size := by rw [inv.size]; omega
     simp [Array.getD, hsz] at h4 |-;exact h4
   rw [h0] at hr
   cases hr
  .
   obtain ⟨hun, o, ho, hall⟩ := mem_ready.1 hi;have hisz : i < l.toArray.size := (Array.getElem?_eq_some_iff.1 ho).1
   have hin : i < n := by
    rcases Nat.lt_or_ge i n with h | h
    .
     exact h
    .
     simp only [Bool.or_eq_true, Bool.and_eq_true, decide_eq_true_eq] at hsc
     rcases hsc with hsc | ⟨hs, hc⟩
     .
      omega
     .
      obtain ⟨k, hk⟩ : ∃ k, k ∈ rem := by cases rem with | nil => exact absurd rfl hne | cons x xs => exact ⟨x, List.mem_cons_self ..⟩
      exact absurd hi (tail_waits hs hc (by omega) inv _ k rfl (hlt k hk) ((hrem k (hlt k hk)).2 hk) i h)
   have hir : i ∈ rem := (hrem i hin).1 hun;have hDi := List.all_eq_true.1 hD i (List.mem_range.2 hin);simp only [Bool.and_eq_true, beq_iff_eq] at hDi;obtain ⟨⟨hdst, hdeps⟩, hafts⟩ := hDi;rw [ho] at hdst;simp only [Option.map_some] at hdst;have hm := GAllq.at (l.take n) 0 hop i o (by rw [List.getElem?_take, if_pos hin]; simpa using ho);rw [Nat.zero_add] at hm
   have hdp : ∀ j ∈ D.getD i [], (j < n /\ j ∉ rem) := fun j hj => by
    have h1 := List.all_eq_true.1 hdeps j hj;simp only [Bool.and_eq_true, decide_eq_true_eq] at h1;obtain ⟨oj, hoj, e, he, hb, hon⟩ := Region.waitsFor_spec h1.2;have : oj = o := Option.some.inj (hoj.symm.trans ho);subst this;have h2 := hall e he hb;rw [hon] at h2
    have hjr : j ∉ rem := fun hjr => by
     have h3 := (hrem j (by omega)).2 hjr;rw [getD_both h3] at h2
     cases h2
    exact ⟨by omega, hjr⟩
   have haf : ∀ j ∈ A.getD i [], ¬ (j < n /\ j ∉ rem) := fun j hj hd => by
    have h1 := List.all_eq_true.1 hafts j hj;simp only [Bool.and_eq_true, decide_eq_true_eq] at h1;obtain ⟨oj, hoj, e, he, hb, hon⟩ := Region.waitsFor_spec h1.2
    have h4 : listed.getD j false = true := by
     have h5 : listed.getD j true = true := by
      cases h5 : listed.getD j true with
      | true => rfl
      | false => exact absurd ((hrem j hd.1).1 h5) hd.2
     have hsz : j < listed.size := by rw [inv.size]; omega
     simp [Array.getD, hsz] at h5 |-;exact h5
    have h6 := inv.closed j oj hoj h4 e he hb;rw [hon, getD_both hun] at h6
    cases h6
   have key : ∀ v W', J (fun k => (k < n /\ k ∉ rem) \/ k = i) (dE us i v) W' -> wpAny P .any l.toArray Q (f + (l.toArray.size - n)) (listed.setIfInBounds i true) ((aE a ds us 0).put o.dst v) W' := fun v W' hj => by
    rw [fj us v ds hnd a 0 i o.dst hdst.symm, Nat.zero_add];refine ih (rem.erase i) _ (dE us i v) W' (by rw [List.length_erase_of_mem hir]; omega) (hnodup.erase i) (inv.set hi hin) (fun j hj => ?_) (fun j hj => hlt j (List.mem_of_mem_erase hj)) (hJ _ _ _ W' (fun k => ?_) hj)
    .
     by_cases hji : i = j
     .
      subst hji;have hsz : i < listed.size := by rw [inv.size]; omega
      simp [Array.getD, hsz];exact fun h => (hnodup.mem_erase_iff.1 h).1 rfl
     .
      rw [getD_set_ne true hji, hrem j hj, hnodup.mem_erase_iff];exact ⟨fun h => ⟨Ne.symm hji, h⟩, fun h => h.2⟩
    .
     rw [hnodup.mem_erase_iff];constructor
     .
      rintro (⟨h1, h2⟩ | rfl)
      .
       exact ⟨h1, fun h => h2 h.2⟩
      .
       exact ⟨hin, fun h => h.1 rfl⟩
     .
      rintro ⟨h1, h2⟩
      by_cases hki : k = i
      .
       exact .inr hki
      .
       exact .inl ⟨h1, fun h => h2 ⟨hki, h⟩⟩
   unfold wpOp;rw [ho];simp only
   have hgo := hm (fun k => k < n /\ k ∉ rem) us W hX hdp haf (fun h => h.2 hir) (aE a ds us 0) (fun j d hj => by
    have := fk us ds hnd a 0 j d hj (hs d (List.mem_of_getElem? hj))
    rwa [Nat.zero_add] at this) (fun d hd => cW us ds a 0 d hd) (wpAny P .any l.toArray Q (f + (l.toArray.size - n)) (listed.setIfInBounds i true)) key Q
   split
   .
    rename_i hw; rw [if_pos hw] at hgo; exact .inl hgo
   .
    rename_i hw; rw [if_neg hw] at hgo; exact hgo
/-- THE LAW. -/
theorem bk {id : Nat} {w : World} (n : Nat) (ds : List (Option Tmp)) (D A : List (List Nat)) (J : (Nat -> Prop) -> (Nat -> Value) -> World -> Prop) (hm : P.follows .mixedOrders = true) (hB : jB l.toArray n ds D A = true)
  (hd : ∀ d, some d ∈ ds -> d < a.tmps.size) (hJ : ∀ p q us W, (∀ k, p k ↔ q k) -> J p us W -> J q us W) (h0 : ∀ us, J (fun _ => False) us w.drew) (hop : GAllq P l.toArray J D A ds a 0 (l.take n))
  (hend : ∀ us W, J (fun k => k < n) us W -> wpList P l.toArray Q (l.drop n) (aE a ds us 0) W) : (Code.region id l.toArray true).wp P Q a w := by
 refine wp_region_any hm ?_;have hB' := hB;simp only [jB, Bool.and_eq_true, decide_eq_true_eq] at hB';obtain ⟨⟨⟨⟨⟨⟨hn, hl⟩, hnt⟩, _⟩, _⟩, _⟩, _⟩ := hB'
 have h := pI hB hd hJ hop hend n (List.range n) (Array.replicate l.toArray.size false) (fun j => a.tmps.getD ((ds.getD j none).getD 0) undef) w.drew (by simp) List.nodup_range
  ⟨by simp, fun j oj _ hl => (by rw [getD_replicate_false] at hl; cases hl), fun t _ ht => getD_in (by simpa using ht) (getD_replicate_false _ _)⟩
  (fun j hj => ⟨fun _ => List.mem_range.2 hj, fun _ => getD_in (by simp at hn |-; omega) (getD_replicate_false _ _)⟩) (fun j hj => List.mem_range.1 hj)
  (hJ _ _ _ _ (fun k => by simp) (h0 _))
 rw [dT ds a 0 _ hd (fun i d hi => by simp [List.getD, hi])] at h;have e : n + (l.toArray.size - n) = l.toArray.size := by omega
 rw [e] at h;exact h
end
/-- A local struct of a region: its cells are 'zs' until they are stored, then 'vs'. -/
structure Loc (w W : World) (T : TypeId) (zs vs : Array Value) (da dst : Prop) (v : Value) : Prop where
 ptr : da -> ∃ g, v = .pointer (some ⟨g, 0, none⟩) /\ w.heap.size <= g /\ (dst -> Blk W g T vs) /\ (¬ dst -> Blk W g T zs)
/-- Two addresses, if both are made, differ. -/
def qi (da db : Prop) (u v : Value) : Prop := da -> db -> u ≠ v
section
variable {w W W' : World} {T : TypeId} {zs vs : Array Value} {da dst da' dst' : Prop} {v u : Value}
theorem Loc.unmade (h : ¬ da) : Loc w W T zs vs da dst v := ⟨fun h' => absurd h' h⟩
theorem Loc.lt (h : Loc w W T zs vs da dst v) (hd : da) : ∃ g, v = .pointer (some ⟨g, 0, none⟩) /\ w.heap.size <= g /\ g < W.heap.size := by
 obtain ⟨g, h1, h2, h3, h4⟩ := h.ptr hd;refine ⟨g, h1, h2, ?_⟩
 by_cases hs : dst
 .
  exact (h3 hs).lt
 .
  exact (h4 hs).lt
theorem Loc.far_new (h : Loc w W T zs vs da dst v) (hd : da) : v ≠ .pointer (some ⟨W.heap.size, 0, Option.none⟩) := by
 obtain ⟨g, h1, _, h2⟩ := h.lt hd;intro e;rw [h1] at e;injection e with e;injection e with e;injection e with e1;omega
theorem Loc.stored (h : Loc w W T zs vs da dst v) (hd : da) (hs : ¬ dst) : ∃ g, v = .pointer (some ⟨g, 0, Option.none⟩) /\ w.heap.size <= g /\ Blk W g T zs := by
 obtain ⟨g, h1, h2, _, h4⟩ := h.ptr hd;exact ⟨g, h1, h2, h4 hs⟩
theorem Loc.done (h : Loc w W T zs vs da dst v) (hd : da) (hs : dst) : ∃ g, v = .pointer (some ⟨g, 0, Option.none⟩) /\ w.heap.size <= g /\ Blk W g T vs := by
 obtain ⟨g, h1, h2, h3, _⟩ := h.ptr hd;exact ⟨g, h1, h2, h3 hs⟩
theorem Loc.same (h : Loc w W T zs vs da dst v) (ha : da' ↔ da) (hs : dst' ↔ dst) : Loc w W T zs vs da' dst' v := by
 have e1 := propext ha;have e2 := propext hs;subst e1 e2;exact h
theorem Loc.ext (h : Loc w W T zs vs da dst v) (hX : Ext W W') : Loc w W' T zs vs da dst v := ⟨fun hd => by
 obtain ⟨g, h1, h2, h3, h4⟩ := h.ptr hd;exact ⟨g, h1, h2, fun h => (h3 h).ext hX, fun h => (h4 h).ext hX⟩⟩
theorem Loc.new (w W : World) (hw : Ext w W) (hs : ¬ dst) (hX : Ext (W.alloc (.cells zs T)) W') : Loc w W' T zs vs da dst (.pointer (some ⟨W.heap.size, 0, none⟩)) :=
 ⟨fun _ => ⟨_, rfl, hw.size, fun h => absurd h hs, fun _ => (Blk.new W T zs).ext hX⟩⟩
theorem Loc.keep (h : Loc w W T zs vs da dst v) {g : Nat} {f : qi da da' v u} (hu : da') (e : u = .pointer (some ⟨g, 0, none⟩)) {i : Nat} {x : Value} : Loc w (W.setCell ⟨g, i, none⟩ x) T zs vs da dst v := ⟨fun hd => by
 obtain ⟨g', h1, h2, h3, h4⟩ := h.ptr hd
 have hne : g' ≠ g := by
  intro e';subst e';exact f hd hu (by rw [h1, e])
 exact ⟨g', h1, h2, fun h => (h3 h).far hne _, fun h => (h4 h).far hne _⟩⟩
end
end Go.Proofs.Ytikhlcgnlbinfaa
