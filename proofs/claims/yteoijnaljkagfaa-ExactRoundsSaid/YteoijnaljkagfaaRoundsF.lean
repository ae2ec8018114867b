/- Lemmas of the proof that follows (Rounds, part 6): walks of functions by contract, and plain lemmas. Conditions: none. -/
import Derived.Test.YteoijnaljkagfaaRoundsE
namespace Go.Proofs.Yteoijnaljkagfaa
open Go.RowKit

/-- A rational number of the reference. -/
def QZ (w : World) (v : Value) (q : Rat) : Prop := ∃ b A l c B m k, v = .agg #[.bool b, .slice A l c, .slice B m k] ∧ b = decide (q.num < 0) ∧ Z16 w (.slice A l c) q.num.natAbs ∧ Z16 w (.slice B m k) q.den
theorem QZ.ext {w w' : World} {v : Value} {q : Rat} (h : QZ w v q) (he : Ext w w') : QZ w' v q := by
  obtain ⟨b, A, l, c, B, m, k, h0, h1, h2, h3⟩ := h
  exact ⟨b, A, l, c, B, m, k, h0, h1, h2.ext he, h3.ext he⟩
theorem QZ.open {w : World} {v : Value} {q : Rat} (h : QZ w v q) : ∃ b A l c B m k, v = .agg #[.bool b, .slice A l c, .slice B m k] := by
  obtain ⟨b, A, l, c, B, m, k, h0, _⟩ := h
  exact ⟨b, A, l, c, B, m, k, h0⟩
section
variable {w : World} {b : Bool} {A B : Option Addr} {l c m k : Nat} {q : Rat}
theorem QZ.num (h : QZ w (.agg #[.bool b, .slice A l c, .slice B m k]) q) : IntZ w (.agg #[.bool b, .slice A l c]) q.num := by
  obtain ⟨b', A', l', c', B', m', k', e, h1, h2, h3⟩ := h
  simp only [Value.agg.injEq, Array.mk.injEq, List.cons.injEq, Value.bool.injEq, Value.slice.injEq, and_true] at e
  obtain ⟨rfl, ⟨rfl, rfl, rfl⟩, rfl, rfl, rfl⟩ := e
  exact ⟨_, _, _, by rw [h1], h2⟩
theorem QZ.sgn (h : QZ w (.agg #[.bool b, .slice A l c, .slice B m k]) q) : b = decide (q.num < 0) := by
  obtain ⟨b', A', l', c', B', m', k', e, h1, h2, h3⟩ := h
  simp only [Value.agg.injEq, Array.mk.injEq, List.cons.injEq, Value.bool.injEq, Value.slice.injEq, and_true] at e
  rw [e.1, h1]
theorem QZ.nat (h : QZ w (.agg #[.bool b, .slice A l c, .slice B m k]) q) : Z16 w (.slice A l c) q.num.natAbs := by
  obtain ⟨b', A', l', c', B', m', k', e, h1, h2, h3⟩ := h
  simp only [Value.agg.injEq, Array.mk.injEq, List.cons.injEq, Value.bool.injEq, Value.slice.injEq, and_true] at e
  obtain ⟨rfl, ⟨rfl, rfl, rfl⟩, rfl, rfl, rfl⟩ := e
  exact h2
theorem QZ.den (h : QZ w (.agg #[.bool b, .slice A l c, .slice B m k]) q) : Z16 w (.slice B m k) q.den := by
  obtain ⟨b', A', l', c', B', m', k', e, h1, h2, h3⟩ := h
  simp only [Value.agg.injEq, Array.mk.injEq, List.cons.injEq, Value.bool.injEq, Value.slice.injEq, and_true] at e
  obtain ⟨rfl, ⟨rfl, rfl, rfl⟩, rfl, rfl, rfl⟩ := e
  exact h3
theorem QZ.past (h : QZ w (.agg #[.bool b, .slice A l c, .slice B m k]) q) {g : Nat} (hN : NoInts w g) : QZ (((w.setCell ⟨g, 0, none⟩ (.bool b)).setCell ⟨g, 1, none⟩ (.slice A l c)).setCell ⟨g, 2, none⟩ (.slice B m k)) (.agg #[.bool b, .slice A l c, .slice B m k]) q :=
  ⟨_, _, _, _, _, _, _, rfl, h.sgn, h.nat.box3 hN _ _ _ _ _ _ _, h.den.box3 hN _ _ _ _ _ _ _⟩
end
/-- What a call returns that makes a rational number. -/
def RetQz (w : World) (q : Rat) (e : Ending) (w' : World) : Prop := ∃ v, e = .returned v ∧ QZ w' v q ∧ Ext w w'
/-- How many limbs a rational number has. -/
def FitR (q : Rat) (L : Nat) : Prop := Fit 65536 q.num.natAbs L ∧ Fit 65536 q.den L
theorem FitR.mono {q : Rat} {L M : Nat} (h : FitR q L) (k : L ≤ M) : FitR q M := ⟨h.1.mono (by omega) k, h.2.mono (by omega) k⟩
theorem RetQz.of {w : World} {q r : Rat} (h : q = r) : ∀ e w', RetQz w q e w' → RetQz w r e w' := by rintro e w' ⟨v, h1, h2, h3⟩; exact ⟨v, h1, h ▸ h2, h3⟩
theorem fitR_neg {q : Rat} {L : Nat} (h : FitR q L) : FitR (-q) L := ⟨by rw [Rat.neg_num, Int.natAbs_neg]; exact h.1, by rw [Rat.neg_den]; exact h.2⟩
set_option maxRecDepth 100000 in
set_option maxHeartbeats 2000000 in
theorem frac_pos (s1 : Bool) (A0 A1 : Option Addr) (l0 c0 l1 c1 n0 n1 L : Nat) (w : World) (hx : Z16 w (.slice A0 l0 c0) n0) (hy : Z16 w (.slice A1 l1 c1) n1) (fn : Fit 65536 n0 L) (fm : Fit 65536 n1 L) (hL : L ≤ 400000) (hd : 0 < n1)  :
    Calls Try.prog 81 #[.agg #[.bool false, .slice A0 l0 c0], .agg #[.bool s1, .slice A1 l1 c1]] w (RetQz w (ratV false n0 n1)) := by
  have HXX := Lib.hid hx
  have HYY := Lib.hid hy
  have HFN := Lib.hid fn
  have HFM := Lib.hid fm
  have HD := Lib.hid hd
  have hg : 0 < Nat.gcd n0 n1 := Nat.gcd_pos_of_pos_right n0 hd
  have hneg : Hid (decide ((ratV false n0 n1).num < 0) = false) := by
    show _ = _
    rw [(ratV_neg false n0 n1 hd).1]
    rfl
  have HAB := Lib.hid (ratV_neg false n0 n1 hd).2
  have HDN := Lib.hid (ratV_red false n0 n1 hd).2
  obtain ⟨g, hge⟩ : ∃ g, Nat.gcd n0 n1 = g := ⟨_, rfl⟩
  obtain ⟨q, hq⟩ : ∃ q, n0 / Nat.gcd n0 n1 = q := ⟨_, rfl⟩
  obtain ⟨r, hr⟩ : ∃ r, n1 / Nat.gcd n0 n1 = r := ⟨_, rfl⟩
  rw [hq] at HAB
  rw [hr] at HDN
  rw [hge] at hq hr hg
  have HGE := Lib.hid hge
  have HQ := Lib.hid hq
  have HR := Lib.hid hr
  have HGP := Lib.hid hg
  clear hx hy fn fm hd hge hq hr hg
  have hXe : Ext w (((w.alloc (.cells #[.bool false, .slice A0 l0 c0] 40)).alloc (.cells #[.bool s1, .slice A1 l1 c1] 40)).alloc (.cells #[.bool false, .slice none 0 0, .slice none 0 0] 42)) := ((((Ext.refl w).alloc _).alloc _).alloc _)
  have kA : Blk (((w.alloc (.cells #[.bool false, .slice A0 l0 c0] 40)).alloc (.cells #[.bool s1, .slice A1 l1 c1] 40)).alloc (.cells #[.bool false, .slice none 0 0, .slice none 0 0] 42)) w.heap.size 40 #[.bool false, .slice A0 l0 c0] := Blk.alloc (Blk.alloc (Blk.at_ (by simp)) _) _
  have kB : Blk (((w.alloc (.cells #[.bool false, .slice A0 l0 c0] 40)).alloc (.cells #[.bool s1, .slice A1 l1 c1] 40)).alloc (.cells #[.bool false, .slice none 0 0, .slice none 0 0] 42)) (w.heap.size + 1) 40 #[.bool s1, .slice A1 l1 c1] := Blk.alloc (Blk.at_ (by simp)) _
  have kR : Blk (((w.alloc (.cells #[.bool false, .slice A0 l0 c0] 40)).alloc (.cells #[.bool s1, .slice A1 l1 c1] 40)).alloc (.cells #[.bool false, .slice none 0 0, .slice none 0 0] 42)) (w.heap.size + 2) 42 #[.bool false, .slice none 0 0, .slice none 0 0] := Blk.at_ (by simp)
  go_enter Try.func81, Try.ntmps81
  go_wp2_with fail
  generalize (((w.alloc (.cells #[.bool false, .slice A0 l0 c0] 40)).alloc (.cells #[.bool s1, .slice A1 l1 c1] 40)).alloc (.cells #[.bool false, .slice none 0 0, .slice none 0 0] 42)) = w1 at hXe kA kB kR ⊢
  have HX := Lib.hid hXe
  clear hXe
  have KA := Lib.hid kA
  clear kA
  have KB := Lib.hid kB
  clear kB
  have KR := Lib.hid kR
  clear kR
  replace HXX := Lib.hid (HXX.out.ext HX.out)
  replace HYY := Lib.hid (HYY.out.ext HX.out)
  have cA0 : w1.cell? ⟨w.heap.size, 0, none⟩ = some (.bool false) := KA.out.cell 0
  have cA1 : w1.cell? ⟨w.heap.size, 1, none⟩ = some (.slice A0 l0 c0) := KA.out.cell 1
  have cB0 : w1.cell? ⟨(w.heap.size + 1), 0, none⟩ = some (.bool s1) := KB.out.cell 0
  have cB1 : w1.cell? ⟨(w.heap.size + 1), 1, none⟩ = some (.slice A1 l1 c1) := KB.out.cell 1
  go_wp2_with fail
  clear cA0 cA1 cB0 cB1
  refine (gcd16_any _ _ n0 n1 L _ HXX.out HYY.out HFN.out HFM.out hL).mono ?_
  rw [HGE.out]
  rintro e w2 ⟨v6, rfl, h6, hX⟩
  replace hX : Ext w1 w2 := by with_reducible exact hX
  replace HX := Lib.hid (HX.out.trans hX)
  replace HXX := Lib.hid (HXX.out.ext hX)
  replace HYY := Lib.hid (HYY.out.ext hX)
  replace KA := Lib.hid (KA.out.ext hX)
  replace KB := Lib.hid (KB.out.ext hX)
  replace KR := Lib.hid (KR.out.ext hX)
  clear hX
  have HG := Lib.hid h6
  clear h6
  have cA0 : w2.cell? ⟨w.heap.size, 0, none⟩ = some (.bool false) := KA.out.cell 0
  have cA1 : w2.cell? ⟨w.heap.size, 1, none⟩ = some (.slice A0 l0 c0) := KA.out.cell 1
  have cB0 : w2.cell? ⟨(w.heap.size + 1), 0, none⟩ = some (.bool s1) := KB.out.cell 0
  have cB1 : w2.cell? ⟨(w.heap.size + 1), 1, none⟩ = some (.slice A1 l1 c1) := KB.out.cell 1
  go_wp2_with fail
  clear cA0 cA1 cB0 cB1
  refine (divide_any _ _ n0 g L _ HXX.out HG.out HFN.out hL HGP.out).mono ?_
  rw [HQ.out]
  rintro e w3 ⟨v7, v7', rfl, h7, h7', hX⟩
  replace hX : Ext w2 w3 := by with_reducible exact hX
  replace HX := Lib.hid (HX.out.trans hX)
  replace HXX := Lib.hid (HXX.out.ext hX)
  replace HYY := Lib.hid (HYY.out.ext hX)
  replace HG := Lib.hid (HG.out.ext hX)
  replace KA := Lib.hid (KA.out.ext hX)
  replace KB := Lib.hid (KB.out.ext hX)
  replace KR := Lib.hid (KR.out.ext hX)
  clear hX
  obtain ⟨A7, l7, c7, rfl, hv7, hz7⟩ := Z16.open h7
  have HV := Lib.hid hv7
  clear h7 h7' hv7
  clear hz7
  have cA0 : w3.cell? ⟨w.heap.size, 0, none⟩ = some (.bool false) := KA.out.cell 0
  have cA1 : w3.cell? ⟨w.heap.size, 1, none⟩ = some (.slice A0 l0 c0) := KA.out.cell 1
  have cB0 : w3.cell? ⟨(w.heap.size + 1), 0, none⟩ = some (.bool s1) := KB.out.cell 0
  have cB1 : w3.cell? ⟨(w.heap.size + 1), 1, none⟩ = some (.slice A1 l1 c1) := KB.out.cell 1
  go_wp2_with fail
  clear cA0 cA1 cB0 cB1
  refine (divide_any _ _ n1 g L _ HYY.out HG.out HFM.out hL HGP.out).mono ?_
  rw [HR.out]
  rintro e w4 ⟨v8, v8', rfl, h8, h8', hX⟩
  replace hX : Ext w3 w4 := by with_reducible exact hX
  replace HX := Lib.hid (HX.out.trans hX)
  replace HXX := Lib.hid (HXX.out.ext hX)
  replace HYY := Lib.hid (HYY.out.ext hX)
  replace HG := Lib.hid (HG.out.ext hX)
  replace HV := Lib.hid (HV.out.ext hX)
  replace KA := Lib.hid (KA.out.ext hX)
  replace KB := Lib.hid (KB.out.ext hX)
  replace KR := Lib.hid (KR.out.ext hX)
  clear hX
  obtain ⟨A8, l8, c8, rfl, hv8, _⟩ := Z16.open h8
  have HW := Lib.hid hv8
  clear h8 h8' hv8
  have HNI := Lib.hid (NoInts.three KR.out)
  have cA0 : w4.cell? ⟨w.heap.size, 0, none⟩ = some (.bool false) := KA.out.cell 0
  have cA1 : w4.cell? ⟨w.heap.size, 1, none⟩ = some (.slice A0 l0 c0) := KA.out.cell 1
  have cR0 : w4.cell? ⟨(w.heap.size + 2), 0, none⟩ = some (.bool false) := KR.out.cell 0
  have fR0 : w4.frozen? ⟨(w.heap.size + 2), 0, none⟩ = false := KR.out.free 0
  have cR1 : w4.cell? ⟨(w.heap.size + 2), 1, none⟩ = some (.slice none 0 0) := KR.out.cell 1
  have fR1 : w4.frozen? ⟨(w.heap.size + 2), 1, none⟩ = false := KR.out.free 1
  have cR2 : w4.cell? ⟨(w.heap.size + 2), 2, none⟩ = some (.slice none 0 0) := KR.out.cell 2
  have fR2 : w4.frozen? ⟨(w.heap.size + 2), 2, none⟩ = false := KR.out.free 2
  go_wp2
  refine bodyPost_ret (v := .agg #[.bool false, .slice A7 l7 c7, .slice A8 l8 c8]) (by simp [results, Try.results81, go_sem, *]) rfl ?_
  exact ⟨_, rfl, ⟨_, _, _, _, _, _, _, rfl, hneg.out.symm, by rw [HAB.out]; exact HV.out.box3 HNI.out _ _ _ _ _ _ _, by rw [HDN.out]; exact HW.out.box3 HNI.out _ _ _ _ _ _ _⟩, Ext.boxed HX.out (by omega) _ _ _⟩

set_option maxRecDepth 100000 in
set_option maxHeartbeats 2000000 in
theorem frac_neg (s1 : Bool) (A0 A1 : Option Addr) (l0 c0 l1 c1 n0 n1 L : Nat) (w : World) (hx : Z16 w (.slice A0 l0 c0) n0) (hy : Z16 w (.slice A1 l1 c1) n1) (fn : Fit 65536 n0 L) (fm : Fit 65536 n1 L) (hL : L ≤ 400000) (hd : 0 < n1) (hn : 0 < n0) :
    Calls Try.prog 81 #[.agg #[.bool true, .slice A0 l0 c0], .agg #[.bool s1, .slice A1 l1 c1]] w (RetQz w (ratV true n0 n1)) := by
  have HXX := Lib.hid hx
  have HYY := Lib.hid hy
  have HFN := Lib.hid fn
  have HFM := Lib.hid fm
  have HD := Lib.hid hd
  have hg : 0 < Nat.gcd n0 n1 := Nat.gcd_pos_of_pos_right n0 hd
  have hneg : Hid (decide ((ratV true n0 n1).num < 0) = true) := by
    show _ = _
    rw [(ratV_neg true n0 n1 hd).1]
    exact nz_pos _ (by omega)
  have HAB := Lib.hid (ratV_neg true n0 n1 hd).2
  have HDN := Lib.hid (ratV_red true n0 n1 hd).2
  have hq0 : 0 < n0 / Nat.gcd n0 n1 := Nat.div_pos (Nat.le_of_dvd hn (Nat.gcd_dvd_left _ _)) hg
  obtain ⟨g, hge⟩ : ∃ g, Nat.gcd n0 n1 = g := ⟨_, rfl⟩
  obtain ⟨q, hq⟩ : ∃ q, n0 / Nat.gcd n0 n1 = q := ⟨_, rfl⟩
  obtain ⟨r, hr⟩ : ∃ r, n1 / Nat.gcd n0 n1 = r := ⟨_, rfl⟩
  rw [hq] at HAB
  rw [hq] at hq0
  rw [hr] at HDN
  rw [hge] at hq hr hg
  have HGE := Lib.hid hge
  have HQ := Lib.hid hq
  have HR := Lib.hid hr
  have HGP := Lib.hid hg
  clear hx hy fn fm hd hge hq hr hg
  clear hn
  have hXe : Ext w (((w.alloc (.cells #[.bool true, .slice A0 l0 c0] 40)).alloc (.cells #[.bool s1, .slice A1 l1 c1] 40)).alloc (.cells #[.bool false, .slice none 0 0, .slice none 0 0] 42)) := ((((Ext.refl w).alloc _).alloc _).alloc _)
  have kA : Blk (((w.alloc (.cells #[.bool true, .slice A0 l0 c0] 40)).alloc (.cells #[.bool s1, .slice A1 l1 c1] 40)).alloc (.cells #[.bool false, .slice none 0 0, .slice none 0 0] 42)) w.heap.size 40 #[.bool true, .slice A0 l0 c0] := Blk.alloc (Blk.alloc (Blk.at_ (by simp)) _) _
  have kB : Blk (((w.alloc (.cells #[.bool true, .slice A0 l0 c0] 40)).alloc (.cells #[.bool s1, .slice A1 l1 c1] 40)).alloc (.cells #[.bool false, .slice none 0 0, .slice none 0 0] 42)) (w.heap.size + 1) 40 #[.bool s1, .slice A1 l1 c1] := Blk.alloc (Blk.at_ (by simp)) _
  have kR : Blk (((w.alloc (.cells #[.bool true, .slice A0 l0 c0] 40)).alloc (.cells #[.bool s1, .slice A1 l1 c1] 40)).alloc (.cells #[.bool false, .slice none 0 0, .slice none 0 0] 42)) (w.heap.size + 2) 42 #[.bool false, .slice none 0 0, .slice none 0 0] := Blk.at_ (by simp)
  go_enter Try.func81, Try.ntmps81
  go_wp2_with fail
  generalize (((w.alloc (.cells #[.bool true, .slice A0 l0 c0] 40)).alloc (.cells #[.bool s1, .slice A1 l1 c1] 40)).alloc (.cells #[.bool false, .slice none 0 0, .slice none 0 0] 42)) = w1 at hXe kA kB kR ⊢
  have HX := Lib.hid hXe
  clear hXe
  have KA := Lib.hid kA
  clear kA
  have KB := Lib.hid kB
  clear kB
  have KR := Lib.hid kR
  clear kR
  replace HXX := Lib.hid (HXX.out.ext HX.out)
  replace HYY := Lib.hid (HYY.out.ext HX.out)
  have cA0 : w1.cell? ⟨w.heap.size, 0, none⟩ = some (.bool true) := KA.out.cell 0
  have cA1 : w1.cell? ⟨w.heap.size, 1, none⟩ = some (.slice A0 l0 c0) := KA.out.cell 1
  have cB0 : w1.cell? ⟨(w.heap.size + 1), 0, none⟩ = some (.bool s1) := KB.out.cell 0
  have cB1 : w1.cell? ⟨(w.heap.size + 1), 1, none⟩ = some (.slice A1 l1 c1) := KB.out.cell 1
  go_wp2_with fail
  clear cA0 cA1 cB0 cB1
  refine (gcd16_any _ _ n0 n1 L _ HXX.out HYY.out HFN.out HFM.out hL).mono ?_
  rw [HGE.out]
  rintro e w2 ⟨v6, rfl, h6, hX⟩
  replace hX : Ext w1 w2 := by with_reducible exact hX
  replace HX := Lib.hid (HX.out.trans hX)
  replace HXX := Lib.hid (HXX.out.ext hX)
  replace HYY := Lib.hid (HYY.out.ext hX)
  replace KA := Lib.hid (KA.out.ext hX)
  replace KB := Lib.hid (KB.out.ext hX)
  replace KR := Lib.hid (KR.out.ext hX)
  clear hX
  have HG := Lib.hid h6
  clear h6
  have cA0 : w2.cell? ⟨w.heap.size, 0, none⟩ = some (.bool true) := KA.out.cell 0
  have cA1 : w2.cell? ⟨w.heap.size, 1, none⟩ = some (.slice A0 l0 c0) := KA.out.cell 1
  have cB0 : w2.cell? ⟨(w.heap.size + 1), 0, none⟩ = some (.bool s1) := KB.out.cell 0
  have cB1 : w2.cell? ⟨(w.heap.size + 1), 1, none⟩ = some (.slice A1 l1 c1) := KB.out.cell 1
  go_wp2_with fail
  clear cA0 cA1 cB0 cB1
  refine (divide_any _ _ n0 g L _ HXX.out HG.out HFN.out hL HGP.out).mono ?_
  rw [HQ.out]
  rintro e w3 ⟨v7, v7', rfl, h7, h7', hX⟩
  replace hX : Ext w2 w3 := by with_reducible exact hX
  replace HX := Lib.hid (HX.out.trans hX)
  replace HXX := Lib.hid (HXX.out.ext hX)
  replace HYY := Lib.hid (HYY.out.ext hX)
  replace HG := Lib.hid (HG.out.ext hX)
  replace KA := Lib.hid (KA.out.ext hX)
  replace KB := Lib.hid (KB.out.ext hX)
  replace KR := Lib.hid (KR.out.ext hX)
  clear hX
  obtain ⟨A7, l7, c7, rfl, hv7, hz7⟩ := Z16.open h7
  have HV := Lib.hid hv7
  clear h7 h7' hv7
  have hl7 : (0 : Int) < (l7 : Int) := by
    rcases Nat.eq_zero_or_pos l7 with h | h
    · have := hz7.1 h; omega
    · omega
  have hl7' : 0 < l7 := by omega
  clear hz7
  have cA0 : w3.cell? ⟨w.heap.size, 0, none⟩ = some (.bool true) := KA.out.cell 0
  have cA1 : w3.cell? ⟨w.heap.size, 1, none⟩ = some (.slice A0 l0 c0) := KA.out.cell 1
  have cB0 : w3.cell? ⟨(w.heap.size + 1), 0, none⟩ = some (.bool s1) := KB.out.cell 0
  have cB1 : w3.cell? ⟨(w.heap.size + 1), 1, none⟩ = some (.slice A1 l1 c1) := KB.out.cell 1
  go_wp2_with fail
  clear cA0 cA1 cB0 cB1
  refine (divide_any _ _ n1 g L _ HYY.out HG.out HFM.out hL HGP.out).mono ?_
  rw [HR.out]
  rintro e w4 ⟨v8, v8', rfl, h8, h8', hX⟩
  replace hX : Ext w3 w4 := by with_reducible exact hX
  replace HX := Lib.hid (HX.out.trans hX)
  replace HXX := Lib.hid (HXX.out.ext hX)
  replace HYY := Lib.hid (HYY.out.ext hX)
  replace HG := Lib.hid (HG.out.ext hX)
  replace HV := Lib.hid (HV.out.ext hX)
  replace KA := Lib.hid (KA.out.ext hX)
  replace KB := Lib.hid (KB.out.ext hX)
  replace KR := Lib.hid (KR.out.ext hX)
  clear hX
  obtain ⟨A8, l8, c8, rfl, hv8, _⟩ := Z16.open h8
  have HW := Lib.hid hv8
  clear h8 h8' hv8
  have HNI := Lib.hid (NoInts.three KR.out)
  have cA0 : w4.cell? ⟨w.heap.size, 0, none⟩ = some (.bool true) := KA.out.cell 0
  have cA1 : w4.cell? ⟨w.heap.size, 1, none⟩ = some (.slice A0 l0 c0) := KA.out.cell 1
  have cR0 : w4.cell? ⟨(w.heap.size + 2), 0, none⟩ = some (.bool false) := KR.out.cell 0
  have fR0 : w4.frozen? ⟨(w.heap.size + 2), 0, none⟩ = false := KR.out.free 0
  have cR1 : w4.cell? ⟨(w.heap.size + 2), 1, none⟩ = some (.slice none 0 0) := KR.out.cell 1
  have fR1 : w4.frozen? ⟨(w.heap.size + 2), 1, none⟩ = false := KR.out.free 1
  have cR2 : w4.cell? ⟨(w.heap.size + 2), 2, none⟩ = some (.slice none 0 0) := KR.out.cell 2
  have fR2 : w4.frozen? ⟨(w.heap.size + 2), 2, none⟩ = false := KR.out.free 2
  go_wp2
  refine bodyPost_ret (v := .agg #[.bool true, .slice A7 l7 c7, .slice A8 l8 c8]) (by simp [results, Try.results81, go_sem, *]) rfl ?_
  exact ⟨_, rfl, ⟨_, _, _, _, _, _, _, rfl, hneg.out.symm, by rw [HAB.out]; exact HV.out.box3 HNI.out _ _ _ _ _ _ _, by rw [HDN.out]; exact HW.out.box3 HNI.out _ _ _ _ _ _ _⟩, Ext.boxed HX.out (by omega) _ _ _⟩

set_option maxRecDepth 100000 in
set_option maxHeartbeats 2000000 in
theorem frac_zero (s1 : Bool) (A0 A1 : Option Addr) (l0 c0 l1 c1 n0 n1 L : Nat) (w : World) (hx : Z16 w (.slice A0 l0 c0) n0) (hy : Z16 w (.slice A1 l1 c1) n1) (fn : Fit 65536 n0 L) (fm : Fit 65536 n1 L) (hL : L ≤ 400000) (hd : 0 < n1) (hn : n0 = 0) :
    Calls Try.prog 81 #[.agg #[.bool true, .slice A0 l0 c0], .agg #[.bool s1, .slice A1 l1 c1]] w (RetQz w (ratV true n0 n1)) := by
  have HXX := Lib.hid hx
  have HYY := Lib.hid hy
  have HFN := Lib.hid fn
  have HFM := Lib.hid fm
  have HD := Lib.hid hd
  have hg : 0 < Nat.gcd n0 n1 := Nat.gcd_pos_of_pos_right n0 hd
  have hneg : Hid (decide ((ratV true n0 n1).num < 0) = false) := by
    show _ = _
    rw [(ratV_neg true n0 n1 hd).1]
    rw [hn]; rfl
  have HAB := Lib.hid (ratV_neg true n0 n1 hd).2
  have HDN := Lib.hid (ratV_red true n0 n1 hd).2
  have hq0 : n0 / Nat.gcd n0 n1 = 0 := by rw [hn]; simp
  obtain ⟨g, hge⟩ : ∃ g, Nat.gcd n0 n1 = g := ⟨_, rfl⟩
  obtain ⟨q, hq⟩ : ∃ q, n0 / Nat.gcd n0 n1 = q := ⟨_, rfl⟩
  obtain ⟨r, hr⟩ : ∃ r, n1 / Nat.gcd n0 n1 = r := ⟨_, rfl⟩
  rw [hq] at HAB
  rw [hq] at hq0
  rw [hr] at HDN
  rw [hge] at hq hr hg
  have HGE := Lib.hid hge
  have HQ := Lib.hid hq
  have HR := Lib.hid hr
  have HGP := Lib.hid hg
  clear hx hy fn fm hd hge hq hr hg
  clear hn
  have hXe : Ext w (((w.alloc (.cells #[.bool true, .slice A0 l0 c0] 40)).alloc (.cells #[.bool s1, .slice A1 l1 c1] 40)).alloc (.cells #[.bool false, .slice none 0 0, .slice none 0 0] 42)) := ((((Ext.refl w).alloc _).alloc _).alloc _)
  have kA : Blk (((w.alloc (.cells #[.bool true, .slice A0 l0 c0] 40)).alloc (.cells #[.bool s1, .slice A1 l1 c1] 40)).alloc (.cells #[.bool false, .slice none 0 0, .slice none 0 0] 42)) w.heap.size 40 #[.bool true, .slice A0 l0 c0] := Blk.alloc (Blk.alloc (Blk.at_ (by simp)) _) _
  have kB : Blk (((w.alloc (.cells #[.bool true, .slice A0 l0 c0] 40)).alloc (.cells #[.bool s1, .slice A1 l1 c1] 40)).alloc (.cells #[.bool false, .slice none 0 0, .slice none 0 0] 42)) (w.heap.size + 1) 40 #[.bool s1, .slice A1 l1 c1] := Blk.alloc (Blk.at_ (by simp)) _
  have kR : Blk (((w.alloc (.cells #[.bool true, .slice A0 l0 c0] 40)).alloc (.cells #[.bool s1, .slice A1 l1 c1] 40)).alloc (.cells #[.bool false, .slice none 0 0, .slice none 0 0] 42)) (w.heap.size + 2) 42 #[.bool false, .slice none 0 0, .slice none 0 0] := Blk.at_ (by simp)
  go_enter Try.func81, Try.ntmps81
  go_wp2_with fail
  generalize (((w.alloc (.cells #[.bool true, .slice A0 l0 c0] 40)).alloc (.cells #[.bool s1, .slice A1 l1 c1] 40)).alloc (.cells #[.bool false, .slice none 0 0, .slice none 0 0] 42)) = w1 at hXe kA kB kR ⊢
  have HX := Lib.hid hXe
  clear hXe
  have KA := Lib.hid kA
  clear kA
  have KB := Lib.hid kB
  clear kB
  have KR := Lib.hid kR
  clear kR
  replace HXX := Lib.hid (HXX.out.ext HX.out)
  replace HYY := Lib.hid (HYY.out.ext HX.out)
  have cA0 : w1.cell? ⟨w.heap.size, 0, none⟩ = some (.bool true) := KA.out.cell 0
  have cA1 : w1.cell? ⟨w.heap.size, 1, none⟩ = some (.slice A0 l0 c0) := KA.out.cell 1
  have cB0 : w1.cell? ⟨(w.heap.size + 1), 0, none⟩ = some (.bool s1) := KB.out.cell 0
  have cB1 : w1.cell? ⟨(w.heap.size + 1), 1, none⟩ = some (.slice A1 l1 c1) := KB.out.cell 1
  go_wp2_with fail
  clear cA0 cA1 cB0 cB1
  refine (gcd16_any _ _ n0 n1 L _ HXX.out HYY.out HFN.out HFM.out hL).mono ?_
  rw [HGE.out]
  rintro e w2 ⟨v6, rfl, h6, hX⟩
  replace hX : Ext w1 w2 := by with_reducible exact hX
  replace HX := Lib.hid (HX.out.trans hX)
  replace HXX := Lib.hid (HXX.out.ext hX)
  replace HYY := Lib.hid (HYY.out.ext hX)
  replace KA := Lib.hid (KA.out.ext hX)
  replace KB := Lib.hid (KB.out.ext hX)
  replace KR := Lib.hid (KR.out.ext hX)
  clear hX
  have HG := Lib.hid h6
  clear h6
  have cA0 : w2.cell? ⟨w.heap.size, 0, none⟩ = some (.bool true) := KA.out.cell 0
  have cA1 : w2.cell? ⟨w.heap.size, 1, none⟩ = some (.slice A0 l0 c0) := KA.out.cell 1
  have cB0 : w2.cell? ⟨(w.heap.size + 1), 0, none⟩ = some (.bool s1) := KB.out.cell 0
  have cB1 : w2.cell? ⟨(w.heap.size + 1), 1, none⟩ = some (.slice A1 l1 c1) := KB.out.cell 1
  go_wp2_with fail
  clear cA0 cA1 cB0 cB1
  refine (divide_any _ _ n0 g L _ HXX.out HG.out HFN.out hL HGP.out).mono ?_
  rw [HQ.out]
  rintro e w3 ⟨v7, v7', rfl, h7, h7', hX⟩
  replace hX : Ext w2 w3 := by with_reducible exact hX
  replace HX := Lib.hid (HX.out.trans hX)
  replace HXX := Lib.hid (HXX.out.ext hX)
  replace HYY := Lib.hid (HYY.out.ext hX)
  replace HG := Lib.hid (HG.out.ext hX)
  replace KA := Lib.hid (KA.out.ext hX)
  replace KB := Lib.hid (KB.out.ext hX)
  replace KR := Lib.hid (KR.out.ext hX)
  clear hX
  obtain ⟨A7, l7, c7, rfl, hv7, hz7⟩ := Z16.open h7
  have HV := Lib.hid hv7
  clear h7 h7' hv7
  obtain rfl : l7 = 0 := hz7.2 hq0
  clear hz7
  have cA0 : w3.cell? ⟨w.heap.size, 0, none⟩ = some (.bool true) := KA.out.cell 0
  have cA1 : w3.cell? ⟨w.heap.size, 1, none⟩ = some (.slice A0 l0 c0) := KA.out.cell 1
  have cB0 : w3.cell? ⟨(w.heap.size + 1), 0, none⟩ = some (.bool s1) := KB.out.cell 0
  have cB1 : w3.cell? ⟨(w.heap.size + 1), 1, none⟩ = some (.slice A1 l1 c1) := KB.out.cell 1
  go_wp2_with fail
  clear cA0 cA1 cB0 cB1
  refine (divide_any _ _ n1 g L _ HYY.out HG.out HFM.out hL HGP.out).mono ?_
  rw [HR.out]
  rintro e w4 ⟨v8, v8', rfl, h8, h8', hX⟩
  replace hX : Ext w3 w4 := by with_reducible exact hX
  replace HX := Lib.hid (HX.out.trans hX)
  replace HXX := Lib.hid (HXX.out.ext hX)
  replace HYY := Lib.hid (HYY.out.ext hX)
  replace HG := Lib.hid (HG.out.ext hX)
  replace HV := Lib.hid (HV.out.ext hX)
  replace KA := Lib.hid (KA.out.ext hX)
  replace KB := Lib.hid (KB.out.ext hX)
  replace KR := Lib.hid (KR.out.ext hX)
  clear hX
  obtain ⟨A8, l8, c8, rfl, hv8, _⟩ := Z16.open h8
  have HW := Lib.hid hv8
  clear h8 h8' hv8
  have HNI := Lib.hid (NoInts.three KR.out)
  have cA0 : w4.cell? ⟨w.heap.size, 0, none⟩ = some (.bool true) := KA.out.cell 0
  have cA1 : w4.cell? ⟨w.heap.size, 1, none⟩ = some (.slice A0 l0 c0) := KA.out.cell 1
  have cR0 : w4.cell? ⟨(w.heap.size + 2), 0, none⟩ = some (.bool false) := KR.out.cell 0
  have fR0 : w4.frozen? ⟨(w.heap.size + 2), 0, none⟩ = false := KR.out.free 0
  have cR1 : w4.cell? ⟨(w.heap.size + 2), 1, none⟩ = some (.slice none 0 0) := KR.out.cell 1
  have fR1 : w4.frozen? ⟨(w.heap.size + 2), 1, none⟩ = false := KR.out.free 1
  have cR2 : w4.cell? ⟨(w.heap.size + 2), 2, none⟩ = some (.slice none 0 0) := KR.out.cell 2
  have fR2 : w4.frozen? ⟨(w.heap.size + 2), 2, none⟩ = false := KR.out.free 2
  go_wp2
  refine bodyPost_ret (v := .agg #[.bool false, .slice A7 0 c7, .slice A8 l8 c8]) (by simp [results, Try.results81, go_sem, *]) rfl ?_
  exact ⟨_, rfl, ⟨_, _, _, _, _, _, _, rfl, hneg.out.symm, by rw [HAB.out]; exact HV.out.box3 HNI.out _ _ _ _ _ _ _, by rw [HDN.out]; exact HW.out.box3 HNI.out _ _ _ _ _ _ _⟩, Ext.boxed HX.out (by omega) _ _ _⟩


theorem frac_any (s s1 : Bool) (A0 A1 : Option Addr) (l0 c0 l1 c1 n d L : Nat) (w : World) (hx : Z16 w (.slice A0 l0 c0) n) (hy : Z16 w (.slice A1 l1 c1) d) (fn : Fit 65536 n L) (fm : Fit 65536 d L) (hL : L ≤ 400000) (hd : 0 < d) :
    Calls Try.prog 81 #[.agg #[.bool s, .slice A0 l0 c0], .agg #[.bool s1, .slice A1 l1 c1]] w (RetQz w (ratV s n d)) := by
  cases s
  · exact frac_pos s1 A0 A1 l0 c0 l1 c1 n d L w hx hy fn fm hL hd
  · rcases Nat.eq_zero_or_pos n with h | h
    · exact frac_zero s1 A0 A1 l0 c0 l1 c1 n d L w hx hy fn fm hL hd h
    · exact frac_neg s1 A0 A1 l0 c0 l1 c1 n d L w hx hy fn fm hL hd h
end Go.Proofs.Yteoijnaljkagfaa
namespace Go.Proofs.Yteoijnaljkagfaa
open Go.RowKit

theorem Z16.pos {w : World} {A : Option Addr} {l c n : Nat} (h : Z16 w (.slice A l c) n) : IntZ w (.agg #[.bool false, .slice A l c]) (n : Int) := ⟨A, l, c, by rw [decide_eq_false (by omega)], h⟩
theorem IntZ.open {w : World} {v : Value} {z : Int} (h : IntZ w v z) : ∃ A l c, v = .agg #[.bool (decide (z < 0)), .slice A l c] ∧ Z16 w (.slice A l c) z.natAbs := by
  obtain ⟨A, l, c, rfl, h1⟩ := h
  exact ⟨A, l, c, rfl, h1⟩
theorem QZ.mk' {w : World} {b : Bool} {A B : Option Addr} {l c m k : Nat} {q : Rat} (hb : b = decide (q.num < 0)) (h : Z16 w (.slice A l c) q.num.natAbs) (h' : Z16 w (.slice B m k) q.den) : QZ w (.agg #[.bool b, .slice A l c, .slice B m k]) q :=
  ⟨_, _, _, _, _, _, _, rfl, hb, h, h'⟩
set_option maxRecDepth 100000 in
set_option maxHeartbeats 2000000 in
theorem qminus_r1 (ga : Nat) (s0 : Bool) (A0 B0 : Option Addr) (l0 c0 m0 k0 : Nat) (q : Rat) (w : World) (x0 : w.cell? ⟨ga, 0, none⟩ = some (.bool s0)) (x1 : w.cell? ⟨ga, 1, none⟩ = some (.slice A0 l0 c0)) (x2 : w.cell? ⟨ga, 2, none⟩ = some (.slice B0 m0 k0)) (hx : QZ w (.agg #[.bool s0, .slice A0 l0 c0, .slice B0 m0 k0]) q) (a : Act) (Q : Exit → Act → World → Prop) (hsize : 8 ≤ a.tmps.size)
    (s1 : a.tmps[1]? = some (.pointer (some ⟨ga, 0, none⟩)))
    (hend : ∀ (xv0 xv1 xv2 xv3 xv4 : Value) (W : World), (xv0 = .pointer (some ⟨ga, 0, none⟩)) → (xv1 = .agg #[.bool s0, .slice A0 l0 c0]) → (IntZ W xv2 (-q.num)) → (xv3 = .pointer (some ⟨ga, 2, none⟩)) → (xv4 = .slice B0 m0 k0) → Ext w W → wpList Try.prog (rops Try.f38 1).toArray Q ((rops Try.f38 1).drop 5) (((((a.put (some 3) xv0).put (some 4) xv1).put (some 5) xv2).put (some 6) xv3).put (some 7) xv4) W) :
    (Code.region 1 (rops Try.f38 1).toArray true).wp Try.prog Q a w := by
  have hmono : ∀ (W W' : World) (j : Nat) (u : Value), Ext W W' → (fun (i : Nat) (v : Value) (W : World) => match i with
    | 0 => v = .pointer (some ⟨ga, 0, none⟩)
    | 1 => v = .agg #[.bool s0, .slice A0 l0 c0]
    | 2 => IntZ W v (-q.num)
    | 3 => v = .pointer (some ⟨ga, 2, none⟩)
    | 4 => v = .slice B0 m0 k0
    | _ => True) j u W → (fun (i : Nat) (v : Value) (W : World) => match i with
    | 0 => v = .pointer (some ⟨ga, 0, none⟩)
    | 1 => v = .agg #[.bool s0, .slice A0 l0 c0]
    | 2 => IntZ W v (-q.num)
    | 3 => v = .pointer (some ⟨ga, 2, none⟩)
    | 4 => v = .slice B0 m0 k0
    | _ => True) j u W' := by
    intro W W' j u hX h
    match j, h with
    | 0, h => exact h
    | 1, h => exact h
    | 2, h => exact IntZ.ext h hX
    | 3, h => exact h
    | 4, h => exact h
    | _ + 5, h => exact h
  have hsz : ∀ d, some d ∈ ([some 3, some 4, some 5, some 6, some 7] : List (Option Tmp)) → d < a.tmps.size := slots_lt (by decide) hsize
  refine wp_region_j 5 [some 3, some 4, some 5, some 6, some 7] [[], [0], [1], [], [3]] [[], [], [], [], []] (fun (i : Nat) (v : Value) (W : World) => match i with
    | 0 => v = .pointer (some ⟨ga, 0, none⟩)
    | 1 => v = .agg #[.bool s0, .slice A0 l0 c0]
    | 2 => IntZ W v (-q.num)
    | 3 => v = .pointer (some ⟨ga, 2, none⟩)
    | 4 => v = .slice B0 m0 k0
    | _ => True) (fun _ W => Ext w W) (by kernel_rfl) (by kernel_rfl) hsz (fun _ _ _ _ h => h) ((Ext.refl w).drew) ?_ ?_
  · clear hend
    simp only [rops, Try.f38, regOf, Option.bind_some, Nat.reduceBEq, if_true, if_false, Bool.false_eq_true, Option.getD_some]
    simp only [List.take_succ_cons, List.take_zero]
    refine ⟨?_, ?_, ?_, ?_, ?_, trivial⟩
    · intro done us W hJ hdep haft hnot b hb hb' K hK Q'
      have e1 := (hb' 1 (by simp)).trans s1
      clear hb hb'
      go_simp
      exact hK _ _ rfl (fun _ _ _ h => h) hJ
    · intro done us W hJ hdep haft hnot b hb hb' K hK Q'
      simp only [List.getD_cons_succ, List.getD_cons_zero, List.mem_cons, List.not_mem_nil, or_false, forall_eq_or_imp, forall_eq] at hdep
      have e3 := hb 0 3 rfl
      have d0 := hdep
      rw [d0.1] at e3
      clear hb hb' hdep d0
      have z0 := Ext.cell hJ x0
      have z1 := Ext.cell hJ x1
      go_simp
      exact hK _ _ rfl (fun _ _ _ h => h) hJ
    · intro done us W hJ hdep haft hnot b hb hb' K hK Q'
      simp only [List.getD_cons_succ, List.getD_cons_zero, List.mem_cons, List.not_mem_nil, or_false, forall_eq_or_imp, forall_eq] at hdep
      have e4 := hb 1 4 rfl
      have d1 := hdep
      rw [d1.1] at e4
      clear hb hb' hdep d1
      go_simp
      refine (rminus_any _ _ _ (IntZ.ext (QZ.num hx) hJ)).mono ?_
      rintro e w' ⟨v, rfl, hv, hX⟩
      exact hK _ _ hv (fun j u _ h => hmono _ _ j u hX h) (Ext.trans hJ hX)
    · intro done us W hJ hdep haft hnot b hb hb' K hK Q'
      have e1 := (hb' 1 (by simp)).trans s1
      clear hb hb'
      go_simp
      exact hK _ _ rfl (fun _ _ _ h => h) hJ
    · intro done us W hJ hdep haft hnot b hb hb' K hK Q'
      simp only [List.getD_cons_succ, List.getD_cons_zero, List.mem_cons, List.not_mem_nil, or_false, forall_eq_or_imp, forall_eq] at hdep
      have e6 := hb 3 6 rfl
      have d3 := hdep
      rw [d3.1] at e6
      clear hb hb' hdep d3
      have q := Ext.cell hJ x2
      go_simp
      exact hK _ _ rfl (fun _ _ _ h => h) hJ
  · intro us W hV hJ
    exact hend (us 0) (us 1) (us 2) (us 3) (us 4) W (hV 0 (by omega)) (hV 1 (by omega)) (hV 2 (by omega)) (hV 3 (by omega)) (hV 4 (by omega)) hJ
set_option maxRecDepth 100000 in
set_option maxHeartbeats 2000000 in
theorem qminus_v (s0 : Bool) (A0 B0 : Option Addr) (l0 c0 m0 k0 : Nat) (q : Rat) (w : World) (hx : QZ w (.agg #[.bool s0, .slice A0 l0 c0, .slice B0 m0 k0]) q) :
    Calls Try.prog 38 #[.agg #[.bool s0, .slice A0 l0 c0, .slice B0 m0 k0]] w (RetQz w (-q)) := by
  have HXX := Lib.hid hx
  clear hx
  have hXe : Ext w ((w.alloc (.cells #[.bool s0, .slice A0 l0 c0, .slice B0 m0 k0] 42)).alloc (.cells #[.bool false, .slice none 0 0, .slice none 0 0] 42)) := (((Ext.refl w).alloc _).alloc _)
  have kA : Blk ((w.alloc (.cells #[.bool s0, .slice A0 l0 c0, .slice B0 m0 k0] 42)).alloc (.cells #[.bool false, .slice none 0 0, .slice none 0 0] 42)) w.heap.size 42 #[.bool s0, .slice A0 l0 c0, .slice B0 m0 k0] := Blk.alloc (Blk.at_ (by simp)) _
  have kR : Blk ((w.alloc (.cells #[.bool s0, .slice A0 l0 c0, .slice B0 m0 k0] 42)).alloc (.cells #[.bool false, .slice none 0 0, .slice none 0 0] 42)) (w.heap.size + 1) 42 #[.bool false, .slice none 0 0, .slice none 0 0] := Blk.at_ (by simp)
  go_enter Try.func38, Try.ntmps38
  go_wp2_with fail
  generalize ((w.alloc (.cells #[.bool s0, .slice A0 l0 c0, .slice B0 m0 k0] 42)).alloc (.cells #[.bool false, .slice none 0 0, .slice none 0 0] 42)) = w1 at hXe kA kR ⊢
  have HX := Lib.hid hXe
  clear hXe
  have KA := Lib.hid kA
  clear kA
  have KR := Lib.hid kR
  clear kR
  replace HXX := Lib.hid (HXX.out.ext HX.out)
  go_upto_region 1 with (fail)
  refine qminus_r1 w.heap.size s0 A0 B0 l0 c0 m0 k0 q w1 (KA.out.cell 0) (KA.out.cell 1) (KA.out.cell 2) HXX.out _ _ (by simp) rfl ?_
  rintro xv0 xv1 xv2 xv3 xv4 w2 rfl rfl hv rfl rfl hXW
  simp only [rops, Try.f38, regOf, Option.bind_some, Nat.reduceBEq, if_true, if_false, Bool.false_eq_true, Option.getD_some, List.drop_succ_cons, List.drop_zero]
  simp only [Act.put, List.setIfInBounds_toArray, List.set_cons_succ, List.set_cons_zero]
  replace HX := Lib.hid (HX.out.trans hXW)
  replace HXX := Lib.hid (HXX.out.ext hXW)
  replace KA := Lib.hid (KA.out.ext hXW)
  replace KR := Lib.hid (KR.out.ext hXW)
  clear hXW
  obtain ⟨A9, l9, c9, rfl, hv9⟩ := hv.open
  obtain ⟨b9, hb9⟩ : ∃ b, decide (-q.num < 0) = b := ⟨_, rfl⟩
  rw [hb9]
  have HD := Lib.hid HXX.out.den
  have HV : Hid (QZ w2 (.agg #[.bool b9, .slice A9 l9 c9, .slice B0 m0 k0]) (-q)) := QZ.mk' (by rw [Rat.neg_num, hb9]) (by rw [Rat.neg_num]; exact hv9) (by rw [Rat.neg_den]; exact HD.out)
  clear hv hv9 hb9
  replace HV := Lib.hid (QZ.past HV.out (NoInts.three KR.out))
  have cR0 : w2.cell? ⟨(w.heap.size + 1), 0, none⟩ = some (.bool false) := KR.out.cell 0
  have fR0 : w2.frozen? ⟨(w.heap.size + 1), 0, none⟩ = false := KR.out.free 0
  have cR1 : w2.cell? ⟨(w.heap.size + 1), 1, none⟩ = some (.slice none 0 0) := KR.out.cell 1
  have fR1 : w2.frozen? ⟨(w.heap.size + 1), 1, none⟩ = false := KR.out.free 1
  have cR2 : w2.cell? ⟨(w.heap.size + 1), 2, none⟩ = some (.slice none 0 0) := KR.out.cell 2
  have fR2 : w2.frozen? ⟨(w.heap.size + 1), 2, none⟩ = false := KR.out.free 2
  go_wp2
  refine bodyPost_ret (v := .agg #[.bool b9, .slice A9 l9 c9, .slice B0 m0 k0]) (by simp [results, Try.results38, go_sem, *]) rfl ?_
  exact ⟨_, rfl, HV.out, Ext.boxed HX.out (by omega) _ _ _⟩

theorem qminus_any (va : Value) (q : Rat) (w : World) (hx : QZ w va q) : Calls Try.prog 38 #[va] w (RetQz w (-q)) := by
  obtain ⟨s0, A0, l0, c0, B0, m0, k0, rfl⟩ := hx.open
  exact qminus_v s0 A0 B0 l0 c0 m0 k0 q w hx

set_option maxRecDepth 100000 in
set_option maxHeartbeats 2000000 in
theorem qfloor_v (s0 : Bool) (A0 B0 : Option Addr) (l0 c0 m0 k0 : Nat) (q : Rat) (L : Nat) (w : World) (hx : QZ w (.agg #[.bool s0, .slice A0 l0 c0, .slice B0 m0 k0]) q) (fq : FitR q L) (hL : L ≤ 400000) :
    Calls Try.prog 90 #[.agg #[.bool s0, .slice A0 l0 c0, .slice B0 m0 k0]] w (RetZ w q.floor) := by
  have HXX := Lib.hid hx
  have HFQ := Lib.hid fq
  clear hx fq
  have hXe : Ext w ((w.alloc (.cells #[.bool s0, .slice A0 l0 c0, .slice B0 m0 k0] 42)).alloc (.cells #[.bool false, .slice none 0 0] 40)) := (((Ext.refl w).alloc _).alloc _)
  have kA : Blk ((w.alloc (.cells #[.bool s0, .slice A0 l0 c0, .slice B0 m0 k0] 42)).alloc (.cells #[.bool false, .slice none 0 0] 40)) w.heap.size 42 #[.bool s0, .slice A0 l0 c0, .slice B0 m0 k0] := Blk.alloc (Blk.at_ (by simp)) _
  have kR : Blk ((w.alloc (.cells #[.bool s0, .slice A0 l0 c0, .slice B0 m0 k0] 42)).alloc (.cells #[.bool false, .slice none 0 0] 40)) (w.heap.size + 1) 40 #[.bool false, .slice none 0 0] := Blk.at_ (by simp)
  go_enter Try.func90, Try.ntmps90
  go_wp2_with fail
  generalize ((w.alloc (.cells #[.bool s0, .slice A0 l0 c0, .slice B0 m0 k0] 42)).alloc (.cells #[.bool false, .slice none 0 0] 40)) = w1 at hXe kA kR ⊢
  have HX := Lib.hid hXe
  clear hXe
  have KA := Lib.hid kA
  clear kA
  have KR := Lib.hid kR
  clear kR
  replace HXX := Lib.hid (HXX.out.ext HX.out)
  have cA0 : w1.cell? ⟨w.heap.size, 0, none⟩ = some (.bool s0) := KA.out.cell 0
  have cA1 : w1.cell? ⟨w.heap.size, 1, none⟩ = some (.slice A0 l0 c0) := KA.out.cell 1
  have cA2 : w1.cell? ⟨w.heap.size, 2, none⟩ = some (.slice B0 m0 k0) := KA.out.cell 2
  go_wp2_with fail
  clear cA0 cA1 cA2
  refine (zdown_any _ q.num false _ _ _ q.den L _ HXX.out.num HXX.out.den HFQ.out.1 hL q.den_pos).mono ?_
  rw [← Rat.floor_def]
  rintro e w2 ⟨v9, rfl, hv, hX⟩
  replace hX : Ext w1 w2 := by with_reducible exact hX
  replace HX := Lib.hid (HX.out.trans hX)
  replace HXX := Lib.hid (HXX.out.ext hX)
  replace KA := Lib.hid (KA.out.ext hX)
  replace KR := Lib.hid (KR.out.ext hX)
  clear hX
  obtain ⟨A9, l9, c9, rfl, hv9⟩ := hv.open
  obtain ⟨b9, hb9⟩ : ∃ b, decide (q.floor < 0) = b := ⟨_, rfl⟩
  rw [hb9]
  have HB := Lib.hid hb9.symm
  have HV := Lib.hid (Z16.two hv9 (NoInts.two KR.out) b9 A9 l9 c9)
  clear hv hv9 hb9
  have cR0 : w2.cell? ⟨(w.heap.size + 1), 0, none⟩ = some (.bool false) := KR.out.cell 0
  have fR0 : w2.frozen? ⟨(w.heap.size + 1), 0, none⟩ = false := KR.out.free 0
  have cR1 : w2.cell? ⟨(w.heap.size + 1), 1, none⟩ = some (.slice none 0 0) := KR.out.cell 1
  have fR1 : w2.frozen? ⟨(w.heap.size + 1), 1, none⟩ = false := KR.out.free 1
  go_wp2
  refine bodyPost_ret (v := .agg #[.bool b9, .slice A9 l9 c9]) (by simp [results, Try.results90, go_sem, *]) rfl ?_
  exact ⟨_, rfl, ⟨_, _, _, by rw [HB.out], HV.out⟩, HX.out.two (by omega) _ _⟩

theorem qfloor_any (va : Value) (q : Rat) (L : Nat) (w : World) (hx : QZ w va q) (fq : FitR q L) (hL : L ≤ 400000) : Calls Try.prog 90 #[va] w (RetZ w q.floor) := by
  obtain ⟨s0, A0, l0, c0, B0, m0, k0, rfl⟩ := hx.open
  exact qfloor_v s0 A0 B0 l0 c0 m0 k0 q L w hx fq hL

set_option maxRecDepth 100000 in
set_option maxHeartbeats 2000000 in
theorem qceil_v (s0 : Bool) (A0 B0 : Option Addr) (l0 c0 m0 k0 : Nat) (q : Rat) (L : Nat) (w : World) (hx : QZ w (.agg #[.bool s0, .slice A0 l0 c0, .slice B0 m0 k0]) q) (fq : FitR q L) (hL : L ≤ 400000) :
    Calls Try.prog 89 #[.agg #[.bool s0, .slice A0 l0 c0, .slice B0 m0 k0]] w (RetZ w (-(-q).floor)) := by
  have HXX := Lib.hid hx
  have HFQ := Lib.hid fq
  clear hx fq
  obtain ⟨z, hz⟩ : ∃ z, (-q).floor = z := ⟨_, rfl⟩
  rw [hz]
  have HZ := Lib.hid hz
  clear hz
  have hXe : Ext w ((w.alloc (.cells #[.bool s0, .slice A0 l0 c0, .slice B0 m0 k0] 42)).alloc (.cells #[.bool false, .slice none 0 0] 40)) := (((Ext.refl w).alloc _).alloc _)
  have kA : Blk ((w.alloc (.cells #[.bool s0, .slice A0 l0 c0, .slice B0 m0 k0] 42)).alloc (.cells #[.bool false, .slice none 0 0] 40)) w.heap.size 42 #[.bool s0, .slice A0 l0 c0, .slice B0 m0 k0] := Blk.alloc (Blk.at_ (by simp)) _
  have kR : Blk ((w.alloc (.cells #[.bool s0, .slice A0 l0 c0, .slice B0 m0 k0] 42)).alloc (.cells #[.bool false, .slice none 0 0] 40)) (w.heap.size + 1) 40 #[.bool false, .slice none 0 0] := Blk.at_ (by simp)
  go_enter Try.func89, Try.ntmps89
  go_wp2_with fail
  generalize ((w.alloc (.cells #[.bool s0, .slice A0 l0 c0, .slice B0 m0 k0] 42)).alloc (.cells #[.bool false, .slice none 0 0] 40)) = w1 at hXe kA kR ⊢
  have HX := Lib.hid hXe
  clear hXe
  have KA := Lib.hid kA
  clear kA
  have KR := Lib.hid kR
  clear kR
  replace HXX := Lib.hid (HXX.out.ext HX.out)
  have cA0 : w1.cell? ⟨w.heap.size, 0, none⟩ = some (.bool s0) := KA.out.cell 0
  have cA1 : w1.cell? ⟨w.heap.size, 1, none⟩ = some (.slice A0 l0 c0) := KA.out.cell 1
  have cA2 : w1.cell? ⟨w.heap.size, 2, none⟩ = some (.slice B0 m0 k0) := KA.out.cell 2
  go_wp2_with fail
  clear cA0 cA1 cA2
  refine (qminus_any _ _ _ HXX.out).mono ?_
  rintro e w2 ⟨v7, rfl, h7, hX⟩
  replace hX : Ext w1 w2 := by with_reducible exact hX
  replace HX := Lib.hid (HX.out.trans hX)
  replace HXX := Lib.hid (HXX.out.ext hX)
  replace KA := Lib.hid (KA.out.ext hX)
  replace KR := Lib.hid (KR.out.ext hX)
  clear hX
  have HV := Lib.hid h7
  clear h7
  go_wp2_with fail
  refine (qfloor_any _ _ L _ HV.out (fitR_neg HFQ.out) hL).mono ?_
  rw [HZ.out]
  rintro e w3 ⟨v8, rfl, h8, hX⟩
  replace hX : Ext w2 w3 := by with_reducible exact hX
  replace HX := Lib.hid (HX.out.trans hX)
  replace HXX := Lib.hid (HXX.out.ext hX)
  replace HV := Lib.hid (HV.out.ext hX)
  replace KA := Lib.hid (KA.out.ext hX)
  replace KR := Lib.hid (KR.out.ext hX)
  clear hX
  have HW := Lib.hid h8
  clear h8
  go_wp2_with fail
  refine (rminus_any _ _ _ HW.out).mono ?_
  rintro e w4 ⟨v9, rfl, hv, hX⟩
  replace hX : Ext w3 w4 := by with_reducible exact hX
  replace HX := Lib.hid (HX.out.trans hX)
  replace HXX := Lib.hid (HXX.out.ext hX)
  replace HV := Lib.hid (HV.out.ext hX)
  replace HW := Lib.hid (HW.out.ext hX)
  replace KA := Lib.hid (KA.out.ext hX)
  replace KR := Lib.hid (KR.out.ext hX)
  clear hX
  obtain ⟨A9, l9, c9, rfl, hv9⟩ := hv.open
  obtain ⟨b9, hb9⟩ : ∃ b, decide (-z < 0) = b := ⟨_, rfl⟩
  rw [hb9]
  have HB := Lib.hid hb9.symm
  have HU := Lib.hid (Z16.two hv9 (NoInts.two KR.out) b9 A9 l9 c9)
  clear hv hv9 hb9
  have cR0 : w4.cell? ⟨(w.heap.size + 1), 0, none⟩ = some (.bool false) := KR.out.cell 0
  have fR0 : w4.frozen? ⟨(w.heap.size + 1), 0, none⟩ = false := KR.out.free 0
  have cR1 : w4.cell? ⟨(w.heap.size + 1), 1, none⟩ = some (.slice none 0 0) := KR.out.cell 1
  have fR1 : w4.frozen? ⟨(w.heap.size + 1), 1, none⟩ = false := KR.out.free 1
  go_wp2
  refine bodyPost_ret (v := .agg #[.bool b9, .slice A9 l9 c9]) (by simp [results, Try.results89, go_sem, *]) rfl ?_
  exact ⟨_, rfl, ⟨_, _, _, by rw [HB.out], HU.out⟩, HX.out.two (by omega) _ _⟩

theorem qceil_any (va : Value) (q : Rat) (L : Nat) (w : World) (hx : QZ w va q) (fq : FitR q L) (hL : L ≤ 400000) : Calls Try.prog 89 #[va] w (RetZ w (-(-q).floor)) := by
  obtain ⟨s0, A0, l0, c0, B0, m0, k0, rfl⟩ := hx.open
  exact qceil_v s0 A0 B0 l0 c0 m0 k0 q L w hx fq hL

end Go.Proofs.Yteoijnaljkagfaa
namespace Go.Proofs.Yteoijnaljkagfaa
open Go.RowKit

/-- What one operation must give, over a frame of which only the slots' values are known. -/
def GOq (P : Program) (ops : Array Oper) (J : (Nat → Prop) → (Nat → Value) → World → Prop) (D A : List (List Nat)) (ds : List (Option Tmp)) (a : Act) (i : Nat) (o : Oper) : Prop :=
  ∀ (done : Nat → Prop) (us : Nat → Value) (W : World), J done us W → (∀ j ∈ D.getD i [], done j) → (∀ j ∈ A.getD i [], ¬ done j) → ¬ done i → ∀ b : Act, (∀ j d, ds[j]? = some (some d) → b.tmps[d]? = some (us j)) → (∀ d, some d ∉ ds → b.tmps[d]? = a.tmps[d]?) → ∀ K : Act → World → Prop,
      (∀ v W', J (fun k => done k ∨ k = i) (updO us i v) W' → K (b.put o.dst v) W') → ∀ Q' : Exit → Act → World → Prop,
      if Region.wanted o (yielded ops b.tmps) then o.wp P b W K Q' else K (b.put o.dst undef) W
def GAllq (P : Program) (ops : Array Oper) (J : (Nat → Prop) → (Nat → Value) → World → Prop) (D A : List (List Nat)) (ds : List (Option Tmp)) (a : Act) : Nat → List Oper → Prop
  | _, [] => True
  | i, o :: rest => GOq P ops J D A ds a i o ∧ GAllq P ops J D A ds a (i + 1) rest
theorem GAllq.at {P : Program} {ops : Array Oper} {J : (Nat → Prop) → (Nat → Value) → World → Prop} {D A : List (List Nat)} {ds : List (Option Tmp)} {a : Act} : ∀ (l : List Oper) (k : Nat), GAllq P ops J D A ds a k l → ∀ i o, l[i]? = some o → GOq P ops J D A ds a (k + i) o := by
  intro l
  induction l with
  | nil => intro k _ i o h; simp at h
  | cons x l ih =>
    intro k h i o ho
    cases i with
    | zero => simp at ho; subst ho; exact h.1
    | succ i =>
      have := ih (k + 1) h.2 i o (by simpa using ho)
      rw [show k + 1 + i = k + (i + 1) by omega] at this
      exact this

section
variable {P : Program} {l : List Oper} {n : Nat} {ds : List (Option Tmp)} {D A : List (List Nat)} {J : (Nat → Prop) → (Nat → Value) → World → Prop} {a : Act} {Q : Exit → Act → World → Prop}

end

/-- A local struct of a region: its cells are 'zs' until they are stored, then 'vs'. -/
structure Loc (w W : World) (T : TypeId) (zs vs : Array Value) (da dst : Prop) (v : Value) : Prop where
  ptr : da → ∃ g, v = .pointer (some ⟨g, 0, none⟩) ∧ w.heap.size ≤ g ∧ (dst → Blk W g T vs) ∧ (¬ dst → Blk W g T zs)
section
variable {w W W' : World} {T : TypeId} {zs vs : Array Value} {da dst da' dst' : Prop} {v u : Value}
theorem Loc.lt (h : Loc w W T zs vs da dst v) (hd : da) : ∃ g, v = .pointer (some ⟨g, 0, none⟩) ∧ w.heap.size ≤ g ∧ g < W.heap.size := by
  obtain ⟨g, h1, h2, h3, h4⟩ := h.ptr hd
  refine ⟨g, h1, h2, ?_⟩
  by_cases hs : dst
  · exact (h3 hs).lt
  · exact (h4 hs).lt
theorem Loc.stored (h : Loc w W T zs vs da dst v) (hd : da) (hs : ¬ dst) : ∃ g, v = .pointer (some ⟨g, 0, Option.none⟩) ∧ w.heap.size ≤ g ∧ Blk W g T zs := by
  obtain ⟨g, h1, h2, _, h4⟩ := h.ptr hd
  exact ⟨g, h1, h2, h4 hs⟩
theorem Loc.done (h : Loc w W T zs vs da dst v) (hd : da) (hs : dst) : ∃ g, v = .pointer (some ⟨g, 0, Option.none⟩) ∧ w.heap.size ≤ g ∧ Blk W g T vs := by
  obtain ⟨g, h1, h2, h3, _⟩ := h.ptr hd
  exact ⟨g, h1, h2, h3 hs⟩
theorem Loc.same (h : Loc w W T zs vs da dst v) (ha : da' ↔ da) (hs : dst' ↔ dst) : Loc w W T zs vs da' dst' v := by
  have e1 := propext ha
  have e2 := propext hs
  subst e1 e2
  exact h
theorem Loc.ext (h : Loc w W T zs vs da dst v) (hX : Ext W W') : Loc w W' T zs vs da dst v := ⟨fun hd => by
  obtain ⟨g, h1, h2, h3, h4⟩ := h.ptr hd
  exact ⟨g, h1, h2, fun h => (h3 h).ext hX, fun h => (h4 h).ext hX⟩⟩
theorem Loc.new (w W : World) (hw : Ext w W) (hs : ¬ dst) (hX : Ext (W.alloc (.cells zs T)) W') : Loc w W' T zs vs da dst (.pointer (some ⟨W.heap.size, 0, none⟩)) :=
  ⟨fun _ => ⟨_, rfl, hw.size, fun h => absurd h hs, fun _ => (Blk.new W T zs).ext hX⟩⟩
end
end Go.Proofs.Yteoijnaljkagfaa
namespace Go.Proofs.Yteoijnaljkagfaa
open Go.RowKit

theorem IntZ.past {w : World} {v : Value} {z : Int} {g : Nat} (h : IntZ w v z) (hN : NoInts w g) {b : Bool} {A : Option Addr} {l c : Nat} : IntZ ((w.setCell ⟨g, 0, none⟩ (.bool b)).setCell ⟨g, 1, none⟩ (.slice A l c)) v z := by
  obtain ⟨A', l', c', h1, h2⟩ := h
  exact ⟨A', l', c', h1, h2.two hN _ _ _ _⟩
end Go.Proofs.Yteoijnaljkagfaa
namespace Go.Proofs.Yteoijnaljkagfaa
open Go.RowKit

/-- A place is valid. -/
def okP (p : Int × Int) : Bool := decide (-268435456 ≤ p.1 ∧ p.1 ≤ 268435456 ∧ -268435456 ≤ p.2 ∧ p.2 ≤ 268435456)
def okPs (ps : List (Int × Int)) : Bool := ps.all okP
/-- The block g holds the places. -/
def Pts (w : World) (g : Nat) (ps : List (Int × Int)) : Prop := ∀ j p, ps[j]? = some p → w.cell? ⟨g, j * 2, none⟩ = some (.int .i64 p.1) ∧ w.cell? ⟨g, j * 2 + 1, none⟩ = some (.int .i64 p.2)
theorem Pts.ext {w w' : World} {g : Nat} {ps : List (Int × Int)} (h : Pts w g ps) (he : Ext w w') : Pts w' g ps := fun j p hp => ⟨he.cell (h j p hp).1, he.cell (h j p hp).2⟩

set_option maxHeartbeats 1000000 in
theorem inside_any (g l : Nat) (ps : List (Int × Int)) (w : World) (hl : ps.length = l) (hm : l ≤ 1000000) (h : Pts w g ps) :
    Calls Try.prog 72 #[.slice (some ⟨g, 0, none⟩) l l] w fun e w' => e = .returned (.bool (okPs ps)) ∧ Ext w w' := by
  have HP := Lib.hid h
  have HL := Lib.hid hl
  clear h hl
  go_enter Try.func72, Try.ntmps72
  go_wp2
  go_loopg [7] l (fun g' i wr => ∃ k : Nat, g' = l - k ∧ k ≤ l ∧ i = .int .i64 (k : Int) ∧ Hid (okPs (ps.take k) = true) ∧ Hid (Ext w wr))
  case atStart => exact ⟨0, rfl, by omega, rfl, rfl, Ext.refl _⟩
  case round =>
    obtain ⟨k, rfl, hk, rfl, hok, HX⟩ := hrel
    by_cases hkl : k < l
    · have hkI : (k : Int) < (l : Int) := by omega
      have hk0 : (0 : Int) ≤ (k : Int) := by omega
      obtain ⟨x, y, hp⟩ : ∃ x y, ps[k]? = some (x, y) := ⟨_, _, List.getElem?_eq_getElem (by rw [HL.out]; exact hkl)⟩
      obtain ⟨c1, c2⟩ := HP.out.ext HX.out k _ hp
      simp only at c1 c2
      by_cases hb : okP (x, y) = true
      · have hb' := hb
        simp only [okP, decide_eq_true_eq] at hb'
        obtain ⟨b1, b2, b3, b4⟩ := hb'
        have HOK : Hid (okPs (ps.take (k + 1)) = true) := by
          show _ = _
          rw [List.take_add_one, hp]
          have := hok.out
          simp only [okPs] at this ⊢
          simp [this, hb]
        clear hb hok hp
        go_wp2
        go_roundg (l - (k + 1))
        case rel => exact ⟨k + 1, rfl, by omega, by go_num, HOK, HX.out.alloc _⟩
        case measure => omega
      · have HF : Hid (okPs ps = false) := by
          show _ = _
          simp only [okPs, List.all_eq_false]
          exact ⟨_, List.mem_of_getElem? hp, hb⟩
        have hb' : x < -268435456 ∨ (-268435456 ≤ x ∧ 268435456 < x) ∨ (-268435456 ≤ x ∧ x ≤ 268435456 ∧ y < -268435456) ∨ (-268435456 ≤ x ∧ x ≤ 268435456 ∧ -268435456 ≤ y ∧ 268435456 < y) := by
          simp only [okP, decide_eq_true_eq] at hb; omega
        clear hb hok hp
        rcases hb' with b1 | ⟨b1, b2⟩ | ⟨b1, b2, b3⟩ | ⟨b1, b2, b3, b4⟩
        all_goals
          go_wp2
          go_ret
          exact ⟨by rw [HF.out]; rfl, HX.out.alloc _⟩
    · obtain rfl : k = l := by omega
      have HF : Hid (okPs ps = true) := by
        have := hok.out
        rw [List.take_of_length_le (by rw [HL.out]; exact Nat.le_refl _)] at this
        exact this
      clear hok
      go_wp2
      go_ret
      exact ⟨by rw [HF.out]; rfl, HX.out⟩
end Go.Proofs.Yteoijnaljkagfaa
namespace Go.Proofs.Yteoijnaljkagfaa
open Go.RowKit

/-- Twice the directed area of a triangle. -/
def crossI (a b c : Int × Int) : Int := (b.1 - a.1) * (c.2 - a.2) - (b.2 - a.2) * (c.1 - a.1)
theorem mul_in {x y B C : Int} (hx : -B ≤ x ∧ x ≤ B) (hy : -C ≤ y ∧ y ≤ C) : -(B * C) ≤ x * y ∧ x * y ≤ B * C := by
  have hB : 0 ≤ B := by omega
  have h1 : (x * y).natAbs ≤ (B * C).natAbs := by
    rw [Int.natAbs_mul, Int.natAbs_mul]
    exact Nat.mul_le_mul (by omega) (by omega)
  have h2 : 0 ≤ B * C := Int.mul_nonneg hB (by omega)
  omega
theorem diff_in {x y : Int} (hx : -268435456 ≤ x ∧ x ≤ 268435456) (hy : -268435456 ≤ y ∧ y ≤ 268435456) : -536870912 ≤ x - y ∧ x - y ≤ 536870912 := by omega
theorem okP_in {x y : Int} (h : okP (x, y) = true) : (-268435456 ≤ x ∧ x ≤ 268435456) ∧ (-268435456 ≤ y ∧ y ≤ 268435456) := by
  simp only [okP, decide_eq_true_eq] at h; omega

set_option maxHeartbeats 1000000 in
theorem cross_any (a1 a2 b1 b2 c1 c2 : Int) (w : World) (ha : okP (a1, a2) = true) (hb : okP (b1, b2) = true) (hc : okP (c1, c2) = true) :
    Calls Try.prog 74 #[.agg #[.int .i64 a1, .int .i64 a2], .agg #[.int .i64 b1, .int .i64 b2], .agg #[.int .i64 c1, .int .i64 c2]] w fun e w' => e = .returned (.int .i64 (crossI (a1, a2) (b1, b2) (c1, c2))) ∧ Ext w w' := by
  obtain ⟨ha1, ha2⟩ := okP_in ha
  obtain ⟨hb1, hb2⟩ := okP_in hb
  obtain ⟨hc1, hc2⟩ := okP_in hc
  obtain ⟨p1, p2⟩ := mul_in (diff_in hb1 ha1) (diff_in hc2 ha2)
  obtain ⟨q1, q2⟩ := mul_in (diff_in hb2 ha2) (diff_in hc1 ha1)
  obtain ⟨d1, d1'⟩ := diff_in hb1 ha1
  obtain ⟨d2, d2'⟩ := diff_in hc2 ha2
  obtain ⟨d3, d3'⟩ := diff_in hb2 ha2
  obtain ⟨d4, d4'⟩ := diff_in hc1 ha1
  rw [show (536870912 : Int) * 536870912 = 288230376151711744 by decide] at p1 p2 q1 q2
  clear ha hb hc ha1 ha2 hb1 hb2 hc1 hc2
  go_enter Try.func74, Try.ntmps74
  go_wp2
  go_ret
  exact ⟨rfl, (((Ext.refl w).alloc _).alloc _).alloc _⟩
end Go.Proofs.Yteoijnaljkagfaa
namespace Go.Proofs.Yteoijnaljkagfaa
open Go.RowKit

theorem okPs3 (a b c : Int × Int) : okPs [a, b, c] = true ↔ okP a = true ∧ okP b = true ∧ okP c = true := by simp [okPs]
theorem pts3 {w : World} {g : Nat} {t : TypeId} {a1 a2 b1 b2 c1 c2 : Int} (h : Blk w g t #[.int .i64 a1, .int .i64 a2, .int .i64 b1, .int .i64 b2, .int .i64 c1, .int .i64 c2]) : Pts w g [(a1, a2), (b1, b2), (c1, c2)] := by
  intro j p hp
  rcases j with _ | _ | _ | j
  · obtain rfl : (a1, a2) = p := by simpa using hp
    exact ⟨h.cell 0, h.cell 1⟩
  · obtain rfl : (b1, b2) = p := by simpa using hp
    exact ⟨h.cell 2, h.cell 3⟩
  · obtain rfl : (c1, c2) = p := by simpa using hp
    exact ⟨h.cell 4, h.cell 5⟩
  · simp at hp

/-- What Turn returns. -/
def turnI (a b c : Int × Int) : Int := bif okPs [a, b, c] then sgI (crossI a b c) else 0
def turnE (a b c : Int × Int) : Int := bif okPs [a, b, c] then 0 else 11

set_option maxHeartbeats 1000000 in
theorem turn_any (a1 a2 b1 b2 c1 c2 : Int) (w : World) :
    Calls Try.prog 18 #[.agg #[.int .i64 a1, .int .i64 a2], .agg #[.int .i64 b1, .int .i64 b2], .agg #[.int .i64 c1, .int .i64 c2]] w fun e w' => e = .returned (.tuple #[.int .i64 (turnI (a1, a2) (b1, b2) (c1, c2)), .int .i64 (turnE (a1, a2) (b1, b2) (c1, c2))]) ∧ Ext w w' := by
  obtain ⟨r, hr⟩ : ∃ r, turnI (a1, a2) (b1, b2) (c1, c2) = r := ⟨_, rfl⟩
  obtain ⟨er, her⟩ : ∃ r, turnE (a1, a2) (b1, b2) (c1, c2) = r := ⟨_, rfl⟩
  rw [hr, her]
  have HR := Lib.hid hr
  have HE := Lib.hid her
  clear hr her
  go_enter Try.func18, Try.ntmps18
  go_wp2_with fail
  have hXw : Ext w ((((w.alloc (.cells #[.int .i64 a1, .int .i64 a2] 23)).alloc (.cells #[.int .i64 b1, .int .i64 b2] 23)).alloc (.cells #[.int .i64 c1, .int .i64 c2] 23)).alloc (.cells #[.int .i64 a1, .int .i64 a2, .int .i64 b1, .int .i64 b2, .int .i64 c1, .int .i64 c2] 23)) := ((((Ext.refl w).alloc _).alloc _).alloc _).alloc _
  have k1 := (((Blk.new w 23 #[.int .i64 a1, .int .i64 a2]).alloc (.cells #[.int .i64 b1, .int .i64 b2] 23)).alloc (.cells #[.int .i64 c1, .int .i64 c2] 23)).alloc (.cells #[.int .i64 a1, .int .i64 a2, .int .i64 b1, .int .i64 b2, .int .i64 c1, .int .i64 c2] 23)
  have k2 := ((Blk.new (w.alloc (.cells #[.int .i64 a1, .int .i64 a2] 23)) 23 #[.int .i64 b1, .int .i64 b2]).alloc (.cells #[.int .i64 c1, .int .i64 c2] 23)).alloc (.cells #[.int .i64 a1, .int .i64 a2, .int .i64 b1, .int .i64 b2, .int .i64 c1, .int .i64 c2] 23)
  have k3 := (Blk.new ((w.alloc (.cells #[.int .i64 a1, .int .i64 a2] 23)).alloc (.cells #[.int .i64 b1, .int .i64 b2] 23)) 23 #[.int .i64 c1, .int .i64 c2]).alloc (.cells #[.int .i64 a1, .int .i64 a2, .int .i64 b1, .int .i64 b2, .int .i64 c1, .int .i64 c2] 23)
  have k4 := Blk.new (((w.alloc (.cells #[.int .i64 a1, .int .i64 a2] 23)).alloc (.cells #[.int .i64 b1, .int .i64 b2] 23)).alloc (.cells #[.int .i64 c1, .int .i64 c2] 23)) 23 #[.int .i64 a1, .int .i64 a2, .int .i64 b1, .int .i64 b2, .int .i64 c1, .int .i64 c2]
  have es : ∀ (W : World) (o : Obj), (W.alloc o).heap.size = W.heap.size + 1 := fun W o => by simp
  simp only [es] at k2 k3 k4
  clear es
  generalize ((((w.alloc (.cells #[.int .i64 a1, .int .i64 a2] 23)).alloc (.cells #[.int .i64 b1, .int .i64 b2] 23)).alloc (.cells #[.int .i64 c1, .int .i64 c2] 23)).alloc (.cells #[.int .i64 a1, .int .i64 a2, .int .i64 b1, .int .i64 b2, .int .i64 c1, .int .i64 c2] 23)) = w1 at hXw k1 k2 k3 k4 ⊢
  have HXw := Lib.hid hXw
  have HP := Lib.hid (pts3 k4)
  have K1 := Lib.hid k1
  have K2 := Lib.hid k2
  have K3 := Lib.hid k3
  clear k1 k2 k3 k4 hXw
  refine (inside_any _ 3 _ _ rfl (by omega) HP.out).mono ?_
  rintro e w2 ⟨rfl, hX2⟩
  have x1 := (K1.out.ext hX2).cell 0
  have x2 := (K1.out.ext hX2).cell 1
  have x3 := (K2.out.ext hX2).cell 0
  have x4 := (K2.out.ext hX2).cell 1
  have x5 := (K3.out.ext hX2).cell 0
  have x6 := (K3.out.ext hX2).cell 1
  simp only [List.getElem?_toArray, List.getElem?_cons_zero, List.getElem?_cons_succ] at x1 x2 x3 x4 x5 x6
  have HX2 := Lib.hid (HXw.out.trans hX2)
  clear hX2
  rcases hb : okPs [(a1, a2), (b1, b2), (c1, c2)] with _ | _
  · have hr := HR.out
    have he := HE.out
    simp only [turnI, turnE, hb, cond_false] at hr he
    have H1 := Lib.hid hr
    have H2 := Lib.hid he
    clear hr he hb
    go_wp2
    go_ret2
    exact ⟨by rw [← H1.out, ← H2.out]; rfl, HX2.out⟩
  · have hr := HR.out
    have he := HE.out
    simp only [turnI, turnE, hb, cond_true] at hr he
    have H1 := Lib.hid hr
    have H2 := Lib.hid he
    obtain ⟨o1, o2, o3⟩ := (okPs3 _ _ _).1 hb
    have O1 := Lib.hid o1
    have O2 := Lib.hid o2
    have O3 := Lib.hid o3
    clear hr he hb o1 o2 o3
    go_wp2_with fail
    refine (cross_any a1 a2 b1 b2 c1 c2 _ O1.out O2.out O3.out).mono ?_
    rintro e w3 ⟨rfl, hX3⟩
    have HX3 := Lib.hid (HX2.out.trans hX3)
    clear hX3
    go_wp2_with fail
    refine (isign_any _ _).mono ?_
    rintro e w4 ⟨rfl, rfl⟩
    rw [H1.out]
    go_wp2
    go_ret2
    exact ⟨by rw [← H2.out]; rfl, HX3.out⟩
end Go.Proofs.Yteoijnaljkagfaa
namespace Go.Proofs.Yteoijnaljkagfaa
open Go.RowKit

theorem SmallR.fit {neg : Bool} {xs ys : List Int} (h : SmallR xs ys) : FitQ (ratOf neg xs ys) 256 := fit_red (wD_pos ys) h.1.fit h.den.fit
theorem FitQW.of {q : Rat} (h : FitQ q 256) : FitQW q := ⟨⟨h.1⟩, ⟨h.2⟩⟩
/-- A pair of a value and an error. -/
def RetE (w : World) (v : Value) (n : Int) (e : Ending) (w' : World) : Prop := e = .returned (.tuple #[v, .int .i64 n]) ∧ Ext w w'

set_option maxRecDepth 100000 in
set_option maxHeartbeats 2000000 in
theorem efloor_no (v : Value) (neg : Bool) (xs ys : List Int) (w : World) (h : RatV w v neg xs ys) (hs : ¬ SmallR xs ys) :
    Calls Try.prog 28 #[v] w (RetE w (.int .i64 0) 1) := by
  have HR := Lib.hid h
  have HS := Lib.hid hs
  clear hs
  obtain ⟨A, l, c, B, m, k, rfl, _⟩ := h
  have hXw : Ext w ((w.alloc (.cells #[.bool neg, .slice A l c, .slice B m k] 33)).alloc (.cells #[.bool neg, .slice A l c, .slice B m k] 33)) := (((Ext.refl w).alloc _).alloc _)
  have hB1 : Blk ((w.alloc (.cells #[.bool neg, .slice A l c, .slice B m k] 33)).alloc (.cells #[.bool neg, .slice A l c, .slice B m k] 33)) w.heap.size 33 #[.bool neg, .slice A l c, .slice B m k] := (Blk.new w _ _).alloc _
  have hB2 : Blk ((w.alloc (.cells #[.bool neg, .slice A l c, .slice B m k] 33)).alloc (.cells #[.bool neg, .slice A l c, .slice B m k] 33)) (w.heap.size + 1) 33 #[.bool neg, .slice A l c, .slice B m k] := by
    have := Blk.new (w.alloc (.cells #[.bool neg, .slice A l c, .slice B m k] 33)) 33 #[.bool neg, .slice A l c, .slice B m k]
    simpa using this
  go_enter Try.func28, Try.ntmps28
  go_wp2_with fail
  generalize ((w.alloc (.cells #[.bool neg, .slice A l c, .slice B m k] 33)).alloc (.cells #[.bool neg, .slice A l c, .slice B m k] 33)) = w1 at hXw hB1 hB2 ⊢
  refine (anyLarge_one true _ _ neg A B l c m k xs ys _ hB2 (HR.out.ext hXw) (by simp [HS.out])).mono ?_
  rintro e w2 ⟨rfl, hX2⟩
  obtain ⟨x0, x1, x2, _, _, _⟩ := (hB1.ext hX2).three
  have HX2 := Lib.hid (hXw.trans hX2)
  have HX12 := Lib.hid hX2
  clear hXw hB1 hB2 hX2
  go_wp2
  go_ret2
  exact ⟨rfl, HX2.out⟩

set_option maxRecDepth 100000 in
set_option maxHeartbeats 2000000 in
theorem eceil_no (v : Value) (neg : Bool) (xs ys : List Int) (w : World) (h : RatV w v neg xs ys) (hs : ¬ SmallR xs ys) :
    Calls Try.prog 29 #[v] w (RetE w (.int .i64 0) 1) := by
  have HR := Lib.hid h
  have HS := Lib.hid hs
  clear hs
  obtain ⟨A, l, c, B, m, k, rfl, _⟩ := h
  have hXw : Ext w ((w.alloc (.cells #[.bool neg, .slice A l c, .slice B m k] 33)).alloc (.cells #[.bool neg, .slice A l c, .slice B m k] 33)) := (((Ext.refl w).alloc _).alloc _)
  have hB1 : Blk ((w.alloc (.cells #[.bool neg, .slice A l c, .slice B m k] 33)).alloc (.cells #[.bool neg, .slice A l c, .slice B m k] 33)) w.heap.size 33 #[.bool neg, .slice A l c, .slice B m k] := (Blk.new w _ _).alloc _
  have hB2 : Blk ((w.alloc (.cells #[.bool neg, .slice A l c, .slice B m k] 33)).alloc (.cells #[.bool neg, .slice A l c, .slice B m k] 33)) (w.heap.size + 1) 33 #[.bool neg, .slice A l c, .slice B m k] := by
    have := Blk.new (w.alloc (.cells #[.bool neg, .slice A l c, .slice B m k] 33)) 33 #[.bool neg, .slice A l c, .slice B m k]
    simpa using this
  go_enter Try.func29, Try.ntmps29
  go_wp2_with fail
  generalize ((w.alloc (.cells #[.bool neg, .slice A l c, .slice B m k] 33)).alloc (.cells #[.bool neg, .slice A l c, .slice B m k] 33)) = w1 at hXw hB1 hB2 ⊢
  refine (anyLarge_one true _ _ neg A B l c m k xs ys _ hB2 (HR.out.ext hXw) (by simp [HS.out])).mono ?_
  rintro e w2 ⟨rfl, hX2⟩
  obtain ⟨x0, x1, x2, _, _, _⟩ := (hB1.ext hX2).three
  have HX2 := Lib.hid (hXw.trans hX2)
  have HX12 := Lib.hid hX2
  clear hXw hB1 hB2 hX2
  go_wp2
  go_ret2
  exact ⟨rfl, HX2.out⟩

set_option maxRecDepth 100000 in
set_option maxHeartbeats 2000000 in
theorem etext_ok (v : Value) (neg : Bool) (xs ys : List Int) (w : World) (h : RatV w v neg xs ys) (hs : SmallR xs ys) :
    Calls Try.prog 37 #[v] w (fun e w' => ∃ b, e = .returned (.tuple #[.string b, .int .i64 0]) ∧ TextB (decide ((ratOf neg xs ys).num < 0)) (ratOf neg xs ys).num.natAbs (ratOf neg xs ys).den b ∧ Ext w w') := by
  have HR := Lib.hid h
  have HS := Lib.hid hs
  clear hs
  obtain ⟨A, l, c, B, m, k, rfl, _⟩ := h
  have hXw : Ext w ((w.alloc (.cells #[.bool neg, .slice A l c, .slice B m k] 33)).alloc (.cells #[.bool neg, .slice A l c, .slice B m k] 33)) := (((Ext.refl w).alloc _).alloc _)
  have hB1 : Blk ((w.alloc (.cells #[.bool neg, .slice A l c, .slice B m k] 33)).alloc (.cells #[.bool neg, .slice A l c, .slice B m k] 33)) w.heap.size 33 #[.bool neg, .slice A l c, .slice B m k] := (Blk.new w _ _).alloc _
  have hB2 : Blk ((w.alloc (.cells #[.bool neg, .slice A l c, .slice B m k] 33)).alloc (.cells #[.bool neg, .slice A l c, .slice B m k] 33)) (w.heap.size + 1) 33 #[.bool neg, .slice A l c, .slice B m k] := by
    have := Blk.new (w.alloc (.cells #[.bool neg, .slice A l c, .slice B m k] 33)) 33 #[.bool neg, .slice A l c, .slice B m k]
    simpa using this
  go_enter Try.func37, Try.ntmps37
  go_wp2_with fail
  generalize ((w.alloc (.cells #[.bool neg, .slice A l c, .slice B m k] 33)).alloc (.cells #[.bool neg, .slice A l c, .slice B m k] 33)) = w1 at hXw hB1 hB2 ⊢
  refine (anyLarge_one false _ _ neg A B l c m k xs ys _ hB2 (HR.out.ext hXw) (by simp [HS.out])).mono ?_
  rintro e w2 ⟨rfl, hX2⟩
  obtain ⟨x0, x1, x2, _, _, _⟩ := (hB1.ext hX2).three
  have HX2 := Lib.hid (hXw.trans hX2)
  have HX12 := Lib.hid hX2
  clear hXw hB1 hB2 hX2
  go_wp2_with fail
  refine (of_any _ neg xs ys 256 _ (HR.out.ext HX2.out) HS.out.1.fit HS.out.den.fit (by omega)).mono ?_
  rintro e w3 ⟨v3, rfl, hv3, hX3⟩
  obtain ⟨A3, l3, c3, B3, m3, k3, rfl, _⟩ := NumV.open hv3
  have HV3 := Lib.hid (NumQ.numx hv3 HS.out.fit)
  have HQ3 := Lib.hid hv3
  have HX3 := Lib.hid (HX2.out.trans hX3)
  clear hX3 hv3 x0 x1 x2
  go_wp2_with fail
  refine (rtext_any _ _ _ _ 256 _ HQ3.out (ratOf neg xs ys).den_pos HS.out.fit.1 HS.out.fit.2 (by omega)).mono ?_
  rintro e w4 ⟨b, rfl, hb, hX4⟩
  have HX4 := Lib.hid (HX3.out.trans hX4)
  have HB := Lib.hid hb
  clear hX4 hb
  go_wp2
  go_ret2
  exact ⟨_, rfl, HB.out, HX4.out⟩

set_option maxRecDepth 100000 in
set_option maxHeartbeats 2000000 in
theorem efloor_ok (v : Value) (neg : Bool) (xs ys : List Int) (w : World) (h : RatV w v neg xs ys) (hs : SmallR xs ys) (h0 : -1152921504606846976 ≤ (ratOf neg xs ys).floor) (h1 : (ratOf neg xs ys).floor ≤ 1152921504606846976) :
    Calls Try.prog 28 #[v] w (RetE w (.int .i64 (ratOf neg xs ys).floor) 0) := by
  have HR := Lib.hid h
  have HS := Lib.hid hs
  clear hs
  obtain ⟨A, l, c, B, m, k, rfl, _⟩ := h
  have hXw : Ext w ((w.alloc (.cells #[.bool neg, .slice A l c, .slice B m k] 33)).alloc (.cells #[.bool neg, .slice A l c, .slice B m k] 33)) := (((Ext.refl w).alloc _).alloc _)
  have hB1 : Blk ((w.alloc (.cells #[.bool neg, .slice A l c, .slice B m k] 33)).alloc (.cells #[.bool neg, .slice A l c, .slice B m k] 33)) w.heap.size 33 #[.bool neg, .slice A l c, .slice B m k] := (Blk.new w _ _).alloc _
  have hB2 : Blk ((w.alloc (.cells #[.bool neg, .slice A l c, .slice B m k] 33)).alloc (.cells #[.bool neg, .slice A l c, .slice B m k] 33)) (w.heap.size + 1) 33 #[.bool neg, .slice A l c, .slice B m k] := by
    have := Blk.new (w.alloc (.cells #[.bool neg, .slice A l c, .slice B m k] 33)) 33 #[.bool neg, .slice A l c, .slice B m k]
    simpa using this
  go_enter Try.func28, Try.ntmps28
  go_wp2_with fail
  generalize ((w.alloc (.cells #[.bool neg, .slice A l c, .slice B m k] 33)).alloc (.cells #[.bool neg, .slice A l c, .slice B m k] 33)) = w1 at hXw hB1 hB2 ⊢
  refine (anyLarge_one false _ _ neg A B l c m k xs ys _ hB2 (HR.out.ext hXw) (by simp [HS.out])).mono ?_
  rintro e w2 ⟨rfl, hX2⟩
  obtain ⟨x0, x1, x2, _, _, _⟩ := (hB1.ext hX2).three
  have HX2 := Lib.hid (hXw.trans hX2)
  have HX12 := Lib.hid hX2
  clear hXw hB1 hB2 hX2
  go_wp2_with fail
  refine (of_any _ neg xs ys 256 _ (HR.out.ext HX2.out) HS.out.1.fit HS.out.den.fit (by omega)).mono ?_
  rintro e w3 ⟨v3, rfl, hv3, hX3⟩
  obtain ⟨A3, l3, c3, B3, m3, k3, rfl, _⟩ := NumV.open hv3
  have HV3 := Lib.hid (NumQ.numx hv3 HS.out.fit)
  have HQ3 := Lib.hid hv3
  have HX3 := Lib.hid (HX2.out.trans hX3)
  clear hX3 hv3 x0 x1 x2
  go_wp2_with fail
  have HV4 := HV3
  have HX4 := HX3
  refine (xfloor_ok _ _ 256 _ HV4.out (by omega) h0 h1).mono ?_
  rintro e w5 ⟨rfl, hX5⟩
  have HX5 := Lib.hid (HX4.out.trans hX5)
  clear hX5
  generalize hf : (ratOf neg xs ys).floor = f at h0 h1 ⊢
  have HF := Lib.hid hf
  clear hf
  go_wp2
  go_ret2
  exact ⟨by rw [HF.out]; rfl, HX5.out⟩

set_option maxRecDepth 100000 in
set_option maxHeartbeats 2000000 in
theorem efloor_out (v : Value) (neg : Bool) (xs ys : List Int) (w : World) (h : RatV w v neg xs ys) (hs : SmallR xs ys) (h0 : (ratOf neg xs ys).floor < -1152921504606846976 ∨ 1152921504606846976 < (ratOf neg xs ys).floor) :
    Calls Try.prog 28 #[v] w (RetE w (.int .i64 0) 3) := by
  have HR := Lib.hid h
  have HS := Lib.hid hs
  clear hs
  obtain ⟨A, l, c, B, m, k, rfl, _⟩ := h
  have hXw : Ext w ((w.alloc (.cells #[.bool neg, .slice A l c, .slice B m k] 33)).alloc (.cells #[.bool neg, .slice A l c, .slice B m k] 33)) := (((Ext.refl w).alloc _).alloc _)
  have hB1 : Blk ((w.alloc (.cells #[.bool neg, .slice A l c, .slice B m k] 33)).alloc (.cells #[.bool neg, .slice A l c, .slice B m k] 33)) w.heap.size 33 #[.bool neg, .slice A l c, .slice B m k] := (Blk.new w _ _).alloc _
  have hB2 : Blk ((w.alloc (.cells #[.bool neg, .slice A l c, .slice B m k] 33)).alloc (.cells #[.bool neg, .slice A l c, .slice B m k] 33)) (w.heap.size + 1) 33 #[.bool neg, .slice A l c, .slice B m k] := by
    have := Blk.new (w.alloc (.cells #[.bool neg, .slice A l c, .slice B m k] 33)) 33 #[.bool neg, .slice A l c, .slice B m k]
    simpa using this
  go_enter Try.func28, Try.ntmps28
  go_wp2_with fail
  generalize ((w.alloc (.cells #[.bool neg, .slice A l c, .slice B m k] 33)).alloc (.cells #[.bool neg, .slice A l c, .slice B m k] 33)) = w1 at hXw hB1 hB2 ⊢
  refine (anyLarge_one false _ _ neg A B l c m k xs ys _ hB2 (HR.out.ext hXw) (by simp [HS.out])).mono ?_
  rintro e w2 ⟨rfl, hX2⟩
  obtain ⟨x0, x1, x2, _, _, _⟩ := (hB1.ext hX2).three
  have HX2 := Lib.hid (hXw.trans hX2)
  have HX12 := Lib.hid hX2
  clear hXw hB1 hB2 hX2
  go_wp2_with fail
  refine (of_any _ neg xs ys 256 _ (HR.out.ext HX2.out) HS.out.1.fit HS.out.den.fit (by omega)).mono ?_
  rintro e w3 ⟨v3, rfl, hv3, hX3⟩
  obtain ⟨A3, l3, c3, B3, m3, k3, rfl, _⟩ := NumV.open hv3
  have HV3 := Lib.hid (NumQ.numx hv3 HS.out.fit)
  have HQ3 := Lib.hid hv3
  have HX3 := Lib.hid (HX2.out.trans hX3)
  clear hX3 hv3 x0 x1 x2
  go_wp2_with fail
  have HV4 := HV3
  have HX4 := HX3
  refine (xfloor_no _ _ 256 _ HV4.out (by omega) h0).mono ?_
  rintro e w5 ⟨rfl, hX5⟩
  have HX5 := Lib.hid (HX4.out.trans hX5)
  clear hX5
  clear h0
  go_wp2
  go_ret2
  exact ⟨rfl, HX5.out⟩

set_option maxRecDepth 100000 in
set_option maxHeartbeats 2000000 in
theorem eceil_ok (v : Value) (neg : Bool) (xs ys : List Int) (w : World) (h : RatV w v neg xs ys) (hs : SmallR xs ys) (h0 : -1152921504606846976 ≤ (-(ratOf neg xs ys)).floor) (h1 : (-(ratOf neg xs ys)).floor ≤ 1152921504606846976) :
    Calls Try.prog 29 #[v] w (RetE w (.int .i64 (-(-(ratOf neg xs ys)).floor)) 0) := by
  have HR := Lib.hid h
  have HS := Lib.hid hs
  clear hs
  obtain ⟨A, l, c, B, m, k, rfl, _⟩ := h
  have hXw : Ext w ((w.alloc (.cells #[.bool neg, .slice A l c, .slice B m k] 33)).alloc (.cells #[.bool neg, .slice A l c, .slice B m k] 33)) := (((Ext.refl w).alloc _).alloc _)
  have hB1 : Blk ((w.alloc (.cells #[.bool neg, .slice A l c, .slice B m k] 33)).alloc (.cells #[.bool neg, .slice A l c, .slice B m k] 33)) w.heap.size 33 #[.bool neg, .slice A l c, .slice B m k] := (Blk.new w _ _).alloc _
  have hB2 : Blk ((w.alloc (.cells #[.bool neg, .slice A l c, .slice B m k] 33)).alloc (.cells #[.bool neg, .slice A l c, .slice B m k] 33)) (w.heap.size + 1) 33 #[.bool neg, .slice A l c, .slice B m k] := by
    have := Blk.new (w.alloc (.cells #[.bool neg, .slice A l c, .slice B m k] 33)) 33 #[.bool neg, .slice A l c, .slice B m k]
    simpa using this
  go_enter Try.func29, Try.ntmps29
  go_wp2_with fail
  generalize ((w.alloc (.cells #[.bool neg, .slice A l c, .slice B m k] 33)).alloc (.cells #[.bool neg, .slice A l c, .slice B m k] 33)) = w1 at hXw hB1 hB2 ⊢
  refine (anyLarge_one false _ _ neg A B l c m k xs ys _ hB2 (HR.out.ext hXw) (by simp [HS.out])).mono ?_
  rintro e w2 ⟨rfl, hX2⟩
  obtain ⟨x0, x1, x2, _, _, _⟩ := (hB1.ext hX2).three
  have HX2 := Lib.hid (hXw.trans hX2)
  have HX12 := Lib.hid hX2
  clear hXw hB1 hB2 hX2
  go_wp2_with fail
  refine (of_any _ neg xs ys 256 _ (HR.out.ext HX2.out) HS.out.1.fit HS.out.den.fit (by omega)).mono ?_
  rintro e w3 ⟨v3, rfl, hv3, hX3⟩
  obtain ⟨A3, l3, c3, B3, m3, k3, rfl, _⟩ := NumV.open hv3
  have HV3 := Lib.hid (NumQ.numx hv3 HS.out.fit)
  have HQ3 := Lib.hid hv3
  have HX3 := Lib.hid (HX2.out.trans hX3)
  clear hX3 hv3 x0 x1 x2
  go_wp2_with fail
  refine (negX HV3.out).mono ?_
  rintro e w4 ⟨v4, rfl, hv4, hX4⟩
  obtain ⟨s4, A4, l4, c4, B4, m4, k4, rfl⟩ := hv4.open
  have HV4 := Lib.hid hv4
  have HX4 := Lib.hid (HX3.out.trans hX4)
  clear hX4 hv4
  go_wp2_with fail
  refine (xfloor_ok _ _ 256 _ HV4.out (by omega) h0 h1).mono ?_
  rintro e w5 ⟨rfl, hX5⟩
  have HX5 := Lib.hid (HX4.out.trans hX5)
  clear hX5
  generalize hf : (-(ratOf neg xs ys)).floor = f at h0 h1 ⊢
  have HF := Lib.hid hf
  clear hf
  go_wp2
  go_ret2
  exact ⟨by rw [HF.out]; rfl, HX5.out⟩

set_option maxRecDepth 100000 in
set_option maxHeartbeats 2000000 in
theorem eceil_out (v : Value) (neg : Bool) (xs ys : List Int) (w : World) (h : RatV w v neg xs ys) (hs : SmallR xs ys) (h0 : (-(ratOf neg xs ys)).floor < -1152921504606846976 ∨ 1152921504606846976 < (-(ratOf neg xs ys)).floor) :
    Calls Try.prog 29 #[v] w (RetE w (.int .i64 0) 3) := by
  have HR := Lib.hid h
  have HS := Lib.hid hs
  clear hs
  obtain ⟨A, l, c, B, m, k, rfl, _⟩ := h
  have hXw : Ext w ((w.alloc (.cells #[.bool neg, .slice A l c, .slice B m k] 33)).alloc (.cells #[.bool neg, .slice A l c, .slice B m k] 33)) := (((Ext.refl w).alloc _).alloc _)
  have hB1 : Blk ((w.alloc (.cells #[.bool neg, .slice A l c, .slice B m k] 33)).alloc (.cells #[.bool neg, .slice A l c, .slice B m k] 33)) w.heap.size 33 #[.bool neg, .slice A l c, .slice B m k] := (Blk.new w _ _).alloc _
  have hB2 : Blk ((w.alloc (.cells #[.bool neg, .slice A l c, .slice B m k] 33)).alloc (.cells #[.bool neg, .slice A l c, .slice B m k] 33)) (w.heap.size + 1) 33 #[.bool neg, .slice A l c, .slice B m k] := by
    have := Blk.new (w.alloc (.cells #[.bool neg, .slice A l c, .slice B m k] 33)) 33 #[.bool neg, .slice A l c, .slice B m k]
    simpa using this
  go_enter Try.func29, Try.ntmps29
  go_wp2_with fail
  generalize ((w.alloc (.cells #[.bool neg, .slice A l c, .slice B m k] 33)).alloc (.cells #[.bool neg, .slice A l c, .slice B m k] 33)) = w1 at hXw hB1 hB2 ⊢
  refine (anyLarge_one false _ _ neg A B l c m k xs ys _ hB2 (HR.out.ext hXw) (by simp [HS.out])).mono ?_
  rintro e w2 ⟨rfl, hX2⟩
  obtain ⟨x0, x1, x2, _, _, _⟩ := (hB1.ext hX2).three
  have HX2 := Lib.hid (hXw.trans hX2)
  have HX12 := Lib.hid hX2
  clear hXw hB1 hB2 hX2
  go_wp2_with fail
  refine (of_any _ neg xs ys 256 _ (HR.out.ext HX2.out) HS.out.1.fit HS.out.den.fit (by omega)).mono ?_
  rintro e w3 ⟨v3, rfl, hv3, hX3⟩
  obtain ⟨A3, l3, c3, B3, m3, k3, rfl, _⟩ := NumV.open hv3
  have HV3 := Lib.hid (NumQ.numx hv3 HS.out.fit)
  have HQ3 := Lib.hid hv3
  have HX3 := Lib.hid (HX2.out.trans hX3)
  clear hX3 hv3 x0 x1 x2
  go_wp2_with fail
  refine (negX HV3.out).mono ?_
  rintro e w4 ⟨v4, rfl, hv4, hX4⟩
  obtain ⟨s4, A4, l4, c4, B4, m4, k4, rfl⟩ := hv4.open
  have HV4 := Lib.hid hv4
  have HX4 := Lib.hid (HX3.out.trans hX4)
  clear hX4 hv4
  go_wp2_with fail
  refine (xfloor_no _ _ 256 _ HV4.out (by omega) h0).mono ?_
  rintro e w5 ⟨rfl, hX5⟩
  have HX5 := Lib.hid (HX4.out.trans hX5)
  clear hX5
  clear h0
  go_wp2
  go_ret2
  exact ⟨rfl, HX5.out⟩

end Go.Proofs.Yteoijnaljkagfaa
namespace Go.Proofs.Yteoijnaljkagfaa
open Go.RowKit

theorem RatC.past {w : World} {v : Value} {q : Rat} {g : Nat} (h : RatC w v q) (hN : NoInts w g) (b : Bool) (A1 A2 : Option Addr) (l1 c1 l2 c2 : Nat) :
    RatC (((w.setCell ⟨g, 0, none⟩ (.bool b)).setCell ⟨g, 1, none⟩ (.slice A1 l1 c1)).setCell ⟨g, 2, none⟩ (.slice A2 l2 c2)) v q := by
  obtain ⟨xs, ys, ⟨A, l, c, B, m, k, rfl, h1, h2, h3, h4, h5, h6⟩, hx, hy⟩ := h
  refine ⟨xs, ys, ⟨A, l, c, B, m, k, rfl, ?_, h2, h3, ?_, h5, h6⟩, hx, hy⟩
  · exact ((h1.past hN.cell 0 _).past (hN.set 0 (noInt_bool _)).cell 1 _).past ((hN.set 0 (noInt_bool _)).set 1 (noInt_slice _ _ _)).cell 2 _
  · exact ((h4.past hN.cell 0 _).past (hN.set 0 (noInt_bool _)).cell 1 _).past ((hN.set 0 (noInt_bool _)).set 1 (noInt_slice _ _ _)).cell 2 _
theorem RatC.open {w : World} {v : Value} {q : Rat} (h : RatC w v q) : ∃ s A l c B m k, v = .agg #[.bool s, .slice A l c, .slice B m k] := by
  obtain ⟨xs, ys, ⟨A, l, c, B, m, k, rfl, _⟩, _⟩ := h
  exact ⟨_, _, _, _, _, _, _, rfl⟩
theorem FitQW.of4 {q : Rat} {L : Nat} (h : FitQ q L) (hl : L ≤ 256) : FitQW q := FitQW.of (h.mono hl)
set_option maxRecDepth 100000 in
set_option maxHeartbeats 2000000 in
theorem eratio_ok (a b : Int) (w : World) (h0 : -9223372036854775808 ≤ a) (h1 : a ≤ 9223372036854775807) (h2 : -9223372036854775808 ≤ b) (h3 : b ≤ 9223372036854775807) (hb : b ≠ 0) :
    Calls Try.prog 22 #[.int .i64 a, .int .i64 b] w (RetC w ((a : Rat) / (b : Rat))) := by
  have hXw : Ext w (w.alloc (.cells #[.bool false, .slice none 0 0, .slice none 0 0] 33)) := (Ext.refl w).alloc _
  have hBR : Blk (w.alloc (.cells #[.bool false, .slice none 0 0, .slice none 0 0] 33)) w.heap.size 33 #[.bool false, .slice none 0 0, .slice none 0 0] := Blk.new w _ _
  have hbq : ((b : Int) : Rat) ≠ 0 := by simpa using hb
  have HBQ := Lib.hid hbq
  have hb' : (b == 0) = false := by simpa using hb
  go_enter Try.func22, Try.ntmps22
  go_wp2_with fail
  generalize (w.alloc (.cells #[.bool false, .slice none 0 0, .slice none 0 0] 33)) = w1 at hXw hBR ⊢
  refine (intX a _ h0 h1).mono ?_
  rintro e w2 ⟨v2, rfl, hv2, hX2⟩
  obtain ⟨s2, A2, l2, c2, B2, m2, k2, rfl⟩ := hv2.open
  have HV2 := Lib.hid hv2
  have HX2 := Lib.hid (hXw.trans hX2)
  have HB2 := Lib.hid (hBR.ext hX2)
  clear hXw hBR hX2 hv2 hb' hbq hb
  go_wp2_with fail
  refine (intX b _ h2 h3).mono ?_
  rintro e w3 ⟨v3, rfl, hv3, hX3⟩
  obtain ⟨s3, A3, l3, c3, B3, m3, k3, rfl⟩ := hv3.open
  have HV3 := Lib.hid hv3
  have HV2' := Lib.hid (HV2.out.ext hX3)
  have HX3 := Lib.hid (HX2.out.trans hX3)
  have HB3 := Lib.hid (HB2.out.ext hX3)
  clear hX3 hv3
  go_wp2_with fail
  refine (divX HV2'.out HV3.out HBQ.out (by omega) (by omega)).mono ?_
  rintro e w4 ⟨v4, rfl, hv4, hX4⟩
  obtain ⟨s4, A4, l4, c4, B4, m4, k4, rfl⟩ := hv4.open
  have HV4 := Lib.hid hv4
  have HX4 := Lib.hid (HX3.out.trans hX4)
  have HB4 := Lib.hid (HB3.out.ext hX4)
  clear hX4 hv4
  go_wp2_with fail
  refine (done_ok _ _ 4 _ HV4.out (by omega) (FitQW.of4 HV4.out.fit (by omega))).mono ?_
  rintro e w5 ⟨v5, rfl, hv5, hX5⟩
  obtain ⟨s5, A5, l5, c5, B5, m5, k5, rfl⟩ := hv5.open
  have HX5 := Lib.hid (HX4.out.trans hX5)
  have hB5 := HB4.out.ext hX5
  obtain ⟨r0, r1, r2, g0, g1, g2⟩ := hB5.three
  have HV6 := Lib.hid (hv5.past (NoInts.three hB5) s5 A5 B5 l5 c5 m5 k5)
  clear hX5 hv5 hB5
  go_wp2
  refine bodyPost_ret (v := .tuple #[.agg #[.bool s5, .slice A5 l5 c5, .slice B5 m5 k5], .int .i64 0]) (by simp [results, Try.results22, go_sem, *]) rfl ?_
  exact ⟨_, rfl, HV6.out, Ext.boxed HX5.out (Nat.le_refl _) _ _ _⟩

end Go.Proofs.Yteoijnaljkagfaa
namespace Go.Proofs.Yteoijnaljkagfaa
open Go.RowKit

/-- A value that denotes a number and is not large. -/
def RatG (w : World) (v : Value) (q : Rat) : Prop := ∃ neg xs ys, RatV w v neg xs ys ∧ SmallR xs ys ∧ ratOf neg xs ys = q
theorem RatG.ext {w w' : World} {v : Value} {q : Rat} (h : RatG w v q) (he : Ext w w') : RatG w' v q := by
  obtain ⟨neg, xs, ys, h1, h2, h3⟩ := h
  exact ⟨neg, xs, ys, h1.ext he, h2, h3⟩
theorem RatG.fit {w : World} {v : Value} {q : Rat} (h : RatG w v q) : FitQ q 256 := by
  obtain ⟨neg, xs, ys, h1, h2, rfl⟩ := h
  exact h2.fit
theorem Rep.wN {xs : List Int} {n : Nat} (h : Rep 4294967296 xs n) : wN xs = n := by
  have := h.2.2
  unfold Go.Proofs.Yteoijnaljkagfaa.wN; omega
theorem RatC.good {w : World} {v : Value} {q : Rat} (h : RatC w v q) (hf : FitQW q) : RatG w v q := by
  obtain ⟨xs, ys, h1, h2, h3⟩ := h
  have e1 := h2.wN
  have e2 : wD ys = q.den ∧ FitW (wN ys) := by
    rcases h3 with ⟨hd, rfl⟩ | ⟨hd, hr⟩
    · have : wN [] = 0 := by simp [wN, val]
      refine ⟨by unfold wD; rw [this, hd]; rfl, ?_⟩
      rw [this]; exact ⟨Fit.zero (by omega)⟩
    · have e := hr.wN
      have := q.den_pos
      refine ⟨by unfold wD; rw [e, if_neg (by omega)], ?_⟩
      rw [e]; exact hf.den
  refine ⟨_, xs, ys, h1, ⟨by rw [e1]; exact hf.num, e2.2⟩, ?_⟩
  unfold ratOf
  rw [e1, e2.1, ratV_self]
theorem RatG.open {w : World} {v : Value} {q : Rat} (h : RatG w v q) : ∃ s A l c B m k, v = .agg #[.bool s, .slice A l c, .slice B m k] := by
  obtain ⟨neg, xs, ys, ⟨A, l, c, B, m, k, rfl, _⟩, _⟩ := h
  exact ⟨_, _, _, _, _, _, _, rfl⟩

section
variable {w : World} {v : Value} {q : Rat}
theorem textG (h : RatG w v q) : Calls Try.prog 37 #[v] w (fun e w' => ∃ b, e = .returned (.tuple #[.string b, .int .i64 0]) ∧ TextB (decide (q.num < 0)) q.num.natAbs q.den b ∧ Ext w w') := by
  obtain ⟨neg, xs, ys, h1, h2, rfl⟩ := h
  exact etext_ok v neg xs ys w h1 h2
theorem floorG (h : RatG w v q) (h0 : -1152921504606846976 ≤ q.floor) (h1 : q.floor ≤ 1152921504606846976) : Calls Try.prog 28 #[v] w (RetE w (.int .i64 q.floor) 0) := by
  obtain ⟨neg, xs, ys, k1, k2, rfl⟩ := h
  exact efloor_ok v neg xs ys w k1 k2 h0 h1
theorem floorG_out (h : RatG w v q) (h0 : q.floor < -1152921504606846976 ∨ 1152921504606846976 < q.floor) : Calls Try.prog 28 #[v] w (RetE w (.int .i64 0) 3) := by
  obtain ⟨neg, xs, ys, k1, k2, rfl⟩ := h
  exact efloor_out v neg xs ys w k1 k2 h0
theorem ceilG (h : RatG w v q) (h0 : -1152921504606846976 ≤ (-q).floor) (h1 : (-q).floor ≤ 1152921504606846976) : Calls Try.prog 29 #[v] w (RetE w (.int .i64 (-(-q).floor)) 0) := by
  obtain ⟨neg, xs, ys, k1, k2, rfl⟩ := h
  exact eceil_ok v neg xs ys w k1 k2 h0 h1
theorem ceilG_out (h : RatG w v q) (h0 : (-q).floor < -1152921504606846976 ∨ 1152921504606846976 < (-q).floor) : Calls Try.prog 29 #[v] w (RetE w (.int .i64 0) 3) := by
  obtain ⟨neg, xs, ys, k1, k2, rfl⟩ := h
  exact eceil_out v neg xs ys w k1 k2 h0
end

theorem q46 : (((4 : Int) : Rat) / ((6 : Int) : Rat)).num = 2 ∧ (((4 : Int) : Rat) / ((6 : Int) : Rat)).den = 3 := by decide +kernel
theorem q46_fl : (-(((4 : Int) : Rat) / ((6 : Int) : Rat))).floor = -1 := by decide +kernel
theorem q46_fit : FitQW (((4 : Int) : Rat) / ((6 : Int) : Rat)) := by
  refine ⟨⟨?_⟩, ⟨?_⟩⟩
  · rw [q46.1]; exact (show Fit 4294967296 2 1 by unfold Fit; omega).mono (by omega) (by omega)
  · rw [q46.2]; exact (show Fit 4294967296 3 1 by unfold Fit; omega).mono (by omega) (by omega)
theorem dec_digit (n : Nat) (h0 : 0 < n) (h1 : n < 10) : Dec n [48 + (n : Int)] := .inr ⟨by omega, [(n : Int)], Rep.small (B := 10) (x := (n : Int)) (by omega) (by omega), rfl⟩
theorem q46_text {b : ByteArray} (h : TextB false 2 3 b) : b = ⟨#[50, 47, 51]⟩ :=
  h.unique ⟨[50], [51], dec_digit 2 (by omega) (by omega), dec_digit 3 (by omega) (by omega), by decide +kernel⟩

set_option maxRecDepth 100000 in
set_option maxHeartbeats 2000000 in
theorem first_any (w : World) : Calls Try.prog 20 #[] w fun e w' => e = .returned (.bool true) ∧ Ext w w' := by
  go_enter Try.func20, Try.ntmps20
  go_wp2_with fail
  refine (eratio_ok 4 6 _ (by omega) (by omega) (by omega) (by omega) (by omega)).mono ?_
  rintro e w1 ⟨v1, rfl, hv1, hX1⟩
  have hg := hv1.good q46_fit
  obtain ⟨s, A, l, c, B, m, k, rfl⟩ := hg.open
  have hXa : Ext w1 (w1.alloc (.cells #[.bool s, .slice A l c, .slice B m k] 33)) := (Ext.refl w1).alloc _
  have HX2 := Lib.hid (hX1.trans hXa)
  have HG := Lib.hid (hg.ext hXa)
  have HB := Lib.hid (Blk.new w1 33 #[.bool s, .slice A l c, .slice B m k])
  clear hX1 hv1 hg hXa
  go_upto_region 2 with (fail)
  generalize w1.alloc (.cells #[.bool s, .slice A l c, .slice B m k] 33) = w2 at HX2 HB HG ⊢
  obtain ⟨x0, x1, x2, _, _, _⟩ := HB.out.three
  go_wp2_with fail
  refine (textG HG.out).mono ?_
  rintro e w3 ⟨b, rfl, hb, hX3⟩
  rw [q46.1, q46.2] at hb
  obtain rfl := q46_text hb
  have HX3 := Lib.hid (HX2.out.trans hX3)
  have HG3 := Lib.hid (HG.out.ext hX3)
  have HB3 := Lib.hid (HB.out.ext hX3)
  clear hX3 hb x0 x1 x2
  obtain ⟨x0, x1, x2, _, _, _⟩ := HB3.out.three
  go_wp2_with fail
  refine (ceilG HG3.out (by rw [q46_fl]; omega) (by rw [q46_fl]; omega)).mono ?_
  rw [q46_fl]
  rintro e w4 ⟨rfl, hX4⟩
  have HX4 := Lib.hid (HX3.out.trans hX4)
  clear hX4
  go_wp2_with fail
  refine (turn_any 0 0 1 0 0 1 _).mono ?_
  rw [show turnI (0, 0) (1, 0) (0, 1) = 1 by decide, show turnE (0, 0) (1, 0) (0, 1) = 0 by decide]
  rintro e w5 ⟨rfl, hX5⟩
  have HX5 := Lib.hid (HX4.out.trans hX5)
  clear hX5
  go_wp2
  go_ret
  exact ⟨rfl, HX5.out⟩
end Go.Proofs.Yteoijnaljkagfaa
namespace Go.Proofs.Yteoijnaljkagfaa
open Go.RowKit

/-- A value that denotes a number, and whether it is large. -/
def RatL (w : World) (v : Value) (big : Bool) : Prop := ∃ neg xs ys, RatV w v neg xs ys ∧ (big = true ↔ ¬ SmallR xs ys)
theorem RatL.ext {w w' : World} {v : Value} {b : Bool} (h : RatL w v b) (he : Ext w w') : RatL w' v b := by
  obtain ⟨neg, xs, ys, h1, h2⟩ := h
  exact ⟨neg, xs, ys, h1.ext he, h2⟩
theorem RatG.small {w : World} {v : Value} {q : Rat} (h : RatG w v q) : RatL w v false := by
  obtain ⟨neg, xs, ys, h1, h2, _⟩ := h
  exact ⟨neg, xs, ys, h1, by simp [h2]⟩
theorem RatL.is {w : World} {v : Value} {b : Bool} (h : RatL w v b) : Calls Try.prog 116 #[v] w fun e w' => e = .returned (.bool b) ∧ Ext w w' := by
  obtain ⟨neg, xs, ys, h1, h2⟩ := h
  exact large_is b v neg xs ys w h1 h2
theorem RatV.cases {w : World} {v : Value} {neg : Bool} {xs ys : List Int} (h : RatV w v neg xs ys) : RatL w v true ∨ (RatL w v false ∧ RatG w v (ratOf neg xs ys)) := by
  by_cases hs : SmallR xs ys
  · exact .inr ⟨⟨neg, xs, ys, h, by simp [hs]⟩, ⟨neg, xs, ys, h, hs, rfl⟩⟩
  · exact .inl ⟨neg, xs, ys, h, by simp [hs]⟩

end Go.Proofs.Yteoijnaljkagfaa
namespace Go.Proofs.Yteoijnaljkagfaa
open Go.RowKit

theorem pow_double (m : Nat) : (65536 : Int) ^ (2 * m) = 4294967296 ^ m := by rw [Int.pow_mul]; rfl
theorem fit_double {n L : Nat} : Fit 65536 n (2 * L) ↔ Fit 4294967296 n L := by unfold Fit; rw [pow_double]
theorem fitR_double {q : Rat} {L : Nat} (h : FitQ q L) : FitR q (2 * L) := ⟨fit_double.2 h.1, fit_double.2 h.2⟩
theorem Blk.at2 {W : World} {g : Nat} {T : TypeId} {x y : Value} (h : Blk W g T #[x, y]) : At W (some ⟨g, 0, none⟩) [x, y] := fun _ => ⟨g, 0, rfl, fun j v hv => by rw [h.cell]; simpa using hv⟩
theorem limbs_step {out xs : List Int} {k : Nat} {x : Int} (hx : xs[k]? = some x) (hl : out.length = 2 * k) (hv : val 65536 out = val 4294967296 (xs.take k)) :
    val 65536 (out ++ [x % 65536, x / 65536]) = val 4294967296 (xs.take (k + 1)) := by
  rw [val_append, hl, pow_double, hv, val_take_succ hx]
  simp only [val]
  have h := Int.emod_add_mul_ediv x 65536
  generalize x % 65536 = r at *
  generalize x / 65536 = t at *
  grind

set_option maxRecDepth 100000 in
set_option maxHeartbeats 2000000 in
theorem limbs_r10 (bw ow l c k : Nat) (x : Int) (vo : Value) (w : World) (hcx : w.cell? ⟨bw, ow + k, none⟩ = some (.int .u32 x)) (hk0 : (0 : Int) ≤ (k : Int)) (hkl : (k : Int) < (l : Int)) (hx0 : 0 ≤ x) (hx1 : x ≤ 4294967295) (hw1 : IntKind.i64.wrap (x % 65536) = x % 65536) (hw2 : IntKind.i64.wrap (x / 65536) = x / 65536) (hw3 : IntKind.u32.wrap (x / 65536) = x / 65536) (hq0 : 0 ≤ x / 65536) (hq1 : x / 65536 ≤ 65535) (hr0 : 0 ≤ x % 65536) (hr1 : x % 65536 < 65536) (a : Act) (Q : Exit → Act → World → Prop) (hsize : 42 ≤ a.tmps.size)
    (s0 : a.tmps[0]? = some (.slice (some ⟨bw, ow, none⟩) l c))
    (s5 : a.tmps[5]? = some (vo))
    (s6 : a.tmps[6]? = some (.int .i64 (k : Int)))
    (hend : ∀ (xv0 xv1 xv2 xv3 xv4 xv5 xv6 xv7 xv8 xv9 xv10 xv11 xv12 xv13 : Value) (W : World), (xv0 = vo) → (xv1 = .slice (some ⟨bw, ow, none⟩) l c) → (xv2 = .int .i64 (k : Int)) → (xv3 = .pointer (some ⟨bw, ow + k, none⟩)) → (xv4 = .int .u32 x) → (xv5 = .int .u32 (x % 65536)) → (xv6 = .int .i64 (x % 65536)) → (xv7 = .slice (some ⟨bw, ow, none⟩) l c) → (xv8 = .int .i64 (k : Int)) → (xv9 = .pointer (some ⟨bw, ow + k, none⟩)) → (xv10 = .int .u32 x) → (xv11 = .int .u32 (x / 65536)) → (xv12 = .int .i64 (x / 65536)) → (∃ g, xv13 = .slice (some ⟨g, 0, none⟩) 2 2 ∧ Blk W g 3 #[.int .i64 (x % 65536), .int .i64 (x / 65536)]) → Ext w W → wpList Try.prog (rops Try.f119 10).toArray Q ((rops Try.f119 10).drop 14) ((((((((((((((a.put (some 28) xv0).put (some 29) xv1).put (some 30) xv2).put (some 31) xv3).put (some 32) xv4).put (some 33) xv5).put (some 34) xv6).put (some 35) xv7).put (some 36) xv8).put (some 37) xv9).put (some 38) xv10).put (some 39) xv11).put (some 40) xv12).put (some 41) xv13) W) :
    (Code.region 10 (rops Try.f119 10).toArray true).wp Try.prog Q a w := by
  have hmono : ∀ (W W' : World) (j : Nat) (u : Value), Ext W W' → (fun (i : Nat) (v : Value) (W : World) => match i with
    | 0 => v = vo
    | 1 => v = .slice (some ⟨bw, ow, none⟩) l c
    | 2 => v = .int .i64 (k : Int)
    | 3 => v = .pointer (some ⟨bw, ow + k, none⟩)
    | 4 => v = .int .u32 x
    | 5 => v = .int .u32 (x % 65536)
    | 6 => v = .int .i64 (x % 65536)
    | 7 => v = .slice (some ⟨bw, ow, none⟩) l c
    | 8 => v = .int .i64 (k : Int)
    | 9 => v = .pointer (some ⟨bw, ow + k, none⟩)
    | 10 => v = .int .u32 x
    | 11 => v = .int .u32 (x / 65536)
    | 12 => v = .int .i64 (x / 65536)
    | 13 => ∃ g, v = .slice (some ⟨g, 0, none⟩) 2 2 ∧ Blk W g 3 #[.int .i64 (x % 65536), .int .i64 (x / 65536)]
    | _ => True) j u W → (fun (i : Nat) (v : Value) (W : World) => match i with
    | 0 => v = vo
    | 1 => v = .slice (some ⟨bw, ow, none⟩) l c
    | 2 => v = .int .i64 (k : Int)
    | 3 => v = .pointer (some ⟨bw, ow + k, none⟩)
    | 4 => v = .int .u32 x
    | 5 => v = .int .u32 (x % 65536)
    | 6 => v = .int .i64 (x % 65536)
    | 7 => v = .slice (some ⟨bw, ow, none⟩) l c
    | 8 => v = .int .i64 (k : Int)
    | 9 => v = .pointer (some ⟨bw, ow + k, none⟩)
    | 10 => v = .int .u32 x
    | 11 => v = .int .u32 (x / 65536)
    | 12 => v = .int .i64 (x / 65536)
    | 13 => ∃ g, v = .slice (some ⟨g, 0, none⟩) 2 2 ∧ Blk W g 3 #[.int .i64 (x % 65536), .int .i64 (x / 65536)]
    | _ => True) j u W' := by
    intro W W' j u hX h
    match j, h with
    | 0, h => exact h
    | 1, h => exact h
    | 2, h => exact h
    | 3, h => exact h
    | 4, h => exact h
    | 5, h => exact h
    | 6, h => exact h
    | 7, h => exact h
    | 8, h => exact h
    | 9, h => exact h
    | 10, h => exact h
    | 11, h => exact h
    | 12, h => exact h
    | 13, h => obtain ⟨g, h1, h2⟩ := h; exact ⟨g, h1, h2.ext hX⟩
    | _ + 14, h => exact h
  have hsz : ∀ d, some d ∈ ([some 28, some 29, some 30, some 31, some 32, some 33, some 34, some 35, some 36, some 37, some 38, some 39, some 40, some 41] : List (Option Tmp)) → d < a.tmps.size := slots_lt (by decide) hsize
  refine wp_region_j 14 [some 28, some 29, some 30, some 31, some 32, some 33, some 34, some 35, some 36, some 37, some 38, some 39, some 40, some 41] [[], [], [], [1, 2], [3], [4], [5], [], [], [7, 8], [9], [10], [11], [6, 12]] [[], [], [], [], [], [], [], [], [], [], [], [], [], []] (fun (i : Nat) (v : Value) (W : World) => match i with
    | 0 => v = vo
    | 1 => v = .slice (some ⟨bw, ow, none⟩) l c
    | 2 => v = .int .i64 (k : Int)
    | 3 => v = .pointer (some ⟨bw, ow + k, none⟩)
    | 4 => v = .int .u32 x
    | 5 => v = .int .u32 (x % 65536)
    | 6 => v = .int .i64 (x % 65536)
    | 7 => v = .slice (some ⟨bw, ow, none⟩) l c
    | 8 => v = .int .i64 (k : Int)
    | 9 => v = .pointer (some ⟨bw, ow + k, none⟩)
    | 10 => v = .int .u32 x
    | 11 => v = .int .u32 (x / 65536)
    | 12 => v = .int .i64 (x / 65536)
    | 13 => ∃ g, v = .slice (some ⟨g, 0, none⟩) 2 2 ∧ Blk W g 3 #[.int .i64 (x % 65536), .int .i64 (x / 65536)]
    | _ => True) (fun _ W => Ext w W) (by kernel_rfl) (by kernel_rfl) hsz (fun _ _ _ _ h => h) ((Ext.refl w).drew) ?_ ?_
  · clear hend
    simp only [rops, Try.f119, regOf, Option.bind_some, Nat.reduceBEq, if_true, if_false, Bool.false_eq_true, Option.getD_some]
    simp only [List.take_succ_cons, List.take_zero]
    refine ⟨?_, ?_, ?_, ?_, ?_, ?_, ?_, ?_, ?_, ?_, ?_, ?_, ?_, ?_, trivial⟩
    · intro done us W hJ hdep haft hnot b hb hb' K hK Q'
      have e5 := (hb' 5 (by simp)).trans s5
      clear hb hb'
      go_simp
      exact hK _ _ rfl (fun _ _ _ h => h) hJ
    · intro done us W hJ hdep haft hnot b hb hb' K hK Q'
      have e0 := (hb' 0 (by simp)).trans s0
      clear hb hb'
      go_simp
      exact hK _ _ rfl (fun _ _ _ h => h) hJ
    · intro done us W hJ hdep haft hnot b hb hb' K hK Q'
      have e6 := (hb' 6 (by simp)).trans s6
      clear hb hb'
      go_simp
      exact hK _ _ rfl (fun _ _ _ h => h) hJ
    · intro done us W hJ hdep haft hnot b hb hb' K hK Q'
      simp only [List.getD_cons_succ, List.getD_cons_zero, List.mem_cons, List.not_mem_nil, or_false, forall_eq_or_imp, forall_eq] at hdep
      have e29 := hb 1 29 rfl
      have e30 := hb 2 30 rfl
      have d1 := hdep.1
      have d2 := hdep.2
      rw [d1.1] at e29
      rw [d2.1] at e30
      clear hb hb' hdep d1 d2
      go_simp
      exact hK _ _ rfl (fun _ _ _ h => h) hJ
    · intro done us W hJ hdep haft hnot b hb hb' K hK Q'
      simp only [List.getD_cons_succ, List.getD_cons_zero, List.mem_cons, List.not_mem_nil, or_false, forall_eq_or_imp, forall_eq] at hdep
      have e31 := hb 3 31 rfl
      have d3 := hdep
      rw [d3.1] at e31
      clear hb hb' hdep d3
      have q := Ext.cell hJ hcx
      go_simp
      exact hK _ _ rfl (fun _ _ _ h => h) hJ
    · intro done us W hJ hdep haft hnot b hb hb' K hK Q'
      simp only [List.getD_cons_succ, List.getD_cons_zero, List.mem_cons, List.not_mem_nil, or_false, forall_eq_or_imp, forall_eq] at hdep
      have e32 := hb 4 32 rfl
      have d4 := hdep
      rw [d4.1] at e32
      clear hb hb' hdep d4
      go_simp
      rw [Int.tmod_eq_emod_of_nonneg hx0]
      exact hK _ _ rfl (fun _ _ _ h => h) hJ
    · intro done us W hJ hdep haft hnot b hb hb' K hK Q'
      simp only [List.getD_cons_succ, List.getD_cons_zero, List.mem_cons, List.not_mem_nil, or_false, forall_eq_or_imp, forall_eq] at hdep
      have e33 := hb 5 33 rfl
      have d5 := hdep
      rw [d5.1] at e33
      clear hb hb' hdep d5
      go_simp
      exact hK _ _ rfl (fun _ _ _ h => h) hJ
    · intro done us W hJ hdep haft hnot b hb hb' K hK Q'
      have e0 := (hb' 0 (by simp)).trans s0
      clear hb hb'
      go_simp
      exact hK _ _ rfl (fun _ _ _ h => h) hJ
    · intro done us W hJ hdep haft hnot b hb hb' K hK Q'
      have e6 := (hb' 6 (by simp)).trans s6
      clear hb hb'
      go_simp
      exact hK _ _ rfl (fun _ _ _ h => h) hJ
    · intro done us W hJ hdep haft hnot b hb hb' K hK Q'
      simp only [List.getD_cons_succ, List.getD_cons_zero, List.mem_cons, List.not_mem_nil, or_false, forall_eq_or_imp, forall_eq] at hdep
      have e35 := hb 7 35 rfl
      have e36 := hb 8 36 rfl
      have d7 := hdep.1
      have d8 := hdep.2
      rw [d7.1] at e35
      rw [d8.1] at e36
      clear hb hb' hdep d7 d8
      go_simp
      exact hK _ _ rfl (fun _ _ _ h => h) hJ
    · intro done us W hJ hdep haft hnot b hb hb' K hK Q'
      simp only [List.getD_cons_succ, List.getD_cons_zero, List.mem_cons, List.not_mem_nil, or_false, forall_eq_or_imp, forall_eq] at hdep
      have e37 := hb 9 37 rfl
      have d9 := hdep
      rw [d9.1] at e37
      clear hb hb' hdep d9
      have q := Ext.cell hJ hcx
      go_simp
      exact hK _ _ rfl (fun _ _ _ h => h) hJ
    · intro done us W hJ hdep haft hnot b hb hb' K hK Q'
      simp only [List.getD_cons_succ, List.getD_cons_zero, List.mem_cons, List.not_mem_nil, or_false, forall_eq_or_imp, forall_eq] at hdep
      have e38 := hb 10 38 rfl
      have d10 := hdep
      rw [d10.1] at e38
      clear hb hb' hdep d10
      go_simp
      first
      | rw [hw3]
      | rw [Int.tdiv_eq_ediv_of_nonneg hx0, hw3]
      exact hK _ _ rfl (fun _ _ _ h => h) hJ
    · intro done us W hJ hdep haft hnot b hb hb' K hK Q'
      simp only [List.getD_cons_succ, List.getD_cons_zero, List.mem_cons, List.not_mem_nil, or_false, forall_eq_or_imp, forall_eq] at hdep
      have e39 := hb 11 39 rfl
      have d11 := hdep
      rw [d11.1] at e39
      clear hb hb' hdep d11
      go_simp
      exact hK _ _ rfl (fun _ _ _ h => h) hJ
    · intro done us W hJ hdep haft hnot b hb hb' K hK Q'
      simp only [List.getD_cons_succ, List.getD_cons_zero, List.mem_cons, List.not_mem_nil, or_false, forall_eq_or_imp, forall_eq] at hdep
      have e34 := hb 6 34 rfl
      have e40 := hb 12 40 rfl
      have d6 := hdep.1
      have d12 := hdep.2
      rw [d6.1] at e34
      rw [d12.1] at e40
      clear hb hb' hdep d6 d12
      have hX : Ext W (W.alloc (.cells #[.int .i64 (x % 65536), .int .i64 (x / 65536)] 3)) := (Ext.refl W).alloc _
      go_simp
      exact hK _ _ ⟨_, rfl, Blk.new _ _ _⟩ (fun j u _ h => hmono _ _ j u hX h) (Ext.trans hJ hX)
  · intro us W hV hJ
    exact hend (us 0) (us 1) (us 2) (us 3) (us 4) (us 5) (us 6) (us 7) (us 8) (us 9) (us 10) (us 11) (us 12) (us 13) W (hV 0 (by omega)) (hV 1 (by omega)) (hV 2 (by omega)) (hV 3 (by omega)) (hV 4 (by omega)) (hV 5 (by omega)) (hV 6 (by omega)) (hV 7 (by omega)) (hV 8 (by omega)) (hV 9 (by omega)) (hV 10 (by omega)) (hV 11 (by omega)) (hV 12 (by omega)) (hV 13 (by omega)) hJ
set_option maxRecDepth 100000 in
set_option maxHeartbeats 2000000 in
theorem limbs_no (A : Option Addr) (l c : Nat) (xs : List Int) (w : World) (hI : Ints .u32 w A l xs) (hc1 : l ≤ c) (hc2 : c ≤ 9223372036854775807) (hf : ¬ FitW (wN xs)) :
    Calls Try.prog 119 #[.slice A l c] w (fun e w' => e = .returned (.tuple #[.slice none 0 0, .bool false]) ∧ Ext w w') := by
  have H := Lib.hid hI
  have HL : Hid (xs.length = l) := hI.1
  have HF := Lib.hid hf
  clear hI hf
  go_enter Try.func119, Try.ntmps119
  go_upto_block 0 with (fail)
  go_cut [4] (fun v W => ∃ m : Nat, v = .int .i64 (m : Int) ∧ m ≤ l ∧ Hid (Nm (xs.take m)) ∧ Hid (val 4294967296 (xs.take m) = val 4294967296 xs) ∧ w = W)
  case first =>
    as_aux_lemma =>
      go_wp2
      go_loopg [4] l (fun g v wr => ∃ m : Nat, m = g ∧ m ≤ l ∧ v = .int .i64 (m : Int) ∧ Hid (val 4294967296 (xs.take m) = val 4294967296 xs) ∧ w = wr)
      case atStart => exact ⟨l, rfl, Nat.le_refl _, rfl, by rw [List.take_of_length_le (by rw [HL.out]; exact Nat.le_refl _)]; rfl, rfl⟩
      case round =>
        obtain ⟨m, rfl, hm, rfl, hv, rfl⟩ := hrel
        rcases Nat.eq_zero_or_pos m with h0 | h0
        · subst h0
          go_wp2
          go_meet
          exact ⟨0, rfl, by omega, by simp [Nm, Hid], hv.out, rfl⟩
        · obtain ⟨k, rfl⟩ : ∃ k, m = k + 1 := ⟨m - 1, by omega⟩
          obtain ⟨b, off, x, rfl, hx, hwf, hc⟩ := H.out.get (j := k) (by omega)
          obtain ⟨hx0, hx1⟩ := u32_bounds hwf
          have HX := Lib.hid hx
          have hkc : ((k + 1 : Nat) : Int) = (k : Int) + 1 := by omega
          have hk0 : (0 : Int) ≤ (k : Int) := by omega
          have hkn : (k : Int) < (l : Int) := by omega
          rw [hkc]
          clear hx hwf hkc
          by_cases hz : x = 0
          · have hzb : (x == 0) = true := by simpa using hz
            have HV : Hid (val 4294967296 (xs.take k) = val 4294967296 xs) := by
              have := hv.out
              rw [val_take_succ HX.out, hz] at this
              show _ = _
              omega
            clear hz hv
            go_wp2
            go_roundg k
            case rel => exact ⟨k, rfl, by omega, rfl, HV, rfl⟩
            case measure => omega
          · have hzb : (x == 0) = false := by simpa using hz
            have HZ := Lib.hid hz
            clear hz
            go_wp2
            go_meet
            exact ⟨k + 1, by rw [show ((k + 1 : Nat) : Int) = (k : Int) + 1 by omega], hm, Nm.take HX.out HZ.out, hv.out, rfl⟩
  case rest =>
    as_aux_lemma =>
      obtain ⟨m, rfl, hm, HN, HV, rfl⟩ := hcut
      have hlen := norm_len H.out hm HN.out HV.out 256
      have hbig : ¬ m ≤ 256 := fun h => HF.out ⟨hlen.1 h⟩
      have hbi : (256 : Int) < (m : Int) := by omega
      go_wp2
      go_ret2
      exact ⟨rfl, Ext.refl _⟩

set_option maxRecDepth 100000 in
set_option maxHeartbeats 2000000 in
theorem limbs_yes (A : Option Addr) (l c : Nat) (xs : List Int) (w : World) (hI : Ints .u32 w A l xs) (hc1 : l ≤ c) (hc2 : c ≤ 9223372036854775807) (hf : FitW (wN xs)) :
    Calls Try.prog 119 #[.slice A l c] w (fun e w' => ∃ v, e = .returned (.tuple #[v, .bool true]) ∧ Z16 w' v (wN xs) ∧ Ext w w') := by
  have H := Lib.hid hI
  have HL : Hid (xs.length = l) := hI.1
  have HF := Lib.hid hf
  clear hI hf
  go_enter Try.func119, Try.ntmps119
  go_upto_block 0 with (fail)
  go_cut [4] (fun v W => ∃ m : Nat, v = .int .i64 (m : Int) ∧ m ≤ l ∧ Hid (Nm (xs.take m)) ∧ Hid (val 4294967296 (xs.take m) = val 4294967296 xs) ∧ w = W)
  case first =>
    as_aux_lemma =>
      go_wp2
      go_loopg [4] l (fun g v wr => ∃ m : Nat, m = g ∧ m ≤ l ∧ v = .int .i64 (m : Int) ∧ Hid (val 4294967296 (xs.take m) = val 4294967296 xs) ∧ w = wr)
      case atStart => exact ⟨l, rfl, Nat.le_refl _, rfl, by rw [List.take_of_length_le (by rw [HL.out]; exact Nat.le_refl _)]; rfl, rfl⟩
      case round =>
        obtain ⟨m, rfl, hm, rfl, hv, rfl⟩ := hrel
        rcases Nat.eq_zero_or_pos m with h0 | h0
        · subst h0
          go_wp2
          go_meet
          exact ⟨0, rfl, by omega, by simp [Nm, Hid], hv.out, rfl⟩
        · obtain ⟨k, rfl⟩ : ∃ k, m = k + 1 := ⟨m - 1, by omega⟩
          obtain ⟨b, off, x, rfl, hx, hwf, hc⟩ := H.out.get (j := k) (by omega)
          obtain ⟨hx0, hx1⟩ := u32_bounds hwf
          have HX := Lib.hid hx
          have hkc : ((k + 1 : Nat) : Int) = (k : Int) + 1 := by omega
          have hk0 : (0 : Int) ≤ (k : Int) := by omega
          have hkn : (k : Int) < (l : Int) := by omega
          rw [hkc]
          clear hx hwf hkc
          by_cases hz : x = 0
          · have hzb : (x == 0) = true := by simpa using hz
            have HV : Hid (val 4294967296 (xs.take k) = val 4294967296 xs) := by
              have := hv.out
              rw [val_take_succ HX.out, hz] at this
              show _ = _
              omega
            clear hz hv
            go_wp2
            go_roundg k
            case rel => exact ⟨k, rfl, by omega, rfl, HV, rfl⟩
            case measure => omega
          · have hzb : (x == 0) = false := by simpa using hz
            have HZ := Lib.hid hz
            clear hz
            go_wp2
            go_meet
            exact ⟨k + 1, by rw [show ((k + 1 : Nat) : Int) = (k : Int) + 1 by omega], hm, Nm.take HX.out HZ.out, hv.out, rfl⟩
  case rest =>
    as_aux_lemma =>
      obtain ⟨m, rfl, hm, HN, HV, rfl⟩ := hcut
      have hlen := norm_len H.out hm HN.out HV.out 256
      have hbig : m ≤ 256 := hlen.2 HF.out.1
      have hbi : ¬ (256 : Int) < (m : Int) := by omega
      clear hlen
      go_wp2_with fail
      go_loopg [5, 6] m (fun g v s6 wr => ∃ (k : Nat) (out : List Int), g = m - k ∧ k ≤ m ∧ s6 = .int .i64 (k : Int) ∧ Hid (wr.ownsRow w.heap.size 3 1 v (2 * k) (out.map (.int .i64))) ∧ Hid (Dg 65536 out) ∧ Hid (out.length = 2 * k) ∧ Hid (val 65536 out = val 4294967296 (xs.take k)) ∧ Hid (Ext w wr))
      case atStart => exact ⟨0, [], rfl, by omega, rfl, World.ownsRow_nil _ _ _ _, Dg.nil, rfl, rfl, Ext.refl w⟩
      case round =>
        obtain ⟨k, out, rfl, hk, rfl, HO, HD, HLO, HI, HX⟩ := hrel
        obtain ⟨A2, c2, rfl⟩ := own_slice HO.out
        by_cases hlt : k < m
        · have hkm : (k : Int) < (m : Int) := by omega
          have hk0 : (0 : Int) ≤ (k : Int) := by omega
          have hkl : (k : Int) < (l : Int) := by omega
          obtain ⟨bw, ow, x, rfl, hx, hwf, hc⟩ := (H.out.ext HX.out).get (j := k) (by omega)
          obtain ⟨hx0, hx1⟩ := u32_bounds hwf
          have hr0 := Int.emod_nonneg x (show (65536 : Int) ≠ 0 by omega)
          have hr1 := Int.emod_lt_of_pos x (show (0 : Int) < 65536 by omega)
          have hq0 : 0 ≤ x / 65536 := by omega
          have hq1 : x / 65536 ≤ 65535 := by omega
          have hw1 : IntKind.i64.wrap (x % 65536) = x % 65536 := IntWalk.i64_in _ (by omega)
          have hw2 : IntKind.i64.wrap (x / 65536) = x / 65536 := IntWalk.i64_in _ (by omega)
          have hw3 : IntKind.u32.wrap (x / 65536) = x / 65536 := by rw [IntKind.wrap_u32]; omega
          have HST := Lib.hid (limbs_step hx HLO.out HI.out)
          have HDD : Hid (Dg 65536 (out ++ [x % 65536, x / 65536])) := HD.out.append (Dg.cons ⟨hr0, hr1⟩ (Dg.one ⟨hq0, by omega⟩))
          have HW : Hid ((Lit.int .i64 (x % 65536)).wf = true ∧ (Lit.int .i64 (x / 65536)).wf = true) := ⟨wf16 ⟨hr0, hr1⟩, wf16 ⟨hq0, by omega⟩⟩
          clear hx hwf
          go_wp2_with fail
          refine limbs_r10 bw ow l c k x _ _ hc hk0 hkl hx0 hx1 hw1 hw2 hw3 hq0 hq1 hr0 hr1 _ _ (by simp) rfl rfl rfl ?_
          rintro xv0 xv1 xv2 xv3 xv4 xv5 xv6 xv7 xv8 xv9 xv10 xv11 xv12 xv13 w1 rfl rfl rfl rfl rfl rfl rfl rfl rfl rfl rfl rfl rfl ⟨go, rfl, hBo⟩ hXW
          simp only [rops, Try.f119, regOf, Option.bind_some, Nat.reduceBEq, if_true, if_false, Bool.false_eq_true, Option.getD_some, List.drop_succ_cons, List.drop_zero]
          simp only [Act.put, List.setIfInBounds_toArray, List.set_cons_succ, List.set_cons_zero]
          have HX1 := Lib.hid (HX.out.trans hXW)
          have hown := World.ownsRow.ext' HO.out hXW
          have HAT := Lib.hid hBo.at2
          clear hBo hXW hc hr0 hr1 hq0 hq1 hw1 hw2 hw3 HO HX
          go_wp2_with (at_builtin; refine wpList_app _ elI rfl _ _ rfl w.heap.size _ (2 * k) _ rfl hown _ 2 2 [.int .i64 (x % 65536), .int .i64 (x / 65536)] rfl rfl HAT.out (by simp [Value.oneCell']) (by omega) (by unfold maxLen; omega) (by have := HX1.out.size; simp; omega) ?_; intro v1 w2 hown1 hgr1 _; have HO1 := Lib.hid hown1; have HX2 := Lib.hid (Ext.app HX1.out hown hgr1); clear hown1 hgr1 hown)
          go_roundg (m - (k + 1))
          case rel => exact ⟨k + 1, out ++ [x % 65536, x / 65536], rfl, by omega, by go_num, by rw [List.map_append, show 2 * (k + 1) = 2 * k + 2 by omega]; exact HO1.out, HDD.out, by rw [List.length_append, HLO.out]; show _ = _; simp; omega, HST.out, HX2.out⟩
          case measure => omega
        · obtain rfl : m = k := by omega
          have HOS : Hid (OwnS .i64 3 w.heap.size wr A2 (2 * m) c2 out) := ⟨HO.out, HLO.out, dg_wf HD.out⟩
          have HE : Hid (val 65536 out = ((wN xs : Nat) : Int)) := by
            show _ = _
            rw [HI.out, HV.out]; exact wN_val H.out
          go_wp2_with fail
          refine (trimN HOS.out.ints HD.out HE.out HOS.out.cap.1 HOS.out.cap.2).mono ?_
          rintro e _ ⟨v, rfl, hv, rfl⟩
          have HVV := Lib.hid hv
          clear hv
          go_wp2
          go_ret2
          exact ⟨_, rfl, HVV.out, HX.out⟩

end Go.Proofs.Yteoijnaljkagfaa
