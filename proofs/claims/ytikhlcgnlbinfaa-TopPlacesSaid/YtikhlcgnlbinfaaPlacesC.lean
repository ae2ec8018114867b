/- Lemmas of the proof that follows (Places, part 3): walks of functions by contract, and plain lemmas. Conditions: none. -/
import Derived.Test.YtikhlcgnlbinfaaPlacesB
set_option maxRecDepth 100000
set_option maxHeartbeats 2000000
namespace Go.Proofs.Ytikhlcgnlbinfaa
open Lib (hid)
open Go.RowKit
theorem Z16.two {w : World} {v : Value} {n g : Nat} (h : Z16 w v n) (hN : NoInts w g) (b : Bool) (A : Option Addr) (l c : Nat) : Z16 ((w.setCell ⟨g, 0, none⟩ (.bool b)).setCell ⟨g, 1, none⟩ (.slice A l c)) v n :=
 bz (bz h hN 0 _) (hN.set 0 (bx _)) 1 _
theorem Z16.box3 {w : World} {v : Value} {n g : Nat} (h : Z16 w v n) (hN : NoInts w g) (b : Bool) (A B : Option Addr) (l c m k : Nat) : Z16 (((w.setCell ⟨g, 0, none⟩ (.bool b)).setCell ⟨g, 1, none⟩ (.slice A l c)).setCell ⟨g, 2, none⟩ (.slice B m k)) v n :=
 bz (h.two hN b A l c) ((hN.set 0 (bx _)).set 1 (bY _ _ _)) 2 _
theorem Z16.open {w : World} {v : Value} {n : Nat} (h : Z16 w v n) : ∃ A l c, v = .slice A l c /\ Z16 w (.slice A l c) n /\ (l = 0 ↔ n = 0) := by
 obtain ⟨A, l, c, xs, rfl, hI, hr, h3⟩ := h;have hp := hr.pos (by omega);rw [<- List.length_eq_zero_iff, hI.1] at hp;exact ⟨A, l, c, rfl, ⟨A, l, c, xs, rfl, hI, hr, h3⟩, by rw [<- hp]⟩
/-- What a call returns that makes a sign and limbs. -/
def ck (w : World) (b : Bool) (n : Nat) (e : Ending) (w' : World) : Prop := ∃ A l c, e = .returned (.agg #[.bool b, .slice A l c]) /\ Z16 w' (.slice A l c) n /\ Ext w w'
theorem mV (ga gb L : Nat) (s0 s1 : Bool) (A0 A1 : Option Addr) (l0 c0 l1 c1 n0 n1 : Nat) (w : World) (x0 : w.cell? ⟨ga, 0, none⟩ = some (.bool s0)) (x1 : w.cell? ⟨ga, 1, none⟩ = some (.slice A0 l0 c0)) (_y0 : w.cell? ⟨gb, 0, none⟩ = some (.bool s1)) (y1 : w.cell? ⟨gb, 1, none⟩ = some (.slice A1 l1 c1)) (hx : Z16 w (.slice A0 l0 c0) n0) (hy : Z16 w (.slice A1 l1 c1) n1) (fn : Fit 65536 n0 L) (fm : Fit 65536 n1 L) (hL : L <= 1000000) : aS Try.prog Try.f114 2 7 18 w [11, 12, 13, 14, 15, 16, 17] [.c (.pointer (some ⟨ga, 0, none⟩)), .c (.bool s0), .c (.pointer (some ⟨ga, 1, none⟩)), .c (.slice A0 l0 c0), .c (.pointer (some ⟨gb, 1, none⟩)), .c (.slice A1 l1 c1), .p fun v W => Z16 W v (n0 + n1)] [(2, .pointer (some ⟨ga, 0, none⟩)), (3, .pointer (some ⟨gb, 0, none⟩))] := by
 refine aT [[], [0], [], [2], [], [4], [3, 5]] (by kernel_rfl) (by kernel_rfl) rfl ⟨by intro v W W' h hX; exact Z16.ext h hX, trivial⟩ ?_;simp only [ae, Try.f114, ab, Option.bind_some, Nat.reduceBEq, if_true, if_false, Bool.false_eq_true, Option.getD_some];simp only [List.take_succ_cons, List.take_zero]
 repeat' first | refine ⟨?_, ?_⟩ | fail
 all_goals first | (intro us W b hJ K hK0 hK Qz; simp only [aO, ay, aB, List.getD_cons_succ, List.getD_cons_zero]) | exact True.intro
 all_goals try (intros; have q0 := Ext.cell hJ x0; have q1 := Ext.cell hJ x1; have q2 := Ext.cell hJ y1; go_simp; exact hK0 _ rfl)
 .
  intro e14 e16 e2 e3;go_simp;refine (gN _ _ n0 n1 L _ (Z16.ext hx hJ) (Z16.ext hy hJ) fn fm hL).mono ?_;rintro e w' ⟨v, rfl, hv, hX⟩;exact hK _ _ hv hX
theorem mW (ga gb L : Nat) (s0 s1 : Bool) (A0 A1 : Option Addr) (l0 c0 l1 c1 n0 n1 : Nat) (w : World) (x0 : w.cell? ⟨ga, 0, none⟩ = some (.bool s0)) (x1 : w.cell? ⟨ga, 1, none⟩ = some (.slice A0 l0 c0)) (_y0 : w.cell? ⟨gb, 0, none⟩ = some (.bool s1)) (y1 : w.cell? ⟨gb, 1, none⟩ = some (.slice A1 l1 c1)) (hx : Z16 w (.slice A0 l0 c0) n0) (hy : Z16 w (.slice A1 l1 c1) n1) (fn : Fit 65536 n0 L) (_fm : Fit 65536 n1 L) (hL : L <= 1000000) (hm : n1 <= n0) : aS Try.prog Try.f114 7 7 36 w [29, 30, 31, 32, 33, 34, 35] [.c (.pointer (some ⟨ga, 0, none⟩)), .c (.bool s0), .c (.pointer (some ⟨ga, 1, none⟩)), .c (.slice A0 l0 c0), .c (.pointer (some ⟨gb, 1, none⟩)), .c (.slice A1 l1 c1), .p fun v W => Z16 W v (n0 - n1)] [(2, .pointer (some ⟨ga, 0, none⟩)), (3, .pointer (some ⟨gb, 0, none⟩))] := by
 refine aT [[], [0], [], [2], [], [4], [3, 5]] (by kernel_rfl) (by kernel_rfl) rfl ⟨by intro v W W' h hX; exact Z16.ext h hX, trivial⟩ ?_;simp only [ae, Try.f114, ab, Option.bind_some, Nat.reduceBEq, if_true, if_false, Bool.false_eq_true, Option.getD_some];simp only [List.take_succ_cons, List.take_zero]
 repeat' first | refine ⟨?_, ?_⟩ | fail
 all_goals first | (intro us W b hJ K hK0 hK Qz; simp only [aO, ay, aB, List.getD_cons_succ, List.getD_cons_zero]) | exact True.intro
 all_goals try (intros; have q0 := Ext.cell hJ x0; have q1 := Ext.cell hJ x1; have q2 := Ext.cell hJ y1; go_simp; exact hK0 _ rfl)
 .
  intro e32 e34 e2 e3;go_simp;refine (es _ _ n0 n1 L _ (Z16.ext hx hJ) (Z16.ext hy hJ) fn hL hm).mono ?_;rintro e w' ⟨v, rfl, hv, hX⟩;exact hK _ _ hv hX
theorem mX (ga gb L : Nat) (s0 s1 : Bool) (A0 A1 : Option Addr) (l0 c0 l1 c1 n0 n1 : Nat) (w : World) (_x0 : w.cell? ⟨ga, 0, none⟩ = some (.bool s0)) (x1 : w.cell? ⟨ga, 1, none⟩ = some (.slice A0 l0 c0)) (y0 : w.cell? ⟨gb, 0, none⟩ = some (.bool s1)) (y1 : w.cell? ⟨gb, 1, none⟩ = some (.slice A1 l1 c1)) (hx : Z16 w (.slice A0 l0 c0) n0) (hy : Z16 w (.slice A1 l1 c1) n1) (_fn : Fit 65536 n0 L) (fm : Fit 65536 n1 L) (hL : L <= 1000000) (hm : n0 <= n1) : aS Try.prog Try.f114 8 7 44 w [37, 38, 39, 40, 41, 42, 43] [.c (.pointer (some ⟨gb, 0, none⟩)), .c (.bool s1), .c (.pointer (some ⟨gb, 1, none⟩)), .c (.slice A1 l1 c1), .c (.pointer (some ⟨ga, 1, none⟩)), .c (.slice A0 l0 c0), .p fun v W => Z16 W v (n1 - n0)] [(2, .pointer (some ⟨ga, 0, none⟩)), (3, .pointer (some ⟨gb, 0, none⟩))] := by
 refine aT [[], [0], [], [2], [], [4], [3, 5]] (by kernel_rfl) (by kernel_rfl) rfl ⟨by intro v W W' h hX; exact Z16.ext h hX, trivial⟩ ?_;simp only [ae, Try.f114, ab, Option.bind_some, Nat.reduceBEq, if_true, if_false, Bool.false_eq_true, Option.getD_some];simp only [List.take_succ_cons, List.take_zero]
 repeat' first | refine ⟨?_, ?_⟩ | fail
 all_goals first | (intro us W b hJ K hK0 hK Qz; simp only [aO, ay, aB, List.getD_cons_succ, List.getD_cons_zero]) | exact True.intro
 all_goals try (intros; have q0 := Ext.cell hJ y0; have q1 := Ext.cell hJ y1; have q2 := Ext.cell hJ x1; go_simp; exact hK0 _ rfl)
 .
  intro e40 e42 e2 e3;go_simp;refine (es _ _ n1 n0 L _ (Z16.ext hy hJ) (Z16.ext hx hJ) fm hL hm).mono ?_;rintro e w' ⟨v, rfl, hv, hX⟩;exact hK _ _ hv hX
theorem jU (s0 s1 : Bool) (A0 A1 : Option Addr) (l0 c0 l1 c1 n0 n1 : Nat) (L : Nat) (w : World) (hx : Z16 w (.slice A0 l0 c0) n0) (hy : Z16 w (.slice A1 l1 c1) n1) (fn : Fit 65536 n0 L) (fm : Fit 65536 n1 L) (hL : L <= 1000000) (hs : s0 = s1) :
  Calls Try.prog 114 #[.agg #[.bool s0, .slice A0 l0 c0], .agg #[.bool s1, .slice A1 l1 c1]] w (ck w s0 (n0 + n1)) := by
 have HXX := hid hx;have HYY := hid hy;have HFN := hid fn;have HFM := hid fm;clear hx hy fn fm;have hb : (s0 == s1) = true := by simp [hs]
 have HS := hid hs;clear hs;obtain ⟨hXe, KA, KB, KR⟩ := xB3 w 63 #[.bool s0, .slice A0 l0 c0] 63 #[.bool s1, .slice A1 l1 c1] 63 #[.bool false, .slice none 0 0];go_enter Try.func114, Try.ntmps114
 go_wp2_with fail
 generalize (((w.alloc _).alloc _).alloc _) = w1 at hXe KA KB KR |-;have HX := hid hXe;clear hXe;replace HXX := hid (HXX.out.ext HX.out);replace HYY := hid (HYY.out.ext HX.out);have cA0 : w1.cell? ⟨w.heap.size, 0, none⟩ = some (.bool s0) := KA.out.cell 0;have cA1 : w1.cell? ⟨w.heap.size, 1, none⟩ = some (.slice A0 l0 c0) := KA.out.cell 1;have cB0 : w1.cell? ⟨(w.heap.size + 1), 0, none⟩ = some (.bool s1) := KB.out.cell 0;have cB1 : w1.cell? ⟨(w.heap.size + 1), 1, none⟩ = some (.slice A1 l1 c1) := KB.out.cell 1
 go_upto_region 2 with (fail)
 clear cA0 cA1 cB0 cB1;refine mV w.heap.size (w.heap.size + 1) L s0 s1 A0 A1 l0 c0 l1 c1 n0 n1 w1 (KA.out.cell 0) (KA.out.cell 1) (KB.out.cell 0) (KB.out.cell 1) HXX.out HYY.out HFN.out HFM.out hL _ _ (by simp) ⟨rfl, rfl, trivial⟩ ?_;rintro w2 hXW xv6 hv;simp only [EndK, ae, Try.f114, ab, Option.bind_some, Nat.reduceBEq, if_true, if_false, Bool.false_eq_true, Option.getD_some, List.drop_succ_cons, List.drop_zero];simp only [Act.put, List.setIfInBounds_toArray, List.set_cons_succ, List.set_cons_zero];replace HX := xT HX hXW;replace HXX := hid (HXX.out.ext hXW);replace HYY := hid (HYY.out.ext hXW);replace KA := xE KA hXW;replace KB := xE KB hXW;replace KR := xE KR hXW;clear hXW;obtain ⟨A9, l9, c9, rfl, hv9, _⟩ := Z16.open hv;have HV := hid (Z16.two hv9 (NoInts.two KR.out) s0 A9 l9 c9);clear hv hv9;have cR0 : w2.cell? ⟨(w.heap.size + 2), 0, none⟩ = some (.bool false) := KR.out.cell 0;have fR0 : w2.frozen? ⟨(w.heap.size + 2), 0, none⟩ = false := KR.out.free 0;have cR1 : w2.cell? ⟨(w.heap.size + 2), 1, none⟩ = some (.slice none 0 0) := KR.out.cell 1;have fR1 : w2.frozen? ⟨(w.heap.size + 2), 1, none⟩ = false := KR.out.free 1;go_wp2;refine bodyPost_ret (v := .agg #[.bool s0, .slice A9 l9 c9]) (by simp [results, Try.results114, go_sem, *]) rfl ?_;exact ⟨_, _, _, rfl, HV.out, HX.out.two (by omega) _ _⟩
theorem mY (s0 s1 : Bool) (A0 A1 : Option Addr) (l0 c0 l1 c1 n0 n1 : Nat) (L : Nat) (w : World) (hx : Z16 w (.slice A0 l0 c0) n0) (hy : Z16 w (.slice A1 l1 c1) n1) (fn : Fit 65536 n0 L) (fm : Fit 65536 n1 L) (_hL : L <= 1000000) (hs : s0 ≠ s1) (hm : n0 = n1) :
  Calls Try.prog 114 #[.agg #[.bool s0, .slice A0 l0 c0], .agg #[.bool s1, .slice A1 l1 c1]] w (ck w false 0) := by
 have HXX := hid hx;have HYY := hid hy;have HFN := hid fn;have HFM := hid fm;clear hx hy fn fm;have hb : (s0 == s1) = false := by simpa using hs
 have HC : Hid (cG n0 n1 = 0) := fP hm;have HM := hid hm;clear hs hm;obtain ⟨hXe, KA, KB, KR⟩ := xB3 w 63 #[.bool s0, .slice A0 l0 c0] 63 #[.bool s1, .slice A1 l1 c1] 63 #[.bool false, .slice none 0 0];go_enter Try.func114, Try.ntmps114
 go_wp2_with fail
 generalize (((w.alloc _).alloc _).alloc _) = w1 at hXe KA KB KR |-;have HX := hid hXe;clear hXe;replace HXX := hid (HXX.out.ext HX.out);replace HYY := hid (HYY.out.ext HX.out);have cA0 : w1.cell? ⟨w.heap.size, 0, none⟩ = some (.bool s0) := KA.out.cell 0;have cA1 : w1.cell? ⟨w.heap.size, 1, none⟩ = some (.slice A0 l0 c0) := KA.out.cell 1;have cB0 : w1.cell? ⟨(w.heap.size + 1), 0, none⟩ = some (.bool s1) := KB.out.cell 0;have cB1 : w1.cell? ⟨(w.heap.size + 1), 1, none⟩ = some (.slice A1 l1 c1) := KB.out.cell 1
 go_wp2_with fail
 clear cA0 cA1 cB0 cB1;refine (aQ _ _ n0 n1 _ HXX.out HYY.out).mono ?_;rw [HC.out];rintro e w2 ⟨rfl, hX⟩;replace hX : Ext w1 w2 := by with_reducible exact hX
 replace HX := xT HX hX;replace HXX := hid (HXX.out.ext hX);replace HYY := hid (HYY.out.ext hX);replace KA := xE KA hX;replace KB := xE KB hX;replace KR := xE KR hX;clear hX;have cR0 : w2.cell? ⟨(w.heap.size + 2), 0, none⟩ = some (.bool false) := KR.out.cell 0;have fR0 : w2.frozen? ⟨(w.heap.size + 2), 0, none⟩ = false := KR.out.free 0;have cR1 : w2.cell? ⟨(w.heap.size + 2), 1, none⟩ = some (.slice none 0 0) := KR.out.cell 1;have fR1 : w2.frozen? ⟨(w.heap.size + 2), 1, none⟩ = false := KR.out.free 1;go_wp2;refine bodyPost_ret (v := .agg #[.bool false, .slice none 0 0]) (by simp [results, Try.results114, go_sem, *]) rfl ?_;exact ⟨_, _, _, rfl, NatV.zero, HX.out.two (by omega) _ _⟩
theorem mZ (s0 s1 : Bool) (A0 A1 : Option Addr) (l0 c0 l1 c1 n0 n1 : Nat) (L : Nat) (w : World) (hx : Z16 w (.slice A0 l0 c0) n0) (hy : Z16 w (.slice A1 l1 c1) n1) (fn : Fit 65536 n0 L) (fm : Fit 65536 n1 L) (hL : L <= 1000000) (hs : s0 ≠ s1) (hm : n1 < n0) :
  Calls Try.prog 114 #[.agg #[.bool s0, .slice A0 l0 c0], .agg #[.bool s1, .slice A1 l1 c1]] w (ck w s0 (n0 - n1)) := by
 have HXX := hid hx;have HYY := hid hy;have HFN := hid fn;have HFM := hid fm;clear hx hy fn fm;have hb : (s0 == s1) = false := by simpa using hs
 have HC : Hid (cG n0 n1 = 1) := ec hm;have HM := hid hm;clear hs hm;obtain ⟨hXe, KA, KB, KR⟩ := xB3 w 63 #[.bool s0, .slice A0 l0 c0] 63 #[.bool s1, .slice A1 l1 c1] 63 #[.bool false, .slice none 0 0];go_enter Try.func114, Try.ntmps114
 go_wp2_with fail
 generalize (((w.alloc _).alloc _).alloc _) = w1 at hXe KA KB KR |-;have HX := hid hXe;clear hXe;replace HXX := hid (HXX.out.ext HX.out);replace HYY := hid (HYY.out.ext HX.out);have cA0 : w1.cell? ⟨w.heap.size, 0, none⟩ = some (.bool s0) := KA.out.cell 0;have cA1 : w1.cell? ⟨w.heap.size, 1, none⟩ = some (.slice A0 l0 c0) := KA.out.cell 1;have cB0 : w1.cell? ⟨(w.heap.size + 1), 0, none⟩ = some (.bool s1) := KB.out.cell 0;have cB1 : w1.cell? ⟨(w.heap.size + 1), 1, none⟩ = some (.slice A1 l1 c1) := KB.out.cell 1
 go_wp2_with fail
 clear cA0 cA1 cB0 cB1;refine (aQ _ _ n0 n1 _ HXX.out HYY.out).mono ?_;rw [HC.out];rintro e w2 ⟨rfl, hX⟩;replace hX : Ext w1 w2 := by with_reducible exact hX
 replace HX := xT HX hX;replace HXX := hid (HXX.out.ext hX);replace HYY := hid (HYY.out.ext hX);replace KA := xE KA hX;replace KB := xE KB hX;replace KR := xE KR hX;clear hX;have cA0 : w2.cell? ⟨w.heap.size, 0, none⟩ = some (.bool s0) := KA.out.cell 0;have cA1 : w2.cell? ⟨w.heap.size, 1, none⟩ = some (.slice A0 l0 c0) := KA.out.cell 1;have cB0 : w2.cell? ⟨(w.heap.size + 1), 0, none⟩ = some (.bool s1) := KB.out.cell 0;have cB1 : w2.cell? ⟨(w.heap.size + 1), 1, none⟩ = some (.slice A1 l1 c1) := KB.out.cell 1
 go_upto_region 7 with (fail)
 clear cA0 cA1 cB0 cB1;refine mW w.heap.size (w.heap.size + 1) L s0 s1 A0 A1 l0 c0 l1 c1 n0 n1 w2 (KA.out.cell 0) (KA.out.cell 1) (KB.out.cell 0) (KB.out.cell 1) HXX.out HYY.out HFN.out HFM.out hL (Nat.le_of_lt HM.out) _ _ (by simp) ⟨rfl, rfl, trivial⟩ ?_;rintro w3 hXW xv6 hv;simp only [EndK, ae, Try.f114, ab, Option.bind_some, Nat.reduceBEq, if_true, if_false, Bool.false_eq_true, Option.getD_some, List.drop_succ_cons, List.drop_zero];simp only [Act.put, List.setIfInBounds_toArray, List.set_cons_succ, List.set_cons_zero];replace HX := xT HX hXW;replace HXX := hid (HXX.out.ext hXW);replace HYY := hid (HYY.out.ext hXW);replace KA := xE KA hXW;replace KB := xE KB hXW;replace KR := xE KR hXW;clear hXW;obtain ⟨A9, l9, c9, rfl, hv9, _⟩ := Z16.open hv;have HV := hid (Z16.two hv9 (NoInts.two KR.out) s0 A9 l9 c9);clear hv hv9;have cR0 : w3.cell? ⟨(w.heap.size + 2), 0, none⟩ = some (.bool false) := KR.out.cell 0;have fR0 : w3.frozen? ⟨(w.heap.size + 2), 0, none⟩ = false := KR.out.free 0;have cR1 : w3.cell? ⟨(w.heap.size + 2), 1, none⟩ = some (.slice none 0 0) := KR.out.cell 1;have fR1 : w3.frozen? ⟨(w.heap.size + 2), 1, none⟩ = false := KR.out.free 1;go_wp2;refine bodyPost_ret (v := .agg #[.bool s0, .slice A9 l9 c9]) (by simp [results, Try.results114, go_sem, *]) rfl ?_;exact ⟨_, _, _, rfl, HV.out, HX.out.two (by omega) _ _⟩
theorem m5 (s0 s1 : Bool) (A0 A1 : Option Addr) (l0 c0 l1 c1 n0 n1 : Nat) (L : Nat) (w : World) (hx : Z16 w (.slice A0 l0 c0) n0) (hy : Z16 w (.slice A1 l1 c1) n1) (fn : Fit 65536 n0 L) (fm : Fit 65536 n1 L) (hL : L <= 1000000) (hs : s0 ≠ s1) (hm : n0 < n1) :
  Calls Try.prog 114 #[.agg #[.bool s0, .slice A0 l0 c0], .agg #[.bool s1, .slice A1 l1 c1]] w (ck w s1 (n1 - n0)) := by
 have HXX := hid hx;have HYY := hid hy;have HFN := hid fn;have HFM := hid fm;clear hx hy fn fm;have hb : (s0 == s1) = false := by simpa using hs
 have HC : Hid (cG n0 n1 = -1) := dj hm;have HM := hid hm;clear hs hm;obtain ⟨hXe, KA, KB, KR⟩ := xB3 w 63 #[.bool s0, .slice A0 l0 c0] 63 #[.bool s1, .slice A1 l1 c1] 63 #[.bool false, .slice none 0 0];go_enter Try.func114, Try.ntmps114
 go_wp2_with fail
 generalize (((w.alloc _).alloc _).alloc _) = w1 at hXe KA KB KR |-;have HX := hid hXe;clear hXe;replace HXX := hid (HXX.out.ext HX.out);replace HYY := hid (HYY.out.ext HX.out);have cA0 : w1.cell? ⟨w.heap.size, 0, none⟩ = some (.bool s0) := KA.out.cell 0;have cA1 : w1.cell? ⟨w.heap.size, 1, none⟩ = some (.slice A0 l0 c0) := KA.out.cell 1;have cB0 : w1.cell? ⟨(w.heap.size + 1), 0, none⟩ = some (.bool s1) := KB.out.cell 0;have cB1 : w1.cell? ⟨(w.heap.size + 1), 1, none⟩ = some (.slice A1 l1 c1) := KB.out.cell 1
 go_wp2_with fail
 clear cA0 cA1 cB0 cB1;refine (aQ _ _ n0 n1 _ HXX.out HYY.out).mono ?_;rw [HC.out];rintro e w2 ⟨rfl, hX⟩;replace hX : Ext w1 w2 := by with_reducible exact hX
 replace HX := xT HX hX;replace HXX := hid (HXX.out.ext hX);replace HYY := hid (HYY.out.ext hX);replace KA := xE KA hX;replace KB := xE KB hX;replace KR := xE KR hX;clear hX;have cA0 : w2.cell? ⟨w.heap.size, 0, none⟩ = some (.bool s0) := KA.out.cell 0;have cA1 : w2.cell? ⟨w.heap.size, 1, none⟩ = some (.slice A0 l0 c0) := KA.out.cell 1;have cB0 : w2.cell? ⟨(w.heap.size + 1), 0, none⟩ = some (.bool s1) := KB.out.cell 0;have cB1 : w2.cell? ⟨(w.heap.size + 1), 1, none⟩ = some (.slice A1 l1 c1) := KB.out.cell 1
 go_upto_region 8 with (fail)
 clear cA0 cA1 cB0 cB1;refine mX w.heap.size (w.heap.size + 1) L s0 s1 A0 A1 l0 c0 l1 c1 n0 n1 w2 (KA.out.cell 0) (KA.out.cell 1) (KB.out.cell 0) (KB.out.cell 1) HXX.out HYY.out HFN.out HFM.out hL (Nat.le_of_lt HM.out) _ _ (by simp) ⟨rfl, rfl, trivial⟩ ?_;rintro w3 hXW xv6 hv;simp only [EndK, ae, Try.f114, ab, Option.bind_some, Nat.reduceBEq, if_true, if_false, Bool.false_eq_true, Option.getD_some, List.drop_succ_cons, List.drop_zero];simp only [Act.put, List.setIfInBounds_toArray, List.set_cons_succ, List.set_cons_zero];replace HX := xT HX hXW;replace HXX := hid (HXX.out.ext hXW);replace HYY := hid (HYY.out.ext hXW);replace KA := xE KA hXW;replace KB := xE KB hXW;replace KR := xE KR hXW;clear hXW;obtain ⟨A9, l9, c9, rfl, hv9, _⟩ := Z16.open hv;have HV := hid (Z16.two hv9 (NoInts.two KR.out) s1 A9 l9 c9);clear hv hv9;have cR0 : w3.cell? ⟨(w.heap.size + 2), 0, none⟩ = some (.bool false) := KR.out.cell 0;have fR0 : w3.frozen? ⟨(w.heap.size + 2), 0, none⟩ = false := KR.out.free 0;have cR1 : w3.cell? ⟨(w.heap.size + 2), 1, none⟩ = some (.slice none 0 0) := KR.out.cell 1;have fR1 : w3.frozen? ⟨(w.heap.size + 2), 1, none⟩ = false := KR.out.free 1;go_wp2;refine bodyPost_ret (v := .agg #[.bool s1, .slice A9 l9 c9]) (by simp [results, Try.results114, go_sem, *]) rfl ?_;exact ⟨_, _, _, rfl, HV.out, HX.out.two (by omega) _ _⟩
theorem ln (va vb : Value) (x y : Int) (L : Nat) (w : World) (ha : IntZ w va x) (hb : IntZ w vb y) (fn : Fit 65536 x.natAbs L) (fm : Fit 65536 y.natAbs L) (hL : L <= 1000000) :
  Calls Try.prog 114 #[va, vb] w (dm w (x + y)) := by
 obtain ⟨A0, l0, c0, rfl, hx⟩ := ha;obtain ⟨A1, l1, c1, rfl, hy⟩ := hb
 have fin : ∀ (b : Bool) (n : Nat), b = decide (x + y < 0) -> n = (x + y).natAbs -> ∀ e w', ck w b n e w' -> dm w (x + y) e w' := by
  rintro b n rfl rfl e w' ⟨A, l, c, rfl, hz, hX⟩;exact ⟨_, rfl, ⟨A, l, c, rfl, hz⟩, hX⟩
 by_cases hs : decide (x < 0) = decide (y < 0)
 .
  refine (jU _ _ A0 A1 l0 c0 l1 c1 _ _ L w hx hy fn fm hL hs).mono (fin _ _ ?_ ?_)
  .
   by_cases h : x < 0 <;> by_cases k : y < 0 <;> simp [h, k] at hs |- <;> omega
  .
   by_cases h : x < 0 <;> by_cases k : y < 0 <;> simp [h, k] at hs <;> omega
 .
  rcases Nat.lt_trichotomy x.natAbs y.natAbs with h | h | h
  .
   refine (m5 _ _ A0 A1 l0 c0 l1 c1 _ _ L w hx hy fn fm hL hs h).mono (fin _ _ ?_ ?_)
   .
    by_cases h : x < 0 <;> by_cases k : y < 0 <;> simp [h, k] at hs |- <;> omega
   .
    by_cases h : x < 0 <;> by_cases k : y < 0 <;> simp [h, k] at hs <;> omega
  .
   refine (mY _ _ A0 A1 l0 c0 l1 c1 _ _ L w hx hy fn fm hL hs h).mono (fin _ _ ?_ ?_)
   .
    by_cases h : x < 0 <;> by_cases k : y < 0 <;> simp [h, k] at hs |- <;> omega
   .
    by_cases h : x < 0 <;> by_cases k : y < 0 <;> simp [h, k] at hs <;> omega
  .
   refine (mZ _ _ A0 A1 l0 c0 l1 c1 _ _ L w hx hy fn fm hL hs h).mono (fin _ _ ?_ ?_)
   .
    by_cases h : x < 0 <;> by_cases k : y < 0 <;> simp [h, k] at hs |- <;> omega
   .
    by_cases h : x < 0 <;> by_cases k : y < 0 <;> simp [h, k] at hs <;> omega
theorem m6 (s0 s1 : Bool) (A0 A1 : Option Addr) (l0 c0 l1 c1 n0 n1 : Nat) (L M : Nat) (w : World) (hx : Z16 w (.slice A0 l0 c0) n0) (hy : Z16 w (.slice A1 l1 c1) n1) (fn : Fit 65536 n0 L) (fm : Fit 65536 n1 M) (hL : L <= 1000000) (hM : M <= 1000000) (hs : s0 = s1) :
  Calls Try.prog 113 #[.agg #[.bool s0, .slice A0 l0 c0], .agg #[.bool s1, .slice A1 l1 c1]] w (ck w false (n0 * n1)) := by
 have HXX := hid hx;have HYY := hid hy;have HFN := hid fn;have HFM := hid fm;clear hx hy fn fm;have hb : (s0 != s1) = false := by simp [hs]
 have hb2 : (s0 == s1) = true := by simp [hs]
 have hb3 : decide (s0 = s1) = true := by simp [hs]
 obtain ⟨N, hN⟩ : ∃ N, n0 * n1 = N := ⟨_, rfl⟩;have HN := hid hN

 clear hs hN;obtain ⟨hXe, KA, KB, KR⟩ := xB3 w 63 #[.bool s0, .slice A0 l0 c0] 63 #[.bool s1, .slice A1 l1 c1] 63 #[.bool false, .slice none 0 0];go_enter Try.func113, Try.ntmps113
 go_wp2_with fail
 generalize (((w.alloc _).alloc _).alloc _) = w1 at hXe KA KB KR |-;have HX := hid hXe;clear hXe;replace HXX := hid (HXX.out.ext HX.out);replace HYY := hid (HYY.out.ext HX.out);have cA0 : w1.cell? ⟨w.heap.size, 0, none⟩ = some (.bool s0) := KA.out.cell 0;have cA1 : w1.cell? ⟨w.heap.size, 1, none⟩ = some (.slice A0 l0 c0) := KA.out.cell 1;have cB0 : w1.cell? ⟨(w.heap.size + 1), 0, none⟩ = some (.bool s1) := KB.out.cell 0;have cB1 : w1.cell? ⟨(w.heap.size + 1), 1, none⟩ = some (.slice A1 l1 c1) := KB.out.cell 1
 go_wp2_with fail
 clear cA0 cA1 cB0 cB1;refine (aR _ _ n0 n1 L M _ HXX.out HYY.out HFN.out HFM.out hL hM).mono ?_;rw [HN.out];rintro e w2 ⟨v9, rfl, hv, hX⟩;replace hX : Ext w1 w2 := by with_reducible exact hX
 replace HX := xT HX hX;replace HXX := hid (HXX.out.ext hX);replace HYY := hid (HYY.out.ext hX);replace KA := xE KA hX;replace KB := xE KB hX;replace KR := xE KR hX;clear hX;obtain ⟨A9, l9, c9, rfl, hv9, h0⟩ := Z16.open hv;have HV := hid (Z16.two hv9 (NoInts.two KR.out) false A9 l9 c9);clear hv hv9 h0;have cA0 : w2.cell? ⟨w.heap.size, 0, none⟩ = some (.bool s0) := KA.out.cell 0;have cA1 : w2.cell? ⟨w.heap.size, 1, none⟩ = some (.slice A0 l0 c0) := KA.out.cell 1;have cB0 : w2.cell? ⟨(w.heap.size + 1), 0, none⟩ = some (.bool s1) := KB.out.cell 0;have cB1 : w2.cell? ⟨(w.heap.size + 1), 1, none⟩ = some (.slice A1 l1 c1) := KB.out.cell 1;have cR0 : w2.cell? ⟨(w.heap.size + 2), 0, none⟩ = some (.bool false) := KR.out.cell 0;have fR0 : w2.frozen? ⟨(w.heap.size + 2), 0, none⟩ = false := KR.out.free 0;have cR1 : w2.cell? ⟨(w.heap.size + 2), 1, none⟩ = some (.slice none 0 0) := KR.out.cell 1;have fR1 : w2.frozen? ⟨(w.heap.size + 2), 1, none⟩ = false := KR.out.free 1;go_wp2;refine bodyPost_ret (v := .agg #[.bool false, .slice A9 l9 c9]) (by simp [results, Try.results113, go_sem, *]) rfl ?_;exact ⟨_, _, _, rfl, by rw [HN.out]; exact HV.out, HX.out.two (by omega) _ _⟩
theorem m8 (s0 s1 : Bool) (A0 A1 : Option Addr) (l0 c0 l1 c1 n0 n1 : Nat) (L M : Nat) (w : World) (hx : Z16 w (.slice A0 l0 c0) n0) (hy : Z16 w (.slice A1 l1 c1) n1) (fn : Fit 65536 n0 L) (fm : Fit 65536 n1 M) (hL : L <= 1000000) (hM : M <= 1000000) (hs : s0 ≠ s1) (hz : n0 * n1 ≠ 0) :
  Calls Try.prog 113 #[.agg #[.bool s0, .slice A0 l0 c0], .agg #[.bool s1, .slice A1 l1 c1]] w (ck w true (n0 * n1)) := by
 have HXX := hid hx;have HYY := hid hy;have HFN := hid fn;have HFM := hid fm;clear hx hy fn fm;have hb : (s0 != s1) = true := by simp [hs]
 have hb2 : (s0 == s1) = false := by simp [hs]
 have hb3 : decide (s0 = s1) = false := by simp [hs]
 obtain ⟨N, hN⟩ : ∃ N, n0 * n1 = N := ⟨_, rfl⟩;have HN := hid hN;rw [hN] at hz;clear hs hN;obtain ⟨hXe, KA, KB, KR⟩ := xB3 w 63 #[.bool s0, .slice A0 l0 c0] 63 #[.bool s1, .slice A1 l1 c1] 63 #[.bool false, .slice none 0 0];go_enter Try.func113, Try.ntmps113
 go_wp2_with fail
 generalize (((w.alloc _).alloc _).alloc _) = w1 at hXe KA KB KR |-;have HX := hid hXe;clear hXe;replace HXX := hid (HXX.out.ext HX.out);replace HYY := hid (HYY.out.ext HX.out);have cA0 : w1.cell? ⟨w.heap.size, 0, none⟩ = some (.bool s0) := KA.out.cell 0;have cA1 : w1.cell? ⟨w.heap.size, 1, none⟩ = some (.slice A0 l0 c0) := KA.out.cell 1;have cB0 : w1.cell? ⟨(w.heap.size + 1), 0, none⟩ = some (.bool s1) := KB.out.cell 0;have cB1 : w1.cell? ⟨(w.heap.size + 1), 1, none⟩ = some (.slice A1 l1 c1) := KB.out.cell 1
 go_wp2_with fail
 clear cA0 cA1 cB0 cB1;refine (aR _ _ n0 n1 L M _ HXX.out HYY.out HFN.out HFM.out hL hM).mono ?_;rw [HN.out];rintro e w2 ⟨v9, rfl, hv, hX⟩;replace hX : Ext w1 w2 := by with_reducible exact hX
 replace HX := xT HX hX;replace HXX := hid (HXX.out.ext hX);replace HYY := hid (HYY.out.ext hX);replace KA := xE KA hX;replace KB := xE KB hX;replace KR := xE KR hX;clear hX;obtain ⟨A9, l9, c9, rfl, hv9, h0⟩ := Z16.open hv;have HV := hid (Z16.two hv9 (NoInts.two KR.out) true A9 l9 c9);clear hv hv9
 have hl : (0 : Int) < (l9 : Int) := by
  rcases Nat.eq_zero_or_pos l9 with h | h
  .
   exact absurd (h0.1 h) hz
  .
   omega
 have hl' : 0 < l9 := by omega
 clear h0;have cA0 : w2.cell? ⟨w.heap.size, 0, none⟩ = some (.bool s0) := KA.out.cell 0;have cA1 : w2.cell? ⟨w.heap.size, 1, none⟩ = some (.slice A0 l0 c0) := KA.out.cell 1;have cB0 : w2.cell? ⟨(w.heap.size + 1), 0, none⟩ = some (.bool s1) := KB.out.cell 0;have cB1 : w2.cell? ⟨(w.heap.size + 1), 1, none⟩ = some (.slice A1 l1 c1) := KB.out.cell 1;have cR0 : w2.cell? ⟨(w.heap.size + 2), 0, none⟩ = some (.bool false) := KR.out.cell 0;have fR0 : w2.frozen? ⟨(w.heap.size + 2), 0, none⟩ = false := KR.out.free 0;have cR1 : w2.cell? ⟨(w.heap.size + 2), 1, none⟩ = some (.slice none 0 0) := KR.out.cell 1;have fR1 : w2.frozen? ⟨(w.heap.size + 2), 1, none⟩ = false := KR.out.free 1;go_wp2;refine bodyPost_ret (v := .agg #[.bool true, .slice A9 l9 c9]) (by simp [results, Try.results113, go_sem, *]) rfl ?_;exact ⟨_, _, _, rfl, by rw [HN.out]; exact HV.out, HX.out.two (by omega) _ _⟩
theorem nc (s0 s1 : Bool) (A0 A1 : Option Addr) (l0 c0 l1 c1 n0 n1 : Nat) (L M : Nat) (w : World) (hx : Z16 w (.slice A0 l0 c0) n0) (hy : Z16 w (.slice A1 l1 c1) n1) (fn : Fit 65536 n0 L) (fm : Fit 65536 n1 M) (hL : L <= 1000000) (hM : M <= 1000000) (hs : s0 ≠ s1) (hz : n0 * n1 = 0) :
  Calls Try.prog 113 #[.agg #[.bool s0, .slice A0 l0 c0], .agg #[.bool s1, .slice A1 l1 c1]] w (ck w false (n0 * n1)) := by
 have HXX := hid hx;have HYY := hid hy;have HFN := hid fn;have HFM := hid fm;clear hx hy fn fm;have hb : (s0 != s1) = true := by simp [hs]
 have hb2 : (s0 == s1) = false := by simp [hs]
 have hb3 : decide (s0 = s1) = false := by simp [hs]
 obtain ⟨N, hN⟩ : ∃ N, n0 * n1 = N := ⟨_, rfl⟩;have HN := hid hN;rw [hN] at hz;clear hs hN;obtain ⟨hXe, KA, KB, KR⟩ := xB3 w 63 #[.bool s0, .slice A0 l0 c0] 63 #[.bool s1, .slice A1 l1 c1] 63 #[.bool false, .slice none 0 0];go_enter Try.func113, Try.ntmps113
 go_wp2_with fail
 generalize (((w.alloc _).alloc _).alloc _) = w1 at hXe KA KB KR |-;have HX := hid hXe;clear hXe;replace HXX := hid (HXX.out.ext HX.out);replace HYY := hid (HYY.out.ext HX.out);have cA0 : w1.cell? ⟨w.heap.size, 0, none⟩ = some (.bool s0) := KA.out.cell 0;have cA1 : w1.cell? ⟨w.heap.size, 1, none⟩ = some (.slice A0 l0 c0) := KA.out.cell 1;have cB0 : w1.cell? ⟨(w.heap.size + 1), 0, none⟩ = some (.bool s1) := KB.out.cell 0;have cB1 : w1.cell? ⟨(w.heap.size + 1), 1, none⟩ = some (.slice A1 l1 c1) := KB.out.cell 1
 go_wp2_with fail
 clear cA0 cA1 cB0 cB1;refine (aR _ _ n0 n1 L M _ HXX.out HYY.out HFN.out HFM.out hL hM).mono ?_;rw [HN.out];rintro e w2 ⟨v9, rfl, hv, hX⟩;replace hX : Ext w1 w2 := by with_reducible exact hX
 replace HX := xT HX hX;replace HXX := hid (HXX.out.ext hX);replace HYY := hid (HYY.out.ext hX);replace KA := xE KA hX;replace KB := xE KB hX;replace KR := xE KR hX;clear hX;obtain ⟨A9, l9, c9, rfl, hv9, h0⟩ := Z16.open hv;have HV := hid (Z16.two hv9 (NoInts.two KR.out) false A9 l9 c9);clear hv hv9;obtain rfl : l9 = 0 := h0.2 hz;clear h0;have cA0 : w2.cell? ⟨w.heap.size, 0, none⟩ = some (.bool s0) := KA.out.cell 0;have cA1 : w2.cell? ⟨w.heap.size, 1, none⟩ = some (.slice A0 l0 c0) := KA.out.cell 1;have cB0 : w2.cell? ⟨(w.heap.size + 1), 0, none⟩ = some (.bool s1) := KB.out.cell 0;have cB1 : w2.cell? ⟨(w.heap.size + 1), 1, none⟩ = some (.slice A1 l1 c1) := KB.out.cell 1;have cR0 : w2.cell? ⟨(w.heap.size + 2), 0, none⟩ = some (.bool false) := KR.out.cell 0;have fR0 : w2.frozen? ⟨(w.heap.size + 2), 0, none⟩ = false := KR.out.free 0;have cR1 : w2.cell? ⟨(w.heap.size + 2), 1, none⟩ = some (.slice none 0 0) := KR.out.cell 1;have fR1 : w2.frozen? ⟨(w.heap.size + 2), 1, none⟩ = false := KR.out.free 1;go_wp2;refine bodyPost_ret (v := .agg #[.bool false, .slice A9 0 c9]) (by simp [results, Try.results113, go_sem, *]) rfl ?_;exact ⟨_, _, _, rfl, by rw [HN.out]; exact HV.out, HX.out.two (by omega) _ _⟩
theorem cJ (va vb : Value) (x y : Int) (L M : Nat) (w : World) (ha : IntZ w va x) (hb : IntZ w vb y) (fn : Fit 65536 x.natAbs L) (fm : Fit 65536 y.natAbs M) (hL : L <= 1000000) (hM : M <= 1000000) :
  Calls Try.prog 113 #[va, vb] w (dm w (x * y)) := by
 obtain ⟨A0, l0, c0, rfl, hx⟩ := ha;obtain ⟨A1, l1, c1, rfl, hy⟩ := hb
 have fin : ∀ (b : Bool), b = decide (x * y < 0) -> ∀ e w', ck w b (x.natAbs * y.natAbs) e w' -> dm w (x * y) e w' := by
  rintro b rfl e w' ⟨A, l, c, rfl, hz, hX⟩;exact ⟨_, rfl, ⟨A, l, c, rfl, by rw [Int.natAbs_mul]; exact hz⟩, hX⟩
 by_cases hs : decide (x < 0) = decide (y < 0)
 .
  refine (m6 _ _ A0 A1 l0 c0 l1 c1 _ _ L M w hx hy fn fm hL hM hs).mono (fin _ ?_)
  symm
  rw [decide_eq_false_iff_not, Int.not_lt]
  by_cases h : x < 0
  .
   have k : y < 0 := by simpa [h] using hs
   exact Int.le_of_lt (Int.mul_pos_of_neg_of_neg h k)
  .
   have k : ¬ y < 0 := by simpa [h] using hs
   exact Int.mul_nonneg (by omega) (by omega)
 .
  by_cases hz : x.natAbs * y.natAbs = 0
  .
   refine (nc _ _ A0 A1 l0 c0 l1 c1 _ _ L M w hx hy fn fm hL hM hs hz).mono (fin _ ?_);have : x * y = 0 := by rw [<- Int.natAbs_eq_zero, Int.natAbs_mul]; exact hz
   rw [this]; rfl
  .
   refine (m8 _ _ A0 A1 l0 c0 l1 c1 _ _ L M w hx hy fn fm hL hM hs hz).mono (fin _ ?_)
   symm
   rw [decide_eq_true_iff];have h1 : x ≠ 0 := fun e => hz (by rw [e]; simp)
   have h2 : y ≠ 0 := fun e => hz (by rw [e]; simp)
   by_cases h : x < 0
   .
    have k : ¬ y < 0 := by simpa [h] using hs
    exact Int.mul_neg_of_neg_of_pos h (by omega)
   .
    have k : y < 0 := by simpa [h] using hs
    exact Int.mul_neg_of_pos_of_neg (by omega) k
theorem Blk.one16 {w : World} {g : Nat} {t : TypeId} (h : Blk w g t #[.int .i64 1]) : Z16 w (.slice (some ⟨g, 0, none⟩) 1 1) 1 :=
 ⟨_, 1, 1, [1], rfl, ⟨rfl, fun x hx => by simp at hx; subst hx; exact gK (by omega), fun _ => ⟨g, 0, rfl, fun j v hv => by
  match j with
  | 0 => rw [h.cell]; simpa using hv
  | j + 1 => simp at hv⟩⟩, Rep.one (by omega), by omega, by omega⟩
theorem lp (n d : Nat) (hd : 0 < d) : (n % d = 0 -> (-(n : Int)) / (d : Int) = -((n / d : Nat) : Int)) /\ (0 < n % d -> (-(n : Int)) / (d : Int) = -((n / d + 1 : Nat) : Int)) := by
 have h := Nat.div_add_mod n d;have hm := Nat.mod_lt n hd
 have hI : ((n / d : Nat) : Int) * d + ((n % d : Nat) : Int) = n := by
  rw [<- Int.natCast_mul, <- Int.natCast_add, Nat.mul_comm, h]
 generalize n / d = q at *;generalize n % d = r at *;constructor
 .
  intro h0;have := (Int.ediv_emod_unique (a := -(n : Int)) (b := (d : Int)) (r := 0) (q := -(q : Int)) (by omega)).2 ⟨by subst h0; simp at hI |-; rw [<- hI]; grind, by omega, by omega⟩;exact this.1
 .
  intro h0;have := (Int.ediv_emod_unique (a := -(n : Int)) (b := (d : Int)) (r := (d : Int) - r) (q := -((q + 1 : Nat) : Int)) (by omega)).2 ⟨by rw [<- hI]; push_cast; grind, by omega, by omega⟩;exact this.1
theorem jV (s1 : Bool) (A0 A1 : Option Addr) (l0 c0 l1 c1 n0 n1 L : Nat) (w : World) (hx : Z16 w (.slice A0 l0 c0) n0) (hy : Z16 w (.slice A1 l1 c1) n1) (fn : Fit 65536 n0 L) (hL : L <= 400000) (hd : 0 < n1)  :
  Calls Try.prog 198 #[.agg #[.bool false, .slice A0 l0 c0], .agg #[.bool s1, .slice A1 l1 c1]] w (ck w false (n0 / n1)) := by
 have HXX := hid hx;have HYY := hid hy;have HFN := hid fn;have HD := hid hd;clear hx hy fn hd;obtain ⟨q, hq⟩ : ∃ q, n0 / n1 = q := ⟨_, rfl⟩;obtain ⟨r, hr'⟩ : ∃ r, n0 % n1 = r := ⟨_, rfl⟩;have HQ := hid hq;have HRR := hid hr';clear hq hr';obtain ⟨hXe, KA, KB, KR⟩ := xB3 w 63 #[.bool false, .slice A0 l0 c0] 63 #[.bool s1, .slice A1 l1 c1] 63 #[.bool false, .slice none 0 0];go_enter Try.func198, Try.ntmps198
 go_wp2_with fail
 generalize (((w.alloc _).alloc _).alloc _) = w1 at hXe KA KB KR |-;have HX := hid hXe;clear hXe;replace HXX := hid (HXX.out.ext HX.out);replace HYY := hid (HYY.out.ext HX.out);have cA0 : w1.cell? ⟨w.heap.size, 0, none⟩ = some (.bool false) := KA.out.cell 0;have cA1 : w1.cell? ⟨w.heap.size, 1, none⟩ = some (.slice A0 l0 c0) := KA.out.cell 1;have cB0 : w1.cell? ⟨(w.heap.size + 1), 0, none⟩ = some (.bool s1) := KB.out.cell 0;have cB1 : w1.cell? ⟨(w.heap.size + 1), 1, none⟩ = some (.slice A1 l1 c1) := KB.out.cell 1
 go_wp2_with fail
 clear cA0 cA1 cB0 cB1;refine (aM _ _ n0 n1 L _ HXX.out HYY.out HFN.out hL HD.out).mono ?_;rw [HQ.out, HRR.out];rintro e w2 ⟨v7, v8, rfl, h7, h8, hX⟩;replace hX : Ext w1 w2 := by with_reducible exact hX
 replace HX := xT HX hX;replace HXX := hid (HXX.out.ext hX);replace HYY := hid (HYY.out.ext hX);replace KA := xE KA hX;replace KB := xE KB hX;replace KR := xE KR hX;clear hX;obtain ⟨A7, l7, c7, rfl, hv7, hz7⟩ := Z16.open h7;obtain ⟨A8, l8, c8, rfl, hv8, hz8⟩ := Z16.open h8;have HV := hid hv7;clear h7 h8 hv7 hv8 KB hz7 hz8;replace HV := hid (HV.out.two (NoInts.two KR.out) false A7 l7 c7);have cA0 : w2.cell? ⟨w.heap.size, 0, none⟩ = some (.bool false) := KA.out.cell 0;have cA1 : w2.cell? ⟨w.heap.size, 1, none⟩ = some (.slice A0 l0 c0) := KA.out.cell 1;have cR0 : w2.cell? ⟨(w.heap.size + 2), 0, none⟩ = some (.bool false) := KR.out.cell 0;have fR0 : w2.frozen? ⟨(w.heap.size + 2), 0, none⟩ = false := KR.out.free 0;have cR1 : w2.cell? ⟨(w.heap.size + 2), 1, none⟩ = some (.slice none 0 0) := KR.out.cell 1;have fR1 : w2.frozen? ⟨(w.heap.size + 2), 1, none⟩ = false := KR.out.free 1;go_wp2;refine bodyPost_ret (v := .agg #[.bool false, .slice A7 l7 c7]) (by simp [results, Try.results198, go_sem, *]) rfl ?_;exact ⟨_, _, _, rfl, by rw [HQ.out]; exact HV.out, HX.out.two (by omega) _ _⟩
theorem lq (s1 : Bool) (A0 A1 : Option Addr) (l0 c0 l1 c1 n0 n1 L : Nat) (w : World) (hx : Z16 w (.slice A0 l0 c0) n0) (hy : Z16 w (.slice A1 l1 c1) n1) (fn : Fit 65536 n0 L) (hL : L <= 400000) (hd : 0 < n1) (hn : 0 < n0) (hr : n0 % n1 = 0) :
  Calls Try.prog 198 #[.agg #[.bool true, .slice A0 l0 c0], .agg #[.bool s1, .slice A1 l1 c1]] w (ck w true (n0 / n1)) := by
 have HXX := hid hx;have HYY := hid hy;have HFN := hid fn;have HD := hid hd;clear hx hy fn hd;have hq0 : 0 < n0 / n1 := Nat.div_pos (Nat.le_of_dvd hn (Nat.dvd_of_mod_eq_zero hr)) HD.out;clear hn;obtain ⟨q, hq⟩ : ∃ q, n0 / n1 = q := ⟨_, rfl⟩;obtain ⟨r, hr'⟩ : ∃ r, n0 % n1 = r := ⟨_, rfl⟩;have HQ := hid hq;have HRR := hid hr';rw [hr'] at hr;rw [hq] at hq0;clear hq hr';obtain ⟨hXe, KA, KB, KR⟩ := xB3 w 63 #[.bool true, .slice A0 l0 c0] 63 #[.bool s1, .slice A1 l1 c1] 63 #[.bool false, .slice none 0 0];go_enter Try.func198, Try.ntmps198
 go_wp2_with fail
 generalize (((w.alloc _).alloc _).alloc _) = w1 at hXe KA KB KR |-;have HX := hid hXe;clear hXe;replace HXX := hid (HXX.out.ext HX.out);replace HYY := hid (HYY.out.ext HX.out);have cA0 : w1.cell? ⟨w.heap.size, 0, none⟩ = some (.bool true) := KA.out.cell 0;have cA1 : w1.cell? ⟨w.heap.size, 1, none⟩ = some (.slice A0 l0 c0) := KA.out.cell 1;have cB0 : w1.cell? ⟨(w.heap.size + 1), 0, none⟩ = some (.bool s1) := KB.out.cell 0;have cB1 : w1.cell? ⟨(w.heap.size + 1), 1, none⟩ = some (.slice A1 l1 c1) := KB.out.cell 1
 go_wp2_with fail
 clear cA0 cA1 cB0 cB1;refine (aM _ _ n0 n1 L _ HXX.out HYY.out HFN.out hL HD.out).mono ?_;rw [HQ.out, HRR.out];rintro e w2 ⟨v7, v8, rfl, h7, h8, hX⟩;replace hX : Ext w1 w2 := by with_reducible exact hX
 replace HX := xT HX hX;replace HXX := hid (HXX.out.ext hX);replace HYY := hid (HYY.out.ext hX);replace KA := xE KA hX;replace KB := xE KB hX;replace KR := xE KR hX;clear hX;obtain ⟨A7, l7, c7, rfl, hv7, hz7⟩ := Z16.open h7;obtain ⟨A8, l8, c8, rfl, hv8, hz8⟩ := Z16.open h8;have HV := hid hv7;clear h7 h8 hv7 hv8 KB;obtain rfl : l8 = 0 := hz8.2 hr
 have hl : (0 : Int) < (l7 : Int) := by
  rcases Nat.eq_zero_or_pos l7 with h | h
  .
   have := hz7.1 h; omega
  .
   omega
 have hl' : 0 < l7 := by omega
 clear hz7 hz8 hr;replace HV := hid (HV.out.two (NoInts.two KR.out) true A7 l7 c7);have cA0 : w2.cell? ⟨w.heap.size, 0, none⟩ = some (.bool true) := KA.out.cell 0;have cA1 : w2.cell? ⟨w.heap.size, 1, none⟩ = some (.slice A0 l0 c0) := KA.out.cell 1;have cR0 : w2.cell? ⟨(w.heap.size + 2), 0, none⟩ = some (.bool false) := KR.out.cell 0;have fR0 : w2.frozen? ⟨(w.heap.size + 2), 0, none⟩ = false := KR.out.free 0;have cR1 : w2.cell? ⟨(w.heap.size + 2), 1, none⟩ = some (.slice none 0 0) := KR.out.cell 1;have fR1 : w2.frozen? ⟨(w.heap.size + 2), 1, none⟩ = false := KR.out.free 1;go_wp2;refine bodyPost_ret (v := .agg #[.bool true, .slice A7 l7 c7]) (by simp [results, Try.results198, go_sem, *]) rfl ?_;exact ⟨_, _, _, rfl, by rw [HQ.out]; exact HV.out, HX.out.two (by omega) _ _⟩
theorem lr (s1 : Bool) (A0 A1 : Option Addr) (l0 c0 l1 c1 n0 n1 L : Nat) (w : World) (hx : Z16 w (.slice A0 l0 c0) n0) (hy : Z16 w (.slice A1 l1 c1) n1) (fn : Fit 65536 n0 L) (hL : L <= 400000) (hd : 0 < n1) (hr : 0 < n0 % n1) :
  Calls Try.prog 198 #[.agg #[.bool true, .slice A0 l0 c0], .agg #[.bool s1, .slice A1 l1 c1]] w (ck w true (n0 / n1 + 1)) := by
 have HXX := hid hx;have HYY := hid hy;have HFN := hid fn;have HD := hid hd;clear hx hy fn hd;have HFQ : Hid (Fit 65536 (n0 / n1) L) := HFN.out.le (Nat.div_le_self _ _);obtain ⟨q, hq⟩ : ∃ q, n0 / n1 = q := ⟨_, rfl⟩;obtain ⟨r, hr'⟩ : ∃ r, n0 % n1 = r := ⟨_, rfl⟩;have HQ := hid hq;have HRR := hid hr';rw [hr'] at hr;rw [hq] at HFQ;clear hq hr';obtain ⟨hXe, KA, KB, KR⟩ := xB3 w 63 #[.bool true, .slice A0 l0 c0] 63 #[.bool s1, .slice A1 l1 c1] 63 #[.bool false, .slice none 0 0];go_enter Try.func198, Try.ntmps198
 go_wp2_with fail
 generalize (((w.alloc _).alloc _).alloc _) = w1 at hXe KA KB KR |-;have HX := hid hXe;clear hXe;replace HXX := hid (HXX.out.ext HX.out);replace HYY := hid (HYY.out.ext HX.out);have cA0 : w1.cell? ⟨w.heap.size, 0, none⟩ = some (.bool true) := KA.out.cell 0;have cA1 : w1.cell? ⟨w.heap.size, 1, none⟩ = some (.slice A0 l0 c0) := KA.out.cell 1;have cB0 : w1.cell? ⟨(w.heap.size + 1), 0, none⟩ = some (.bool s1) := KB.out.cell 0;have cB1 : w1.cell? ⟨(w.heap.size + 1), 1, none⟩ = some (.slice A1 l1 c1) := KB.out.cell 1
 go_wp2_with fail
 clear cA0 cA1 cB0 cB1;refine (aM _ _ n0 n1 L _ HXX.out HYY.out HFN.out hL HD.out).mono ?_;rw [HQ.out, HRR.out];rintro e w2 ⟨v7, v8, rfl, h7, h8, hX⟩;replace hX : Ext w1 w2 := by with_reducible exact hX
 replace HX := xT HX hX;replace HXX := hid (HXX.out.ext hX);replace HYY := hid (HYY.out.ext hX);replace KA := xE KA hX;replace KB := xE KB hX;replace KR := xE KR hX;clear hX;obtain ⟨A7, l7, c7, rfl, hv7, hz7⟩ := Z16.open h7;obtain ⟨A8, l8, c8, rfl, hv8, hz8⟩ := Z16.open h8;have HV := hid hv7;clear h7 h8 hv7 hv8 KB
 have hl : (0 : Int) < (l8 : Int) := by
  rcases Nat.eq_zero_or_pos l8 with h | h
  .
   have := hz8.1 h; omega
  .
   omega
 have hl' : 0 < l8 := by omega
 clear hz7 hz8 hr;have cA0 : w2.cell? ⟨w.heap.size, 0, none⟩ = some (.bool true) := KA.out.cell 0;have cA1 : w2.cell? ⟨w.heap.size, 1, none⟩ = some (.slice A0 l0 c0) := KA.out.cell 1
 go_wp2_with fail
 clear cA0 cA1;obtain ⟨hXa, KO⟩ := xB1 w2 3 #[.int .i64 1];have zA := KA.out.lt;have zR := KR.out.lt;have zg := HX.out.size;replace HX := xT HX hXa;replace HXX := hid (HXX.out.ext hXa);replace HYY := hid (HYY.out.ext hXa);replace HV := hid (HV.out.ext hXa);replace KA := xE KA hXa;replace KR := xE KR hXa;generalize (w2.alloc _) = w3 at HX HXX HYY HV KA KR KO |-;clear hXa
 go_wp2_with fail
 refine (gN _ _ q 1 (L + 1) _ HV.out KO.out.one16 (HFQ.out.mono (by omega) (by omega)) (Fit.one (by omega) (by omega)) (by omega)).mono ?_;rintro e w4 ⟨v9, rfl, h9, hX⟩;replace hX : Ext w3 w4 := by with_reducible exact hX
 replace HX := xT HX hX;replace HXX := hid (HXX.out.ext hX);replace HYY := hid (HYY.out.ext hX);replace HV := hid (HV.out.ext hX);replace KA := xE KA hX;replace KR := xE KR hX;replace KO := xE KO hX;clear hX;obtain ⟨A9, l9, c9, rfl, hv9, hz9⟩ := Z16.open h9
 have hl9 : (0 : Int) < (l9 : Int) := by
  rcases Nat.eq_zero_or_pos l9 with h | h
  .
   have := hz9.1 h; omega
  .
   omega
 have hl9' : 0 < l9 := by omega
 have HW := hid (Z16.two hv9 (NoInts.two KR.out) true A9 l9 c9);clear h9 hv9 hz9;have cA0 : w4.cell? ⟨w.heap.size, 0, none⟩ = some (.bool true) := KA.out.cell 0;have cA1 : w4.cell? ⟨w.heap.size, 1, none⟩ = some (.slice A0 l0 c0) := KA.out.cell 1;have cR0 : w4.cell? ⟨(w.heap.size + 2), 0, none⟩ = some (.bool false) := KR.out.cell 0;have fR0 : w4.frozen? ⟨(w.heap.size + 2), 0, none⟩ = false := KR.out.free 0;have cR1 : w4.cell? ⟨(w.heap.size + 2), 1, none⟩ = some (.slice none 0 0) := KR.out.cell 1;have fR1 : w4.frozen? ⟨(w.heap.size + 2), 1, none⟩ = false := KR.out.free 1;go_wp2;refine bodyPost_ret (v := .agg #[.bool true, .slice A9 l9 c9]) (by simp [results, Try.results198, go_sem, *]) rfl ?_;exact ⟨_, _, _, rfl, by rw [HQ.out]; exact HW.out, HX.out.two (by omega) _ _⟩
theorem jW (va : Value) (x : Int) (s : Bool) (B : Option Addr) (m k d L : Nat) (w : World) (ha : IntZ w va x) (hb : Z16 w (.slice B m k) d) (fn : Fit 65536 x.natAbs L) (hL : L <= 400000) (hd : 0 < d) :
  Calls Try.prog 198 #[va, .agg #[.bool s, .slice B m k]] w (dm w (x / (d : Int))) := by
 obtain ⟨A0, l0, c0, rfl, hx⟩ := ha
 have fin : ∀ (b : Bool) (n : Nat), b = decide (x / (d : Int) < 0) -> n = (x / (d : Int)).natAbs -> ∀ e w', ck w b n e w' -> dm w (x / (d : Int)) e w' := by
  rintro b n rfl rfl e w' ⟨A, l, c, rfl, hz, hX⟩;exact ⟨_, rfl, ⟨A, l, c, rfl, hz⟩, hX⟩
 by_cases h : x < 0
 .
  obtain ⟨e1, e2⟩ := lp x.natAbs d hd;have hn : (-(x.natAbs : Int)) = x := by omega
  rw [hn] at e1 e2;rw [decide_eq_true h]
  rcases Nat.eq_zero_or_pos (x.natAbs % d) with hr | hr
  .
   have hq0 : 0 < x.natAbs / d := Nat.div_pos (Nat.le_of_dvd (by omega) (Nat.dvd_of_mod_eq_zero hr)) hd;refine (lq s A0 B l0 c0 m k _ d L w hx hb fn hL hd (by omega) hr).mono (fin _ _ ?_ ?_)
   .
    rw [e1 hr]; clear e1 e2; generalize x.natAbs / d = q at hq0 |-; symm; rw [decide_eq_true_iff]; omega
   .
    rw [e1 hr]; clear e1 e2; generalize x.natAbs / d = q; omega
  .
   refine (lr s A0 B l0 c0 m k _ d L w hx hb fn hL hd hr).mono (fin _ _ ?_ ?_)
   .
    rw [e2 hr]; clear e1 e2; generalize x.natAbs / d = q; symm; rw [decide_eq_true_iff]; omega
   .
    rw [e2 hr]; clear e1 e2; generalize x.natAbs / d = q; omega
 .
  rw [decide_eq_false h];have hn : (x.natAbs : Int) = x := by omega
  have e1 : x / (d : Int) = ((x.natAbs / d : Nat) : Int) := by rw [Int.natCast_ediv, hn]
  refine (jV s A0 B l0 c0 m k _ d L w hx hb fn hL hd).mono (fin _ _ ?_ ?_)
  .
   rw [e1]; clear e1; generalize x.natAbs / d = q; symm; rw [decide_eq_false_iff_not]; omega
  .
   rw [e1]; clear e1; generalize x.natAbs / d = q; omega
theorem aY {xs : List Int} (h : Dg 65536 xs) (k : Nat) : am 65536 (xs.drop k) <= am 65536 xs := by
 by_cases hk : k <= xs.length
 .
  have h1 := cg (B := 65536) xs hk;have h2 := az (B := 65536) (by omega) (h.take k);have h3 := az (B := 65536) (by omega) (h.drop k);have h4 : 1 <= (65536 : Int) ^ k := by have := aN (B := 65536) (by omega) k; omega
  have h5 : 1 * am 65536 (xs.drop k) <= (65536 : Int) ^ k * am 65536 (xs.drop k) := Int.mul_le_mul_of_nonneg_right h4 h3;omega
 .
  rw [List.drop_eq_nil_of_le (by omega)];exact az (by omega) h
theorem ls {xs : List Int} {n : Nat} (h : Rep 65536 xs n) (_hl : 4 < xs.length) : 4611686018427387904 < n := by
 apply Nat.lt_of_not_le;intro hn;have := h.len_le (L := 4) (by omega) (by rw [show (65536 : Int) ^ 4 = 18446744073709551616 by decide]; omega);omega
theorem cK {xs : List Int} {n : Nat} {x : Int} (h : Rep 65536 xs n) (hl : xs.length = 4) (hx : xs[3]? = some x) : (16384 < x -> 4611686018427387904 < n) /\ (x <= 16384 -> n < 4611967493404098560) := by
 obtain ⟨h1, h2⟩ := ee (k := 3) h.1 hl hx;rw [h.2.2, show (65536 : Int) ^ 3 = 281474976710656 by decide] at h1 h2;constructor <;> intro hh <;> omega
theorem cY {xs : List Int} {n : Nat} (h : Rep 65536 xs n) (_hl : xs.length < 4) : n < 281474976710656 := by
 have h1 := h.lt (by omega)
 have h2 : (65536 : Int) ^ xs.length <= 65536 ^ 3 := by
  have : ∀ m : Nat, m <= 3 -> (65536 : Int) ^ m <= 65536 ^ 3 := by decide
  exact this _ (by omega)
 rw [show (65536 : Int) ^ 3 = 281474976710656 by decide] at h2;omega
theorem iM (s : Bool) (A : Option Addr) (l c n : Nat) (xs : List Int) (w : World) (hx : Ints .i64 w A l xs) (hr : Rep 65536 xs n) (_hlm : l <= 9223372036854775807) (_hl : 4 < l) :
  Calls Try.prog 163 #[.agg #[.bool s, .slice A l c]] w (fun e w' => e = .returned (.tuple #[.int .i64 0, .bool false]) /\ Ext w w') := by
 have HA := hid hx;have HLX : Hid (xs.length = l) := hx.1;have HR := hid hr;clear hx hr;obtain ⟨hXe, KA⟩ := xB1 w 63 #[.bool s, .slice A l c];go_enter Try.func163, Try.ntmps163
 go_wp2_with fail
 generalize (w.alloc _) = w1 at hXe KA |-;have HX := hid hXe;clear hXe;have cA0 : w1.cell? ⟨w.heap.size, 0, none⟩ = some (.bool s) := KA.out.cell 0;have cA1 : w1.cell? ⟨w.heap.size, 1, none⟩ = some (.slice A l c) := KA.out.cell 1;go_wp2
 go_ret2
 exact ⟨rfl, HX.out⟩
theorem jX (s : Bool) (A : Option Addr) (l c n : Nat) (xs : List Int) (w : World) (hx : Ints .i64 w A l xs) (hr : Rep 65536 xs n) (_hlm : l <= 9223372036854775807) (hl : l = 4) (x3 : Int) (h3 : xs[3]? = some x3) (_hx3 : 16384 < x3) :
  Calls Try.prog 163 #[.agg #[.bool s, .slice A l c]] w (fun e w' => e = .returned (.tuple #[.int .i64 0, .bool false]) /\ Ext w w') := by
 have HA := hid hx;have HLX : Hid (xs.length = l) := hx.1;have HR := hid hr;clear hx hr;have hl4 := HLX.out;rw [hl] at hl4;have HF := hid (cK HR.out hl4 h3);clear hl4;subst hl;obtain ⟨b3, o3, y3, hAA, hy3, _, hc3⟩ := HA.out.get (show 3 < 4 by omega);obtain rfl : x3 = y3 := by rw [h3] at hy3; injection hy3
 clear h3 hy3;subst hAA;obtain ⟨hXe, KA⟩ := xB1 w 63 #[.bool s, .slice (some ⟨b3, o3, none⟩) 4 c];have hc4 := hXe.cell hc3;go_enter Try.func163, Try.ntmps163
 go_wp2_with fail
 generalize (w.alloc _) = w1 at hXe hc4 KA |-;have HX := hid hXe;clear hXe;have cA0 : w1.cell? ⟨w.heap.size, 0, none⟩ = some (.bool s) := KA.out.cell 0;have cA1 : w1.cell? ⟨w.heap.size, 1, none⟩ = some (.slice (some ⟨b3, o3, none⟩) 4 c) := KA.out.cell 1;go_wp2
 go_ret2
 exact ⟨rfl, HX.out⟩
theorem lw (s : Bool) (A : Option Addr) (l c n : Nat) (xs : List Int) (w : World) (hx : Ints .i64 w A l xs) (hr : Rep 65536 xs n) (_hlm : l <= 9223372036854775807) (hl : l = 4) (x3 : Int) (h3 : xs[3]? = some x3) (hx3 : x3 <= 16384) (_hn : 4611686018427387904 < n) :
  Calls Try.prog 163 #[.agg #[.bool s, .slice A l c]] w (fun e w' => e = .returned (.tuple #[.int .i64 0, .bool false]) /\ Ext w w') := by
 have HA := hid hx;have HLX : Hid (xs.length = l) := hx.1;have HR := hid hr;clear hx hr;have hl4 := HLX.out;rw [hl] at hl4;have HF := hid (cK HR.out hl4 h3);clear hl4;subst hl;obtain ⟨b3, o3, y3, hAA, hy3, _, hc3⟩ := HA.out.get (show 3 < 4 by omega);obtain rfl : x3 = y3 := by rw [h3] at hy3; injection hy3
 clear h3 hy3;subst hAA;have HN : Hid (n <= 9223372036854775807) := by have := HF.out.2 hx3; show _ <= _; omega
 obtain ⟨hXe, KA⟩ := xB1 w 63 #[.bool s, .slice (some ⟨b3, o3, none⟩) 4 c];have hc4 := hXe.cell hc3;go_enter Try.func163, Try.ntmps163
 go_wp2_with fail
 generalize (w.alloc _) = w1 at hXe hc4 KA |-;have HX := hid hXe;clear hXe;have cA0 : w1.cell? ⟨w.heap.size, 0, none⟩ = some (.bool s) := KA.out.cell 0;have cA1 : w1.cell? ⟨w.heap.size, 1, none⟩ = some (.slice (some ⟨b3, o3, none⟩) 4 c) := KA.out.cell 1;go_wp2;clear cA0 cA1
 go_loopg [4, 5] 4 (fun g s4 s5 wr => ∃ (k : Nat) (u : Int), k = g /\ k <= 4 /\ s5 = .int .i64 ((k : Int) - 1) /\ s4 = .int .i64 u /\ Hid (u = am 65536 (xs.drop k)) /\ Hid (Blk wr w.heap.size 63 #[.bool s, .slice (some ⟨b3, o3, none⟩) 4 c]) /\ Hid (Ext w wr))
 case atStart => exact ⟨4, 0, rfl, by omega, rfl, rfl, by rw [List.drop_eq_nil_of_le (by rw [HLX.out]; exact Nat.le_refl _)]; rfl, KA.out, HX.out⟩
 case round =>
  clear KA HX;obtain ⟨k, u, rfl, hk, rfl, rfl, HU, KA, HX⟩ := hrel;have cA0 : wr.cell? ⟨w.heap.size, 0, none⟩ = some (.bool s) := KA.out.cell 0;have cA1 : wr.cell? ⟨w.heap.size, 1, none⟩ = some (.slice (some ⟨b3, o3, none⟩) 4 c) := KA.out.cell 1
  rcases Nat.eq_zero_or_pos k with h0 | h0
  .
   subst h0;have hu : u = (n : Int) := by have := HU.out; rw [List.drop_zero, HR.out.2.2] at this; exact this
   clear HU;subst hu;rw [show (((0 : Nat) : Int) - 1) = -1 by omega];go_wp2
   go_ret2
   exact ⟨rfl, HX.out⟩
  .
   obtain ⟨j, rfl⟩ : ∃ j, k = j + 1 := ⟨k - 1, by omega⟩;rw [show ((j + 1 : Nat) : Int) - 1 = (j : Int) by omega];have hj0 : (0 : Int) <= (j : Int) := by omega
   have hjl : (j : Int) < 4 := by omega
   obtain ⟨b1, o1, x, hAA, hx, _, hcx⟩ := (HA.out.ext HX.out).get (show j < 4 by omega);obtain ⟨hx0, hx1⟩ := HR.out.1.get hx;have hv := aH (B := 65536) hx;rw [<- HU.out] at hv;have hv1 := aY HR.out.1 j;have hv0 := az (B := 65536) (by omega) (HR.out.1.drop (j + 1));rw [<- HU.out] at hv0;rw [HR.out.2.2] at hv1;have HV : Hid (u * 65536 + x = am 65536 (xs.drop j)) := by show _ = _; rw [hv]; omega
   have hs0 : 0 <= u * 65536 + x := by omega
   have hs1 : u * 65536 + x <= 9223372036854775807 := by have := HV.out; have := HN.out; omega
   have hs2 : u * 65536 <= 9223372036854775807 := by omega
   clear hx hv hv1;injection hAA with hAA;injection hAA with e1 e2;subst e1 e2;go_wp2;go_roundg j
   case rel => exact ⟨j, _, rfl, by omega, by go_num, rfl, HV.out, KA.out, HX.out⟩
   case measure => omega
theorem lx (A : Option Addr) (l c n : Nat) (xs : List Int) (w : World) (hx : Ints .i64 w A l xs) (hr : Rep 65536 xs n) (_hlm : l <= 9223372036854775807) (hl : l = 4) (x3 : Int) (h3 : xs[3]? = some x3) (hx3 : x3 <= 16384) (_hn : n <= 4611686018427387904) :
  Calls Try.prog 163 #[.agg #[.bool true, .slice A l c]] w (fun e w' => e = .returned (.tuple #[.int .i64 (-(n : Int)), .bool true]) /\ Ext w w') := by
 have HA := hid hx;have HLX : Hid (xs.length = l) := hx.1;have HR := hid hr;clear hx hr;have hl4 := HLX.out;rw [hl] at hl4;have HF := hid (cK HR.out hl4 h3);clear hl4;subst hl;obtain ⟨b3, o3, y3, hAA, hy3, _, hc3⟩ := HA.out.get (show 3 < 4 by omega);obtain rfl : x3 = y3 := by rw [h3] at hy3; injection hy3
 clear h3 hy3;subst hAA;have HN : Hid (n <= 9223372036854775807) := by have := HF.out.2 hx3; show _ <= _; omega
 obtain ⟨hXe, KA⟩ := xB1 w 63 #[.bool true, .slice (some ⟨b3, o3, none⟩) 4 c];have hc4 := hXe.cell hc3;go_enter Try.func163, Try.ntmps163
 go_wp2_with fail
 generalize (w.alloc _) = w1 at hXe hc4 KA |-;have HX := hid hXe;clear hXe;have cA0 : w1.cell? ⟨w.heap.size, 0, none⟩ = some (.bool true) := KA.out.cell 0;have cA1 : w1.cell? ⟨w.heap.size, 1, none⟩ = some (.slice (some ⟨b3, o3, none⟩) 4 c) := KA.out.cell 1;go_wp2;clear cA0 cA1
 go_loopg [4, 5] 4 (fun g s4 s5 wr => ∃ (k : Nat) (u : Int), k = g /\ k <= 4 /\ s5 = .int .i64 ((k : Int) - 1) /\ s4 = .int .i64 u /\ Hid (u = am 65536 (xs.drop k)) /\ Hid (Blk wr w.heap.size 63 #[.bool true, .slice (some ⟨b3, o3, none⟩) 4 c]) /\ Hid (Ext w wr))
 case atStart => exact ⟨4, 0, rfl, by omega, rfl, rfl, by rw [List.drop_eq_nil_of_le (by rw [HLX.out]; exact Nat.le_refl _)]; rfl, KA.out, HX.out⟩
 case round =>
  clear KA HX;obtain ⟨k, u, rfl, hk, rfl, rfl, HU, KA, HX⟩ := hrel;have cA0 : wr.cell? ⟨w.heap.size, 0, none⟩ = some (.bool true) := KA.out.cell 0;have cA1 : wr.cell? ⟨w.heap.size, 1, none⟩ = some (.slice (some ⟨b3, o3, none⟩) 4 c) := KA.out.cell 1
  rcases Nat.eq_zero_or_pos k with h0 | h0
  .
   subst h0;have hu : u = (n : Int) := by have := HU.out; rw [List.drop_zero, HR.out.2.2] at this; exact this
   clear HU;subst hu;rw [show (((0 : Nat) : Int) - 1) = -1 by omega];go_wp2
   go_ret2
   exact ⟨rfl, HX.out⟩
  .
   obtain ⟨j, rfl⟩ : ∃ j, k = j + 1 := ⟨k - 1, by omega⟩;rw [show ((j + 1 : Nat) : Int) - 1 = (j : Int) by omega];have hj0 : (0 : Int) <= (j : Int) := by omega
   have hjl : (j : Int) < 4 := by omega
   obtain ⟨b1, o1, x, hAA, hx, _, hcx⟩ := (HA.out.ext HX.out).get (show j < 4 by omega);obtain ⟨hx0, hx1⟩ := HR.out.1.get hx;have hv := aH (B := 65536) hx;rw [<- HU.out] at hv;have hv1 := aY HR.out.1 j;have hv0 := az (B := 65536) (by omega) (HR.out.1.drop (j + 1));rw [<- HU.out] at hv0;rw [HR.out.2.2] at hv1;have HV : Hid (u * 65536 + x = am 65536 (xs.drop j)) := by show _ = _; rw [hv]; omega
   have hs0 : 0 <= u * 65536 + x := by omega
   have hs1 : u * 65536 + x <= 9223372036854775807 := by have := HV.out; have := HN.out; omega
   have hs2 : u * 65536 <= 9223372036854775807 := by omega
   clear hx hv hv1;injection hAA with hAA;injection hAA with e1 e2;subst e1 e2;go_wp2;go_roundg j
   case rel => exact ⟨j, _, rfl, by omega, by go_num, rfl, HV.out, KA.out, HX.out⟩
   case measure => omega
theorem ly (A : Option Addr) (l c n : Nat) (xs : List Int) (w : World) (hx : Ints .i64 w A l xs) (hr : Rep 65536 xs n) (_hlm : l <= 9223372036854775807) (hl : l = 4) (x3 : Int) (h3 : xs[3]? = some x3) (hx3 : x3 <= 16384) (_hn : n <= 4611686018427387904) :
  Calls Try.prog 163 #[.agg #[.bool false, .slice A l c]] w (fun e w' => e = .returned (.tuple #[.int .i64 (n : Int), .bool true]) /\ Ext w w') := by
 have HA := hid hx;have HLX : Hid (xs.length = l) := hx.1;have HR := hid hr;clear hx hr;have hl4 := HLX.out;rw [hl] at hl4;have HF := hid (cK HR.out hl4 h3);clear hl4;subst hl;obtain ⟨b3, o3, y3, hAA, hy3, _, hc3⟩ := HA.out.get (show 3 < 4 by omega);obtain rfl : x3 = y3 := by rw [h3] at hy3; injection hy3
 clear h3 hy3;subst hAA;have HN : Hid (n <= 9223372036854775807) := by have := HF.out.2 hx3; show _ <= _; omega
 obtain ⟨hXe, KA⟩ := xB1 w 63 #[.bool false, .slice (some ⟨b3, o3, none⟩) 4 c];have hc4 := hXe.cell hc3;go_enter Try.func163, Try.ntmps163
 go_wp2_with fail
 generalize (w.alloc _) = w1 at hXe hc4 KA |-;have HX := hid hXe;clear hXe;have cA0 : w1.cell? ⟨w.heap.size, 0, none⟩ = some (.bool false) := KA.out.cell 0;have cA1 : w1.cell? ⟨w.heap.size, 1, none⟩ = some (.slice (some ⟨b3, o3, none⟩) 4 c) := KA.out.cell 1;go_wp2;clear cA0 cA1
 go_loopg [4, 5] 4 (fun g s4 s5 wr => ∃ (k : Nat) (u : Int), k = g /\ k <= 4 /\ s5 = .int .i64 ((k : Int) - 1) /\ s4 = .int .i64 u /\ Hid (u = am 65536 (xs.drop k)) /\ Hid (Blk wr w.heap.size 63 #[.bool false, .slice (some ⟨b3, o3, none⟩) 4 c]) /\ Hid (Ext w wr))
 case atStart => exact ⟨4, 0, rfl, by omega, rfl, rfl, by rw [List.drop_eq_nil_of_le (by rw [HLX.out]; exact Nat.le_refl _)]; rfl, KA.out, HX.out⟩
 case round =>
  clear KA HX;obtain ⟨k, u, rfl, hk, rfl, rfl, HU, KA, HX⟩ := hrel;have cA0 : wr.cell? ⟨w.heap.size, 0, none⟩ = some (.bool false) := KA.out.cell 0;have cA1 : wr.cell? ⟨w.heap.size, 1, none⟩ = some (.slice (some ⟨b3, o3, none⟩) 4 c) := KA.out.cell 1
  rcases Nat.eq_zero_or_pos k with h0 | h0
  .
   subst h0;have hu : u = (n : Int) := by have := HU.out; rw [List.drop_zero, HR.out.2.2] at this; exact this
   clear HU;subst hu;rw [show (((0 : Nat) : Int) - 1) = -1 by omega];go_wp2
   go_ret2
   exact ⟨rfl, HX.out⟩
  .
   obtain ⟨j, rfl⟩ : ∃ j, k = j + 1 := ⟨k - 1, by omega⟩;rw [show ((j + 1 : Nat) : Int) - 1 = (j : Int) by omega];have hj0 : (0 : Int) <= (j : Int) := by omega
   have hjl : (j : Int) < 4 := by omega
   obtain ⟨b1, o1, x, hAA, hx, _, hcx⟩ := (HA.out.ext HX.out).get (show j < 4 by omega);obtain ⟨hx0, hx1⟩ := HR.out.1.get hx;have hv := aH (B := 65536) hx;rw [<- HU.out] at hv;have hv1 := aY HR.out.1 j;have hv0 := az (B := 65536) (by omega) (HR.out.1.drop (j + 1));rw [<- HU.out] at hv0;rw [HR.out.2.2] at hv1;have HV : Hid (u * 65536 + x = am 65536 (xs.drop j)) := by show _ = _; rw [hv]; omega
   have hs0 : 0 <= u * 65536 + x := by omega
   have hs1 : u * 65536 + x <= 9223372036854775807 := by have := HV.out; have := HN.out; omega
   have hs2 : u * 65536 <= 9223372036854775807 := by omega
   clear hx hv hv1;injection hAA with hAA;injection hAA with e1 e2;subst e1 e2;go_wp2;go_roundg j
   case rel => exact ⟨j, _, rfl, by omega, by go_num, rfl, HV.out, KA.out, HX.out⟩
   case measure => omega
theorem lz (A : Option Addr) (l c n : Nat) (xs : List Int) (w : World) (hx : Ints .i64 w A l xs) (hr : Rep 65536 xs n) (_hlm : l <= 9223372036854775807) (hl : l < 4) :
  Calls Try.prog 163 #[.agg #[.bool true, .slice A l c]] w (fun e w' => e = .returned (.tuple #[.int .i64 (-(n : Int)), .bool true]) /\ Ext w w') := by
 have HA := hid hx;have HLX : Hid (xs.length = l) := hx.1;have HR := hid hr;clear hx hr;have hn : n < 281474976710656 := cY HR.out (by rw [HLX.out]; exact hl);have hl4 : ((l : Int) == 4) = false := by simp; omega
 have HN : Hid (n <= 9223372036854775807) := by show _ <= _; omega
 obtain ⟨hXe, KA⟩ := xB1 w 63 #[.bool true, .slice A l c];go_enter Try.func163, Try.ntmps163
 go_wp2_with fail
 generalize (w.alloc _) = w1 at hXe KA |-;have HX := hid hXe;clear hXe;have cA0 : w1.cell? ⟨w.heap.size, 0, none⟩ = some (.bool true) := KA.out.cell 0;have cA1 : w1.cell? ⟨w.heap.size, 1, none⟩ = some (.slice A l c) := KA.out.cell 1;go_wp2;clear cA0 cA1
 go_loopg [4, 5] l (fun g s4 s5 wr => ∃ (k : Nat) (u : Int), k = g /\ k <= l /\ s5 = .int .i64 ((k : Int) - 1) /\ s4 = .int .i64 u /\ Hid (u = am 65536 (xs.drop k)) /\ Hid (Blk wr w.heap.size 63 #[.bool true, .slice A l c]) /\ Hid (Ext w wr))
 case atStart => exact ⟨l, 0, rfl, by omega, rfl, rfl, by rw [List.drop_eq_nil_of_le (by rw [HLX.out]; exact Nat.le_refl _)]; rfl, KA.out, HX.out⟩
 case round =>
  clear KA HX;obtain ⟨k, u, rfl, hk, rfl, rfl, HU, KA, HX⟩ := hrel;have cA0 : wr.cell? ⟨w.heap.size, 0, none⟩ = some (.bool true) := KA.out.cell 0;have cA1 : wr.cell? ⟨w.heap.size, 1, none⟩ = some (.slice A l c) := KA.out.cell 1
  rcases Nat.eq_zero_or_pos k with h0 | h0
  .
   subst h0;have hu : u = (n : Int) := by have := HU.out; rw [List.drop_zero, HR.out.2.2] at this; exact this
   clear HU;subst hu;rw [show (((0 : Nat) : Int) - 1) = -1 by omega];go_wp2
   go_ret2
   exact ⟨rfl, HX.out⟩
  .
   obtain ⟨j, rfl⟩ : ∃ j, k = j + 1 := ⟨k - 1, by omega⟩;rw [show ((j + 1 : Nat) : Int) - 1 = (j : Int) by omega];have hj0 : (0 : Int) <= (j : Int) := by omega
   have hjl : (j : Int) < (l : Int) := by omega
   obtain ⟨b1, o1, x, hAA, hx, _, hcx⟩ := (HA.out.ext HX.out).get (show j < l by omega);obtain ⟨hx0, hx1⟩ := HR.out.1.get hx;have hv := aH (B := 65536) hx;rw [<- HU.out] at hv;have hv1 := aY HR.out.1 j;have hv0 := az (B := 65536) (by omega) (HR.out.1.drop (j + 1));rw [<- HU.out] at hv0;rw [HR.out.2.2] at hv1;have HV : Hid (u * 65536 + x = am 65536 (xs.drop j)) := by show _ = _; rw [hv]; omega
   have hs0 : 0 <= u * 65536 + x := by omega
   have hs1 : u * 65536 + x <= 9223372036854775807 := by have := HV.out; have := HN.out; omega
   have hs2 : u * 65536 <= 9223372036854775807 := by omega
   clear hx hv hv1;obtain rfl := hAA;go_wp2;go_roundg j
   case rel => exact ⟨j, _, rfl, by omega, by go_num, rfl, HV.out, KA.out, HX.out⟩
   case measure => omega
theorem lA (A : Option Addr) (l c n : Nat) (xs : List Int) (w : World) (hx : Ints .i64 w A l xs) (hr : Rep 65536 xs n) (_hlm : l <= 9223372036854775807) (hl : l < 4) :
  Calls Try.prog 163 #[.agg #[.bool false, .slice A l c]] w (fun e w' => e = .returned (.tuple #[.int .i64 (n : Int), .bool true]) /\ Ext w w') := by
 have HA := hid hx;have HLX : Hid (xs.length = l) := hx.1;have HR := hid hr;clear hx hr;have hn : n < 281474976710656 := cY HR.out (by rw [HLX.out]; exact hl);have hl4 : ((l : Int) == 4) = false := by simp; omega
 have HN : Hid (n <= 9223372036854775807) := by show _ <= _; omega
 obtain ⟨hXe, KA⟩ := xB1 w 63 #[.bool false, .slice A l c];go_enter Try.func163, Try.ntmps163
 go_wp2_with fail
 generalize (w.alloc _) = w1 at hXe KA |-;have HX := hid hXe;clear hXe;have cA0 : w1.cell? ⟨w.heap.size, 0, none⟩ = some (.bool false) := KA.out.cell 0;have cA1 : w1.cell? ⟨w.heap.size, 1, none⟩ = some (.slice A l c) := KA.out.cell 1;go_wp2;clear cA0 cA1
 go_loopg [4, 5] l (fun g s4 s5 wr => ∃ (k : Nat) (u : Int), k = g /\ k <= l /\ s5 = .int .i64 ((k : Int) - 1) /\ s4 = .int .i64 u /\ Hid (u = am 65536 (xs.drop k)) /\ Hid (Blk wr w.heap.size 63 #[.bool false, .slice A l c]) /\ Hid (Ext w wr))
 case atStart => exact ⟨l, 0, rfl, by omega, rfl, rfl, by rw [List.drop_eq_nil_of_le (by rw [HLX.out]; exact Nat.le_refl _)]; rfl, KA.out, HX.out⟩
 case round =>
  clear KA HX;obtain ⟨k, u, rfl, hk, rfl, rfl, HU, KA, HX⟩ := hrel;have cA0 : wr.cell? ⟨w.heap.size, 0, none⟩ = some (.bool false) := KA.out.cell 0;have cA1 : wr.cell? ⟨w.heap.size, 1, none⟩ = some (.slice A l c) := KA.out.cell 1
  rcases Nat.eq_zero_or_pos k with h0 | h0
  .
   subst h0;have hu : u = (n : Int) := by have := HU.out; rw [List.drop_zero, HR.out.2.2] at this; exact this
   clear HU;subst hu;rw [show (((0 : Nat) : Int) - 1) = -1 by omega];go_wp2
   go_ret2
   exact ⟨rfl, HX.out⟩
  .
   obtain ⟨j, rfl⟩ : ∃ j, k = j + 1 := ⟨k - 1, by omega⟩;rw [show ((j + 1 : Nat) : Int) - 1 = (j : Int) by omega];have hj0 : (0 : Int) <= (j : Int) := by omega
   have hjl : (j : Int) < (l : Int) := by omega
   obtain ⟨b1, o1, x, hAA, hx, _, hcx⟩ := (HA.out.ext HX.out).get (show j < l by omega);obtain ⟨hx0, hx1⟩ := HR.out.1.get hx;have hv := aH (B := 65536) hx;rw [<- HU.out] at hv;have hv1 := aY HR.out.1 j;have hv0 := az (B := 65536) (by omega) (HR.out.1.drop (j + 1));rw [<- HU.out] at hv0;rw [HR.out.2.2] at hv1;have HV : Hid (u * 65536 + x = am 65536 (xs.drop j)) := by show _ = _; rw [hv]; omega
   have hs0 : 0 <= u * 65536 + x := by omega
   have hs1 : u * 65536 + x <= 9223372036854775807 := by have := HV.out; have := HN.out; omega
   have hs2 : u * 65536 <= 9223372036854775807 := by omega
   clear hx hv hv1;obtain rfl := hAA;go_wp2;go_roundg j
   case rel => exact ⟨j, _, rfl, by omega, by go_num, rfl, HV.out, KA.out, HX.out⟩
   case measure => omega
def dn (z : Int) : Int := if -4611686018427387904 <= z /\ z <= 4611686018427387904 then z else 0
def lB (z : Int) : Bool := decide (-4611686018427387904 <= z /\ z <= 4611686018427387904)
theorem bj (v : Value) (z : Int) (w : World) (h : IntZ w v z) : Calls Try.prog 163 #[v] w fun e w' => e = .returned (.tuple #[.int .i64 (dn z), .bool (lB z)]) /\ Ext w w' := by
 obtain ⟨A, l, c, rfl, A', l', c', xs, e, hI, hr, hc1, hc2⟩ := h;injection e with e1 e2 e3;subst e1 e2 e3;have yes : ∀ {z : Int}, -4611686018427387904 <= z /\ z <= 4611686018427387904 -> dn z = z /\ lB z = true := fun h => ⟨by rw [dn, if_pos h], decide_eq_true h⟩
 have no : ∀ {z : Int}, ¬ (-4611686018427387904 <= z /\ z <= 4611686018427387904) -> dn z = 0 /\ lB z = false := fun h => ⟨by rw [dn, if_neg h], decide_eq_false h⟩
 rcases (show 4 < l \/ l = 4 \/ l < 4 by omega) with hl | hl | hl
 .
  have hb := ls hr (by rw [hI.1]; exact hl);obtain ⟨e1, e2⟩ := no (z := z) (by omega);rw [e1, e2];exact iM _ A l c _ xs w hI hr (by omega) hl
 .
  have h3 : xs[3]? = some (xs[3]'(by rw [hI.1]; omega)) := List.getElem?_eq_getElem _;generalize xs[3]'(by rw [hI.1]; omega) = x3 at h3;obtain ⟨f1, f2⟩ := cK hr (by rw [hI.1]; exact hl) h3
  by_cases hx : 16384 < x3
  .
   have hb := f1 hx;obtain ⟨e1, e2⟩ := no (z := z) (by omega);rw [e1, e2];exact jX _ A l c _ xs w hI hr (by omega) hl x3 h3 hx
  .
   by_cases hn : 4611686018427387904 < z.natAbs
   .
    obtain ⟨e1, e2⟩ := no (z := z) (by omega);rw [e1, e2];exact lw _ A l c _ xs w hI hr (by omega) hl x3 h3 (by omega) hn
   .
    obtain ⟨e1, e2⟩ := yes (z := z) (by omega);rw [e1, e2]
    by_cases hz : z < 0
    .
     rw [decide_eq_true hz];have := lx A l c _ xs w hI hr (by omega) hl x3 h3 (by omega) (by omega);rw [show (-(z.natAbs : Int)) = z by omega] at this;exact this
    .
     rw [decide_eq_false hz];have := ly A l c _ xs w hI hr (by omega) hl x3 h3 (by omega) (by omega);rw [show (z.natAbs : Int) = z by omega] at this;exact this
 .
  have hb := cY hr (by rw [hI.1]; exact hl);obtain ⟨e1, e2⟩ := yes (z := z) (by omega);rw [e1, e2]
  by_cases hz : z < 0
  .
   rw [decide_eq_true hz];have := lz A l c _ xs w hI hr (by omega) hl;rw [show (-(z.natAbs : Int)) = z by omega] at this;exact this
  .
   rw [decide_eq_false hz];have := lA A l c _ xs w hI hr (by omega) hl;rw [show (z.natAbs : Int) = z by omega] at this;exact this
end Go.Proofs.Ytikhlcgnlbinfaa
