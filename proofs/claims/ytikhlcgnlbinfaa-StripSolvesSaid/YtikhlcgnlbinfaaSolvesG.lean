/- Lemmas of the proof that follows (Solves, part 7): walks of functions by contract, and plain lemmas. Conditions: none. -/
import Derived.Test.YtikhlcgnlbinfaaSolvesF
set_option maxRecDepth 100000
set_option maxHeartbeats 2000000
namespace Go.Proofs.Ytikhlcgnlbinfaa
open Lib (hid)
open Go.RowKit
theorem Z16.pos {w : World} {A : Option Addr} {l c n : Nat} (h : Z16 w (.slice A l c) n) : IntZ w (.agg #[.bool false, .slice A l c]) (n : Int) := ⟨A, l, c, by rw [decide_eq_false (by omega)], h⟩
theorem IntZ.open {w : World} {v : Value} {z : Int} (h : IntZ w v z) : ∃ A l c, v = .agg #[.bool (decide (z < 0)), .slice A l c] /\ Z16 w (.slice A l c) z.natAbs := by
 obtain ⟨A, l, c, rfl, h1⟩ := h;exact ⟨A, l, c, rfl, h1⟩
theorem QZ.mk' {w : World} {b : Bool} {A B : Option Addr} {l c m k : Nat} {q : Rat} (hb : b = decide (q.num < 0)) (h : Z16 w (.slice A l c) q.num.natAbs) (h' : Z16 w (.slice B m k) q.den) : QZ w (.agg #[.bool b, .slice A l c, .slice B m k]) q :=
 ⟨_, _, _, _, _, _, _, rfl, hb, h, h'⟩
theorem rn (b : Bool) (A B : Option Addr) (l c m k : Nat) (w : World) : (Instr.field 65 (.agg #[.bool b, .slice A l c, .slice B m k]) 0).run Try.prog w = .ok (.agg #[.bool b, .slice A l c]) w := by kernel_rfl
theorem pW (q : Rat) : lm q.num = cE q := by
 unfold lm cE
 by_cases h : q.num < 0
 .
  rw [if_pos h, if_pos h]
 .
  rw [if_neg h, if_neg h]
  by_cases h0 : q.num = 0
  .
   rw [if_pos h0, if_neg (by omega)]
  .
   rw [if_neg h0, if_pos (by omega)]
theorem lM (ga : Nat) (s0 : Bool) (A0 B0 : Option Addr) (l0 c0 m0 k0 : Nat) (q : Rat) (w : World) (x0 : w.cell? ⟨ga, 0, none⟩ = some (.bool s0)) (x1 : w.cell? ⟨ga, 1, none⟩ = some (.slice A0 l0 c0)) (x2 : w.cell? ⟨ga, 2, none⟩ = some (.slice B0 m0 k0)) (hx : QZ w (.agg #[.bool s0, .slice A0 l0 c0, .slice B0 m0 k0]) q) (a : Act) (Q : Exit -> Act -> World -> Prop) (hsize : 8 <= a.tmps.size)
  (s1 : a.tmps[1]? = some (.pointer (some ⟨ga, 0, none⟩)))
  (hend : ∀ (xv0 xv1 xv2 xv3 xv4 : Value) (W : World), (xv0 = .pointer (some ⟨ga, 0, none⟩)) -> (xv1 = .agg #[.bool s0, .slice A0 l0 c0]) -> (IntZ W xv2 (-q.num)) -> (xv3 = .pointer (some ⟨ga, 2, none⟩)) -> (xv4 = .slice B0 m0 k0) -> Ext w W -> wpList Try.prog (ae Try.f174 1).toArray Q ((ae Try.f174 1).drop 5) (((((a.put (some 3) xv0).put (some 4) xv1).put (some 5) xv2).put (some 6) xv3).put (some 7) xv4) W) :
  (Code.region 1 (ae Try.f174 1).toArray true).wp Try.prog Q a w := by
 refine bB 5 [some 3, some 4, some 5, some 6, some 7] [[], [0], [1], [], [3]] [cd (.pointer (some ⟨ga, 0, none⟩)), cd (.agg #[.bool s0, .slice A0 l0 c0]), fun v W => IntZ W v (-q.num), cd (.pointer (some ⟨ga, 2, none⟩)), cd (.slice B0 m0 k0)] (by kernel_rfl) (by kernel_rfl) rfl (by decide) hsize ⟨aN, aN, by intro v W W' h hX; exact IntZ.ext h hX, aN, aN, trivial⟩ ?_ ?_
 .
  clear hend;simp only [ae, Try.f174, ab, Option.bind_some, Nat.reduceBEq, if_true, if_false, Bool.false_eq_true, Option.getD_some];simp only [List.take_succ_cons, List.take_zero];refine ⟨?_, ?_, ?_, ?_, ?_, trivial⟩
  .
   rintro us W hJ _ b hb hbz K hK0 hK Qz;have e1 := (hbz 1 (by simp)).trans s1;clear hb hbz;go_simp;exact hK0 _ rfl
  .
   rintro us W hJ d0 b hb hbz K hK0 hK Qz;have e3 := ay (hb 0 3 rfl) d0;clear hb hbz d0;have z0 := Ext.cell hJ x0;have z1 := Ext.cell hJ x1;go_simp;exact hK0 _ rfl
  .
   rintro us W hJ d1 b hb hbz K hK0 hK Qz;have e4 := ay (hb 1 4 rfl) d1;clear hb hbz d1;go_simp;refine (dK _ _ _ (IntZ.ext (QZ.num hx) hJ)).mono ?_;rintro e w' ⟨v, rfl, hv, hX⟩;exact hK _ _ hv hX
  .
   rintro us W hJ _ b hb hbz K hK0 hK Qz;have e1 := (hbz 1 (by simp)).trans s1;clear hb hbz;go_simp;exact hK0 _ rfl
  .
   rintro us W hJ d3 b hb hbz K hK0 hK Qz;have e6 := ay (hb 3 6 rfl) d3;clear hb hbz d3;have q := Ext.cell hJ x2;go_simp;exact hK0 _ rfl
 .
  rintro us W ⟨v0, v1, v2, v3, v4, _⟩ hJ;exact hend _ _ _ _ _ W v0 v1 v2 v3 v4 hJ
theorem nN (s0 : Bool) (A0 B0 : Option Addr) (l0 c0 m0 k0 : Nat) (q : Rat) (w : World) (hx : QZ w (.agg #[.bool s0, .slice A0 l0 c0, .slice B0 m0 k0]) q) :
  Calls Try.prog 174 #[.agg #[.bool s0, .slice A0 l0 c0, .slice B0 m0 k0]] w (RetQz w (-q)) := by
 have HXX := hid hx;clear hx;have hXe : Ext w ((w.alloc (.cells #[.bool s0, .slice A0 l0 c0, .slice B0 m0 k0] 65)).alloc (.cells #[.bool false, .slice none 0 0, .slice none 0 0] 65)) := (((Ext.refl w).alloc _).alloc _);have kA : Blk ((w.alloc (.cells #[.bool s0, .slice A0 l0 c0, .slice B0 m0 k0] 65)).alloc (.cells #[.bool false, .slice none 0 0, .slice none 0 0] 65)) w.heap.size 65 #[.bool s0, .slice A0 l0 c0, .slice B0 m0 k0] := Blk.alloc (Blk.at_ (by simp)) _;have kR : Blk ((w.alloc (.cells #[.bool s0, .slice A0 l0 c0, .slice B0 m0 k0] 65)).alloc (.cells #[.bool false, .slice none 0 0, .slice none 0 0] 65)) (w.heap.size + 1) 65 #[.bool false, .slice none 0 0, .slice none 0 0] := Blk.at_ (by simp);go_enter Try.func174, Try.ntmps174
 go_wp2_with fail
 generalize ((w.alloc _).alloc _) = w1 at hXe kA kR |-;have HX := hid hXe;clear hXe;have KA := hid kA;clear kA;have KR := hid kR;clear kR;replace HXX := hid (HXX.out.ext HX.out)
 go_upto_region 1 with (fail)
 refine lM w.heap.size s0 A0 B0 l0 c0 m0 k0 q w1 (KA.out.cell 0) (KA.out.cell 1) (KA.out.cell 2) HXX.out _ _ (by simp) rfl ?_;rintro xv0 xv1 xv2 xv3 xv4 w2 rfl rfl hv rfl rfl hXW;simp only [ae, Try.f174, ab, Option.bind_some, Nat.reduceBEq, if_true, if_false, Bool.false_eq_true, Option.getD_some, List.drop_succ_cons, List.drop_zero];simp only [Act.put, List.setIfInBounds_toArray, List.set_cons_succ, List.set_cons_zero];replace HX := hid (HX.out.trans hXW);replace HXX := hid (HXX.out.ext hXW);replace KA := hid (KA.out.ext hXW);replace KR := hid (KR.out.ext hXW);clear hXW;obtain ⟨A9, l9, c9, rfl, hv9⟩ := hv.open;obtain ⟨b9, hb9⟩ : ∃ b, decide (-q.num < 0) = b := ⟨_, rfl⟩;rw [hb9];have HD := hid HXX.out.den;have HV : Hid (QZ w2 (.agg #[.bool b9, .slice A9 l9 c9, .slice B0 m0 k0]) (-q)) := QZ.mk' (by rw [Rat.neg_num, hb9]) (by rw [Rat.neg_num]; exact hv9) (by rw [Rat.neg_den]; exact HD.out);clear hv hv9 hb9;replace HV := hid (QZ.past HV.out (NoInts.three KR.out));have cR0 : w2.cell? ⟨(w.heap.size + 1), 0, none⟩ = some (.bool false) := KR.out.cell 0;have fR0 : w2.frozen? ⟨(w.heap.size + 1), 0, none⟩ = false := KR.out.free 0;have cR1 : w2.cell? ⟨(w.heap.size + 1), 1, none⟩ = some (.slice none 0 0) := KR.out.cell 1;have fR1 : w2.frozen? ⟨(w.heap.size + 1), 1, none⟩ = false := KR.out.free 1;have cR2 : w2.cell? ⟨(w.heap.size + 1), 2, none⟩ = some (.slice none 0 0) := KR.out.cell 2;have fR2 : w2.frozen? ⟨(w.heap.size + 1), 2, none⟩ = false := KR.out.free 2;go_wp2;refine bodyPost_ret (v := .agg #[.bool b9, .slice A9 l9 c9, .slice B0 m0 k0]) (by simp [results, Try.results174, go_sem, *]) rfl ?_;exact ⟨_, rfl, HV.out, Ext.boxed HX.out (by omega) _ _ _⟩
theorem jH (va : Value) (q : Rat) (w : World) (hx : QZ w va q) : Calls Try.prog 174 #[va] w (RetQz w (-q)) := by
 obtain ⟨s0, A0, l0, c0, B0, m0, k0, rfl⟩ := hx.open;exact nN s0 A0 B0 l0 c0 m0 k0 q w hx
theorem pX (ga gb L M : Nat) (s0 : Bool) (A0 B0 : Option Addr) (l0 c0 m0 k0 : Nat) (s1 : Bool) (A1 B1 : Option Addr) (l1 c1 m1 k1 : Nat) (q r : Rat) (w : World) (x0 : w.cell? ⟨ga, 0, none⟩ = some (.bool s0)) (x1 : w.cell? ⟨ga, 1, none⟩ = some (.slice A0 l0 c0)) (x2 : w.cell? ⟨ga, 2, none⟩ = some (.slice B0 m0 k0)) (y0 : w.cell? ⟨gb, 0, none⟩ = some (.bool s1)) (y1 : w.cell? ⟨gb, 1, none⟩ = some (.slice A1 l1 c1)) (y2 : w.cell? ⟨gb, 2, none⟩ = some (.slice B1 m1 k1)) (hx : QZ w (.agg #[.bool s0, .slice A0 l0 c0, .slice B0 m0 k0]) q) (hy : QZ w (.agg #[.bool s1, .slice A1 l1 c1, .slice B1 m1 k1]) r) (fq : FitR q L) (fr : FitR r M) (_hLM : L + M + 1 <= 400000) (a : Act) (Q : Exit -> Act -> World -> Prop) (hsize : 25 <= a.tmps.size)
  (s2 : a.tmps[2]? = some (.pointer (some ⟨ga, 0, none⟩)))
  (s3 : a.tmps[3]? = some (.pointer (some ⟨gb, 0, none⟩)))
  (hend : ∀ (xv0 xv1 xv2 xv3 xv4 xv5 xv6 xv7 xv8 xv9 xv10 xv11 xv12 xv13 xv14 xv15 xv16 xv17 xv18 xv19 : Value) (W : World), (xv0 = .pointer (some ⟨ga, 0, none⟩)) -> (xv1 = .agg #[.bool s0, .slice A0 l0 c0]) -> (xv2 = .pointer (some ⟨gb, 2, none⟩)) -> (xv3 = .slice B1 m1 k1) -> (xv4 = .agg #[.bool false, .slice B1 m1 k1]) -> (IntZ W xv5 (q.num * (r.den : Int))) -> (xv6 = .pointer (some ⟨gb, 0, none⟩)) -> (xv7 = .agg #[.bool s1, .slice A1 l1 c1]) -> (xv8 = .pointer (some ⟨ga, 2, none⟩)) -> (xv9 = .slice B0 m0 k0) -> (xv10 = .agg #[.bool false, .slice B0 m0 k0]) -> (IntZ W xv11 (r.num * (q.den : Int))) -> (IntZ W xv12 (q.num * (r.den : Int) + r.num * (q.den : Int))) -> (xv13 = .pointer (some ⟨ga, 2, none⟩)) -> (xv14 = .slice B0 m0 k0) -> (xv15 = .pointer (some ⟨gb, 2, none⟩)) -> (xv16 = .slice B1 m1 k1) -> (Z16 W xv17 (q.den * r.den)) -> (∃ A l c, xv18 = .agg #[.bool false, .slice A l c] /\ Z16 W (.slice A l c) (q.den * r.den)) -> (QZ W xv19 (q + r)) -> Ext w W -> wpList Try.prog (ae Try.f32 1).toArray Q ((ae Try.f32 1).drop 20) ((((((((((((((((((((a.put (some 5) xv0).put (some 6) xv1).put (some 7) xv2).put (some 8) xv3).put (some 9) xv4).put (some 10) xv5).put (some 11) xv6).put (some 12) xv7).put (some 13) xv8).put (some 14) xv9).put (some 15) xv10).put (some 16) xv11).put (some 17) xv12).put (some 18) xv13).put (some 19) xv14).put (some 20) xv15).put (some 21) xv16).put (some 22) xv17).put (some 23) xv18).put (some 24) xv19) W) :
  (Code.region 1 (ae Try.f32 1).toArray true).wp Try.prog Q a w := by
 refine bB 20 [some 5, some 6, some 7, some 8, some 9, some 10, some 11, some 12, some 13, some 14, some 15, some 16, some 17, some 18, some 19, some 20, some 21, some 22, some 23, some 24] [[], [0], [], [2], [3], [1, 4], [], [6], [], [8], [9], [7, 10], [5, 11], [], [13], [], [15], [14, 16], [17], [12, 18]] [cd (.pointer (some ⟨ga, 0, none⟩)), cd (.agg #[.bool s0, .slice A0 l0 c0]), cd (.pointer (some ⟨gb, 2, none⟩)), cd (.slice B1 m1 k1), cd (.agg #[.bool false, .slice B1 m1 k1]), fun v W => IntZ W v (q.num * (r.den : Int)), cd (.pointer (some ⟨gb, 0, none⟩)), cd (.agg #[.bool s1, .slice A1 l1 c1]), cd (.pointer (some ⟨ga, 2, none⟩)), cd (.slice B0 m0 k0), cd (.agg #[.bool false, .slice B0 m0 k0]), fun v W => IntZ W v (r.num * (q.den : Int)), fun v W => IntZ W v (q.num * (r.den : Int) + r.num * (q.den : Int)), cd (.pointer (some ⟨ga, 2, none⟩)), cd (.slice B0 m0 k0), cd (.pointer (some ⟨gb, 2, none⟩)), cd (.slice B1 m1 k1), fun v W => Z16 W v (q.den * r.den), fun v W => ∃ A l c, v = .agg #[.bool false, .slice A l c] /\ Z16 W (.slice A l c) (q.den * r.den), fun v W => QZ W v (q + r)] (by kernel_rfl) (by kernel_rfl) rfl (by decide) hsize ⟨aN, aN, aN, aN, aN, by intro v W W' h hX; exact IntZ.ext h hX, aN, aN, aN, aN, aN, by intro v W W' h hX; exact IntZ.ext h hX, by intro v W W' h hX; exact IntZ.ext h hX, aN, aN, aN, aN, by intro v W W' h hX; exact Z16.ext h hX, by intro v W W' h hX; obtain ⟨A, l, c, h1, h2⟩ := h; exact ⟨A, l, c, h1, Z16.ext h2 hX⟩, by intro v W W' h hX; exact QZ.ext h hX, trivial⟩ ?_ ?_
 .
  clear hend;simp only [ae, Try.f32, ab, Option.bind_some, Nat.reduceBEq, if_true, if_false, Bool.false_eq_true, Option.getD_some];simp only [List.take_succ_cons, List.take_zero];refine ⟨?_, ?_, ?_, ?_, ?_, ?_, ?_, ?_, ?_, ?_, ?_, ?_, ?_, ?_, ?_, ?_, ?_, ?_, ?_, ?_, trivial⟩
  .
   rintro us W hJ _ b hb hbz K hK0 hK Qz;have e2 := (hbz 2 (by simp)).trans s2;clear hb hbz;go_simp;exact hK0 _ rfl
  .
   rintro us W hJ d0 b hb hbz K hK0 hK Qz;have e5 := ay (hb 0 5 rfl) d0;clear hb hbz d0;have z0 := Ext.cell hJ x0;have z1 := Ext.cell hJ x1;go_simp;exact hK0 _ rfl
  .
   rintro us W hJ _ b hb hbz K hK0 hK Qz;have e3 := (hbz 3 (by simp)).trans s3;clear hb hbz;go_simp;exact hK0 _ rfl
  .
   rintro us W hJ d2 b hb hbz K hK0 hK Qz;have e7 := ay (hb 2 7 rfl) d2;clear hb hbz d2;have q := Ext.cell hJ y2;go_simp;exact hK0 _ rfl
  .
   rintro us W hJ d3 b hb hbz K hK0 hK Qz;have e8 := ay (hb 3 8 rfl) d3;clear hb hbz d3;go_simp;exact hK0 _ rfl
  .
   rintro us W hJ ⟨d1, d4⟩ b hb hbz K hK0 hK Qz;have e6 := ay (hb 1 6 rfl) d1;have e9 := ay (hb 4 9 rfl) d4;clear hb hbz d1 d4;go_simp;refine (dj _ _ q.num (r.den : Int) L M _ (IntZ.ext (QZ.num hx) hJ) (IntZ.ext (QZ.den hy).pos hJ) fq.1 (by simpa using fr.2) (by omega) (by omega)).mono ?_;rintro e w' ⟨v, rfl, hv, hX⟩;exact hK _ _ hv hX
  .
   rintro us W hJ _ b hb hbz K hK0 hK Qz;have e3 := (hbz 3 (by simp)).trans s3;clear hb hbz;go_simp;exact hK0 _ rfl
  .
   rintro us W hJ d6 b hb hbz K hK0 hK Qz;have e11 := ay (hb 6 11 rfl) d6;clear hb hbz d6;have z0 := Ext.cell hJ y0;have z1 := Ext.cell hJ y1;go_simp;exact hK0 _ rfl
  .
   rintro us W hJ _ b hb hbz K hK0 hK Qz;have e2 := (hbz 2 (by simp)).trans s2;clear hb hbz;go_simp;exact hK0 _ rfl
  .
   rintro us W hJ d8 b hb hbz K hK0 hK Qz;have e13 := ay (hb 8 13 rfl) d8;clear hb hbz d8;have q := Ext.cell hJ x2;go_simp;exact hK0 _ rfl
  .
   rintro us W hJ d9 b hb hbz K hK0 hK Qz;have e14 := ay (hb 9 14 rfl) d9;clear hb hbz d9;go_simp;exact hK0 _ rfl
  .
   rintro us W hJ ⟨d7, d10⟩ b hb hbz K hK0 hK Qz;have e12 := ay (hb 7 12 rfl) d7;have e15 := ay (hb 10 15 rfl) d10;clear hb hbz d7 d10;go_simp;refine (dj _ _ r.num (q.den : Int) M L _ (IntZ.ext (QZ.num hy) hJ) (IntZ.ext (QZ.den hx).pos hJ) fr.1 (by simpa using fq.2) (by omega) (by omega)).mono ?_;rintro e w' ⟨v, rfl, hv, hX⟩;exact hK _ _ hv hX
  .
   rintro us W hJ ⟨d5, d11⟩ b hb hbz K hK0 hK Qz;have e10 := hb 5 10 rfl;have e16 := hb 11 16 rfl;clear hb hbz;go_simp;refine (io _ _ _ _ (L + M) _ d5 d11 (bJ fq.1 (by simpa using fr.2) (Nat.le_refl _)) (bJ fr.1 (by simpa using fq.2) (by omega)) (by omega)).mono ?_;rintro e w' ⟨v, rfl, hv, hX⟩;exact hK _ _ hv hX
  .
   rintro us W hJ _ b hb hbz K hK0 hK Qz;have e2 := (hbz 2 (by simp)).trans s2;clear hb hbz;go_simp;exact hK0 _ rfl
  .
   rintro us W hJ d13 b hb hbz K hK0 hK Qz;have e18 := ay (hb 13 18 rfl) d13;clear hb hbz d13;have q := Ext.cell hJ x2;go_simp;exact hK0 _ rfl
  .
   rintro us W hJ _ b hb hbz K hK0 hK Qz;have e3 := (hbz 3 (by simp)).trans s3;clear hb hbz;go_simp;exact hK0 _ rfl
  .
   rintro us W hJ d15 b hb hbz K hK0 hK Qz;have e20 := ay (hb 15 20 rfl) d15;clear hb hbz d15;have q := Ext.cell hJ y2;go_simp;exact hK0 _ rfl
  .
   rintro us W hJ ⟨d14, d16⟩ b hb hbz K hK0 hK Qz;have e19 := ay (hb 14 19 rfl) d14;have e21 := ay (hb 16 21 rfl) d16;clear hb hbz d14 d16;go_simp;refine (aZ _ _ q.den r.den L M _ (Z16.ext (QZ.den hx) hJ) (Z16.ext (QZ.den hy) hJ) fq.2 fr.2 (by omega) (by omega)).mono ?_;rintro e w' ⟨v, rfl, hv, hX⟩;exact hK _ _ hv hX
  .
   rintro us W hJ d17 b hb hbz K hK0 hK Qz;have e22 := hb 17 22 rfl;clear hb hbz;obtain ⟨A9, l9, c9, hv9, g9, _⟩ := Z16.open d17;rw [hv9] at e22;go_simp;exact hK0 _ ⟨_, _, _, rfl, g9⟩
  .
   rintro us W hJ ⟨d12, d18⟩ b hb hbz K hK0 hK Qz;have e17 := hb 12 17 rfl;have e23 := hb 18 23 rfl;clear hb hbz;obtain ⟨A9, l9, c9, hv9, g9⟩ := d18;rw [hv9] at e23;go_simp;refine ((nA _ _ false A9 l9 c9 _ (L + M + 1) _ d12 g9 (ip (bJ fq.1 (by simpa using fr.2) (Nat.le_refl _)) (bJ fr.1 (by simpa using fq.2) (by omega)) (by omega)) (gF fq.2 fr.2 (by omega)) (by omega) (Nat.mul_pos q.den_pos r.den_pos)).mono (RetQz.of (rT q r))).mono ?_;rintro e w' ⟨v, rfl, hv, hX⟩;exact hK _ _ hv hX
 .
  rintro us W ⟨v0, v1, v2, v3, v4, v5, v6, v7, v8, v9, v10, v11, v12, v13, v14, v15, v16, v17, v18, v19, _⟩ hJ;exact hend _ _ _ _ _ _ _ _ _ _ _ _ _ _ _ _ _ _ _ _ W v0 v1 v2 v3 v4 v5 v6 v7 v8 v9 v10 v11 v12 v13 v14 v15 v16 v17 v18 v19 hJ
theorem ro (s0 : Bool) (A0 B0 : Option Addr) (l0 c0 m0 k0 : Nat) (s1 : Bool) (A1 B1 : Option Addr) (l1 c1 m1 k1 : Nat) (q r : Rat) (L M : Nat) (w : World) (hx : QZ w (.agg #[.bool s0, .slice A0 l0 c0, .slice B0 m0 k0]) q) (hy : QZ w (.agg #[.bool s1, .slice A1 l1 c1, .slice B1 m1 k1]) r) (fq : FitR q L) (fr : FitR r M) (hLM : L + M + 1 <= 400000) :
  Calls Try.prog 32 #[.agg #[.bool s0, .slice A0 l0 c0, .slice B0 m0 k0], .agg #[.bool s1, .slice A1 l1 c1, .slice B1 m1 k1]] w (RetQz w (q + r)) := by
 have HXX := hid hx;have HYY := hid hy;have HFQ := hid fq;have HFR := hid fr;clear hx hy fq fr;have hXe : Ext w (((w.alloc (.cells #[.bool s0, .slice A0 l0 c0, .slice B0 m0 k0] 65)).alloc (.cells #[.bool s1, .slice A1 l1 c1, .slice B1 m1 k1] 65)).alloc (.cells #[.bool false, .slice none 0 0, .slice none 0 0] 65)) := ((((Ext.refl w).alloc _).alloc _).alloc _);have kA : Blk (((w.alloc (.cells #[.bool s0, .slice A0 l0 c0, .slice B0 m0 k0] 65)).alloc (.cells #[.bool s1, .slice A1 l1 c1, .slice B1 m1 k1] 65)).alloc (.cells #[.bool false, .slice none 0 0, .slice none 0 0] 65)) w.heap.size 65 #[.bool s0, .slice A0 l0 c0, .slice B0 m0 k0] := Blk.alloc (Blk.alloc (Blk.at_ (by simp)) _) _;have kB : Blk (((w.alloc (.cells #[.bool s0, .slice A0 l0 c0, .slice B0 m0 k0] 65)).alloc (.cells #[.bool s1, .slice A1 l1 c1, .slice B1 m1 k1] 65)).alloc (.cells #[.bool false, .slice none 0 0, .slice none 0 0] 65)) (w.heap.size + 1) 65 #[.bool s1, .slice A1 l1 c1, .slice B1 m1 k1] := Blk.alloc (Blk.at_ (by simp)) _;have kR : Blk (((w.alloc (.cells #[.bool s0, .slice A0 l0 c0, .slice B0 m0 k0] 65)).alloc (.cells #[.bool s1, .slice A1 l1 c1, .slice B1 m1 k1] 65)).alloc (.cells #[.bool false, .slice none 0 0, .slice none 0 0] 65)) (w.heap.size + 2) 65 #[.bool false, .slice none 0 0, .slice none 0 0] := Blk.at_ (by simp);go_enter Try.func32, Try.ntmps32
 go_wp2_with fail
 generalize (((w.alloc _).alloc _).alloc _) = w1 at hXe kA kB kR |-;have HX := hid hXe;clear hXe;have KA := hid kA;clear kA;have KB := hid kB;clear kB;have KR := hid kR;clear kR;replace HXX := hid (HXX.out.ext HX.out);replace HYY := hid (HYY.out.ext HX.out)
 go_upto_region 1 with (fail)
 refine pX w.heap.size (w.heap.size + 1) L M s0 A0 B0 l0 c0 m0 k0 s1 A1 B1 l1 c1 m1 k1 q r w1 (KA.out.cell 0) (KA.out.cell 1) (KA.out.cell 2) (KB.out.cell 0) (KB.out.cell 1) (KB.out.cell 2) HXX.out HYY.out HFQ.out HFR.out hLM _ _ (by simp) rfl rfl ?_;rintro xv0 xv1 xv2 xv3 xv4 xv5 xv6 xv7 xv8 xv9 xv10 xv11 xv12 xv13 xv14 xv15 xv16 xv17 xv18 xv19 w2 rfl rfl rfl rfl rfl _ rfl rfl rfl rfl rfl _ _ rfl rfl rfl rfl _ _ hv hXW;simp only [ae, Try.f32, ab, Option.bind_some, Nat.reduceBEq, if_true, if_false, Bool.false_eq_true, Option.getD_some, List.drop_succ_cons, List.drop_zero];simp only [Act.put, List.setIfInBounds_toArray, List.set_cons_succ, List.set_cons_zero];replace HX := hid (HX.out.trans hXW);replace HXX := hid (HXX.out.ext hXW);replace HYY := hid (HYY.out.ext hXW);replace KA := hid (KA.out.ext hXW);replace KB := hid (KB.out.ext hXW);replace KR := hid (KR.out.ext hXW);clear hXW;obtain ⟨s9, A9, l9, c9, B9, m9, k9, rfl⟩ := QZ.open hv;have HV := hid (QZ.past hv (NoInts.three KR.out));clear hv;have cR0 : w2.cell? ⟨(w.heap.size + 2), 0, none⟩ = some (.bool false) := KR.out.cell 0;have fR0 : w2.frozen? ⟨(w.heap.size + 2), 0, none⟩ = false := KR.out.free 0;have cR1 : w2.cell? ⟨(w.heap.size + 2), 1, none⟩ = some (.slice none 0 0) := KR.out.cell 1;have fR1 : w2.frozen? ⟨(w.heap.size + 2), 1, none⟩ = false := KR.out.free 1;have cR2 : w2.cell? ⟨(w.heap.size + 2), 2, none⟩ = some (.slice none 0 0) := KR.out.cell 2;have fR2 : w2.frozen? ⟨(w.heap.size + 2), 2, none⟩ = false := KR.out.free 2;go_wp2;refine bodyPost_ret (v := .agg #[.bool s9, .slice A9 l9 c9, .slice B9 m9 k9]) (by simp [results, Try.results32, go_sem, *]) rfl ?_;exact ⟨_, rfl, HV.out, Ext.boxed HX.out (by omega) _ _ _⟩
theorem iD (va vb : Value) (q r : Rat) (L M : Nat) (w : World) (hx : QZ w va q) (hy : QZ w vb r) (fq : FitR q L) (fr : FitR r M) (hLM : L + M + 1 <= 400000) : Calls Try.prog 32 #[va, vb] w (RetQz w (q + r)) := by
 obtain ⟨s0, A0, l0, c0, B0, m0, k0, rfl⟩ := hx.open;obtain ⟨s1, A1, l1, c1, B1, m1, k1, rfl⟩ := hy.open;exact ro s0 A0 B0 l0 c0 m0 k0 s1 A1 B1 l1 c1 m1 k1 q r L M w hx hy fq fr hLM
theorem pY (ga gb L M : Nat) (s0 : Bool) (A0 B0 : Option Addr) (l0 c0 m0 k0 : Nat) (s1 : Bool) (A1 B1 : Option Addr) (l1 c1 m1 k1 : Nat) (q r : Rat) (w : World) (x0 : w.cell? ⟨ga, 0, none⟩ = some (.bool s0)) (x1 : w.cell? ⟨ga, 1, none⟩ = some (.slice A0 l0 c0)) (x2 : w.cell? ⟨ga, 2, none⟩ = some (.slice B0 m0 k0)) (y0 : w.cell? ⟨gb, 0, none⟩ = some (.bool s1)) (y1 : w.cell? ⟨gb, 1, none⟩ = some (.slice A1 l1 c1)) (y2 : w.cell? ⟨gb, 2, none⟩ = some (.slice B1 m1 k1)) (hx : QZ w (.agg #[.bool s0, .slice A0 l0 c0, .slice B0 m0 k0]) q) (hy : QZ w (.agg #[.bool s1, .slice A1 l1 c1, .slice B1 m1 k1]) r) (fq : FitR q L) (fr : FitR r M) (hLM : L + M + 1 <= 400000) (a : Act) (Q : Exit -> Act -> World -> Prop) (hsize : 9 <= a.tmps.size)
  (s2 : a.tmps[2]? = some (.pointer (some ⟨ga, 0, none⟩)))
  (s3 : a.tmps[3]? = some (.pointer (some ⟨gb, 0, none⟩)))
  (hend : ∀ (xv0 xv1 xv2 xv3 : Value) (W : World), (xv0 = .agg #[.bool s0, .slice A0 l0 c0, .slice B0 m0 k0]) -> (xv1 = .agg #[.bool s1, .slice A1 l1 c1, .slice B1 m1 k1]) -> (QZ W xv2 (-r)) -> (QZ W xv3 (q - r)) -> Ext w W -> wpList Try.prog (ae Try.f116 1).toArray Q ((ae Try.f116 1).drop 4) ((((a.put (some 5) xv0).put (some 6) xv1).put (some 7) xv2).put (some 8) xv3) W) :
  (Code.region 1 (ae Try.f116 1).toArray true).wp Try.prog Q a w := by
 refine bB 4 [some 5, some 6, some 7, some 8] [[], [], [1], [0, 2]] [cd (.agg #[.bool s0, .slice A0 l0 c0, .slice B0 m0 k0]), cd (.agg #[.bool s1, .slice A1 l1 c1, .slice B1 m1 k1]), fun v W => QZ W v (-r), fun v W => QZ W v (q - r)] (by kernel_rfl) (by kernel_rfl) rfl (by decide) hsize ⟨aN, aN, by intro v W W' h hX; exact QZ.ext h hX, by intro v W W' h hX; exact QZ.ext h hX, trivial⟩ ?_ ?_
 .
  clear hend;simp only [ae, Try.f116, ab, Option.bind_some, Nat.reduceBEq, if_true, if_false, Bool.false_eq_true, Option.getD_some];simp only [List.take_succ_cons, List.take_zero];refine ⟨?_, ?_, ?_, ?_, trivial⟩
  .
   rintro us W hJ _ b hb hbz K hK0 hK Qz;have e2 := (hbz 2 (by simp)).trans s2;clear hb hbz;have z0 := Ext.cell hJ x0;have z1 := Ext.cell hJ x1;have z2 := Ext.cell hJ x2;go_simp;exact hK0 _ rfl
  .
   rintro us W hJ _ b hb hbz K hK0 hK Qz;have e3 := (hbz 3 (by simp)).trans s3;clear hb hbz;have z0 := Ext.cell hJ y0;have z1 := Ext.cell hJ y1;have z2 := Ext.cell hJ y2;go_simp;exact hK0 _ rfl
  .
   rintro us W hJ d1 b hb hbz K hK0 hK Qz;have e6 := ay (hb 1 6 rfl) d1;clear hb hbz d1;go_simp;refine (jH _ _ _ (QZ.ext hy hJ)).mono ?_;rintro e w' ⟨v, rfl, hv, hX⟩;exact hK _ _ hv hX
  .
   rintro us W hJ ⟨d0, d2⟩ b hb hbz K hK0 hK Qz;have e5 := ay (hb 0 5 rfl) d0;have e7 := hb 2 7 rfl;clear hb hbz d0;go_simp;refine ((iD _ _ q (-r) L M _ (QZ.ext hx hJ) d2 fq (np fr) hLM).mono (RetQz.of (Rat.sub_eq_add_neg q r).symm)).mono ?_;rintro e w' ⟨v, rfl, hv, hX⟩;exact hK _ _ hv hX
 .
  rintro us W ⟨v0, v1, v2, v3, _⟩ hJ;exact hend _ _ _ _ W v0 v1 v2 v3 hJ
theorem rp (s0 : Bool) (A0 B0 : Option Addr) (l0 c0 m0 k0 : Nat) (s1 : Bool) (A1 B1 : Option Addr) (l1 c1 m1 k1 : Nat) (q r : Rat) (L M : Nat) (w : World) (hx : QZ w (.agg #[.bool s0, .slice A0 l0 c0, .slice B0 m0 k0]) q) (hy : QZ w (.agg #[.bool s1, .slice A1 l1 c1, .slice B1 m1 k1]) r) (fq : FitR q L) (fr : FitR r M) (hLM : L + M + 1 <= 400000) :
  Calls Try.prog 116 #[.agg #[.bool s0, .slice A0 l0 c0, .slice B0 m0 k0], .agg #[.bool s1, .slice A1 l1 c1, .slice B1 m1 k1]] w (RetQz w (q - r)) := by
 have HXX := hid hx;have HYY := hid hy;have HFQ := hid fq;have HFR := hid fr;clear hx hy fq fr;have hXe : Ext w (((w.alloc (.cells #[.bool s0, .slice A0 l0 c0, .slice B0 m0 k0] 65)).alloc (.cells #[.bool s1, .slice A1 l1 c1, .slice B1 m1 k1] 65)).alloc (.cells #[.bool false, .slice none 0 0, .slice none 0 0] 65)) := ((((Ext.refl w).alloc _).alloc _).alloc _);have kA : Blk (((w.alloc (.cells #[.bool s0, .slice A0 l0 c0, .slice B0 m0 k0] 65)).alloc (.cells #[.bool s1, .slice A1 l1 c1, .slice B1 m1 k1] 65)).alloc (.cells #[.bool false, .slice none 0 0, .slice none 0 0] 65)) w.heap.size 65 #[.bool s0, .slice A0 l0 c0, .slice B0 m0 k0] := Blk.alloc (Blk.alloc (Blk.at_ (by simp)) _) _;have kB : Blk (((w.alloc (.cells #[.bool s0, .slice A0 l0 c0, .slice B0 m0 k0] 65)).alloc (.cells #[.bool s1, .slice A1 l1 c1, .slice B1 m1 k1] 65)).alloc (.cells #[.bool false, .slice none 0 0, .slice none 0 0] 65)) (w.heap.size + 1) 65 #[.bool s1, .slice A1 l1 c1, .slice B1 m1 k1] := Blk.alloc (Blk.at_ (by simp)) _;have kR : Blk (((w.alloc (.cells #[.bool s0, .slice A0 l0 c0, .slice B0 m0 k0] 65)).alloc (.cells #[.bool s1, .slice A1 l1 c1, .slice B1 m1 k1] 65)).alloc (.cells #[.bool false, .slice none 0 0, .slice none 0 0] 65)) (w.heap.size + 2) 65 #[.bool false, .slice none 0 0, .slice none 0 0] := Blk.at_ (by simp);go_enter Try.func116, Try.ntmps116
 go_wp2_with fail
 generalize (((w.alloc _).alloc _).alloc _) = w1 at hXe kA kB kR |-;have HX := hid hXe;clear hXe;have KA := hid kA;clear kA;have KB := hid kB;clear kB;have KR := hid kR;clear kR;replace HXX := hid (HXX.out.ext HX.out);replace HYY := hid (HYY.out.ext HX.out)
 go_upto_region 1 with (fail)
 refine pY w.heap.size (w.heap.size + 1) L M s0 A0 B0 l0 c0 m0 k0 s1 A1 B1 l1 c1 m1 k1 q r w1 (KA.out.cell 0) (KA.out.cell 1) (KA.out.cell 2) (KB.out.cell 0) (KB.out.cell 1) (KB.out.cell 2) HXX.out HYY.out HFQ.out HFR.out hLM _ _ (by simp) rfl rfl ?_;rintro xv0 xv1 xv2 xv3 w2 rfl rfl _ hv hXW;simp only [ae, Try.f116, ab, Option.bind_some, Nat.reduceBEq, if_true, if_false, Bool.false_eq_true, Option.getD_some, List.drop_succ_cons, List.drop_zero];simp only [Act.put, List.setIfInBounds_toArray, List.set_cons_succ, List.set_cons_zero];replace HX := hid (HX.out.trans hXW);replace HXX := hid (HXX.out.ext hXW);replace HYY := hid (HYY.out.ext hXW);replace KA := hid (KA.out.ext hXW);replace KB := hid (KB.out.ext hXW);replace KR := hid (KR.out.ext hXW);clear hXW;obtain ⟨s9, A9, l9, c9, B9, m9, k9, rfl⟩ := QZ.open hv;have HV := hid (QZ.past hv (NoInts.three KR.out));clear hv;have cR0 : w2.cell? ⟨(w.heap.size + 2), 0, none⟩ = some (.bool false) := KR.out.cell 0;have fR0 : w2.frozen? ⟨(w.heap.size + 2), 0, none⟩ = false := KR.out.free 0;have cR1 : w2.cell? ⟨(w.heap.size + 2), 1, none⟩ = some (.slice none 0 0) := KR.out.cell 1;have fR1 : w2.frozen? ⟨(w.heap.size + 2), 1, none⟩ = false := KR.out.free 1;have cR2 : w2.cell? ⟨(w.heap.size + 2), 2, none⟩ = some (.slice none 0 0) := KR.out.cell 2;have fR2 : w2.frozen? ⟨(w.heap.size + 2), 2, none⟩ = false := KR.out.free 2;go_wp2;refine bodyPost_ret (v := .agg #[.bool s9, .slice A9 l9 c9, .slice B9 m9 k9]) (by simp [results, Try.results116, go_sem, *]) rfl ?_;exact ⟨_, rfl, HV.out, Ext.boxed HX.out (by omega) _ _ _⟩
theorem nO (va vb : Value) (q r : Rat) (L M : Nat) (w : World) (hx : QZ w va q) (hy : QZ w vb r) (fq : FitR q L) (fr : FitR r M) (hLM : L + M + 1 <= 400000) : Calls Try.prog 116 #[va, vb] w (RetQz w (q - r)) := by
 obtain ⟨s0, A0, l0, c0, B0, m0, k0, rfl⟩ := hx.open;obtain ⟨s1, A1, l1, c1, B1, m1, k1, rfl⟩ := hy.open;exact rp s0 A0 B0 l0 c0 m0 k0 s1 A1 B1 l1 c1 m1 k1 q r L M w hx hy fq fr hLM
theorem pZ (ga gb L M : Nat) (s0 : Bool) (A0 B0 : Option Addr) (l0 c0 m0 k0 : Nat) (s1 : Bool) (A1 B1 : Option Addr) (l1 c1 m1 k1 : Nat) (q r : Rat) (w : World) (x0 : w.cell? ⟨ga, 0, none⟩ = some (.bool s0)) (x1 : w.cell? ⟨ga, 1, none⟩ = some (.slice A0 l0 c0)) (x2 : w.cell? ⟨ga, 2, none⟩ = some (.slice B0 m0 k0)) (y0 : w.cell? ⟨gb, 0, none⟩ = some (.bool s1)) (y1 : w.cell? ⟨gb, 1, none⟩ = some (.slice A1 l1 c1)) (y2 : w.cell? ⟨gb, 2, none⟩ = some (.slice B1 m1 k1)) (hx : QZ w (.agg #[.bool s0, .slice A0 l0 c0, .slice B0 m0 k0]) q) (hy : QZ w (.agg #[.bool s1, .slice A1 l1 c1, .slice B1 m1 k1]) r) (fq : FitR q L) (fr : FitR r M) (_hLM : L + M + 1 <= 400000) (a : Act) (Q : Exit -> Act -> World -> Prop) (hsize : 17 <= a.tmps.size)
  (s2 : a.tmps[2]? = some (.pointer (some ⟨ga, 0, none⟩)))
  (s3 : a.tmps[3]? = some (.pointer (some ⟨gb, 0, none⟩)))
  (hend : ∀ (xv0 xv1 xv2 xv3 xv4 xv5 xv6 xv7 xv8 xv9 xv10 xv11 : Value) (W : World), (xv0 = .pointer (some ⟨ga, 0, none⟩)) -> (xv1 = .agg #[.bool s0, .slice A0 l0 c0]) -> (xv2 = .pointer (some ⟨gb, 0, none⟩)) -> (xv3 = .agg #[.bool s1, .slice A1 l1 c1]) -> (IntZ W xv4 (q.num * r.num)) -> (xv5 = .pointer (some ⟨ga, 2, none⟩)) -> (xv6 = .slice B0 m0 k0) -> (xv7 = .pointer (some ⟨gb, 2, none⟩)) -> (xv8 = .slice B1 m1 k1) -> (Z16 W xv9 (q.den * r.den)) -> (∃ A l c, xv10 = .agg #[.bool false, .slice A l c] /\ Z16 W (.slice A l c) (q.den * r.den)) -> (QZ W xv11 (q * r)) -> Ext w W -> wpList Try.prog (ae Try.f33 1).toArray Q ((ae Try.f33 1).drop 12) ((((((((((((a.put (some 5) xv0).put (some 6) xv1).put (some 7) xv2).put (some 8) xv3).put (some 9) xv4).put (some 10) xv5).put (some 11) xv6).put (some 12) xv7).put (some 13) xv8).put (some 14) xv9).put (some 15) xv10).put (some 16) xv11) W) :
  (Code.region 1 (ae Try.f33 1).toArray true).wp Try.prog Q a w := by
 refine bB 12 [some 5, some 6, some 7, some 8, some 9, some 10, some 11, some 12, some 13, some 14, some 15, some 16] [[], [0], [], [2], [1, 3], [], [5], [], [7], [6, 8], [9], [4, 10]] [cd (.pointer (some ⟨ga, 0, none⟩)), cd (.agg #[.bool s0, .slice A0 l0 c0]), cd (.pointer (some ⟨gb, 0, none⟩)), cd (.agg #[.bool s1, .slice A1 l1 c1]), fun v W => IntZ W v (q.num * r.num), cd (.pointer (some ⟨ga, 2, none⟩)), cd (.slice B0 m0 k0), cd (.pointer (some ⟨gb, 2, none⟩)), cd (.slice B1 m1 k1), fun v W => Z16 W v (q.den * r.den), fun v W => ∃ A l c, v = .agg #[.bool false, .slice A l c] /\ Z16 W (.slice A l c) (q.den * r.den), fun v W => QZ W v (q * r)] (by kernel_rfl) (by kernel_rfl) rfl (by decide) hsize ⟨aN, aN, aN, aN, by intro v W W' h hX; exact IntZ.ext h hX, aN, aN, aN, aN, by intro v W W' h hX; exact Z16.ext h hX, by intro v W W' h hX; obtain ⟨A, l, c, h1, h2⟩ := h; exact ⟨A, l, c, h1, Z16.ext h2 hX⟩, by intro v W W' h hX; exact QZ.ext h hX, trivial⟩ ?_ ?_
 .
  clear hend;simp only [ae, Try.f33, ab, Option.bind_some, Nat.reduceBEq, if_true, if_false, Bool.false_eq_true, Option.getD_some];simp only [List.take_succ_cons, List.take_zero];refine ⟨?_, ?_, ?_, ?_, ?_, ?_, ?_, ?_, ?_, ?_, ?_, ?_, trivial⟩
  .
   rintro us W hJ _ b hb hbz K hK0 hK Qz;have e2 := (hbz 2 (by simp)).trans s2;clear hb hbz;go_simp;exact hK0 _ rfl
  .
   rintro us W hJ d0 b hb hbz K hK0 hK Qz;have e5 := ay (hb 0 5 rfl) d0;clear hb hbz d0;have z0 := Ext.cell hJ x0;have z1 := Ext.cell hJ x1;go_simp;exact hK0 _ rfl
  .
   rintro us W hJ _ b hb hbz K hK0 hK Qz;have e3 := (hbz 3 (by simp)).trans s3;clear hb hbz;go_simp;exact hK0 _ rfl
  .
   rintro us W hJ d2 b hb hbz K hK0 hK Qz;have e7 := ay (hb 2 7 rfl) d2;clear hb hbz d2;have z0 := Ext.cell hJ y0;have z1 := Ext.cell hJ y1;go_simp;exact hK0 _ rfl
  .
   rintro us W hJ ⟨d1, d3⟩ b hb hbz K hK0 hK Qz;have e6 := ay (hb 1 6 rfl) d1;have e8 := ay (hb 3 8 rfl) d3;clear hb hbz d1 d3;go_simp;refine (dj _ _ q.num r.num L M _ (IntZ.ext (QZ.num hx) hJ) (IntZ.ext (QZ.num hy) hJ) fq.1 fr.1 (by omega) (by omega)).mono ?_;rintro e w' ⟨v, rfl, hv, hX⟩;exact hK _ _ hv hX
  .
   rintro us W hJ _ b hb hbz K hK0 hK Qz;have e2 := (hbz 2 (by simp)).trans s2;clear hb hbz;go_simp;exact hK0 _ rfl
  .
   rintro us W hJ d5 b hb hbz K hK0 hK Qz;have e10 := ay (hb 5 10 rfl) d5;clear hb hbz d5;have q := Ext.cell hJ x2;go_simp;exact hK0 _ rfl
  .
   rintro us W hJ _ b hb hbz K hK0 hK Qz;have e3 := (hbz 3 (by simp)).trans s3;clear hb hbz;go_simp;exact hK0 _ rfl
  .
   rintro us W hJ d7 b hb hbz K hK0 hK Qz;have e12 := ay (hb 7 12 rfl) d7;clear hb hbz d7;have q := Ext.cell hJ y2;go_simp;exact hK0 _ rfl
  .
   rintro us W hJ ⟨d6, d8⟩ b hb hbz K hK0 hK Qz;have e11 := ay (hb 6 11 rfl) d6;have e13 := ay (hb 8 13 rfl) d8;clear hb hbz d6 d8;go_simp;refine (aZ _ _ q.den r.den L M _ (Z16.ext (QZ.den hx) hJ) (Z16.ext (QZ.den hy) hJ) fq.2 fr.2 (by omega) (by omega)).mono ?_;rintro e w' ⟨v, rfl, hv, hX⟩;exact hK _ _ hv hX
  .
   rintro us W hJ d9 b hb hbz K hK0 hK Qz;have e14 := hb 9 14 rfl;clear hb hbz;obtain ⟨A9, l9, c9, hv9, g9, _⟩ := Z16.open d9;rw [hv9] at e14;go_simp;exact hK0 _ ⟨_, _, _, rfl, g9⟩
  .
   rintro us W hJ ⟨d4, d10⟩ b hb hbz K hK0 hK Qz;have e9 := hb 4 9 rfl;have e15 := hb 10 15 rfl;clear hb hbz;obtain ⟨A9, l9, c9, hv9, g9⟩ := d10;rw [hv9] at e15;go_simp;refine ((nA _ _ false A9 l9 c9 _ (L + M + 1) _ d4 g9 (bJ fq.1 fr.1 (by omega)) (gF fq.2 fr.2 (by omega)) (by omega) (Nat.mul_pos q.den_pos r.den_pos)).mono (RetQz.of (rU q r))).mono ?_;rintro e w' ⟨v, rfl, hv, hX⟩;exact hK _ _ hv hX
 .
  rintro us W ⟨v0, v1, v2, v3, v4, v5, v6, v7, v8, v9, v10, v11, _⟩ hJ;exact hend _ _ _ _ _ _ _ _ _ _ _ _ W v0 v1 v2 v3 v4 v5 v6 v7 v8 v9 v10 v11 hJ
theorem rq (s0 : Bool) (A0 B0 : Option Addr) (l0 c0 m0 k0 : Nat) (s1 : Bool) (A1 B1 : Option Addr) (l1 c1 m1 k1 : Nat) (q r : Rat) (L M : Nat) (w : World) (hx : QZ w (.agg #[.bool s0, .slice A0 l0 c0, .slice B0 m0 k0]) q) (hy : QZ w (.agg #[.bool s1, .slice A1 l1 c1, .slice B1 m1 k1]) r) (fq : FitR q L) (fr : FitR r M) (hLM : L + M + 1 <= 400000) :
  Calls Try.prog 33 #[.agg #[.bool s0, .slice A0 l0 c0, .slice B0 m0 k0], .agg #[.bool s1, .slice A1 l1 c1, .slice B1 m1 k1]] w (RetQz w (q * r)) := by
 have HXX := hid hx;have HYY := hid hy;have HFQ := hid fq;have HFR := hid fr;clear hx hy fq fr;have hXe : Ext w (((w.alloc (.cells #[.bool s0, .slice A0 l0 c0, .slice B0 m0 k0] 65)).alloc (.cells #[.bool s1, .slice A1 l1 c1, .slice B1 m1 k1] 65)).alloc (.cells #[.bool false, .slice none 0 0, .slice none 0 0] 65)) := ((((Ext.refl w).alloc _).alloc _).alloc _);have kA : Blk (((w.alloc (.cells #[.bool s0, .slice A0 l0 c0, .slice B0 m0 k0] 65)).alloc (.cells #[.bool s1, .slice A1 l1 c1, .slice B1 m1 k1] 65)).alloc (.cells #[.bool false, .slice none 0 0, .slice none 0 0] 65)) w.heap.size 65 #[.bool s0, .slice A0 l0 c0, .slice B0 m0 k0] := Blk.alloc (Blk.alloc (Blk.at_ (by simp)) _) _;have kB : Blk (((w.alloc (.cells #[.bool s0, .slice A0 l0 c0, .slice B0 m0 k0] 65)).alloc (.cells #[.bool s1, .slice A1 l1 c1, .slice B1 m1 k1] 65)).alloc (.cells #[.bool false, .slice none 0 0, .slice none 0 0] 65)) (w.heap.size + 1) 65 #[.bool s1, .slice A1 l1 c1, .slice B1 m1 k1] := Blk.alloc (Blk.at_ (by simp)) _;have kR : Blk (((w.alloc (.cells #[.bool s0, .slice A0 l0 c0, .slice B0 m0 k0] 65)).alloc (.cells #[.bool s1, .slice A1 l1 c1, .slice B1 m1 k1] 65)).alloc (.cells #[.bool false, .slice none 0 0, .slice none 0 0] 65)) (w.heap.size + 2) 65 #[.bool false, .slice none 0 0, .slice none 0 0] := Blk.at_ (by simp);go_enter Try.func33, Try.ntmps33
 go_wp2_with fail
 generalize (((w.alloc _).alloc _).alloc _) = w1 at hXe kA kB kR |-;have HX := hid hXe;clear hXe;have KA := hid kA;clear kA;have KB := hid kB;clear kB;have KR := hid kR;clear kR;replace HXX := hid (HXX.out.ext HX.out);replace HYY := hid (HYY.out.ext HX.out)
 go_upto_region 1 with (fail)
 refine pZ w.heap.size (w.heap.size + 1) L M s0 A0 B0 l0 c0 m0 k0 s1 A1 B1 l1 c1 m1 k1 q r w1 (KA.out.cell 0) (KA.out.cell 1) (KA.out.cell 2) (KB.out.cell 0) (KB.out.cell 1) (KB.out.cell 2) HXX.out HYY.out HFQ.out HFR.out hLM _ _ (by simp) rfl rfl ?_;rintro xv0 xv1 xv2 xv3 xv4 xv5 xv6 xv7 xv8 xv9 xv10 xv11 w2 rfl rfl rfl rfl _ rfl rfl rfl rfl _ _ hv hXW;simp only [ae, Try.f33, ab, Option.bind_some, Nat.reduceBEq, if_true, if_false, Bool.false_eq_true, Option.getD_some, List.drop_succ_cons, List.drop_zero];simp only [Act.put, List.setIfInBounds_toArray, List.set_cons_succ, List.set_cons_zero];replace HX := hid (HX.out.trans hXW);replace HXX := hid (HXX.out.ext hXW);replace HYY := hid (HYY.out.ext hXW);replace KA := hid (KA.out.ext hXW);replace KB := hid (KB.out.ext hXW);replace KR := hid (KR.out.ext hXW);clear hXW;obtain ⟨s9, A9, l9, c9, B9, m9, k9, rfl⟩ := QZ.open hv;have HV := hid (QZ.past hv (NoInts.three KR.out));clear hv;have cR0 : w2.cell? ⟨(w.heap.size + 2), 0, none⟩ = some (.bool false) := KR.out.cell 0;have fR0 : w2.frozen? ⟨(w.heap.size + 2), 0, none⟩ = false := KR.out.free 0;have cR1 : w2.cell? ⟨(w.heap.size + 2), 1, none⟩ = some (.slice none 0 0) := KR.out.cell 1;have fR1 : w2.frozen? ⟨(w.heap.size + 2), 1, none⟩ = false := KR.out.free 1;have cR2 : w2.cell? ⟨(w.heap.size + 2), 2, none⟩ = some (.slice none 0 0) := KR.out.cell 2;have fR2 : w2.frozen? ⟨(w.heap.size + 2), 2, none⟩ = false := KR.out.free 2;go_wp2;refine bodyPost_ret (v := .agg #[.bool s9, .slice A9 l9 c9, .slice B9 m9 k9]) (by simp [results, Try.results33, go_sem, *]) rfl ?_;exact ⟨_, rfl, HV.out, Ext.boxed HX.out (by omega) _ _ _⟩
theorem fl (va vb : Value) (q r : Rat) (L M : Nat) (w : World) (hx : QZ w va q) (hy : QZ w vb r) (fq : FitR q L) (fr : FitR r M) (hLM : L + M + 1 <= 400000) : Calls Try.prog 33 #[va, vb] w (RetQz w (q * r)) := by
 obtain ⟨s0, A0, l0, c0, B0, m0, k0, rfl⟩ := hx.open;obtain ⟨s1, A1, l1, c1, B1, m1, k1, rfl⟩ := hy.open;exact rq s0 A0 B0 l0 c0 m0 k0 s1 A1 B1 l1 c1 m1 k1 q r L M w hx hy fq fr hLM
theorem rt (s0 : Bool) (A0 B0 : Option Addr) (l0 c0 m0 k0 : Nat) (s1 : Bool) (A1 B1 : Option Addr) (l1 c1 m1 k1 : Nat) (q r : Rat) (L M : Nat) (w : World) (hx : QZ w (.agg #[.bool s0, .slice A0 l0 c0, .slice B0 m0 k0]) q) (hy : QZ w (.agg #[.bool s1, .slice A1 l1 c1, .slice B1 m1 k1]) r) (fq : FitR q L) (fr : FitR r M) (hLM : L + M + 1 <= 400000) :
  Calls Try.prog 37 #[.agg #[.bool s0, .slice A0 l0 c0, .slice B0 m0 k0], .agg #[.bool s1, .slice A1 l1 c1, .slice B1 m1 k1]] w (fun e w' => e = .returned (.int .i64 (cE (q - r))) /\ Ext w w') := by
 have HXX := hid hx;have HYY := hid hy;have HFQ := hid fq;have HFR := hid fr;clear hx hy fq fr;have hXe : Ext w ((w.alloc (.cells #[.bool s0, .slice A0 l0 c0, .slice B0 m0 k0] 65)).alloc (.cells #[.bool s1, .slice A1 l1 c1, .slice B1 m1 k1] 65)) := (((Ext.refl w).alloc _).alloc _);have kA : Blk ((w.alloc (.cells #[.bool s0, .slice A0 l0 c0, .slice B0 m0 k0] 65)).alloc (.cells #[.bool s1, .slice A1 l1 c1, .slice B1 m1 k1] 65)) w.heap.size 65 #[.bool s0, .slice A0 l0 c0, .slice B0 m0 k0] := Blk.alloc (Blk.at_ (by simp)) _;have kB : Blk ((w.alloc (.cells #[.bool s0, .slice A0 l0 c0, .slice B0 m0 k0] 65)).alloc (.cells #[.bool s1, .slice A1 l1 c1, .slice B1 m1 k1] 65)) (w.heap.size + 1) 65 #[.bool s1, .slice A1 l1 c1, .slice B1 m1 k1] := Blk.at_ (by simp);go_enter Try.func37, Try.ntmps37
 go_wp2_with fail
 generalize ((w.alloc _).alloc _) = w1 at hXe kA kB |-;have HX := hid hXe;clear hXe;have KA := hid kA;clear kA;have KB := hid kB;clear kB;replace HXX := hid (HXX.out.ext HX.out);replace HYY := hid (HYY.out.ext HX.out);have cA0 : w1.cell? ⟨w.heap.size, 0, none⟩ = some (.bool s0) := KA.out.cell 0;have cA1 : w1.cell? ⟨w.heap.size, 1, none⟩ = some (.slice A0 l0 c0) := KA.out.cell 1;have cA2 : w1.cell? ⟨w.heap.size, 2, none⟩ = some (.slice B0 m0 k0) := KA.out.cell 2;have cB0 : w1.cell? ⟨(w.heap.size + 1), 0, none⟩ = some (.bool s1) := KB.out.cell 0;have cB1 : w1.cell? ⟨(w.heap.size + 1), 1, none⟩ = some (.slice A1 l1 c1) := KB.out.cell 1;have cB2 : w1.cell? ⟨(w.heap.size + 1), 2, none⟩ = some (.slice B1 m1 k1) := KB.out.cell 2
 go_wp2_with fail
 clear cA0 cA1 cA2 cB0 cB1 cB2;refine (nO _ _ q r L M _ HXX.out HYY.out HFQ.out HFR.out hLM).mono ?_;rintro e w2 ⟨v9, rfl, hv, hX⟩;replace hX : Ext w1 w2 := by with_reducible exact hX
 replace HX := hid (HX.out.trans hX);replace HXX := hid (HXX.out.ext hX);replace HYY := hid (HYY.out.ext hX);replace KA := hid (KA.out.ext hX);replace KB := hid (KB.out.ext hX);clear hX;obtain ⟨s9, A9, l9, c9, B9, m9, k9, rfl⟩ := QZ.open hv;have HV := hid hv.num;clear hv;have hL := rn s9 A9 B9 l9 c9 m9 k9
 go_wp2_with fail
 refine (ez _ _ _ HV.out).mono ?_;rw [pW];rintro e w3 ⟨rfl, hX⟩;replace hX : Ext w2 w3 := by with_reducible exact hX
 replace HX := hid (HX.out.trans hX);replace HXX := hid (HXX.out.ext hX);replace HYY := hid (HYY.out.ext hX);replace HV := hid (HV.out.ext hX);replace KA := hid (KA.out.ext hX);replace KB := hid (KB.out.ext hX);clear hX;go_wp2;go_ret;exact ⟨rfl, HX.out⟩
theorem nP (va vb : Value) (q r : Rat) (L M : Nat) (w : World) (hx : QZ w va q) (hy : QZ w vb r) (fq : FitR q L) (fr : FitR r M) (hLM : L + M + 1 <= 400000) : Calls Try.prog 37 #[va, vb] w fun e w' => e = .returned (.int .i64 (cE (q - r))) /\ Ext w w' := by
 obtain ⟨s0, A0, l0, c0, B0, m0, k0, rfl⟩ := hx.open;obtain ⟨s1, A1, l1, c1, B1, m1, k1, rfl⟩ := hy.open;exact rt s0 A0 B0 l0 c0 m0 k0 s1 A1 B1 l1 c1 m1 k1 q r L M w hx hy fq fr hLM
/-- What one operation must give, je a frame of which only the slots' values are known. -/
def sC (P : Program) (ops : Array Oper) (J : (Nat -> Prop) -> (Nat -> Value) -> World -> Prop) (D A : List (List Nat)) (ds : List (Option Tmp)) (a : Act) (i : Nat) (o : Oper) : Prop :=
 ∀ (done : Nat -> Prop) (us : Nat -> Value) (W : World), J done us W -> (∀ j ∈ D.getD i [], done j) -> (∀ j ∈ A.getD i [], ¬ done j) -> ¬ done i -> ∀ b : Act, (∀ j d, ds[j]? = some (some d) -> b.tmps[d]? = some (us j)) -> (∀ d, some d ∉ ds -> b.tmps[d]? = a.tmps[d]?) -> ∀ K : Act -> World -> Prop,
   (∀ v W', J (fun k => done k \/ k = i) (et us i v) W' -> K (b.put o.dst v) W') -> ∀ Q' : Exit -> Act -> World -> Prop,
   if Region.wanted o (yielded ops b.tmps) then o.wp P b W K Q' else K (b.put o.dst undef) W
def GAllq (P : Program) (ops : Array Oper) (J : (Nat -> Prop) -> (Nat -> Value) -> World -> Prop) (D A : List (List Nat)) (ds : List (Option Tmp)) (a : Act) : Nat -> List Oper -> Prop
 | _, [] => True
 | i, o :: rest => sC P ops J D A ds a i o /\ GAllq P ops J D A ds a (i + 1) rest
theorem GAllq.at {P : Program} {ops : Array Oper} {J : (Nat -> Prop) -> (Nat -> Value) -> World -> Prop} {D A : List (List Nat)} {ds : List (Option Tmp)} {a : Act} : ∀ (l : List Oper) (k : Nat), GAllq P ops J D A ds a k l -> ∀ i o, l[i]? = some o -> sC P ops J D A ds a (k + i) o := by
 intro l
 induction l with
 | nil => intro k _ i o h; simp at h
 | cons x l ih =>
  intro k h i o ho
  cases i with
  | zero => simp at ho; subst ho; exact h.1
  | succ i =>
   have := ih (k + 1) h.2 i o (by simpa using ho);rw [show k + 1 + i = k + (i + 1) by omega] at this;exact this
section
variable {P : Program} {l : List Oper} {n : Nat} {ds : List (Option Tmp)} {D A : List (List Nat)} {J : (Nat -> Prop) -> (Nat -> Value) -> World -> Prop} {a : Act} {Q : Exit -> Act -> World -> Prop}
theorem rX (hB : jB l.toArray n ds D A = true) (hs : ∀ d, some d ∈ ds -> d < a.tmps.size) (hJ : ∀ p q us W, (∀ k, p k ↔ q k) -> J p us W -> J q us W) (hop : GAllq P l.toArray J D A ds a 0 (l.take n))
  (hend : ∀ us W, J (fun k => k < n) us W -> wpList P l.toArray Q (l.drop n) (aM a ds us 0) W) :
  ∀ (f : Nat) (rem : List Nat) (listed : Array Bool) (us : Nat -> Value) (W : World), rem.length = f -> rem.Nodup -> HeadInv .any l.toArray n listed -> (∀ j, j < n -> (listed.getD j true = false ↔ j ∈ rem)) -> (∀ j ∈ rem, j < n) ->
   J (fun k => k < n /\ k ∉ rem) us W -> wpAny P .any l.toArray Q (f + (l.toArray.size - n)) listed (aM a ds us 0) W := by
 simp only [jB, Bool.and_eq_true, decide_eq_true_eq] at hB;obtain ⟨⟨⟨⟨⟨⟨hn, hl⟩, hnt⟩, hD⟩, hless⟩, hsc⟩, hseq⟩ := hB;have hnd := dJ ds hnt;intro f
 induction f with
 | zero =>
  intro rem listed us W hlen _ inv hrem _ hX;obtain rfl : rem = [] := List.eq_nil_of_length_eq_zero hlen
  have hlist : listed = ((List.range l.toArray.size).map (fun i => decide (i < n))).toArray := by
   apply Array.ext
   .
    simp [inv.size]
   .
    intro i h1 h2;have hsz := inv.size;simp only [List.getElem_toArray, List.getElem_map, List.getElem_range]
    by_cases hi : i < n
    .
     have h3 := hrem i hi;simp only [List.not_mem_nil, iff_false, Bool.not_eq_false] at h3;have h4 : listed.getD i true = listed[i] := by simp [Array.getD, h1]
     rw [h4] at h3;simp [h3, hi]
    .
     have h3 := inv.tail i (by omega) (by omega);have h4 : listed.getD i true = listed[i] := by simp [Array.getD, h1]
     rw [h4] at h3;simp [h3, hi]
  have hdl : (l.drop n).length = l.toArray.size - n := by simp
  rw [Nat.zero_add, <- hdl];refine wpAny_of_seq (l.drop n) n listed _ W (fun j => by simp [List.getElem?_drop]) ?_ (hend us W (hJ _ _ us W (by simp) hX));rw [hdl, hlist];exact hseq
 | succ f ih =>
  intro rem listed us W hlen hnodup inv hrem hlt hX;rw [show f + 1 + (l.toArray.size - n) = (f + (l.toArray.size - n)) + 1 by omega];have hne : rem ≠ [] := by intro e; subst e; simp at hlen
  refine ⟨fun h0 => ?_, fun i hi => ?_⟩
  .
   exfalso
   obtain ⟨k, hk, hmin⟩ : ∃ k ∈ rem, ∀ j ∈ rem, k <= j := by
    obtain ⟨m, hm, hm2⟩ := exists_least (p := fun m => m ∈ rem) (by cases rem with | nil => exact absurd rfl hne | cons x xs => exact ⟨x, List.mem_cons_self ..⟩);exact ⟨m, hm, fun j hj => hm2 j hj⟩
   have hkn := hlt k hk
   have hr : k ∈ Region.ready .any l.toArray listed := by
    refine mem_ready.2 ⟨(hrem k hkn).2 hk, ?_⟩;have h1 := List.all_eq_true.1 hless k (List.mem_range.2 hkn)
    cases ho : l.toArray[k]? with
    | none => rw [ho] at h1; simp at h1
    | some o =>
     rw [ho] at h1;refine ⟨o, rfl, fun e he hb => ?_⟩;have h2 := Array.all_eq_true_iff_forall_mem.1 h1 e he;simp only [hb, Bool.not_true, Bool.false_or, decide_eq_true_eq] at h2;have h3 : e.on ∉ rem := fun h => by have := hmin _ h; omega
     have h4 : listed.getD e.on true = true := by
      cases h5 : listed.getD e.on true with
      | true => rfl
      | false => exact absurd ((hrem e.on (by omega)).1 h5) h3
     have hsz : e.on < listed.size := by rw [inv.size]; omega
     simp [Array.getD, hsz] at h4 |-;exact h4
   rw [h0] at hr
   cases hr
  .
   obtain ⟨hun, o, ho, hall⟩ := mem_ready.1 hi;have hisz : i < l.toArray.size := (Array.getElem?_eq_some_iff.1 ho).1
   have hin : i < n := by
    rcases Nat.lt_or_ge i n with h | h
    .
     exact h
    .
     simp only [Bool.or_eq_true, Bool.and_eq_true, decide_eq_true_eq] at hsc
     rcases hsc with hsc | ⟨hs, hc⟩
     .
      omega
     .
      obtain ⟨k, hk⟩ : ∃ k, k ∈ rem := by cases rem with | nil => exact absurd rfl hne | cons x xs => exact ⟨x, List.mem_cons_self ..⟩
      exact absurd hi (tail_waits hs hc (by omega) inv _ k rfl (hlt k hk) ((hrem k (hlt k hk)).2 hk) i h)
   have hir : i ∈ rem := (hrem i hin).1 hun;have hDi := List.all_eq_true.1 hD i (List.mem_range.2 hin);simp only [Bool.and_eq_true, beq_iff_eq] at hDi;obtain ⟨⟨hdst, hdeps⟩, hafts⟩ := hDi;rw [ho] at hdst;simp only [Option.map_some] at hdst;have hm := GAllq.at (l.take n) 0 hop i o (by rw [List.getElem?_take, if_pos hin]; simpa using ho);rw [Nat.zero_add] at hm
   have hdp : ∀ j ∈ D.getD i [], (j < n /\ j ∉ rem) := fun j hj => by
    have h1 := List.all_eq_true.1 hdeps j hj;simp only [Bool.and_eq_true, decide_eq_true_eq] at h1;obtain ⟨oj, hoj, e, he, hb, hon⟩ := Region.waitsFor_spec h1.2;have : oj = o := Option.some.inj (hoj.symm.trans ho);subst this;have h2 := hall e he hb;rw [hon] at h2
    have hjr : j ∉ rem := fun hjr => by
     have h3 := (hrem j (by omega)).2 hjr;rw [getD_both h3] at h2
     cases h2
    exact ⟨by omega, hjr⟩
   have haf : ∀ j ∈ A.getD i [], ¬ (j < n /\ j ∉ rem) := fun j hj hd => by
    have h1 := List.all_eq_true.1 hafts j hj;simp only [Bool.and_eq_true, decide_eq_true_eq] at h1;obtain ⟨oj, hoj, e, he, hb, hon⟩ := Region.waitsFor_spec h1.2
    have h4 : listed.getD j false = true := by
     have h5 : listed.getD j true = true := by
      cases h5 : listed.getD j true with
      | true => rfl
      | false => exact absurd ((hrem j hd.1).1 h5) hd.2
     have hsz : j < listed.size := by rw [inv.size]; omega
     simp [Array.getD, hsz] at h5 |-;exact h5
    have h6 := inv.closed j oj hoj h4 e he hb;rw [hon, getD_both hun] at h6
    cases h6
   have key : ∀ v W', J (fun k => (k < n /\ k ∉ rem) \/ k = i) (et us i v) W' -> wpAny P .any l.toArray Q (f + (l.toArray.size - n)) (listed.setIfInBounds i true) ((aM a ds us 0).put o.dst v) W' := fun v W' hj => by
    rw [fQ us v ds hnd a 0 i o.dst hdst.symm, Nat.zero_add];refine ih (rem.erase i) _ (et us i v) W' (by rw [List.length_erase_of_mem hir]; omega) (hnodup.erase i) (inv.set hi hin) (fun j hj => ?_) (fun j hj => hlt j (List.mem_of_mem_erase hj)) (hJ _ _ _ W' (fun k => ?_) hj)
    .
     by_cases hji : i = j
     .
      subst hji;have hsz : i < listed.size := by rw [inv.size]; omega
      simp [Array.getD, hsz];exact fun h => (hnodup.mem_erase_iff.1 h).1 rfl
     .
      rw [getD_set_ne true hji, hrem j hj, hnodup.mem_erase_iff];exact ⟨fun h => ⟨Ne.symm hji, h⟩, fun h => h.2⟩
    .
     rw [hnodup.mem_erase_iff];constructor
     .
      rintro (⟨h1, h2⟩ | rfl)
      .
       exact ⟨h1, fun h => h2 h.2⟩
      .
       exact ⟨hin, fun h => h.1 rfl⟩
     .
      rintro ⟨h1, h2⟩
      by_cases hki : k = i
      .
       exact .inr hki
      .
       exact .inl ⟨h1, fun h => h2 ⟨hki, h⟩⟩
   unfold wpOp;rw [ho];simp only
   have hgo := hm (fun k => k < n /\ k ∉ rem) us W hX hdp haf (fun h => h.2 hir) (aM a ds us 0) (fun j d hj => by
    have := fR us ds hnd a 0 j d hj (hs d (List.mem_of_getElem? hj))
    rwa [Nat.zero_add] at this) (fun d hd => dI us ds a 0 d hd) (wpAny P .any l.toArray Q (f + (l.toArray.size - n)) (listed.setIfInBounds i true)) key Q
   split
   .
    rename_i hw; rw [if_pos hw] at hgo; exact .inl hgo
   .
    rename_i hw; rw [if_neg hw] at hgo; exact hgo
/-- THE LAW. -/
theorem eK {id : Nat} {w : World} (n : Nat) (ds : List (Option Tmp)) (D A : List (List Nat)) (J : (Nat -> Prop) -> (Nat -> Value) -> World -> Prop) (hm : P.follows .mixedOrders = true) (hB : jB l.toArray n ds D A = true)
  (hd : ∀ d, some d ∈ ds -> d < a.tmps.size) (hJ : ∀ p q us W, (∀ k, p k ↔ q k) -> J p us W -> J q us W) (h0 : ∀ us, J (fun _ => False) us w.drew) (hop : GAllq P l.toArray J D A ds a 0 (l.take n))
  (hend : ∀ us W, J (fun k => k < n) us W -> wpList P l.toArray Q (l.drop n) (aM a ds us 0) W) : (Code.region id l.toArray true).wp P Q a w := by
 refine wp_region_any hm ?_;have hB' := hB;simp only [jB, Bool.and_eq_true, decide_eq_true_eq] at hB';obtain ⟨⟨⟨⟨⟨⟨hn, hl⟩, hnt⟩, _⟩, _⟩, _⟩, _⟩ := hB'
 have h := rX hB hd hJ hop hend n (List.range n) (Array.replicate l.toArray.size false) (fun j => a.tmps.getD ((ds.getD j none).getD 0) undef) w.drew (by simp) List.nodup_range
  ⟨by simp, fun j oj _ hl => (by rw [getD_replicate_false] at hl; cases hl), fun t _ ht => getD_in (by simpa using ht) (getD_replicate_false _ _)⟩
  (fun j hj => ⟨fun _ => List.mem_range.2 hj, fun _ => getD_in (by simp at hn |-; omega) (getD_replicate_false _ _)⟩) (fun j hj => List.mem_range.1 hj)
  (hJ _ _ _ _ (fun k => by simp) (h0 _))
 rw [eJ ds a 0 _ hd (fun i d hi => by simp [List.getD, hi])] at h;have e : n + (l.toArray.size - n) = l.toArray.size := by omega
 rw [e] at h;exact h
end
/-- A local struct of a region: its cells are 'zs' until they are stored, then 'vs'. -/
structure Loc (w W : World) (T : TypeId) (zs vs : Array Value) (da dst : Prop) (v : Value) : Prop where
 ptr : da -> ∃ g, v = .pointer (some ⟨g, 0, none⟩) /\ w.heap.size <= g /\ (dst -> Blk W g T vs) /\ (¬ dst -> Blk W g T zs)
section
variable {w W W' : World} {T : TypeId} {zs vs : Array Value} {da dst da' dst' : Prop} {v u : Value}
theorem Loc.unmade (h : ¬ da) : Loc w W T zs vs da dst v := ⟨fun h' => absurd h' h⟩
theorem Loc.stored (h : Loc w W T zs vs da dst v) (hd : da) (hs : ¬ dst) : ∃ g, v = .pointer (some ⟨g, 0, Option.none⟩) /\ w.heap.size <= g /\ Blk W g T zs := by
 obtain ⟨g, h1, h2, _, h4⟩ := h.ptr hd;exact ⟨g, h1, h2, h4 hs⟩
theorem Loc.done (h : Loc w W T zs vs da dst v) (hd : da) (hs : dst) : ∃ g, v = .pointer (some ⟨g, 0, Option.none⟩) /\ w.heap.size <= g /\ Blk W g T vs := by
 obtain ⟨g, h1, h2, h3, _⟩ := h.ptr hd;exact ⟨g, h1, h2, h3 hs⟩
theorem Loc.same (h : Loc w W T zs vs da dst v) (ha : da' ↔ da) (hs : dst' ↔ dst) : Loc w W T zs vs da' dst' v := by
 have e1 := propext ha;have e2 := propext hs;subst e1 e2;exact h
theorem Loc.ext (h : Loc w W T zs vs da dst v) (hX : Ext W W') : Loc w W' T zs vs da dst v := ⟨fun hd => by
 obtain ⟨g, h1, h2, h3, h4⟩ := h.ptr hd;exact ⟨g, h1, h2, fun h => (h3 h).ext hX, fun h => (h4 h).ext hX⟩⟩
theorem Loc.new (w W : World) (hw : Ext w W) (hs : ¬ dst) (hX : Ext (W.alloc (.cells zs T)) W') : Loc w W' T zs vs da dst (.pointer (some ⟨W.heap.size, 0, none⟩)) :=
 ⟨fun _ => ⟨_, rfl, hw.size, fun h => absurd h hs, fun _ => (Blk.new W T zs).ext hX⟩⟩
end
def nQ : Value -> Array Value
 | .agg vs => vs
 | _ => #[]
theorem QZ.past' {w : World} {v : Value} {q : Rat} {g : Nat} (h : QZ w v q) (hN : NoInts w g) {b : Bool} {A B : Option Addr} {l c m k : Nat} : QZ (((w.setCell ⟨g, 0, none⟩ (.bool b)).setCell ⟨g, 1, none⟩ (.slice A l c)).setCell ⟨g, 2, none⟩ (.slice B m k)) v q := by
 obtain ⟨b', A', l', c', B', m', k', h0, h1, h2, h3⟩ := h;exact ⟨b', A', l', c', B', m', k', h0, h1, h2.box3 hN _ _ _ _ _ _ _, h3.box3 hN _ _ _ _ _ _ _⟩
theorem Loc.revs {w W : World} {T : TypeId} {zs vs vs' : Array Value} {da dst : Prop} {v : Value} (h : Loc w W T zs vs da dst v) (hn : ¬ dst) : Loc w W T zs vs' da dst v := ⟨fun hd => by
 obtain ⟨g, h1, h2, _, h4⟩ := h.ptr hd;exact ⟨g, h1, h2, fun h => absurd h hn, h4⟩⟩
theorem SmallR.fit {neg : Bool} {xs ys : List Int} (h : SmallR xs ys) : FitQ (il neg xs ys) 256 := j8 (rg ys) h.1.fit h.den.fit
theorem FitQW.of {q : Rat} (h : FitQ q 256) : FitQW q := ⟨⟨h.1⟩, ⟨h.2⟩⟩
theorem RatC.open {w : World} {v : Value} {q : Rat} (h : RatC w v q) : ∃ s A l c B m k, v = .agg #[.bool s, .slice A l c, .slice B m k] := by
 obtain ⟨xs, ys, ⟨A, l, c, B, m, k, rfl, _⟩, _⟩ := h;exact ⟨_, _, _, _, _, _, _, rfl⟩
theorem FitQW.of4 {q : Rat} {L : Nat} (h : FitQ q L) (hl : L <= 256) : FitQW q := FitQW.of (h.mono hl)
/-- A value that denotes a number and is not large. -/
def RatG (w : World) (v : Value) (q : Rat) : Prop := ∃ neg xs ys, RatV w v neg xs ys /\ SmallR xs ys /\ il neg xs ys = q
theorem RatG.ext {w w' : World} {v : Value} {q : Rat} (h : RatG w v q) (he : Ext w w') : RatG w' v q := by
 obtain ⟨neg, xs, ys, h1, h2, h3⟩ := h;exact ⟨neg, xs, ys, h1.ext he, h2, h3⟩
theorem Rep.wN {xs : List Int} {n : Nat} (h : Rep 4294967296 xs n) : wN xs = n := by
 have := h.2.2;unfold Go.Proofs.Ytikhlcgnlbinfaa.wN; omega
theorem RatC.good {w : World} {v : Value} {q : Rat} (h : RatC w v q) (hf : FitQW q) : RatG w v q := by
 obtain ⟨xs, ys, h1, h2, h3⟩ := h;have e1 := h2.wN
 have e2 : wD ys = q.den /\ bG (wN ys) := by
  rcases h3 with ⟨hd, rfl⟩ | ⟨hd, hr⟩
  .
   have : wN [] = 0 := by simp [wN, val]
   refine ⟨by unfold wD; rw [this, hd]; rfl, ?_⟩;rw [this]; exact ⟨Fit.zero (by omega)⟩
  .
   have e := hr.wN;have := q.den_pos;refine ⟨by unfold wD; rw [e, if_neg (by omega)], ?_⟩;rw [e]; exact hf.den
 refine ⟨_, xs, ys, h1, ⟨by rw [e1]; exact hf.num, e2.2⟩, ?_⟩;unfold il;rw [e1, e2.1, fU]
section
variable {w : World} {v : Value} {q : Rat}
end
/-- A value that denotes a number, and whether it is large. -/
def RatL (w : World) (v : Value) (big : Bool) : Prop := ∃ neg xs ys, RatV w v neg xs ys /\ (big = true ↔ ¬ SmallR xs ys)
theorem RatG.small {w : World} {v : Value} {q : Rat} (h : RatG w v q) : RatL w v false := by
 obtain ⟨neg, xs, ys, h1, h2, _⟩ := h;exact ⟨neg, xs, ys, h1, by simp [h2]⟩
theorem RatL.is {w : World} {v : Value} {b : Bool} (h : RatL w v b) : Calls Try.prog 141 #[v] w fun e w' => e = .returned (.bool b) /\ Ext w w' := by
 obtain ⟨neg, xs, ys, h1, h2⟩ := h;exact nm b v neg xs ys w h1 h2
theorem sK {w : World} {v : Value} {q : Rat} (h : RatG w v q) : Calls Try.prog 133 #[v] w (eM w q 256) := by
 obtain ⟨neg, xs, ys, h1, h2, rfl⟩ := h;refine (rh v neg xs ys 256 w h1 h2.1.fit h2.den.fit (by omega)).mono ?_;rintro e w' ⟨v', rfl, hv, hX⟩;exact ⟨v', rfl, hv.numx h2.fit, hX⟩
theorem nR {w : World} {v : Value} {q : Rat} {L : Nat} (h : NumX w v q L) (hL : L <= 1099511627775) (hq : FitQW q) : Calls Try.prog 131 #[v] w (pC w q) := pE v q L w h hL hq
theorem dN (m : Nat) : (65536 : Int) ^ (2 * m) = 4294967296 ^ m := by rw [Int.pow_mul]; rfl
theorem dh {n L : Nat} : Fit 65536 n (2 * L) ↔ Fit 4294967296 n L := by unfold Fit; rw [dN]
theorem iE {q : Rat} {L : Nat} (h : FitQ q L) : FitR q (2 * L) := ⟨dh.2 h.1, dh.2 h.2⟩
theorem ru {n : Nat} (h : Fit 4294967296 n 256) : Fit 65536 n 512 := by
 have h2 := (dh (n := n) (L := 256)).2 h;rw [show 2 * 256 = 512 from rfl] at h2;exact h2
theorem p7 {n : Nat} (h : Fit 65536 n 512) : Fit 4294967296 n 256 := by
 have h2 := h;rw [show 512 = 2 * 256 from rfl] at h2;exact dh.1 h2
theorem lN {B : Int} {xs : List Int} (_hB : 1 < B) (hd : Dg B xs) (hne : xs ≠ []) (h : B ^ (xs.length - 1) <= val B xs) : Nm xs := by
 rcases List.eq_nil_or_concat xs with e | ⟨ys, x, e⟩
 .
  exact absurd e hne
 .
  subst e;rw [List.concat_eq_append] at *
  by_cases hx : x = 0
  .
   exfalso;subst hx;rw [bY, Int.mul_zero, Int.add_zero] at h;have h2 := bH (B := B) (by omega) (show Dg B ys from fun y hy => hd y (by simp [hy]));simp at h;omega
  .
   exact Nm.snoc hx
theorem fo {out xs : List Int} {k : Nat} {x y : Int} (hx : xs[2 * k]? = some x) (hy : xs.getD (2 * k + 1) 0 = y) (hl : out.length = k) (hv : val 4294967296 out = val 65536 (xs.take (2 * k))) :
  val 4294967296 (out ++ [x + y * 65536]) = val 65536 (xs.take (2 * (k + 1))) := by
 rw [bY, hl, hv, show 2 * (k + 1) = 2 * k + 1 + 1 by omega, bg, bg, hy, getD_some hx, Int.pow_succ, dN];grind
theorem lO {out xs : List Int} {k n : Nat} (hr : Rep 65536 xs n) (hl : out.length = k) (hk : xs.length <= 2 * k) (hk2 : 2 * k <= xs.length + 1) (hd : Dg 4294967296 out) (hv : val 4294967296 out = val 65536 (xs.take (2 * k))) : Rep 4294967296 out n := by
 rw [List.take_of_length_le hk, hr.2.2] at hv;refine ⟨hd, ?_, hv⟩
 by_cases h0 : xs = []
 .
  subst h0;have : out = [] := List.eq_nil_of_length_eq_zero (by simp at hk2; omega);subst this; exact Nm.nil
 .
  have hxl : 0 < xs.length := List.length_pos_iff.2 h0;refine lN (by omega) hd (by intro e; rw [e] at hl; simp at hl; omega) ?_;have h1 := dG (B := 65536) (by omega) hr.1 hr.2.1 h0;rw [hr.2.2] at h1;rw [hv, hl]
  have h2 : (4294967296 : Int) ^ (k - 1) <= 65536 ^ (xs.length - 1) := by
   rw [<- dN];exact df (B := 65536) (by omega) (by omega)
  omega
theorem kj {xs : List Int} {n : Nat} (hr : Rep 65536 xs n) : xs.length <= 512 ↔ bG n := by
 constructor
 .
  intro h;have h1 := (Fit.of_rep (B := 65536) (by omega) hr).mono (by omega) h;exact ⟨p7 h1⟩
 .
  intro h;have h1 := ru h.1;exact h1.len (by omega) hr
theorem nS (va : Value) (n : Nat) (w : World) (ha : Z16 w va n) (hf : ¬ bG n) :
  Calls Try.prog 190 #[va] w (fun e w' => e = .returned (.tuple #[.slice none 0 0, .bool false]) /\ Ext w w') := by
 obtain ⟨A, l, c, xs, rfl, hI, hr, hc1, hc2⟩ := ha;have h := kj hr;rw [hI.1] at h;have hl : ¬ l <= 512 := fun hl => hf (h.1 hl)
 have hl2 : (512 : Int) < (l : Int) := by omega
 clear h hI hr hf;go_enter Try.func190, Try.ntmps190;go_wp2
 go_ret2
 exact ⟨rfl, Ext.refl _⟩
theorem lP (va : Value) (n : Nat) (w : World) (ha : Z16 w va n) (hf : bG n) :
  Calls Try.prog 190 #[va] w (fun e w' => ∃ v, e = .returned (.tuple #[v, .bool true]) /\ W32 w' v n /\ Ext w w') := by
 obtain ⟨A, l, c, xs, rfl, hI, hr, hc1, hc2⟩ := ha;have h := kj hr;rw [hI.1] at h;have hl : l <= 512 := h.2 hf;have hl2 : ¬ (512 : Int) < (l : Int) := by omega
 have H := hid hI;have HL : Hid (xs.length = l) := hI.1;have HR := hid hr;clear h hI hr hf;go_enter Try.func190, Try.ntmps190;go_wp2
 go_loopg [4, 5] (l + 2) (fun g s4 s5 wr => ∃ (k t : Nat) (out : List Int), g = l + 2 - t /\ Hid (t = 2 * k) /\ t <= l + 1 /\ s5 = .int .i64 (t : Int) /\ Hid (wr.ownsRow w.heap.size 129 1 s4 k (out.map (.int .u32))) /\ Hid (Dg 4294967296 out) /\ Hid (out.length = k) /\ Hid (val 4294967296 out = val 65536 (xs.take (2 * k))) /\ Hid (Ext w wr))
 case atStart => exact ⟨0, 0, [], rfl, rfl, by omega, rfl, World.ownsRow_nil _ _ _ _, Dg.nil, rfl, rfl, Ext.refl w⟩
 case round =>
  obtain ⟨k, t, out, rfl, HT, hk, rfl, HO, HD, HLO, HI, HX⟩ := hrel;obtain ⟨A2, c2, rfl⟩ := ar HO.out
  by_cases hlt : t < l
  .
   have hkl : (t : Int) < (l : Int) := by omega
   have hk0 : (0 : Int) <= (t : Int) := by omega
   obtain ⟨bw, ow, x, rfl, hx, hwf, hc⟩ := (H.out.ext HX.out).get (j := t) (by omega);obtain ⟨hx0, hx1⟩ := HR.out.1.get hx;have hw1 : IntKind.u32.wrap x = x := by rw [IntKind.wrap_u32]; omega
   have hown := HO.out;have hkb : k <= 512 := by have := HT.out; omega
   rw [HT.out] at hx;have HXX := hid hx;clear hx hwf
   by_cases hod : t + 1 < l
   .
    have hkl1 : (t : Int) + 1 < (l : Int) := by omega
    obtain ⟨bw', ow', y, hA, hy, hwf', hd⟩ := (H.out.ext HX.out).get (j := t + 1) (by omega);injection hA with hA;injection hA with e1 e2;subst e1 e2;obtain ⟨hy0, hy1⟩ := HR.out.1.get hy;have hw2 : IntKind.u32.wrap y = y := by rw [IntKind.wrap_u32]; omega
    have hw3 : IntKind.u32.wrap (y * 65536) = y * 65536 := by rw [IntKind.wrap_u32]; omega
    have hw4 : IntKind.u32.wrap (x + y * 65536) = x + y * 65536 := by rw [IntKind.wrap_u32]; omega
    have hk1 : (0 : Int) <= (t : Int) + 1 := by omega
    rw [HT.out] at hy;have HST := hid (fo HXX.out (getD_some hy) HLO.out HI.out);have HDD := hid (HD.out.append (Dg.one (B := 4294967296) (x := x + y * 65536) (by omega)));clear hy hwf'
    go_wp2_with (at_builtin; refine au _ pB rfl _ _ rfl w.heap.size _ k _ rfl (hown.alloc _) _ 1 1 [.int .u32 (x + y * 65536)] rfl rfl (At.new _ [_] _) (by simp [Value.oneCell']) (by omega) (by unfold maxLen; omega) (by have := HX.out.size; simp; omega) ?_; intro v1 w1 hown1 hgr1 _; have HO1 := hid hown1; have HX1 := hid (Ext.push HX.out HO.out hgr1); clear hown1 hgr1)
    go_roundg (l + 2 - (t + 2))
    case rel => exact ⟨k + 1, t + 2, out ++ [x + y * 65536], rfl, (by have := HT.out; show _ = _; omega), by omega, by go_num, by rw [List.map_append]; exact HO1.out, HDD.out, by rw [List.length_append, HLO.out]; rfl, HST.out, HX1.out⟩
    case measure => omega
   .
    have hkl1 : ¬ (t : Int) + 1 < (l : Int) := by omega
    have hy : xs.getD (2 * k + 1) 0 = 0 := cU (by rw [HL.out]; have := HT.out; omega);have HST := hid (fo HXX.out hy HLO.out HI.out);rw [Int.zero_mul, Int.add_zero] at HST;have HDD := hid (HD.out.append (Dg.one (B := 4294967296) (x := x) (by omega)));clear hy
    go_wp2_with (at_builtin; refine au _ pB rfl _ _ rfl w.heap.size _ k _ rfl (hown.alloc _) _ 1 1 [.int .u32 x] rfl rfl (At.new _ [_] _) (by simp [Value.oneCell']) (by omega) (by unfold maxLen; omega) (by have := HX.out.size; simp; omega) ?_; intro v1 w1 hown1 hgr1 _; have HO1 := hid hown1; have HX1 := hid (Ext.push HX.out HO.out hgr1); clear hown1 hgr1)
    go_roundg (l + 2 - (t + 2))
    case rel => exact ⟨k + 1, t + 2, out ++ [x], rfl, (by have := HT.out; show _ = _; omega), by omega, by go_num, by rw [List.map_append]; exact HO1.out, HDD.out, by rw [List.length_append, HLO.out]; rfl, HST.out, HX1.out⟩
    case measure => omega
  .
   have hkl : ¬ (t : Int) < (l : Int) := by omega
   have HOS : Hid (OwnS .u32 129 w.heap.size wr A2 k c2 out) := ⟨HO.out, HLO.out, fun x hx => b8 (HD.out x hx)⟩;have HE : Hid (Rep 4294967296 out n) := lO HR.out HLO.out (by rw [HL.out]; have := HT.out; omega) (by rw [HL.out]; have := HT.out; omega) HD.out HI.out;go_wp2
   go_ret2
   exact ⟨_, rfl, HOS.out.natv HE.out, HX.out⟩
theorem dx (b : Bool) (va : Value) (n : Nat) (w : World) (ha : Z16 w va n) (hf : b = true ↔ bG n) :
  Calls Try.prog 190 #[va] w (fun e w' => ∃ v, e = .returned (.tuple #[v, .bool b]) /\ (b = true -> W32 w' v n) /\ Ext w w') := by
 cases b
 .
  refine (nS va n w ha (fun h => by have := hf.2 h; cases this)).mono ?_;rintro e w' ⟨rfl, hX⟩;exact ⟨_, rfl, (fun h => by cases h), hX⟩
 .
  refine (lP va n w ha (hf.1 rfl)).mono ?_;rintro e w' ⟨v, rfl, hz, hX⟩;exact ⟨v, rfl, fun _ => hz, hX⟩
theorem lQ {w : World} {A : Option Addr} {l c d : Nat} (h : Z16 w (.slice A l c) d) (hd : d = 1) : l = 1 /\ ∃ b o x, A = some ⟨b, o, none⟩ /\ w.cell? ⟨b, o, none⟩ = some (.int .i64 x) /\ (x == 1) = true := by
 obtain ⟨A', l', c', xs, e, hI, hr, hc⟩ := h;injection e with e1 e2 e3;subst e1 e2 e3;obtain rfl : xs = [1] := by rw [hd] at hr; exact hr.unique (by omega) (Rep.one (by omega))
 obtain rfl : l = 1 := by simpa using hI.1.symm
 obtain ⟨b, o, y, rfl, hy, _, hcy⟩ := hI.get (j := 0) (by omega);obtain rfl : 1 = y := by simpa using hy
 exact ⟨rfl, b, o, 1, rfl, by simpa using hcy, by simp⟩
theorem nT {w : World} {A : Option Addr} {l c d : Nat} (h : Z16 w (.slice A l c) d) (hl : l = 1) (_hd : d ≠ 1) : ∃ b o x, A = some ⟨b, o, none⟩ /\ w.cell? ⟨b, o, none⟩ = some (.int .i64 x) /\ (x == 1) = false := by
 obtain ⟨A', l', c', xs, e, hI, hr, hc⟩ := h;injection e with e1 e2 e3;subst e1 e2 e3 hl;obtain ⟨y, rfl⟩ : ∃ y, xs = [y] := List.length_eq_one_iff.1 hI.1;obtain ⟨b, o, x, rfl, hx, _, hcx⟩ := hI.get (j := 0) (by omega);obtain rfl : y = x := by simpa using hx
 obtain ⟨h1, h2⟩ := hr.single (by omega);refine ⟨b, o, y, rfl, by simpa using hcx, ?_⟩;simp only [beq_eq_false_iff_ne, ne_eq];omega
theorem nU (s0 : Bool) (A0 B0 : Option Addr) (l0 c0 m0 k0 : Nat) (n d : Nat) (w : World) (hI : Z16 w (.slice A0 l0 c0) n) (hJ : Z16 w (.slice B0 m0 k0) d) (ha : bG n) (hb : bG d) (hd : d = 1) :
  Calls Try.prog 139 #[.agg #[.bool s0, .slice A0 l0 c0, .slice B0 m0 k0]] w (fun e w' => ∃ A9 l9 c9 B9 m9 k9, e = .returned (.tuple #[.agg #[.bool s0, .slice A9 l9 c9, .slice B9 m9 k9], .int .i64 0]) /\ W32 w' (.slice A9 l9 c9) n /\ (B9 = none /\ m9 = 0 /\ k9 = 0) /\ Ext w w') := by
 have H0 := hid ha;have H1 := hid hb;clear ha hb;have HI := hid hI;have HJ := hid hJ;obtain ⟨hm, b1, o1, x1, hB, hc1, hx1⟩ := lQ hJ hd;subst hB;subst hm;clear hI hJ;have hXe : Ext w ((w.alloc (.cells #[.bool s0, .slice A0 l0 c0, .slice (some ⟨b1, o1, none⟩) 1 k0] 65)).alloc (.cells #[.bool false, .slice none 0 0, .slice none 0 0] 97)) := (((Ext.refl w).alloc _).alloc _);have kA : Blk ((w.alloc (.cells #[.bool s0, .slice A0 l0 c0, .slice (some ⟨b1, o1, none⟩) 1 k0] 65)).alloc (.cells #[.bool false, .slice none 0 0, .slice none 0 0] 97)) w.heap.size 65 #[.bool s0, .slice A0 l0 c0, .slice (some ⟨b1, o1, none⟩) 1 k0] := Blk.alloc (Blk.at_ (by simp)) _;have kR : Blk ((w.alloc (.cells #[.bool s0, .slice A0 l0 c0, .slice (some ⟨b1, o1, none⟩) 1 k0] 65)).alloc (.cells #[.bool false, .slice none 0 0, .slice none 0 0] 97)) (w.heap.size + 1) 97 #[.bool false, .slice none 0 0, .slice none 0 0] := Blk.at_ (by simp);go_enter Try.func139, Try.ntmps139
 go_wp2_with fail
 generalize ((w.alloc _).alloc _) = w1 at hXe kA kR |-;have HX := hid hXe;clear hXe;have KA := hid kA;clear kA;have KR := hid kR;clear kR;replace HI := hid (HI.out.ext HX.out);replace HJ := hid (HJ.out.ext HX.out);have hc0 := hc1;clear hc1;have cA0 : w1.cell? ⟨w.heap.size, 0, none⟩ = some (.bool s0) := KA.out.cell 0;have cA1 : w1.cell? ⟨w.heap.size, 1, none⟩ = some (.slice A0 l0 c0) := KA.out.cell 1;have cA2 : w1.cell? ⟨w.heap.size, 2, none⟩ = some (.slice (some ⟨b1, o1, none⟩) 1 k0) := KA.out.cell 2
 go_wp2_with fail
 clear cA0 cA1 cA2;refine (dx true _ n _ HI.out ⟨fun _ => H0.out, fun _ => rfl⟩).mono ?_;rintro e w2 ⟨v7, rfl, h7, hX⟩;replace hX : Ext w1 w2 := by with_reducible exact hX
 replace HX := hid (HX.out.trans hX);replace HI := hid (HI.out.ext hX);replace HJ := hid (HJ.out.ext hX);replace KA := hid (KA.out.ext hX);replace KR := hid (KR.out.ext hX);clear hX;have HV7 : Hid (W32 w2 v7 n) := h7 rfl;clear h7;have cA0 : w2.cell? ⟨w.heap.size, 0, none⟩ = some (.bool s0) := KA.out.cell 0;have cA1 : w2.cell? ⟨w.heap.size, 1, none⟩ = some (.slice A0 l0 c0) := KA.out.cell 1;have cA2 : w2.cell? ⟨w.heap.size, 2, none⟩ = some (.slice (some ⟨b1, o1, none⟩) 1 k0) := KA.out.cell 2
 go_wp2_with fail
 clear cA0 cA1 cA2;refine (dx true _ d _ HJ.out ⟨fun _ => H1.out, fun _ => rfl⟩).mono ?_;rintro e w3 ⟨v8, rfl, h8, hX⟩;replace hX : Ext w2 w3 := by with_reducible exact hX
 replace HX := hid (HX.out.trans hX);replace HI := hid (HI.out.ext hX);replace HJ := hid (HJ.out.ext hX);replace HV7 := hid (HV7.out.ext hX);replace KA := hid (KA.out.ext hX);replace KR := hid (KR.out.ext hX);clear hX;have HV8 := hid (h8 rfl);clear h8;obtain ⟨A7, l7, c7, rfl, hv7, _⟩ := W32.open HV7.out;obtain ⟨A8, l8, c8, rfl, hv8, _⟩ := W32.open HV8.out;clear HV7 HV8;have HU7 := hid (W32.boxed hv7 (NoInts.three KR.out) s0 A7 none l7 c7 0 0);have HU8 := hid (W32.boxed hv8 (NoInts.three KR.out) s0 A7 none l7 c7 0 0);clear hv7 hv8;have hc2 := HX.out.cell hc0;clear hc0;have cA0 : w3.cell? ⟨w.heap.size, 0, none⟩ = some (.bool s0) := KA.out.cell 0;have cA1 : w3.cell? ⟨w.heap.size, 1, none⟩ = some (.slice A0 l0 c0) := KA.out.cell 1;have cA2 : w3.cell? ⟨w.heap.size, 2, none⟩ = some (.slice (some ⟨b1, o1, none⟩) 1 k0) := KA.out.cell 2;have cR0 : w3.cell? ⟨(w.heap.size + 1), 0, none⟩ = some (.bool false) := KR.out.cell 0;have fR0 : w3.frozen? ⟨(w.heap.size + 1), 0, none⟩ = false := KR.out.free 0;have cR1 : w3.cell? ⟨(w.heap.size + 1), 1, none⟩ = some (.slice none 0 0) := KR.out.cell 1;have fR1 : w3.frozen? ⟨(w.heap.size + 1), 1, none⟩ = false := KR.out.free 1;have cR2 : w3.cell? ⟨(w.heap.size + 1), 2, none⟩ = some (.slice none 0 0) := KR.out.cell 2;have fR2 : w3.frozen? ⟨(w.heap.size + 1), 2, none⟩ = false := KR.out.free 2;go_wp2;refine bodyPost_ret (v := .tuple #[.agg #[.bool s0, .slice A7 l7 c7, .slice none 0 0], .int .i64 0]) (by simp [results, Try.results139, go_sem, *]) rfl ?_;exact ⟨_, _, _, _, _, _, rfl, HU7.out, ⟨rfl, rfl, rfl⟩, Ext.boxed HX.out (by omega) _ _ _⟩
theorem nV (s0 : Bool) (A0 B0 : Option Addr) (l0 c0 m0 k0 : Nat) (n d : Nat) (w : World) (hI : Z16 w (.slice A0 l0 c0) n) (hJ : Z16 w (.slice B0 m0 k0) d) (ha : bG n) (hb : bG d) (hd : m0 ≠ 1) :
  Calls Try.prog 139 #[.agg #[.bool s0, .slice A0 l0 c0, .slice B0 m0 k0]] w (fun e w' => ∃ A9 l9 c9 B9 m9 k9, e = .returned (.tuple #[.agg #[.bool s0, .slice A9 l9 c9, .slice B9 m9 k9], .int .i64 0]) /\ W32 w' (.slice A9 l9 c9) n /\ W32 w' (.slice B9 m9 k9) d /\ Ext w w') := by
 have H0 := hid ha;have H1 := hid hb;clear ha hb;have hb1 : ((m0 : Int) == 1) = false := by simp; omega
 clear hd;have HI := hid hI;have HJ := hid hJ;clear hI hJ;have hXe : Ext w ((w.alloc (.cells #[.bool s0, .slice A0 l0 c0, .slice B0 m0 k0] 65)).alloc (.cells #[.bool false, .slice none 0 0, .slice none 0 0] 97)) := (((Ext.refl w).alloc _).alloc _);have kA : Blk ((w.alloc (.cells #[.bool s0, .slice A0 l0 c0, .slice B0 m0 k0] 65)).alloc (.cells #[.bool false, .slice none 0 0, .slice none 0 0] 97)) w.heap.size 65 #[.bool s0, .slice A0 l0 c0, .slice B0 m0 k0] := Blk.alloc (Blk.at_ (by simp)) _;have kR : Blk ((w.alloc (.cells #[.bool s0, .slice A0 l0 c0, .slice B0 m0 k0] 65)).alloc (.cells #[.bool false, .slice none 0 0, .slice none 0 0] 97)) (w.heap.size + 1) 97 #[.bool false, .slice none 0 0, .slice none 0 0] := Blk.at_ (by simp);go_enter Try.func139, Try.ntmps139
 go_wp2_with fail
 generalize ((w.alloc _).alloc _) = w1 at hXe kA kR |-;have HX := hid hXe;clear hXe;have KA := hid kA;clear kA;have KR := hid kR;clear kR;replace HI := hid (HI.out.ext HX.out);replace HJ := hid (HJ.out.ext HX.out);have cA0 : w1.cell? ⟨w.heap.size, 0, none⟩ = some (.bool s0) := KA.out.cell 0;have cA1 : w1.cell? ⟨w.heap.size, 1, none⟩ = some (.slice A0 l0 c0) := KA.out.cell 1;have cA2 : w1.cell? ⟨w.heap.size, 2, none⟩ = some (.slice B0 m0 k0) := KA.out.cell 2
 go_wp2_with fail
 clear cA0 cA1 cA2;refine (dx true _ n _ HI.out ⟨fun _ => H0.out, fun _ => rfl⟩).mono ?_;rintro e w2 ⟨v7, rfl, h7, hX⟩;replace hX : Ext w1 w2 := by with_reducible exact hX
 replace HX := hid (HX.out.trans hX);replace HI := hid (HI.out.ext hX);replace HJ := hid (HJ.out.ext hX);replace KA := hid (KA.out.ext hX);replace KR := hid (KR.out.ext hX);clear hX;have HV7 : Hid (W32 w2 v7 n) := h7 rfl;clear h7;have cA0 : w2.cell? ⟨w.heap.size, 0, none⟩ = some (.bool s0) := KA.out.cell 0;have cA1 : w2.cell? ⟨w.heap.size, 1, none⟩ = some (.slice A0 l0 c0) := KA.out.cell 1;have cA2 : w2.cell? ⟨w.heap.size, 2, none⟩ = some (.slice B0 m0 k0) := KA.out.cell 2
 go_wp2_with fail
 clear cA0 cA1 cA2;refine (dx true _ d _ HJ.out ⟨fun _ => H1.out, fun _ => rfl⟩).mono ?_;rintro e w3 ⟨v8, rfl, h8, hX⟩;replace hX : Ext w2 w3 := by with_reducible exact hX
 replace HX := hid (HX.out.trans hX);replace HI := hid (HI.out.ext hX);replace HJ := hid (HJ.out.ext hX);replace HV7 := hid (HV7.out.ext hX);replace KA := hid (KA.out.ext hX);replace KR := hid (KR.out.ext hX);clear hX;have HV8 := hid (h8 rfl);clear h8;obtain ⟨A7, l7, c7, rfl, hv7, _⟩ := W32.open HV7.out;obtain ⟨A8, l8, c8, rfl, hv8, _⟩ := W32.open HV8.out;clear HV7 HV8;have HU7 := hid (W32.boxed hv7 (NoInts.three KR.out) s0 A7 A8 l7 c7 l8 c8);have HU8 := hid (W32.boxed hv8 (NoInts.three KR.out) s0 A7 A8 l7 c7 l8 c8);clear hv7 hv8;have cA0 : w3.cell? ⟨w.heap.size, 0, none⟩ = some (.bool s0) := KA.out.cell 0;have cA1 : w3.cell? ⟨w.heap.size, 1, none⟩ = some (.slice A0 l0 c0) := KA.out.cell 1;have cA2 : w3.cell? ⟨w.heap.size, 2, none⟩ = some (.slice B0 m0 k0) := KA.out.cell 2;have cR0 : w3.cell? ⟨(w.heap.size + 1), 0, none⟩ = some (.bool false) := KR.out.cell 0;have fR0 : w3.frozen? ⟨(w.heap.size + 1), 0, none⟩ = false := KR.out.free 0;have cR1 : w3.cell? ⟨(w.heap.size + 1), 1, none⟩ = some (.slice none 0 0) := KR.out.cell 1;have fR1 : w3.frozen? ⟨(w.heap.size + 1), 1, none⟩ = false := KR.out.free 1;have cR2 : w3.cell? ⟨(w.heap.size + 1), 2, none⟩ = some (.slice none 0 0) := KR.out.cell 2;have fR2 : w3.frozen? ⟨(w.heap.size + 1), 2, none⟩ = false := KR.out.free 2;go_wp2;refine bodyPost_ret (v := .tuple #[.agg #[.bool s0, .slice A7 l7 c7, .slice A8 l8 c8], .int .i64 0]) (by simp [results, Try.results139, go_sem, *]) rfl ?_;exact ⟨_, _, _, _, _, _, rfl, HU7.out, HU8.out, Ext.boxed HX.out (by omega) _ _ _⟩
theorem nW (s0 : Bool) (A0 B0 : Option Addr) (l0 c0 m0 k0 : Nat) (n d : Nat) (w : World) (hI : Z16 w (.slice A0 l0 c0) n) (hJ : Z16 w (.slice B0 m0 k0) d) (ha : bG n) (hb : bG d) (hm : m0 = 1) (hd : d ≠ 1) :
  Calls Try.prog 139 #[.agg #[.bool s0, .slice A0 l0 c0, .slice B0 m0 k0]] w (fun e w' => ∃ A9 l9 c9 B9 m9 k9, e = .returned (.tuple #[.agg #[.bool s0, .slice A9 l9 c9, .slice B9 m9 k9], .int .i64 0]) /\ W32 w' (.slice A9 l9 c9) n /\ W32 w' (.slice B9 m9 k9) d /\ Ext w w') := by
 have H0 := hid ha;have H1 := hid hb;clear ha hb;have HI := hid hI;have HJ := hid hJ;obtain ⟨b1, o1, x1, hB, hc1, hx1⟩ := nT hJ hm hd;subst hB;subst hm;clear hI hJ;have hXe : Ext w ((w.alloc (.cells #[.bool s0, .slice A0 l0 c0, .slice (some ⟨b1, o1, none⟩) 1 k0] 65)).alloc (.cells #[.bool false, .slice none 0 0, .slice none 0 0] 97)) := (((Ext.refl w).alloc _).alloc _);have kA : Blk ((w.alloc (.cells #[.bool s0, .slice A0 l0 c0, .slice (some ⟨b1, o1, none⟩) 1 k0] 65)).alloc (.cells #[.bool false, .slice none 0 0, .slice none 0 0] 97)) w.heap.size 65 #[.bool s0, .slice A0 l0 c0, .slice (some ⟨b1, o1, none⟩) 1 k0] := Blk.alloc (Blk.at_ (by simp)) _;have kR : Blk ((w.alloc (.cells #[.bool s0, .slice A0 l0 c0, .slice (some ⟨b1, o1, none⟩) 1 k0] 65)).alloc (.cells #[.bool false, .slice none 0 0, .slice none 0 0] 97)) (w.heap.size + 1) 97 #[.bool false, .slice none 0 0, .slice none 0 0] := Blk.at_ (by simp);go_enter Try.func139, Try.ntmps139
 go_wp2_with fail
 generalize ((w.alloc _).alloc _) = w1 at hXe kA kR |-;have HX := hid hXe;clear hXe;have KA := hid kA;clear kA;have KR := hid kR;clear kR;replace HI := hid (HI.out.ext HX.out);replace HJ := hid (HJ.out.ext HX.out);have hc0 := hc1;clear hc1;have cA0 : w1.cell? ⟨w.heap.size, 0, none⟩ = some (.bool s0) := KA.out.cell 0;have cA1 : w1.cell? ⟨w.heap.size, 1, none⟩ = some (.slice A0 l0 c0) := KA.out.cell 1;have cA2 : w1.cell? ⟨w.heap.size, 2, none⟩ = some (.slice (some ⟨b1, o1, none⟩) 1 k0) := KA.out.cell 2
 go_wp2_with fail
 clear cA0 cA1 cA2;refine (dx true _ n _ HI.out ⟨fun _ => H0.out, fun _ => rfl⟩).mono ?_;rintro e w2 ⟨v7, rfl, h7, hX⟩;replace hX : Ext w1 w2 := by with_reducible exact hX
 replace HX := hid (HX.out.trans hX);replace HI := hid (HI.out.ext hX);replace HJ := hid (HJ.out.ext hX);replace KA := hid (KA.out.ext hX);replace KR := hid (KR.out.ext hX);clear hX;have HV7 : Hid (W32 w2 v7 n) := h7 rfl;clear h7;have cA0 : w2.cell? ⟨w.heap.size, 0, none⟩ = some (.bool s0) := KA.out.cell 0;have cA1 : w2.cell? ⟨w.heap.size, 1, none⟩ = some (.slice A0 l0 c0) := KA.out.cell 1;have cA2 : w2.cell? ⟨w.heap.size, 2, none⟩ = some (.slice (some ⟨b1, o1, none⟩) 1 k0) := KA.out.cell 2
 go_wp2_with fail
 clear cA0 cA1 cA2;refine (dx true _ d _ HJ.out ⟨fun _ => H1.out, fun _ => rfl⟩).mono ?_;rintro e w3 ⟨v8, rfl, h8, hX⟩;replace hX : Ext w2 w3 := by with_reducible exact hX
 replace HX := hid (HX.out.trans hX);replace HI := hid (HI.out.ext hX);replace HJ := hid (HJ.out.ext hX);replace HV7 := hid (HV7.out.ext hX);replace KA := hid (KA.out.ext hX);replace KR := hid (KR.out.ext hX);clear hX;have HV8 := hid (h8 rfl);clear h8;obtain ⟨A7, l7, c7, rfl, hv7, _⟩ := W32.open HV7.out;obtain ⟨A8, l8, c8, rfl, hv8, _⟩ := W32.open HV8.out;clear HV7 HV8;have HU7 := hid (W32.boxed hv7 (NoInts.three KR.out) s0 A7 A8 l7 c7 l8 c8);have HU8 := hid (W32.boxed hv8 (NoInts.three KR.out) s0 A7 A8 l7 c7 l8 c8);clear hv7 hv8;have hc2 := HX.out.cell hc0;clear hc0;have cA0 : w3.cell? ⟨w.heap.size, 0, none⟩ = some (.bool s0) := KA.out.cell 0;have cA1 : w3.cell? ⟨w.heap.size, 1, none⟩ = some (.slice A0 l0 c0) := KA.out.cell 1;have cA2 : w3.cell? ⟨w.heap.size, 2, none⟩ = some (.slice (some ⟨b1, o1, none⟩) 1 k0) := KA.out.cell 2;have cR0 : w3.cell? ⟨(w.heap.size + 1), 0, none⟩ = some (.bool false) := KR.out.cell 0;have fR0 : w3.frozen? ⟨(w.heap.size + 1), 0, none⟩ = false := KR.out.free 0;have cR1 : w3.cell? ⟨(w.heap.size + 1), 1, none⟩ = some (.slice none 0 0) := KR.out.cell 1;have fR1 : w3.frozen? ⟨(w.heap.size + 1), 1, none⟩ = false := KR.out.free 1;have cR2 : w3.cell? ⟨(w.heap.size + 1), 2, none⟩ = some (.slice none 0 0) := KR.out.cell 2;have fR2 : w3.frozen? ⟨(w.heap.size + 1), 2, none⟩ = false := KR.out.free 2;go_wp2;refine bodyPost_ret (v := .tuple #[.agg #[.bool s0, .slice A7 l7 c7, .slice A8 l8 c8], .int .i64 0]) (by simp [results, Try.results139, go_sem, *]) rfl ?_;exact ⟨_, _, _, _, _, _, rfl, HU7.out, HU8.out, Ext.boxed HX.out (by omega) _ _ _⟩
theorem nX {w : World} {v : Value} {q : Rat} (h : QZ w v q) (hf : FitQW q) : Calls Try.prog 139 #[v] w (pC w q) := by
 obtain ⟨b, A, l, c, B, m, k, rfl, rfl, h1, h2⟩ := h
 by_cases hd : q.den = 1
 .
  refine (nU _ A B l c m k _ _ w h1 h2 hf.1 hf.2 hd).mono ?_;rintro e w' ⟨A9, l9, c9, B9, m9, k9, rfl, ⟨A', l', c', xs, e, hI, hr, hc⟩, ⟨rfl, rfl, rfl⟩, hX⟩;injection e with e1 e2 e3;subst e1 e2 e3;exact ⟨_, rfl, ⟨xs, [], ⟨_, _, _, _, _, _, rfl, hI, hc.1, hc.2, Ints.nil, by omega, by omega⟩, hr, .inl ⟨hd, rfl⟩⟩, hX⟩
 .
  have fin : ∀ e w', (∃ A9 l9 c9 B9 m9 k9, e = .returned (.tuple #[.agg #[.bool (decide (q.num < 0)), .slice A9 l9 c9, .slice B9 m9 k9], .int .i64 0]) /\ W32 w' (.slice A9 l9 c9) q.num.natAbs /\ W32 w' (.slice B9 m9 k9) q.den /\ Ext w w') -> pC w q e w' := by
   rintro e w' ⟨A9, l9, c9, B9, m9, k9, rfl, ⟨A', l', c', xs, e, hI, hr, hc⟩, ⟨B', m', k', ys, e', hJ, hs, hk⟩, hX⟩;injection e with e1 e2 e3;subst e1 e2 e3;injection e' with e1 e2 e3;subst e1 e2 e3;exact ⟨_, rfl, ⟨xs, ys, ⟨_, _, _, _, _, _, rfl, hI, hc.1, hc.2, hJ, hk.1, hk.2⟩, hr, .inr ⟨hd, hs⟩⟩, hX⟩
  by_cases hm : m = 1
  .
   exact (nW _ A B l c m k _ _ w h1 h2 hf.1 hf.2 hm hd).mono fin
  .
   exact (nV _ A B l c m k _ _ w h1 h2 hf.1 hf.2 hm).mono fin
theorem nY {w : World} {s s' : Bool} {A B A' B' : Option Addr} {l c m k l' c' m' k' : Nat} {q : Rat} (h : RatC w (.agg #[.bool s, .slice A l c, .slice B m k]) q) (h' : RatC w (.agg #[.bool s', .slice A' l' c', .slice B' m' k']) q) :
  s' = s /\ l' = l /\ m' = m /\ ∃ xs ys, Ints .u32 w A l xs /\ Ints .u32 w A' l xs /\ Ints .u32 w B m ys /\ Ints .u32 w B' m ys /\ l <= 9223372036854775807 /\ m <= 9223372036854775807 := by
 obtain ⟨xs, ys, ⟨A1, l1, c1, B1, m1, k1, e, h1, h2, h3, h4, h5, h6⟩, hx, hy⟩ := h;obtain ⟨xs', ys', ⟨A2, l2, c2, B2, m2, k2, e', g1, g2, g3, g4, g5, g6⟩, hx', hy'⟩ := h';simp only [Value.agg.injEq, Array.mk.injEq, List.cons.injEq, Value.bool.injEq, Value.slice.injEq, and_true] at e e';obtain ⟨rfl, ⟨rfl, rfl, rfl⟩, rfl, rfl, rfl⟩ := e;obtain ⟨rfl, ⟨rfl, rfl, rfl⟩, rfl, rfl, rfl⟩ := e';obtain rfl := hx.unique (by omega) hx'
 have hyy : ys = ys' := by
  rcases hy with ⟨a, b⟩ | ⟨a, b⟩ <;> rcases hy' with ⟨a', b'⟩ | ⟨a', b'⟩
  .
   rw [b, b']
  .
   exact absurd a a'
  .
   exact absurd a' a
  .
   exact b.unique (by omega) b'
 subst hyy;have e1 := h1.1;have e2 := g1.1;have e3 := h4.1;have e4 := g4.1;have z1 : l' = l := by omega
 have z2 : m' = m := by omega
 subst z1 z2;exact ⟨rfl, rfl, rfl, xs, ys, h1, g1, h4, g4, by omega, by omega⟩
theorem rx (s0 s1 : Bool) (A0 B0 A1 B1 : Option Addr) (l0 c0 m0 k0 l1 c1 m1 k1 : Nat) (q : Rat) (w : World) (hx : RatC w (.agg #[.bool s0, .slice A0 l0 c0, .slice B0 m0 k0]) q) (hy : QZ w (.agg #[.bool s1, .slice A1 l1 c1, .slice B1 m1 k1]) q) (hf : FitQW q) :
  Calls Try.prog 59 #[.agg #[.bool s0, .slice A0 l0 c0, .slice B0 m0 k0], .agg #[.bool s1, .slice A1 l1 c1, .slice B1 m1 k1]] w (fun e w' => e = .returned (.bool true) /\ Ext w w') := by
 have HXX := hid hx;have HYY := hid hy;have HF := hid hf;clear hx hy hf;have hXe : Ext w ((w.alloc (.cells #[.bool s0, .slice A0 l0 c0, .slice B0 m0 k0] 97)).alloc (.cells #[.bool s1, .slice A1 l1 c1, .slice B1 m1 k1] 65)) := (((Ext.refl w).alloc _).alloc _);have kA : Blk ((w.alloc (.cells #[.bool s0, .slice A0 l0 c0, .slice B0 m0 k0] 97)).alloc (.cells #[.bool s1, .slice A1 l1 c1, .slice B1 m1 k1] 65)) w.heap.size 97 #[.bool s0, .slice A0 l0 c0, .slice B0 m0 k0] := Blk.alloc (Blk.at_ (by simp)) _;have kB : Blk ((w.alloc (.cells #[.bool s0, .slice A0 l0 c0, .slice B0 m0 k0] 97)).alloc (.cells #[.bool s1, .slice A1 l1 c1, .slice B1 m1 k1] 65)) (w.heap.size + 1) 65 #[.bool s1, .slice A1 l1 c1, .slice B1 m1 k1] := Blk.at_ (by simp);go_enter Try.func59, Try.ntmps59
 go_wp2_with fail
 generalize ((w.alloc _).alloc _) = w1 at hXe kA kB |-;have HX := hid hXe;clear hXe;have KA := hid kA;clear kA;have KB := hid kB;clear kB;replace HXX := hid (HXX.out.ext HX.out);replace HYY := hid (HYY.out.ext HX.out);have cB0 : w1.cell? ⟨(w.heap.size + 1), 0, none⟩ = some (.bool s1) := KB.out.cell 0;have cB1 : w1.cell? ⟨(w.heap.size + 1), 1, none⟩ = some (.slice A1 l1 c1) := KB.out.cell 1;have cB2 : w1.cell? ⟨(w.heap.size + 1), 2, none⟩ = some (.slice B1 m1 k1) := KB.out.cell 2
 go_wp2_with fail
 clear cB0 cB1 cB2;refine (nX HYY.out HF.out).mono ?_;rintro e w2 ⟨v9, rfl, h9, hX⟩;replace hX : Ext w1 w2 := by with_reducible exact hX
 replace HX := hid (HX.out.trans hX);replace HXX := hid (HXX.out.ext hX);replace HYY := hid (HYY.out.ext hX);replace KA := hid (KA.out.ext hX);replace KB := hid (KB.out.ext hX);clear hX;obtain ⟨s9, A9, l9, c9, B9, m9, k9, rfl⟩ := h9.open;obtain ⟨rfl, rfl, rfl, xs, ys, x0, x9, y0, y9, hl0, hm0⟩ := nY HXX.out h9;have X0 := hid x0;have X1 := hid x9;have Y0 := hid y0;have Y1 := hid y9;clear x0 x9 y0 y9 h9;clear HXX;clear HYY;clear KB
 go_upto_region 2 with (fail)
 have hXa : Ext w2 (w2.alloc (.cells #[.bool s9, .slice A9 l9 c9, .slice B9 m9 k9] 97)) := (Ext.refl _).alloc _;have kY := Blk.new w2 97 #[.bool s9, .slice A9 l9 c9, .slice B9 m9 k9];have zA := KA.out.lt;have zg := HX.out.size;replace HX := hid (HX.out.trans hXa);replace X0 := hid (X0.out.ext hXa);replace X1 := hid (X1.out.ext hXa);replace Y0 := hid (Y0.out.ext hXa);replace Y1 := hid (Y1.out.ext hXa);replace KA := hid (KA.out.ext hXa);generalize (w2.alloc _) = w3 at HX X0 X1 Y0 Y1 KA kY |-;have KY := hid kY;clear kY hXa;obtain ⟨gy, hgy⟩ : ∃ g, w2.heap.size = g := ⟨_, rfl⟩;rw [hgy] at KY |-;clear hgy;have cA0 : w3.cell? ⟨w.heap.size, 0, none⟩ = some (.bool s9) := KA.out.cell 0;have cA1 : w3.cell? ⟨w.heap.size, 1, none⟩ = some (.slice A0 l9 c0) := KA.out.cell 1;have cA2 : w3.cell? ⟨w.heap.size, 2, none⟩ = some (.slice B0 m9 k0) := KA.out.cell 2;have cY0 : w3.cell? ⟨gy, 0, none⟩ = some (.bool s9) := KY.out.cell 0;have cY1 : w3.cell? ⟨gy, 1, none⟩ = some (.slice A9 l9 c9) := KY.out.cell 1;have cY2 : w3.cell? ⟨gy, 2, none⟩ = some (.slice B9 m9 k9) := KY.out.cell 2
 go_wp2_with fail
 clear cA0 cA1 cA2 cY0 cY1 cY2
 go_loopg [7] l9 (fun g' i wr => ∃ k : Nat, g' = l9 - k /\ k <= l9 /\ i = .int .i64 (k : Int) /\ Hid (Blk wr w.heap.size 97 #[.bool s9, .slice A0 l9 c0, .slice B0 m9 k0]) /\ Hid (Blk wr gy 97 #[.bool s9, .slice A9 l9 c9, .slice B9 m9 k9]) /\ Hid (Ext w3 wr) /\ Hid (Ext w wr))
 case atStart => exact ⟨0, rfl, by omega, rfl, KA.out, KY.out, Ext.refl _, HX.out⟩
 case round =>
  clear KA KY HX;obtain ⟨k, rfl, hk, rfl, KA, KY, HE, HX⟩ := hrel;have cA0 : wr.cell? ⟨w.heap.size, 1, none⟩ = some (.slice A0 l9 c0) := KA.out.cell 1;have cA1 : wr.cell? ⟨w.heap.size, 2, none⟩ = some (.slice B0 m9 k0) := KA.out.cell 2;have cB0 : wr.cell? ⟨gy, 1, none⟩ = some (.slice A9 l9 c9) := KY.out.cell 1;have cB1 : wr.cell? ⟨gy, 2, none⟩ = some (.slice B9 m9 k9) := KY.out.cell 2
  by_cases hlt : k < l9
  .
   have hI : (k : Int) < (l9 : Int) := by omega
   have h0 : (0 : Int) <= (k : Int) := by omega
   obtain ⟨b0, o0, x0, hA0, hx0, hw0, hc0⟩ := X0.out.get hlt;obtain ⟨b1, o1, x1, hA1, hx1, hw1, hc1⟩ := X1.out.get hlt;have hxx : x1 = x0 := by rw [hx0] at hx1; injection hx1 with h; exact h.symm
   subst hxx;subst hA0 hA1;have d0 := HE.out.cell hc0;have d1 := HE.out.cell hc1;obtain ⟨u0, u1⟩ := ah hw0;clear hx0 hx1 hw0 hw1 hc0 hc1;go_wp2
   go_quiet (fail)
   go_wp2;go_roundg (l9 - (k + 1))
   case rel => exact ⟨k + 1, rfl, by omega, by go_num, KA.out.drewN _, KY.out.drewN _, HE.out.drewN _, HX.out.drewN _⟩
   case measure => omega
  .
   obtain rfl : l9 = k := by omega
   go_wp2_with fail
   obtain ⟨wo, rfl⟩ : ∃ wo : World, wo = wr := ⟨_, rfl⟩;clear cA0 cA1 cB0 cB1
   go_loopg [8] m9 (fun g' i wr => ∃ k : Nat, g' = m9 - k /\ k <= m9 /\ i = .int .i64 (k : Int) /\ Hid (Blk wr w.heap.size 97 #[.bool s9, .slice A0 l9 c0, .slice B0 m9 k0]) /\ Hid (Blk wr gy 97 #[.bool s9, .slice A9 l9 c9, .slice B9 m9 k9]) /\ Hid (Ext w3 wr) /\ Hid (Ext w wr))
   case atStart => exact ⟨0, rfl, by omega, rfl, KA.out, KY.out, HE.out, HX.out⟩
   case round =>
    clear KA KY HX HE;obtain ⟨k, rfl, hk, rfl, KA, KY, HE, HX⟩ := hrel;have cA0 : wr.cell? ⟨w.heap.size, 1, none⟩ = some (.slice A0 l9 c0) := KA.out.cell 1;have cA1 : wr.cell? ⟨w.heap.size, 2, none⟩ = some (.slice B0 m9 k0) := KA.out.cell 2;have cB0 : wr.cell? ⟨gy, 1, none⟩ = some (.slice A9 l9 c9) := KY.out.cell 1;have cB1 : wr.cell? ⟨gy, 2, none⟩ = some (.slice B9 m9 k9) := KY.out.cell 2
    by_cases hlt : k < m9
    .
     have hI : (k : Int) < (m9 : Int) := by omega
     have h0 : (0 : Int) <= (k : Int) := by omega
     obtain ⟨b0, o0, x0, hA0, hx0, hw0, hc0⟩ := Y0.out.get hlt;obtain ⟨b1, o1, x1, hA1, hx1, hw1, hc1⟩ := Y1.out.get hlt;have hxx : x1 = x0 := by rw [hx0] at hx1; injection hx1 with h; exact h.symm
     subst hxx;subst hA0 hA1;have d0 := HE.out.cell hc0;have d1 := HE.out.cell hc1;obtain ⟨u0, u1⟩ := ah hw0;clear hx0 hx1 hw0 hw1 hc0 hc1;go_wp2
     go_quiet (fail)
     go_wp2;go_roundg (m9 - (k + 1))
     case rel => exact ⟨k + 1, rfl, by omega, by go_num, KA.out.drewN _, KY.out.drewN _, HE.out.drewN _, HX.out.drewN _⟩
     case measure => omega
    .
     obtain rfl : m9 = k := by omega
     go_wp2;go_ret
     exact ⟨rfl, HX.out⟩
theorem ed {w : World} {vx va : Value} {q : Rat} (h : RatC w vx q) (k : QZ w va q) (hf : FitQW q) : Calls Try.prog 59 #[vx, va] w fun e w' => e = .returned (.bool true) /\ Ext w w' := by
 obtain ⟨s0, A0, l0, c0, B0, m0, k0, rfl⟩ := h.open;obtain ⟨s1, A1, l1, c1, B1, m1, k1, rfl⟩ := k.open;exact rx s0 s1 A0 B0 A1 B1 l0 c0 m0 k0 l1 c1 m1 k1 q w h k hf
theorem nZ {n : Int} {L : Nat} (h : Fit 4294967296 n.natAbs L) (hL : 0 < L) : FitQ ((n : Int) : Rat) L := by
 refine ⟨by rw [Rat.num_intCast]; exact h, ?_⟩;rw [Rat.den_intCast];exact Fit.one (by omega) hL
theorem ft {n : Int} (_h0 : -9223372036854775808 <= n) (_h1 : n <= 9223372036854775807) : FitQ ((n : Int) : Rat) 2 := by
 refine nZ ?_ (by omega);unfold Fit;have : (4294967296 : Int) ^ 2 = 18446744073709551616 := by decide
 omega
theorem bd (q : Rat) : (q < 0 /\ cE q = -1) \/ (q = 0 /\ cE q = 0) \/ (0 < q /\ cE q = 1) := by
 unfold cE
 by_cases h1 : q.num < 0
 .
  left
  refine ⟨?_, by simp [h1]⟩;apply Rat.not_le.1;intro h;have := Rat.num_nonneg.2 h;omega
 .
  by_cases h2 : q.num = 0
  .
   right; left
   exact ⟨Rat.num_eq_zero.1 h2, by simp [h2]⟩
  .
   right; right
   refine ⟨?_, by simp [h1, h2]⟩;apply Rat.not_le.1;intro h;have h3 : 0 <= (-q).num := Rat.num_nonneg.2 (by grind);rw [Rat.neg_num] at h3;omega
/-- The block of a row holds no integers. -/
def RowNI (w : World) (v : Value) : Prop := ∀ g, v.ownBlock = some g -> NoInts w g
theorem fL {z : Array Value} {n : Nat} {u : Value} (hz : 0 < z.size) (h : u ∈ Builtin.zeroCells z n) : u ∈ z := by
 unfold Builtin.zeroCells at h;simp only [Array.mem_map] at h;obtain ⟨i, _, rfl⟩ := h;have hi : i % z.size < z.size := Nat.mod_lt _ hz;rw [getElem!_pos z (i % z.size) hi];exact Array.getElem_mem hi
section
variable {P : Program}
theorem jI (w : World) {t e : TypeId} {size bytes : Nat} {z : Value} (E : Elem P t e size bytes z) (ty : TypeId) (base : Nat) (v : Value) (n : Nat) (xs : List Value) (hown : w.ownsRow base e size v n xs) (hN : RowNI w v) (hzn : ∀ u ∈ z.cells, bC u)
  (ad : Addr) (m c : Nat) (news : List Value) (hl : news.length = m * size) (hat : At w (some ad) news) (h1 : ∀ u ∈ news, u.oneCell' = true) (hnn : ∀ u ∈ news, bC u) (hm : 0 < m)
  (hbytes : (n + m) * bytes <= 140737488355328) (h63 : n + m <= maxLen) (hbase : base <= w.heap.size) :
  ∃ v' w', (Builtin.append_ #[t, t] ty #[v, .slice (some ad) m c]).run P w = .ok v' w' /\ w'.ownsRow base e size v' (n + m) (xs ++ news) /\ w.grownBy w' v.ownBlock /\ (v'.ownBlock = v.ownBlock \/ v'.ownBlock = some w.heap.size) /\ RowNI w' v' := by
 obtain ⟨i, hi, hz, hs, hb⟩ := E.info;have hnews : ∀ j u, news[j]? = some u -> w.cell? (ad.add j) = some u := hat.add ad rfl;obtain ⟨v', w', hr, h2, h3, _, h5⟩ := run_append_own_at (P := P) w base t ty e i z size bytes E.und hi hz hs hb E.cells E.pos v n xs hown ad m c news hl hnews h1 h63 hbytes hbase;refine ⟨v', w', hr, h2, h3, h5, ?_⟩;have hzc : 0 < z.cells.size := by rw [E.cells]; exact E.pos
 have hmax : n + m <= 9223372036854775807 := by simp only [maxLen] at h63; omega
 have new : ∀ (ys : Array Value) (k : Nat), (∀ u ∈ ys, bC u) -> v' = .slice (some ⟨w.heap.size, 0, none⟩) (n + m) k -> w' = w.drew.alloc (.cells (ys ++ Builtin.zeroCells z.cells (k - (n + m))) e) -> RowNI w' v' := by
  rintro ys k hys rfl rfl g hg;obtain rfl : w.heap.size = g := by simpa [Value.ownBlock] using hg
  refine ⟨_, _, heap_alloc_new w.drew _, fun u hu => ?_⟩
  rcases Array.mem_append.1 hu with h | h
  .
   exact hys u h
  .
   exact hzn u (fL hzc h)
 rcases hown.2 with ⟨rfl, rfl⟩ | ⟨g0, cap, cur, rfl, hbg, hg, hnc, hcm, hcs, htake⟩
 .
  have hr' := run_append_nil (P := P) w t ty e i z E.und hi hz ad m c news (by rw [hs]; exact hl) hnews hm (by omega) (by rw [hb]; have hb' := hbytes; simp only [Nat.zero_add] at hb'; omega);rw [hr'] at hr;injection hr with e1 e2;refine new news.toArray (grownCap w m 0 e) (fun u hu => hnn u (by simpa using hu)) (by rw [<- e1, Nat.zero_add]) (by rw [<- e2, Nat.zero_add])
 .
  obtain ⟨t0, cs0, hB, hcs0⟩ := hN g0 rfl
  have hcur : ∀ u ∈ cur.toList, bC u := by
   have h : some (Obj.cells cur e (0, 0)) = some (Obj.cells cs0 t0 (0, 0)) := hg.symm.trans hB;injection h with h;injection h with e1 e2;subst e1;exact fun u hu => hcs0 u (by simpa using hu)
  have hxs : ∀ u ∈ xs, bC u := fun u hu => by
   rw [<- htake] at hu;exact hcur u (List.mem_of_mem_take hu)
  by_cases hroom : n + m <= cap
  .
   have hfit : n * i.size + news.length <= cur.size := by rw [hs, hl, hcs, <- Nat.add_mul]; exact Nat.mul_le_mul_right _ hroom
   have hr' := run_append_room (P := P) w t ty e i E.und hi g0 n cap cur hg ad m c news (by rw [hs]; exact hl) hnews h1 hroom hfit;rw [hr'] at hr;injection hr with e1 e2;subst e1 e2;intro g hgg;obtain rfl : g0 = g := by simpa [Value.ownBlock] using hgg
   refine ⟨_, _, setRow_heap w g0 cur _ e _ hg, fun u hu => ?_⟩;simp only [List.mem_toArray, List.mem_append] at hu
   rcases hu with (h | h) | h
   .
    exact hcur u (List.mem_of_mem_take h)
   .
    exact hnn u h
   .
    exact hcur u (List.mem_of_mem_drop h)
  .
   have hr' := run_append_grow (P := P) w t ty e i z E.und hi hz ⟨g0, 0, none⟩ n cap xs (by rw [hs]; exact hown.1) (hown.cells (g := g0) rfl) ad m c news (by rw [hs]; exact hl) hnews (by omega) (by omega) (by rw [hb]; exact growslice_fits (by omega) hbytes);rw [hr'] at hr;injection hr with e1 e2;refine new (xs.toArray ++ news.toArray) (grownCap w (n + m) cap e) (fun u hu => ?_) e1.symm e2.symm
   rcases Array.mem_append.1 hu with h | h
   .
    exact hxs u (by simpa using h)
   .
    exact hnn u (by simpa using h)
/-- 'append(s, x...)' onto such a row. -/
theorem b7 (w : World) {t e : TypeId} {size bytes : Nat} {z : Value} (E : Elem P t e size bytes z) (hzn : ∀ u ∈ z.cells, bC u) {ops : Array Oper} {rest : List Oper} {o : Oper} {a : Act} {Q : Exit -> Act -> World -> Prop}
  (hgd : o.guard = none) (s x : Operand) (ho : o.op = .call { callee := .builtin .append, args := #[s, x], argTypes := #[t, t] })
  (base : Nat) (v : Value) (n : Nat) (xs : List Value) (hs : a.eval s = v) (hown : w.ownsRow base e size v n xs) (hN : RowNI w v)
  (ad : Addr) (m c : Nat) (news : List Value) (hx : a.eval x = .slice (some ad) m c) (hl : news.length = m * size) (hat : At w (some ad) news) (h1 : ∀ u ∈ news, u.oneCell' = true) (hnn : ∀ u ∈ news, bC u) (hm : 0 < m)
  (hbytes : (n + m) * bytes <= 140737488355328) (h63 : n + m <= maxLen) (hbase : base <= w.heap.size)
  (h : ∀ v' w', w'.ownsRow base e size v' (n + m) (xs ++ news) -> w.grownBy w' v.ownBlock -> RowNI w' v' -> wpList P ops Q rest (a.put o.dst v') w') :
  wpList P ops Q (o :: rest) a w :=
 wpList_plain hgd fun K hK => by
  obtain ⟨v', w', hrun, h2, h3, _, h4⟩ := jI (P := P) w E o.type base v n xs hown hN hzn ad m c news hl hat h1 hnn hm hbytes h63 hbase;unfold Oper.wp execOp;simp only [ho, resolve, invoke, builtin, Sem.run_bind, Sem.run_pure, Result.andThen_ok, List.map_toArray, List.map_cons, List.map_nil, hs, hx, hrun];exact hK _ _ (h v' w' h2 h3 h4)
end
theorem RowNI.ext {w w' : World} {v : Value} (h : RowNI w v) (he : Ext w w') : RowNI w' v := fun g hg => (h g hg).ext he
theorem RowNI.nil (w : World) : RowNI w (.slice none 0 0) := fun g hg => by simp [Value.ownBlock] at hg
end Go.Proofs.Ytikhlcgnlbinfaa
