/- Lemmas of the proof that follows (Moves, part 6): walks of functions by contract, and plain lemmas. Conditions: none. -/
import Derived.Test.YtikhlcgnlbinfaaMovesE
namespace Go.Proofs.Ytikhlcgnlbinfaa
open Lib (hid)
open Go.RowKit
theorem Z16.two {w : World} {v : Value} {n g : Nat} (h : Z16 w v n) (hN : NoInts w g) (b : Bool) (A : Option Addr) (l c : Nat) : Z16 ((w.setCell ⟨g, 0, none⟩ (.bool b)).setCell ⟨g, 1, none⟩ (.slice A l c)) v n :=
 nats_past (nats_past h hN 0 _) (hN.set 0 (noInt_bool _)) 1 _
theorem Z16.box3 {w : World} {v : Value} {n g : Nat} (h : Z16 w v n) (hN : NoInts w g) (b : Bool) (A B : Option Addr) (l c m k : Nat) : Z16 (((w.setCell ⟨g, 0, none⟩ (.bool b)).setCell ⟨g, 1, none⟩ (.slice A l c)).setCell ⟨g, 2, none⟩ (.slice B m k)) v n :=
 nats_past (h.two hN b A l c) ((hN.set 0 (noInt_bool _)).set 1 (noInt_slice _ _ _)) 2 _
theorem Z16.open {w : World} {v : Value} {n : Nat} (h : Z16 w v n) : ∃ A l c, v = .slice A l c ∧ Z16 w (.slice A l c) n ∧ (l = 0 ↔ n = 0) := by
 obtain ⟨A, l, c, xs, rfl, hI, hr, h3⟩ := h
 have hp := hr.pos (by omega)
 rw [← List.length_eq_zero_iff, hI.1] at hp
 exact ⟨A, l, c, rfl, ⟨A, l, c, xs, rfl, hI, hr, h3⟩, by rw [← hp]⟩
/-- What a call returns that makes a sign and limbs. -/
def RetBn (w : World) (b : Bool) (n : Nat) (e : Ending) (w' : World) : Prop := ∃ A l c, e = .returned (.agg #[.bool b, .slice A l c]) ∧ Z16 w' (.slice A l c) n ∧ Ext w w'
set_option maxRecDepth 100000 in
set_option maxHeartbeats 2000000 in
theorem zadd_r2 (ga gb L : Nat) (s0 s1 : Bool) (A0 A1 : Option Addr) (l0 c0 l1 c1 n0 n1 : Nat) (w : World) (x0 : w.cell? ⟨ga, 0, none⟩ = some (.bool s0)) (x1 : w.cell? ⟨ga, 1, none⟩ = some (.slice A0 l0 c0)) (_y0 : w.cell? ⟨gb, 0, none⟩ = some (.bool s1)) (y1 : w.cell? ⟨gb, 1, none⟩ = some (.slice A1 l1 c1)) (hx : Z16 w (.slice A0 l0 c0) n0) (hy : Z16 w (.slice A1 l1 c1) n1) (fn : Fit 65536 n0 L) (fm : Fit 65536 n1 L) (hL : L ≤ 1000000) (a : Act) (Q : Exit → Act → World → Prop) (hsize : 18 ≤ a.tmps.size)
  (s2 : a.tmps[2]? = some (.pointer (some ⟨ga, 0, none⟩)))
  (s3 : a.tmps[3]? = some (.pointer (some ⟨gb, 0, none⟩)))
  (hend : ∀ (xv0 xv1 xv2 xv3 xv4 xv5 xv6 : Value) (W : World), (xv0 = .pointer (some ⟨ga, 0, none⟩)) → (xv1 = .bool s0) → (xv2 = .pointer (some ⟨ga, 1, none⟩)) → (xv3 = .slice A0 l0 c0) → (xv4 = .pointer (some ⟨gb, 1, none⟩)) → (xv5 = .slice A1 l1 c1) → (Z16 W xv6 (n0 + n1)) → Ext w W → wpList Try.prog (rops Try.f114 2).toArray Q ((rops Try.f114 2).drop 7) (((((((a.put (some 11) xv0).put (some 12) xv1).put (some 13) xv2).put (some 14) xv3).put (some 15) xv4).put (some 16) xv5).put (some 17) xv6) W) :
  (Code.region 2 (rops Try.f114 2).toArray true).wp Try.prog Q a w := by
 refine wp_region_k 7 [some 11, some 12, some 13, some 14, some 15, some 16, some 17] [[], [0], [], [2], [], [4], [3, 5]] [eqv (.pointer (some ⟨ga, 0, none⟩)), eqv (.bool s0), eqv (.pointer (some ⟨ga, 1, none⟩)), eqv (.slice A0 l0 c0), eqv (.pointer (some ⟨gb, 1, none⟩)), eqv (.slice A1 l1 c1), fun v W => Z16 W v (n0 + n1)] (by kernel_rfl) (by kernel_rfl) rfl (by decide) hsize ⟨monC, monC, monC, monC, monC, monC, by intro v W W' h hX; exact Z16.ext h hX, trivial⟩ ?_ ?_
 ·
  clear hend
  simp only [rops, Try.f114, regOf, Option.bind_some, Nat.reduceBEq, if_true, if_false, Bool.false_eq_true, Option.getD_some]
  simp only [List.take_succ_cons, List.take_zero]
  refine ⟨?_, ?_, ?_, ?_, ?_, ?_, ?_, trivial⟩
  ·
   rintro us W hJ _ b hb hbz K hK0 hK Qz
   have e2 := (hbz 2 (by simp)).trans s2
   clear hb hbz
   go_simp
   exact hK0 _ rfl
  ·
   rintro us W hJ d0 b hb hbz K hK0 hK Qz
   have e11 := slotV (hb 0 11 rfl) d0
   clear hb hbz d0
   have q := Ext.cell hJ x0
   go_simp
   exact hK0 _ rfl
  ·
   rintro us W hJ _ b hb hbz K hK0 hK Qz
   have e2 := (hbz 2 (by simp)).trans s2
   clear hb hbz
   go_simp
   exact hK0 _ rfl
  ·
   rintro us W hJ d2 b hb hbz K hK0 hK Qz
   have e13 := slotV (hb 2 13 rfl) d2
   clear hb hbz d2
   have q := Ext.cell hJ x1
   go_simp
   exact hK0 _ rfl
  ·
   rintro us W hJ _ b hb hbz K hK0 hK Qz
   have e3 := (hbz 3 (by simp)).trans s3
   clear hb hbz
   go_simp
   exact hK0 _ rfl
  ·
   rintro us W hJ d4 b hb hbz K hK0 hK Qz
   have e15 := slotV (hb 4 15 rfl) d4
   clear hb hbz d4
   have q := Ext.cell hJ y1
   go_simp
   exact hK0 _ rfl
  ·
   rintro us W hJ ⟨d3, d5⟩ b hb hbz K hK0 hK Qz
   have e14 := slotV (hb 3 14 rfl) d3
   have e16 := slotV (hb 5 16 rfl) d5
   clear hb hbz d3 d5
   go_simp
   refine (plus_any _ _ n0 n1 L _ (Z16.ext hx hJ) (Z16.ext hy hJ) fn fm hL).mono ?_
   rintro e w' ⟨v, rfl, hv, hX⟩
   exact hK _ _ hv hX
 ·
  rintro us W ⟨v0, v1, v2, v3, v4, v5, v6, _⟩ hJ
  exact hend _ _ _ _ _ _ _ W v0 v1 v2 v3 v4 v5 v6 hJ
set_option maxRecDepth 100000 in
set_option maxHeartbeats 2000000 in
theorem zadd_r7 (ga gb L : Nat) (s0 s1 : Bool) (A0 A1 : Option Addr) (l0 c0 l1 c1 n0 n1 : Nat) (w : World) (x0 : w.cell? ⟨ga, 0, none⟩ = some (.bool s0)) (x1 : w.cell? ⟨ga, 1, none⟩ = some (.slice A0 l0 c0)) (_y0 : w.cell? ⟨gb, 0, none⟩ = some (.bool s1)) (y1 : w.cell? ⟨gb, 1, none⟩ = some (.slice A1 l1 c1)) (hx : Z16 w (.slice A0 l0 c0) n0) (hy : Z16 w (.slice A1 l1 c1) n1) (fn : Fit 65536 n0 L) (_fm : Fit 65536 n1 L) (hL : L ≤ 1000000) (hm : n1 ≤ n0) (a : Act) (Q : Exit → Act → World → Prop) (hsize : 36 ≤ a.tmps.size)
  (s2 : a.tmps[2]? = some (.pointer (some ⟨ga, 0, none⟩)))
  (s3 : a.tmps[3]? = some (.pointer (some ⟨gb, 0, none⟩)))
  (hend : ∀ (xv0 xv1 xv2 xv3 xv4 xv5 xv6 : Value) (W : World), (xv0 = .pointer (some ⟨ga, 0, none⟩)) → (xv1 = .bool s0) → (xv2 = .pointer (some ⟨ga, 1, none⟩)) → (xv3 = .slice A0 l0 c0) → (xv4 = .pointer (some ⟨gb, 1, none⟩)) → (xv5 = .slice A1 l1 c1) → (Z16 W xv6 (n0 - n1)) → Ext w W → wpList Try.prog (rops Try.f114 7).toArray Q ((rops Try.f114 7).drop 7) (((((((a.put (some 29) xv0).put (some 30) xv1).put (some 31) xv2).put (some 32) xv3).put (some 33) xv4).put (some 34) xv5).put (some 35) xv6) W) :
  (Code.region 7 (rops Try.f114 7).toArray true).wp Try.prog Q a w := by
 refine wp_region_k 7 [some 29, some 30, some 31, some 32, some 33, some 34, some 35] [[], [0], [], [2], [], [4], [3, 5]] [eqv (.pointer (some ⟨ga, 0, none⟩)), eqv (.bool s0), eqv (.pointer (some ⟨ga, 1, none⟩)), eqv (.slice A0 l0 c0), eqv (.pointer (some ⟨gb, 1, none⟩)), eqv (.slice A1 l1 c1), fun v W => Z16 W v (n0 - n1)] (by kernel_rfl) (by kernel_rfl) rfl (by decide) hsize ⟨monC, monC, monC, monC, monC, monC, by intro v W W' h hX; exact Z16.ext h hX, trivial⟩ ?_ ?_
 ·
  clear hend
  simp only [rops, Try.f114, regOf, Option.bind_some, Nat.reduceBEq, if_true, if_false, Bool.false_eq_true, Option.getD_some]
  simp only [List.take_succ_cons, List.take_zero]
  refine ⟨?_, ?_, ?_, ?_, ?_, ?_, ?_, trivial⟩
  ·
   rintro us W hJ _ b hb hbz K hK0 hK Qz
   have e2 := (hbz 2 (by simp)).trans s2
   clear hb hbz
   go_simp
   exact hK0 _ rfl
  ·
   rintro us W hJ d0 b hb hbz K hK0 hK Qz
   have e29 := slotV (hb 0 29 rfl) d0
   clear hb hbz d0
   have q := Ext.cell hJ x0
   go_simp
   exact hK0 _ rfl
  ·
   rintro us W hJ _ b hb hbz K hK0 hK Qz
   have e2 := (hbz 2 (by simp)).trans s2
   clear hb hbz
   go_simp
   exact hK0 _ rfl
  ·
   rintro us W hJ d2 b hb hbz K hK0 hK Qz
   have e31 := slotV (hb 2 31 rfl) d2
   clear hb hbz d2
   have q := Ext.cell hJ x1
   go_simp
   exact hK0 _ rfl
  ·
   rintro us W hJ _ b hb hbz K hK0 hK Qz
   have e3 := (hbz 3 (by simp)).trans s3
   clear hb hbz
   go_simp
   exact hK0 _ rfl
  ·
   rintro us W hJ d4 b hb hbz K hK0 hK Qz
   have e33 := slotV (hb 4 33 rfl) d4
   clear hb hbz d4
   have q := Ext.cell hJ y1
   go_simp
   exact hK0 _ rfl
  ·
   rintro us W hJ ⟨d3, d5⟩ b hb hbz K hK0 hK Qz
   have e32 := slotV (hb 3 32 rfl) d3
   have e34 := slotV (hb 5 34 rfl) d5
   clear hb hbz d3 d5
   go_simp
   refine (less_any _ _ n0 n1 L _ (Z16.ext hx hJ) (Z16.ext hy hJ) fn hL hm).mono ?_
   rintro e w' ⟨v, rfl, hv, hX⟩
   exact hK _ _ hv hX
 ·
  rintro us W ⟨v0, v1, v2, v3, v4, v5, v6, _⟩ hJ
  exact hend _ _ _ _ _ _ _ W v0 v1 v2 v3 v4 v5 v6 hJ
set_option maxRecDepth 100000 in
set_option maxHeartbeats 2000000 in
theorem zadd_r8 (ga gb L : Nat) (s0 s1 : Bool) (A0 A1 : Option Addr) (l0 c0 l1 c1 n0 n1 : Nat) (w : World) (_x0 : w.cell? ⟨ga, 0, none⟩ = some (.bool s0)) (x1 : w.cell? ⟨ga, 1, none⟩ = some (.slice A0 l0 c0)) (y0 : w.cell? ⟨gb, 0, none⟩ = some (.bool s1)) (y1 : w.cell? ⟨gb, 1, none⟩ = some (.slice A1 l1 c1)) (hx : Z16 w (.slice A0 l0 c0) n0) (hy : Z16 w (.slice A1 l1 c1) n1) (_fn : Fit 65536 n0 L) (fm : Fit 65536 n1 L) (hL : L ≤ 1000000) (hm : n0 ≤ n1) (a : Act) (Q : Exit → Act → World → Prop) (hsize : 44 ≤ a.tmps.size)
  (s2 : a.tmps[2]? = some (.pointer (some ⟨ga, 0, none⟩)))
  (s3 : a.tmps[3]? = some (.pointer (some ⟨gb, 0, none⟩)))
  (hend : ∀ (xv0 xv1 xv2 xv3 xv4 xv5 xv6 : Value) (W : World), (xv0 = .pointer (some ⟨gb, 0, none⟩)) → (xv1 = .bool s1) → (xv2 = .pointer (some ⟨gb, 1, none⟩)) → (xv3 = .slice A1 l1 c1) → (xv4 = .pointer (some ⟨ga, 1, none⟩)) → (xv5 = .slice A0 l0 c0) → (Z16 W xv6 (n1 - n0)) → Ext w W → wpList Try.prog (rops Try.f114 8).toArray Q ((rops Try.f114 8).drop 7) (((((((a.put (some 37) xv0).put (some 38) xv1).put (some 39) xv2).put (some 40) xv3).put (some 41) xv4).put (some 42) xv5).put (some 43) xv6) W) :
  (Code.region 8 (rops Try.f114 8).toArray true).wp Try.prog Q a w := by
 refine wp_region_k 7 [some 37, some 38, some 39, some 40, some 41, some 42, some 43] [[], [0], [], [2], [], [4], [3, 5]] [eqv (.pointer (some ⟨gb, 0, none⟩)), eqv (.bool s1), eqv (.pointer (some ⟨gb, 1, none⟩)), eqv (.slice A1 l1 c1), eqv (.pointer (some ⟨ga, 1, none⟩)), eqv (.slice A0 l0 c0), fun v W => Z16 W v (n1 - n0)] (by kernel_rfl) (by kernel_rfl) rfl (by decide) hsize ⟨monC, monC, monC, monC, monC, monC, by intro v W W' h hX; exact Z16.ext h hX, trivial⟩ ?_ ?_
 ·
  clear hend
  simp only [rops, Try.f114, regOf, Option.bind_some, Nat.reduceBEq, if_true, if_false, Bool.false_eq_true, Option.getD_some]
  simp only [List.take_succ_cons, List.take_zero]
  refine ⟨?_, ?_, ?_, ?_, ?_, ?_, ?_, trivial⟩
  ·
   rintro us W hJ _ b hb hbz K hK0 hK Qz
   have e3 := (hbz 3 (by simp)).trans s3
   clear hb hbz
   go_simp
   exact hK0 _ rfl
  ·
   rintro us W hJ d0 b hb hbz K hK0 hK Qz
   have e37 := slotV (hb 0 37 rfl) d0
   clear hb hbz d0
   have q := Ext.cell hJ y0
   go_simp
   exact hK0 _ rfl
  ·
   rintro us W hJ _ b hb hbz K hK0 hK Qz
   have e3 := (hbz 3 (by simp)).trans s3
   clear hb hbz
   go_simp
   exact hK0 _ rfl
  ·
   rintro us W hJ d2 b hb hbz K hK0 hK Qz
   have e39 := slotV (hb 2 39 rfl) d2
   clear hb hbz d2
   have q := Ext.cell hJ y1
   go_simp
   exact hK0 _ rfl
  ·
   rintro us W hJ _ b hb hbz K hK0 hK Qz
   have e2 := (hbz 2 (by simp)).trans s2
   clear hb hbz
   go_simp
   exact hK0 _ rfl
  ·
   rintro us W hJ d4 b hb hbz K hK0 hK Qz
   have e41 := slotV (hb 4 41 rfl) d4
   clear hb hbz d4
   have q := Ext.cell hJ x1
   go_simp
   exact hK0 _ rfl
  ·
   rintro us W hJ ⟨d3, d5⟩ b hb hbz K hK0 hK Qz
   have e40 := slotV (hb 3 40 rfl) d3
   have e42 := slotV (hb 5 42 rfl) d5
   clear hb hbz d3 d5
   go_simp
   refine (less_any _ _ n1 n0 L _ (Z16.ext hy hJ) (Z16.ext hx hJ) fm hL hm).mono ?_
   rintro e w' ⟨v, rfl, hv, hX⟩
   exact hK _ _ hv hX
 ·
  rintro us W ⟨v0, v1, v2, v3, v4, v5, v6, _⟩ hJ
  exact hend _ _ _ _ _ _ _ W v0 v1 v2 v3 v4 v5 v6 hJ
set_option maxRecDepth 100000 in
set_option maxHeartbeats 2000000 in
theorem zadd_same (s0 s1 : Bool) (A0 A1 : Option Addr) (l0 c0 l1 c1 n0 n1 : Nat) (L : Nat) (w : World) (hx : Z16 w (.slice A0 l0 c0) n0) (hy : Z16 w (.slice A1 l1 c1) n1) (fn : Fit 65536 n0 L) (fm : Fit 65536 n1 L) (hL : L ≤ 1000000) (hs : s0 = s1) :
  Calls Try.prog 114 #[.agg #[.bool s0, .slice A0 l0 c0], .agg #[.bool s1, .slice A1 l1 c1]] w (RetBn w s0 (n0 + n1)) := by
 have HXX := hid hx
 have HYY := hid hy
 have HFN := hid fn
 have HFM := hid fm
 clear hx hy fn fm
 have hb : (s0 == s1) = true := by simp [hs]
 have HS := hid hs
 clear hs
 have hXe : Ext w (((w.alloc (.cells #[.bool s0, .slice A0 l0 c0] 63)).alloc (.cells #[.bool s1, .slice A1 l1 c1] 63)).alloc (.cells #[.bool false, .slice none 0 0] 63)) := ((((Ext.refl w).alloc _).alloc _).alloc _)
 have kA : Blk (((w.alloc (.cells #[.bool s0, .slice A0 l0 c0] 63)).alloc (.cells #[.bool s1, .slice A1 l1 c1] 63)).alloc (.cells #[.bool false, .slice none 0 0] 63)) w.heap.size 63 #[.bool s0, .slice A0 l0 c0] := Blk.alloc (Blk.alloc (Blk.at_ (by simp)) _) _
 have kB : Blk (((w.alloc (.cells #[.bool s0, .slice A0 l0 c0] 63)).alloc (.cells #[.bool s1, .slice A1 l1 c1] 63)).alloc (.cells #[.bool false, .slice none 0 0] 63)) (w.heap.size + 1) 63 #[.bool s1, .slice A1 l1 c1] := Blk.alloc (Blk.at_ (by simp)) _
 have kR : Blk (((w.alloc (.cells #[.bool s0, .slice A0 l0 c0] 63)).alloc (.cells #[.bool s1, .slice A1 l1 c1] 63)).alloc (.cells #[.bool false, .slice none 0 0] 63)) (w.heap.size + 2) 63 #[.bool false, .slice none 0 0] := Blk.at_ (by simp)
 go_enter Try.func114, Try.ntmps114
 go_wp2_with fail
 generalize (((w.alloc (.cells #[.bool s0, .slice A0 l0 c0] 63)).alloc (.cells #[.bool s1, .slice A1 l1 c1] 63)).alloc (.cells #[.bool false, .slice none 0 0] 63)) = w1 at hXe kA kB kR ⊢
 have HX := hid hXe
 clear hXe
 have KA := hid kA
 clear kA
 have KB := hid kB
 clear kB
 have KR := hid kR
 clear kR
 replace HXX := hid (HXX.out.ext HX.out)
 replace HYY := hid (HYY.out.ext HX.out)
 have cA0 : w1.cell? ⟨w.heap.size, 0, none⟩ = some (.bool s0) := KA.out.cell 0
 have cA1 : w1.cell? ⟨w.heap.size, 1, none⟩ = some (.slice A0 l0 c0) := KA.out.cell 1
 have cB0 : w1.cell? ⟨(w.heap.size + 1), 0, none⟩ = some (.bool s1) := KB.out.cell 0
 have cB1 : w1.cell? ⟨(w.heap.size + 1), 1, none⟩ = some (.slice A1 l1 c1) := KB.out.cell 1
 go_upto_region 2 with (fail)
 clear cA0 cA1 cB0 cB1
 refine zadd_r2 w.heap.size (w.heap.size + 1) L s0 s1 A0 A1 l0 c0 l1 c1 n0 n1 w1 (KA.out.cell 0) (KA.out.cell 1) (KB.out.cell 0) (KB.out.cell 1) HXX.out HYY.out HFN.out HFM.out hL _ _ (by simp) rfl rfl ?_
 rintro xv0 xv1 xv2 xv3 xv4 xv5 xv6 w2 rfl rfl rfl rfl rfl rfl hv hXW
 simp only [rops, Try.f114, regOf, Option.bind_some, Nat.reduceBEq, if_true, if_false, Bool.false_eq_true, Option.getD_some, List.drop_succ_cons, List.drop_zero]
 simp only [Act.put, List.setIfInBounds_toArray, List.set_cons_succ, List.set_cons_zero]
 replace HX := hid (HX.out.trans hXW)
 replace HXX := hid (HXX.out.ext hXW)
 replace HYY := hid (HYY.out.ext hXW)
 replace KA := hid (KA.out.ext hXW)
 replace KB := hid (KB.out.ext hXW)
 replace KR := hid (KR.out.ext hXW)
 clear hXW
 obtain ⟨A9, l9, c9, rfl, hv9, _⟩ := Z16.open hv
 have HV := hid (Z16.two hv9 (NoInts.two KR.out) s0 A9 l9 c9)
 clear hv hv9
 have cR0 : w2.cell? ⟨(w.heap.size + 2), 0, none⟩ = some (.bool false) := KR.out.cell 0
 have fR0 : w2.frozen? ⟨(w.heap.size + 2), 0, none⟩ = false := KR.out.free 0
 have cR1 : w2.cell? ⟨(w.heap.size + 2), 1, none⟩ = some (.slice none 0 0) := KR.out.cell 1
 have fR1 : w2.frozen? ⟨(w.heap.size + 2), 1, none⟩ = false := KR.out.free 1
 go_wp2
 refine bodyPost_ret (v := .agg #[.bool s0, .slice A9 l9 c9]) (by simp [results, Try.results114, go_sem, *]) rfl ?_
 exact ⟨_, _, _, rfl, HV.out, HX.out.two (by omega) _ _⟩
set_option maxRecDepth 100000 in
set_option maxHeartbeats 2000000 in
theorem zadd_eq (s0 s1 : Bool) (A0 A1 : Option Addr) (l0 c0 l1 c1 n0 n1 : Nat) (L : Nat) (w : World) (hx : Z16 w (.slice A0 l0 c0) n0) (hy : Z16 w (.slice A1 l1 c1) n1) (fn : Fit 65536 n0 L) (fm : Fit 65536 n1 L) (_hL : L ≤ 1000000) (hs : s0 ≠ s1) (hm : n0 = n1) :
  Calls Try.prog 114 #[.agg #[.bool s0, .slice A0 l0 c0], .agg #[.bool s1, .slice A1 l1 c1]] w (RetBn w false 0) := by
 have HXX := hid hx
 have HYY := hid hy
 have HFN := hid fn
 have HFM := hid fm
 clear hx hy fn fm
 have hb : (s0 == s1) = false := by simpa using hs
 have HC : Hid (cmpI n0 n1 = 0) := cmpI_eq hm
 have HM := hid hm
 clear hs hm
 have hXe : Ext w (((w.alloc (.cells #[.bool s0, .slice A0 l0 c0] 63)).alloc (.cells #[.bool s1, .slice A1 l1 c1] 63)).alloc (.cells #[.bool false, .slice none 0 0] 63)) := ((((Ext.refl w).alloc _).alloc _).alloc _)
 have kA : Blk (((w.alloc (.cells #[.bool s0, .slice A0 l0 c0] 63)).alloc (.cells #[.bool s1, .slice A1 l1 c1] 63)).alloc (.cells #[.bool false, .slice none 0 0] 63)) w.heap.size 63 #[.bool s0, .slice A0 l0 c0] := Blk.alloc (Blk.alloc (Blk.at_ (by simp)) _) _
 have kB : Blk (((w.alloc (.cells #[.bool s0, .slice A0 l0 c0] 63)).alloc (.cells #[.bool s1, .slice A1 l1 c1] 63)).alloc (.cells #[.bool false, .slice none 0 0] 63)) (w.heap.size + 1) 63 #[.bool s1, .slice A1 l1 c1] := Blk.alloc (Blk.at_ (by simp)) _
 have kR : Blk (((w.alloc (.cells #[.bool s0, .slice A0 l0 c0] 63)).alloc (.cells #[.bool s1, .slice A1 l1 c1] 63)).alloc (.cells #[.bool false, .slice none 0 0] 63)) (w.heap.size + 2) 63 #[.bool false, .slice none 0 0] := Blk.at_ (by simp)
 go_enter Try.func114, Try.ntmps114
 go_wp2_with fail
 generalize (((w.alloc (.cells #[.bool s0, .slice A0 l0 c0] 63)).alloc (.cells #[.bool s1, .slice A1 l1 c1] 63)).alloc (.cells #[.bool false, .slice none 0 0] 63)) = w1 at hXe kA kB kR ⊢
 have HX := hid hXe
 clear hXe
 have KA := hid kA
 clear kA
 have KB := hid kB
 clear kB
 have KR := hid kR
 clear kR
 replace HXX := hid (HXX.out.ext HX.out)
 replace HYY := hid (HYY.out.ext HX.out)
 have cA0 : w1.cell? ⟨w.heap.size, 0, none⟩ = some (.bool s0) := KA.out.cell 0
 have cA1 : w1.cell? ⟨w.heap.size, 1, none⟩ = some (.slice A0 l0 c0) := KA.out.cell 1
 have cB0 : w1.cell? ⟨(w.heap.size + 1), 0, none⟩ = some (.bool s1) := KB.out.cell 0
 have cB1 : w1.cell? ⟨(w.heap.size + 1), 1, none⟩ = some (.slice A1 l1 c1) := KB.out.cell 1
 go_wp2_with fail
 clear cA0 cA1 cB0 cB1
 refine (compare_any _ _ n0 n1 _ HXX.out HYY.out).mono ?_
 rw [HC.out]
 rintro e w2 ⟨rfl, hX⟩
 replace hX : Ext w1 w2 := by with_reducible exact hX
 replace HX := hid (HX.out.trans hX)
 replace HXX := hid (HXX.out.ext hX)
 replace HYY := hid (HYY.out.ext hX)
 replace KA := hid (KA.out.ext hX)
 replace KB := hid (KB.out.ext hX)
 replace KR := hid (KR.out.ext hX)
 clear hX
 have cR0 : w2.cell? ⟨(w.heap.size + 2), 0, none⟩ = some (.bool false) := KR.out.cell 0
 have fR0 : w2.frozen? ⟨(w.heap.size + 2), 0, none⟩ = false := KR.out.free 0
 have cR1 : w2.cell? ⟨(w.heap.size + 2), 1, none⟩ = some (.slice none 0 0) := KR.out.cell 1
 have fR1 : w2.frozen? ⟨(w.heap.size + 2), 1, none⟩ = false := KR.out.free 1
 go_wp2
 refine bodyPost_ret (v := .agg #[.bool false, .slice none 0 0]) (by simp [results, Try.results114, go_sem, *]) rfl ?_
 exact ⟨_, _, _, rfl, NatV.zero, HX.out.two (by omega) _ _⟩
set_option maxRecDepth 100000 in
set_option maxHeartbeats 2000000 in
theorem zadd_gt (s0 s1 : Bool) (A0 A1 : Option Addr) (l0 c0 l1 c1 n0 n1 : Nat) (L : Nat) (w : World) (hx : Z16 w (.slice A0 l0 c0) n0) (hy : Z16 w (.slice A1 l1 c1) n1) (fn : Fit 65536 n0 L) (fm : Fit 65536 n1 L) (hL : L ≤ 1000000) (hs : s0 ≠ s1) (hm : n1 < n0) :
  Calls Try.prog 114 #[.agg #[.bool s0, .slice A0 l0 c0], .agg #[.bool s1, .slice A1 l1 c1]] w (RetBn w s0 (n0 - n1)) := by
 have HXX := hid hx
 have HYY := hid hy
 have HFN := hid fn
 have HFM := hid fm
 clear hx hy fn fm
 have hb : (s0 == s1) = false := by simpa using hs
 have HC : Hid (cmpI n0 n1 = 1) := cmpI_gt hm
 have HM := hid hm
 clear hs hm
 have hXe : Ext w (((w.alloc (.cells #[.bool s0, .slice A0 l0 c0] 63)).alloc (.cells #[.bool s1, .slice A1 l1 c1] 63)).alloc (.cells #[.bool false, .slice none 0 0] 63)) := ((((Ext.refl w).alloc _).alloc _).alloc _)
 have kA : Blk (((w.alloc (.cells #[.bool s0, .slice A0 l0 c0] 63)).alloc (.cells #[.bool s1, .slice A1 l1 c1] 63)).alloc (.cells #[.bool false, .slice none 0 0] 63)) w.heap.size 63 #[.bool s0, .slice A0 l0 c0] := Blk.alloc (Blk.alloc (Blk.at_ (by simp)) _) _
 have kB : Blk (((w.alloc (.cells #[.bool s0, .slice A0 l0 c0] 63)).alloc (.cells #[.bool s1, .slice A1 l1 c1] 63)).alloc (.cells #[.bool false, .slice none 0 0] 63)) (w.heap.size + 1) 63 #[.bool s1, .slice A1 l1 c1] := Blk.alloc (Blk.at_ (by simp)) _
 have kR : Blk (((w.alloc (.cells #[.bool s0, .slice A0 l0 c0] 63)).alloc (.cells #[.bool s1, .slice A1 l1 c1] 63)).alloc (.cells #[.bool false, .slice none 0 0] 63)) (w.heap.size + 2) 63 #[.bool false, .slice none 0 0] := Blk.at_ (by simp)
 go_enter Try.func114, Try.ntmps114
 go_wp2_with fail
 generalize (((w.alloc (.cells #[.bool s0, .slice A0 l0 c0] 63)).alloc (.cells #[.bool s1, .slice A1 l1 c1] 63)).alloc (.cells #[.bool false, .slice none 0 0] 63)) = w1 at hXe kA kB kR ⊢
 have HX := hid hXe
 clear hXe
 have KA := hid kA
 clear kA
 have KB := hid kB
 clear kB
 have KR := hid kR
 clear kR
 replace HXX := hid (HXX.out.ext HX.out)
 replace HYY := hid (HYY.out.ext HX.out)
 have cA0 : w1.cell? ⟨w.heap.size, 0, none⟩ = some (.bool s0) := KA.out.cell 0
 have cA1 : w1.cell? ⟨w.heap.size, 1, none⟩ = some (.slice A0 l0 c0) := KA.out.cell 1
 have cB0 : w1.cell? ⟨(w.heap.size + 1), 0, none⟩ = some (.bool s1) := KB.out.cell 0
 have cB1 : w1.cell? ⟨(w.heap.size + 1), 1, none⟩ = some (.slice A1 l1 c1) := KB.out.cell 1
 go_wp2_with fail
 clear cA0 cA1 cB0 cB1
 refine (compare_any _ _ n0 n1 _ HXX.out HYY.out).mono ?_
 rw [HC.out]
 rintro e w2 ⟨rfl, hX⟩
 replace hX : Ext w1 w2 := by with_reducible exact hX
 replace HX := hid (HX.out.trans hX)
 replace HXX := hid (HXX.out.ext hX)
 replace HYY := hid (HYY.out.ext hX)
 replace KA := hid (KA.out.ext hX)
 replace KB := hid (KB.out.ext hX)
 replace KR := hid (KR.out.ext hX)
 clear hX
 have cA0 : w2.cell? ⟨w.heap.size, 0, none⟩ = some (.bool s0) := KA.out.cell 0
 have cA1 : w2.cell? ⟨w.heap.size, 1, none⟩ = some (.slice A0 l0 c0) := KA.out.cell 1
 have cB0 : w2.cell? ⟨(w.heap.size + 1), 0, none⟩ = some (.bool s1) := KB.out.cell 0
 have cB1 : w2.cell? ⟨(w.heap.size + 1), 1, none⟩ = some (.slice A1 l1 c1) := KB.out.cell 1
 go_upto_region 7 with (fail)
 clear cA0 cA1 cB0 cB1
 refine zadd_r7 w.heap.size (w.heap.size + 1) L s0 s1 A0 A1 l0 c0 l1 c1 n0 n1 w2 (KA.out.cell 0) (KA.out.cell 1) (KB.out.cell 0) (KB.out.cell 1) HXX.out HYY.out HFN.out HFM.out hL (Nat.le_of_lt HM.out) _ _ (by simp) rfl rfl ?_
 rintro xv0 xv1 xv2 xv3 xv4 xv5 xv6 w3 rfl rfl rfl rfl rfl rfl hv hXW
 simp only [rops, Try.f114, regOf, Option.bind_some, Nat.reduceBEq, if_true, if_false, Bool.false_eq_true, Option.getD_some, List.drop_succ_cons, List.drop_zero]
 simp only [Act.put, List.setIfInBounds_toArray, List.set_cons_succ, List.set_cons_zero]
 replace HX := hid (HX.out.trans hXW)
 replace HXX := hid (HXX.out.ext hXW)
 replace HYY := hid (HYY.out.ext hXW)
 replace KA := hid (KA.out.ext hXW)
 replace KB := hid (KB.out.ext hXW)
 replace KR := hid (KR.out.ext hXW)
 clear hXW
 obtain ⟨A9, l9, c9, rfl, hv9, _⟩ := Z16.open hv
 have HV := hid (Z16.two hv9 (NoInts.two KR.out) s0 A9 l9 c9)
 clear hv hv9
 have cR0 : w3.cell? ⟨(w.heap.size + 2), 0, none⟩ = some (.bool false) := KR.out.cell 0
 have fR0 : w3.frozen? ⟨(w.heap.size + 2), 0, none⟩ = false := KR.out.free 0
 have cR1 : w3.cell? ⟨(w.heap.size + 2), 1, none⟩ = some (.slice none 0 0) := KR.out.cell 1
 have fR1 : w3.frozen? ⟨(w.heap.size + 2), 1, none⟩ = false := KR.out.free 1
 go_wp2
 refine bodyPost_ret (v := .agg #[.bool s0, .slice A9 l9 c9]) (by simp [results, Try.results114, go_sem, *]) rfl ?_
 exact ⟨_, _, _, rfl, HV.out, HX.out.two (by omega) _ _⟩
set_option maxRecDepth 100000 in
set_option maxHeartbeats 2000000 in
theorem zadd_lt (s0 s1 : Bool) (A0 A1 : Option Addr) (l0 c0 l1 c1 n0 n1 : Nat) (L : Nat) (w : World) (hx : Z16 w (.slice A0 l0 c0) n0) (hy : Z16 w (.slice A1 l1 c1) n1) (fn : Fit 65536 n0 L) (fm : Fit 65536 n1 L) (hL : L ≤ 1000000) (hs : s0 ≠ s1) (hm : n0 < n1) :
  Calls Try.prog 114 #[.agg #[.bool s0, .slice A0 l0 c0], .agg #[.bool s1, .slice A1 l1 c1]] w (RetBn w s1 (n1 - n0)) := by
 have HXX := hid hx
 have HYY := hid hy
 have HFN := hid fn
 have HFM := hid fm
 clear hx hy fn fm
 have hb : (s0 == s1) = false := by simpa using hs
 have HC : Hid (cmpI n0 n1 = -1) := cmpI_lt hm
 have HM := hid hm
 clear hs hm
 have hXe : Ext w (((w.alloc (.cells #[.bool s0, .slice A0 l0 c0] 63)).alloc (.cells #[.bool s1, .slice A1 l1 c1] 63)).alloc (.cells #[.bool false, .slice none 0 0] 63)) := ((((Ext.refl w).alloc _).alloc _).alloc _)
 have kA : Blk (((w.alloc (.cells #[.bool s0, .slice A0 l0 c0] 63)).alloc (.cells #[.bool s1, .slice A1 l1 c1] 63)).alloc (.cells #[.bool false, .slice none 0 0] 63)) w.heap.size 63 #[.bool s0, .slice A0 l0 c0] := Blk.alloc (Blk.alloc (Blk.at_ (by simp)) _) _
 have kB : Blk (((w.alloc (.cells #[.bool s0, .slice A0 l0 c0] 63)).alloc (.cells #[.bool s1, .slice A1 l1 c1] 63)).alloc (.cells #[.bool false, .slice none 0 0] 63)) (w.heap.size + 1) 63 #[.bool s1, .slice A1 l1 c1] := Blk.alloc (Blk.at_ (by simp)) _
 have kR : Blk (((w.alloc (.cells #[.bool s0, .slice A0 l0 c0] 63)).alloc (.cells #[.bool s1, .slice A1 l1 c1] 63)).alloc (.cells #[.bool false, .slice none 0 0] 63)) (w.heap.size + 2) 63 #[.bool false, .slice none 0 0] := Blk.at_ (by simp)
 go_enter Try.func114, Try.ntmps114
 go_wp2_with fail
 generalize (((w.alloc (.cells #[.bool s0, .slice A0 l0 c0] 63)).alloc (.cells #[.bool s1, .slice A1 l1 c1] 63)).alloc (.cells #[.bool false, .slice none 0 0] 63)) = w1 at hXe kA kB kR ⊢
 have HX := hid hXe
 clear hXe
 have KA := hid kA
 clear kA
 have KB := hid kB
 clear kB
 have KR := hid kR
 clear kR
 replace HXX := hid (HXX.out.ext HX.out)
 replace HYY := hid (HYY.out.ext HX.out)
 have cA0 : w1.cell? ⟨w.heap.size, 0, none⟩ = some (.bool s0) := KA.out.cell 0
 have cA1 : w1.cell? ⟨w.heap.size, 1, none⟩ = some (.slice A0 l0 c0) := KA.out.cell 1
 have cB0 : w1.cell? ⟨(w.heap.size + 1), 0, none⟩ = some (.bool s1) := KB.out.cell 0
 have cB1 : w1.cell? ⟨(w.heap.size + 1), 1, none⟩ = some (.slice A1 l1 c1) := KB.out.cell 1
 go_wp2_with fail
 clear cA0 cA1 cB0 cB1
 refine (compare_any _ _ n0 n1 _ HXX.out HYY.out).mono ?_
 rw [HC.out]
 rintro e w2 ⟨rfl, hX⟩
 replace hX : Ext w1 w2 := by with_reducible exact hX
 replace HX := hid (HX.out.trans hX)
 replace HXX := hid (HXX.out.ext hX)
 replace HYY := hid (HYY.out.ext hX)
 replace KA := hid (KA.out.ext hX)
 replace KB := hid (KB.out.ext hX)
 replace KR := hid (KR.out.ext hX)
 clear hX
 have cA0 : w2.cell? ⟨w.heap.size, 0, none⟩ = some (.bool s0) := KA.out.cell 0
 have cA1 : w2.cell? ⟨w.heap.size, 1, none⟩ = some (.slice A0 l0 c0) := KA.out.cell 1
 have cB0 : w2.cell? ⟨(w.heap.size + 1), 0, none⟩ = some (.bool s1) := KB.out.cell 0
 have cB1 : w2.cell? ⟨(w.heap.size + 1), 1, none⟩ = some (.slice A1 l1 c1) := KB.out.cell 1
 go_upto_region 8 with (fail)
 clear cA0 cA1 cB0 cB1
 refine zadd_r8 w.heap.size (w.heap.size + 1) L s0 s1 A0 A1 l0 c0 l1 c1 n0 n1 w2 (KA.out.cell 0) (KA.out.cell 1) (KB.out.cell 0) (KB.out.cell 1) HXX.out HYY.out HFN.out HFM.out hL (Nat.le_of_lt HM.out) _ _ (by simp) rfl rfl ?_
 rintro xv0 xv1 xv2 xv3 xv4 xv5 xv6 w3 rfl rfl rfl rfl rfl rfl hv hXW
 simp only [rops, Try.f114, regOf, Option.bind_some, Nat.reduceBEq, if_true, if_false, Bool.false_eq_true, Option.getD_some, List.drop_succ_cons, List.drop_zero]
 simp only [Act.put, List.setIfInBounds_toArray, List.set_cons_succ, List.set_cons_zero]
 replace HX := hid (HX.out.trans hXW)
 replace HXX := hid (HXX.out.ext hXW)
 replace HYY := hid (HYY.out.ext hXW)
 replace KA := hid (KA.out.ext hXW)
 replace KB := hid (KB.out.ext hXW)
 replace KR := hid (KR.out.ext hXW)
 clear hXW
 obtain ⟨A9, l9, c9, rfl, hv9, _⟩ := Z16.open hv
 have HV := hid (Z16.two hv9 (NoInts.two KR.out) s1 A9 l9 c9)
 clear hv hv9
 have cR0 : w3.cell? ⟨(w.heap.size + 2), 0, none⟩ = some (.bool false) := KR.out.cell 0
 have fR0 : w3.frozen? ⟨(w.heap.size + 2), 0, none⟩ = false := KR.out.free 0
 have cR1 : w3.cell? ⟨(w.heap.size + 2), 1, none⟩ = some (.slice none 0 0) := KR.out.cell 1
 have fR1 : w3.frozen? ⟨(w.heap.size + 2), 1, none⟩ = false := KR.out.free 1
 go_wp2
 refine bodyPost_ret (v := .agg #[.bool s1, .slice A9 l9 c9]) (by simp [results, Try.results114, go_sem, *]) rfl ?_
 exact ⟨_, _, _, rfl, HV.out, HX.out.two (by omega) _ _⟩
theorem zadd_any (va vb : Value) (x y : Int) (L : Nat) (w : World) (ha : IntZ w va x) (hb : IntZ w vb y) (fn : Fit 65536 x.natAbs L) (fm : Fit 65536 y.natAbs L) (hL : L ≤ 1000000) :
  Calls Try.prog 114 #[va, vb] w (RetZ w (x + y)) := by
 obtain ⟨A0, l0, c0, rfl, hx⟩ := ha
 obtain ⟨A1, l1, c1, rfl, hy⟩ := hb
 have fin : ∀ (b : Bool) (n : Nat), b = decide (x + y < 0) → n = (x + y).natAbs → ∀ e w', RetBn w b n e w' → RetZ w (x + y) e w' := by
  rintro b n rfl rfl e w' ⟨A, l, c, rfl, hz, hX⟩
  exact ⟨_, rfl, ⟨A, l, c, rfl, hz⟩, hX⟩
 by_cases hs : decide (x < 0) = decide (y < 0)
 ·
  refine (zadd_same _ _ A0 A1 l0 c0 l1 c1 _ _ L w hx hy fn fm hL hs).mono (fin _ _ ?_ ?_)
  ·
   by_cases h : x < 0 <;> by_cases k : y < 0 <;> simp [h, k] at hs ⊢ <;> omega
  ·
   by_cases h : x < 0 <;> by_cases k : y < 0 <;> simp [h, k] at hs <;> omega
 ·
  rcases Nat.lt_trichotomy x.natAbs y.natAbs with h | h | h
  ·
   refine (zadd_lt _ _ A0 A1 l0 c0 l1 c1 _ _ L w hx hy fn fm hL hs h).mono (fin _ _ ?_ ?_)
   ·
    by_cases h : x < 0 <;> by_cases k : y < 0 <;> simp [h, k] at hs ⊢ <;> omega
   ·
    by_cases h : x < 0 <;> by_cases k : y < 0 <;> simp [h, k] at hs <;> omega
  ·
   refine (zadd_eq _ _ A0 A1 l0 c0 l1 c1 _ _ L w hx hy fn fm hL hs h).mono (fin _ _ ?_ ?_)
   ·
    by_cases h : x < 0 <;> by_cases k : y < 0 <;> simp [h, k] at hs ⊢ <;> omega
   ·
    by_cases h : x < 0 <;> by_cases k : y < 0 <;> simp [h, k] at hs <;> omega
  ·
   refine (zadd_gt _ _ A0 A1 l0 c0 l1 c1 _ _ L w hx hy fn fm hL hs h).mono (fin _ _ ?_ ?_)
   ·
    by_cases h : x < 0 <;> by_cases k : y < 0 <;> simp [h, k] at hs ⊢ <;> omega
   ·
    by_cases h : x < 0 <;> by_cases k : y < 0 <;> simp [h, k] at hs <;> omega
set_option maxRecDepth 100000 in
set_option maxHeartbeats 2000000 in
theorem zmul_ss (s0 s1 : Bool) (A0 A1 : Option Addr) (l0 c0 l1 c1 n0 n1 : Nat) (L M : Nat) (w : World) (hx : Z16 w (.slice A0 l0 c0) n0) (hy : Z16 w (.slice A1 l1 c1) n1) (fn : Fit 65536 n0 L) (fm : Fit 65536 n1 M) (hL : L ≤ 1000000) (hM : M ≤ 1000000) (hs : s0 = s1) :
  Calls Try.prog 113 #[.agg #[.bool s0, .slice A0 l0 c0], .agg #[.bool s1, .slice A1 l1 c1]] w (RetBn w false (n0 * n1)) := by
 have HXX := hid hx
 have HYY := hid hy
 have HFN := hid fn
 have HFM := hid fm
 clear hx hy fn fm
 have hb : (s0 != s1) = false := by simp [hs]
 have hb2 : (s0 == s1) = true := by simp [hs]
 have hb3 : decide (s0 = s1) = true := by simp [hs]
 obtain ⟨N, hN⟩ : ∃ N, n0 * n1 = N := ⟨_, rfl⟩
 have HN := hid hN

 clear hs hN
 have hXe : Ext w (((w.alloc (.cells #[.bool s0, .slice A0 l0 c0] 63)).alloc (.cells #[.bool s1, .slice A1 l1 c1] 63)).alloc (.cells #[.bool false, .slice none 0 0] 63)) := ((((Ext.refl w).alloc _).alloc _).alloc _)
 have kA : Blk (((w.alloc (.cells #[.bool s0, .slice A0 l0 c0] 63)).alloc (.cells #[.bool s1, .slice A1 l1 c1] 63)).alloc (.cells #[.bool false, .slice none 0 0] 63)) w.heap.size 63 #[.bool s0, .slice A0 l0 c0] := Blk.alloc (Blk.alloc (Blk.at_ (by simp)) _) _
 have kB : Blk (((w.alloc (.cells #[.bool s0, .slice A0 l0 c0] 63)).alloc (.cells #[.bool s1, .slice A1 l1 c1] 63)).alloc (.cells #[.bool false, .slice none 0 0] 63)) (w.heap.size + 1) 63 #[.bool s1, .slice A1 l1 c1] := Blk.alloc (Blk.at_ (by simp)) _
 have kR : Blk (((w.alloc (.cells #[.bool s0, .slice A0 l0 c0] 63)).alloc (.cells #[.bool s1, .slice A1 l1 c1] 63)).alloc (.cells #[.bool false, .slice none 0 0] 63)) (w.heap.size + 2) 63 #[.bool false, .slice none 0 0] := Blk.at_ (by simp)
 go_enter Try.func113, Try.ntmps113
 go_wp2_with fail
 generalize (((w.alloc (.cells #[.bool s0, .slice A0 l0 c0] 63)).alloc (.cells #[.bool s1, .slice A1 l1 c1] 63)).alloc (.cells #[.bool false, .slice none 0 0] 63)) = w1 at hXe kA kB kR ⊢
 have HX := hid hXe
 clear hXe
 have KA := hid kA
 clear kA
 have KB := hid kB
 clear kB
 have KR := hid kR
 clear kR
 replace HXX := hid (HXX.out.ext HX.out)
 replace HYY := hid (HYY.out.ext HX.out)
 have cA0 : w1.cell? ⟨w.heap.size, 0, none⟩ = some (.bool s0) := KA.out.cell 0
 have cA1 : w1.cell? ⟨w.heap.size, 1, none⟩ = some (.slice A0 l0 c0) := KA.out.cell 1
 have cB0 : w1.cell? ⟨(w.heap.size + 1), 0, none⟩ = some (.bool s1) := KB.out.cell 0
 have cB1 : w1.cell? ⟨(w.heap.size + 1), 1, none⟩ = some (.slice A1 l1 c1) := KB.out.cell 1
 go_wp2_with fail
 clear cA0 cA1 cB0 cB1
 refine (times16_any _ _ n0 n1 L M _ HXX.out HYY.out HFN.out HFM.out hL hM).mono ?_
 rw [HN.out]
 rintro e w2 ⟨v9, rfl, hv, hX⟩
 replace hX : Ext w1 w2 := by with_reducible exact hX
 replace HX := hid (HX.out.trans hX)
 replace HXX := hid (HXX.out.ext hX)
 replace HYY := hid (HYY.out.ext hX)
 replace KA := hid (KA.out.ext hX)
 replace KB := hid (KB.out.ext hX)
 replace KR := hid (KR.out.ext hX)
 clear hX
 obtain ⟨A9, l9, c9, rfl, hv9, h0⟩ := Z16.open hv
 have HV := hid (Z16.two hv9 (NoInts.two KR.out) false A9 l9 c9)
 clear hv hv9
 clear h0
 have cA0 : w2.cell? ⟨w.heap.size, 0, none⟩ = some (.bool s0) := KA.out.cell 0
 have cA1 : w2.cell? ⟨w.heap.size, 1, none⟩ = some (.slice A0 l0 c0) := KA.out.cell 1
 have cB0 : w2.cell? ⟨(w.heap.size + 1), 0, none⟩ = some (.bool s1) := KB.out.cell 0
 have cB1 : w2.cell? ⟨(w.heap.size + 1), 1, none⟩ = some (.slice A1 l1 c1) := KB.out.cell 1
 have cR0 : w2.cell? ⟨(w.heap.size + 2), 0, none⟩ = some (.bool false) := KR.out.cell 0
 have fR0 : w2.frozen? ⟨(w.heap.size + 2), 0, none⟩ = false := KR.out.free 0
 have cR1 : w2.cell? ⟨(w.heap.size + 2), 1, none⟩ = some (.slice none 0 0) := KR.out.cell 1
 have fR1 : w2.frozen? ⟨(w.heap.size + 2), 1, none⟩ = false := KR.out.free 1
 go_wp2
 refine bodyPost_ret (v := .agg #[.bool false, .slice A9 l9 c9]) (by simp [results, Try.results113, go_sem, *]) rfl ?_
 exact ⟨_, _, _, rfl, by rw [HN.out]; exact HV.out, HX.out.two (by omega) _ _⟩
set_option maxRecDepth 100000 in
set_option maxHeartbeats 2000000 in
theorem zmul_nz (s0 s1 : Bool) (A0 A1 : Option Addr) (l0 c0 l1 c1 n0 n1 : Nat) (L M : Nat) (w : World) (hx : Z16 w (.slice A0 l0 c0) n0) (hy : Z16 w (.slice A1 l1 c1) n1) (fn : Fit 65536 n0 L) (fm : Fit 65536 n1 M) (hL : L ≤ 1000000) (hM : M ≤ 1000000) (hs : s0 ≠ s1) (hz : n0 * n1 ≠ 0) :
  Calls Try.prog 113 #[.agg #[.bool s0, .slice A0 l0 c0], .agg #[.bool s1, .slice A1 l1 c1]] w (RetBn w true (n0 * n1)) := by
 have HXX := hid hx
 have HYY := hid hy
 have HFN := hid fn
 have HFM := hid fm
 clear hx hy fn fm
 have hb : (s0 != s1) = true := by simp [hs]
 have hb2 : (s0 == s1) = false := by simp [hs]
 have hb3 : decide (s0 = s1) = false := by simp [hs]
 obtain ⟨N, hN⟩ : ∃ N, n0 * n1 = N := ⟨_, rfl⟩
 have HN := hid hN
 rw [hN] at hz
 clear hs hN
 have hXe : Ext w (((w.alloc (.cells #[.bool s0, .slice A0 l0 c0] 63)).alloc (.cells #[.bool s1, .slice A1 l1 c1] 63)).alloc (.cells #[.bool false, .slice none 0 0] 63)) := ((((Ext.refl w).alloc _).alloc _).alloc _)
 have kA : Blk (((w.alloc (.cells #[.bool s0, .slice A0 l0 c0] 63)).alloc (.cells #[.bool s1, .slice A1 l1 c1] 63)).alloc (.cells #[.bool false, .slice none 0 0] 63)) w.heap.size 63 #[.bool s0, .slice A0 l0 c0] := Blk.alloc (Blk.alloc (Blk.at_ (by simp)) _) _
 have kB : Blk (((w.alloc (.cells #[.bool s0, .slice A0 l0 c0] 63)).alloc (.cells #[.bool s1, .slice A1 l1 c1] 63)).alloc (.cells #[.bool false, .slice none 0 0] 63)) (w.heap.size + 1) 63 #[.bool s1, .slice A1 l1 c1] := Blk.alloc (Blk.at_ (by simp)) _
 have kR : Blk (((w.alloc (.cells #[.bool s0, .slice A0 l0 c0] 63)).alloc (.cells #[.bool s1, .slice A1 l1 c1] 63)).alloc (.cells #[.bool false, .slice none 0 0] 63)) (w.heap.size + 2) 63 #[.bool false, .slice none 0 0] := Blk.at_ (by simp)
 go_enter Try.func113, Try.ntmps113
 go_wp2_with fail
 generalize (((w.alloc (.cells #[.bool s0, .slice A0 l0 c0] 63)).alloc (.cells #[.bool s1, .slice A1 l1 c1] 63)).alloc (.cells #[.bool false, .slice none 0 0] 63)) = w1 at hXe kA kB kR ⊢
 have HX := hid hXe
 clear hXe
 have KA := hid kA
 clear kA
 have KB := hid kB
 clear kB
 have KR := hid kR
 clear kR
 replace HXX := hid (HXX.out.ext HX.out)
 replace HYY := hid (HYY.out.ext HX.out)
 have cA0 : w1.cell? ⟨w.heap.size, 0, none⟩ = some (.bool s0) := KA.out.cell 0
 have cA1 : w1.cell? ⟨w.heap.size, 1, none⟩ = some (.slice A0 l0 c0) := KA.out.cell 1
 have cB0 : w1.cell? ⟨(w.heap.size + 1), 0, none⟩ = some (.bool s1) := KB.out.cell 0
 have cB1 : w1.cell? ⟨(w.heap.size + 1), 1, none⟩ = some (.slice A1 l1 c1) := KB.out.cell 1
 go_wp2_with fail
 clear cA0 cA1 cB0 cB1
 refine (times16_any _ _ n0 n1 L M _ HXX.out HYY.out HFN.out HFM.out hL hM).mono ?_
 rw [HN.out]
 rintro e w2 ⟨v9, rfl, hv, hX⟩
 replace hX : Ext w1 w2 := by with_reducible exact hX
 replace HX := hid (HX.out.trans hX)
 replace HXX := hid (HXX.out.ext hX)
 replace HYY := hid (HYY.out.ext hX)
 replace KA := hid (KA.out.ext hX)
 replace KB := hid (KB.out.ext hX)
 replace KR := hid (KR.out.ext hX)
 clear hX
 obtain ⟨A9, l9, c9, rfl, hv9, h0⟩ := Z16.open hv
 have HV := hid (Z16.two hv9 (NoInts.two KR.out) true A9 l9 c9)
 clear hv hv9
 have hl : (0 : Int) < (l9 : Int) := by
  rcases Nat.eq_zero_or_pos l9 with h | h
  ·
   exact absurd (h0.1 h) hz
  ·
   omega
 have hl' : 0 < l9 := by omega
 clear h0
 have cA0 : w2.cell? ⟨w.heap.size, 0, none⟩ = some (.bool s0) := KA.out.cell 0
 have cA1 : w2.cell? ⟨w.heap.size, 1, none⟩ = some (.slice A0 l0 c0) := KA.out.cell 1
 have cB0 : w2.cell? ⟨(w.heap.size + 1), 0, none⟩ = some (.bool s1) := KB.out.cell 0
 have cB1 : w2.cell? ⟨(w.heap.size + 1), 1, none⟩ = some (.slice A1 l1 c1) := KB.out.cell 1
 have cR0 : w2.cell? ⟨(w.heap.size + 2), 0, none⟩ = some (.bool false) := KR.out.cell 0
 have fR0 : w2.frozen? ⟨(w.heap.size + 2), 0, none⟩ = false := KR.out.free 0
 have cR1 : w2.cell? ⟨(w.heap.size + 2), 1, none⟩ = some (.slice none 0 0) := KR.out.cell 1
 have fR1 : w2.frozen? ⟨(w.heap.size + 2), 1, none⟩ = false := KR.out.free 1
 go_wp2
 refine bodyPost_ret (v := .agg #[.bool true, .slice A9 l9 c9]) (by simp [results, Try.results113, go_sem, *]) rfl ?_
 exact ⟨_, _, _, rfl, by rw [HN.out]; exact HV.out, HX.out.two (by omega) _ _⟩
set_option maxRecDepth 100000 in
set_option maxHeartbeats 2000000 in
theorem zmul_zz (s0 s1 : Bool) (A0 A1 : Option Addr) (l0 c0 l1 c1 n0 n1 : Nat) (L M : Nat) (w : World) (hx : Z16 w (.slice A0 l0 c0) n0) (hy : Z16 w (.slice A1 l1 c1) n1) (fn : Fit 65536 n0 L) (fm : Fit 65536 n1 M) (hL : L ≤ 1000000) (hM : M ≤ 1000000) (hs : s0 ≠ s1) (hz : n0 * n1 = 0) :
  Calls Try.prog 113 #[.agg #[.bool s0, .slice A0 l0 c0], .agg #[.bool s1, .slice A1 l1 c1]] w (RetBn w false (n0 * n1)) := by
 have HXX := hid hx
 have HYY := hid hy
 have HFN := hid fn
 have HFM := hid fm
 clear hx hy fn fm
 have hb : (s0 != s1) = true := by simp [hs]
 have hb2 : (s0 == s1) = false := by simp [hs]
 have hb3 : decide (s0 = s1) = false := by simp [hs]
 obtain ⟨N, hN⟩ : ∃ N, n0 * n1 = N := ⟨_, rfl⟩
 have HN := hid hN
 rw [hN] at hz
 clear hs hN
 have hXe : Ext w (((w.alloc (.cells #[.bool s0, .slice A0 l0 c0] 63)).alloc (.cells #[.bool s1, .slice A1 l1 c1] 63)).alloc (.cells #[.bool false, .slice none 0 0] 63)) := ((((Ext.refl w).alloc _).alloc _).alloc _)
 have kA : Blk (((w.alloc (.cells #[.bool s0, .slice A0 l0 c0] 63)).alloc (.cells #[.bool s1, .slice A1 l1 c1] 63)).alloc (.cells #[.bool false, .slice none 0 0] 63)) w.heap.size 63 #[.bool s0, .slice A0 l0 c0] := Blk.alloc (Blk.alloc (Blk.at_ (by simp)) _) _
 have kB : Blk (((w.alloc (.cells #[.bool s0, .slice A0 l0 c0] 63)).alloc (.cells #[.bool s1, .slice A1 l1 c1] 63)).alloc (.cells #[.bool false, .slice none 0 0] 63)) (w.heap.size + 1) 63 #[.bool s1, .slice A1 l1 c1] := Blk.alloc (Blk.at_ (by simp)) _
 have kR : Blk (((w.alloc (.cells #[.bool s0, .slice A0 l0 c0] 63)).alloc (.cells #[.bool s1, .slice A1 l1 c1] 63)).alloc (.cells #[.bool false, .slice none 0 0] 63)) (w.heap.size + 2) 63 #[.bool false, .slice none 0 0] := Blk.at_ (by simp)
 go_enter Try.func113, Try.ntmps113
 go_wp2_with fail
 generalize (((w.alloc (.cells #[.bool s0, .slice A0 l0 c0] 63)).alloc (.cells #[.bool s1, .slice A1 l1 c1] 63)).alloc (.cells #[.bool false, .slice none 0 0] 63)) = w1 at hXe kA kB kR ⊢
 have HX := hid hXe
 clear hXe
 have KA := hid kA
 clear kA
 have KB := hid kB
 clear kB
 have KR := hid kR
 clear kR
 replace HXX := hid (HXX.out.ext HX.out)
 replace HYY := hid (HYY.out.ext HX.out)
 have cA0 : w1.cell? ⟨w.heap.size, 0, none⟩ = some (.bool s0) := KA.out.cell 0
 have cA1 : w1.cell? ⟨w.heap.size, 1, none⟩ = some (.slice A0 l0 c0) := KA.out.cell 1
 have cB0 : w1.cell? ⟨(w.heap.size + 1), 0, none⟩ = some (.bool s1) := KB.out.cell 0
 have cB1 : w1.cell? ⟨(w.heap.size + 1), 1, none⟩ = some (.slice A1 l1 c1) := KB.out.cell 1
 go_wp2_with fail
 clear cA0 cA1 cB0 cB1
 refine (times16_any _ _ n0 n1 L M _ HXX.out HYY.out HFN.out HFM.out hL hM).mono ?_
 rw [HN.out]
 rintro e w2 ⟨v9, rfl, hv, hX⟩
 replace hX : Ext w1 w2 := by with_reducible exact hX
 replace HX := hid (HX.out.trans hX)
 replace HXX := hid (HXX.out.ext hX)
 replace HYY := hid (HYY.out.ext hX)
 replace KA := hid (KA.out.ext hX)
 replace KB := hid (KB.out.ext hX)
 replace KR := hid (KR.out.ext hX)
 clear hX
 obtain ⟨A9, l9, c9, rfl, hv9, h0⟩ := Z16.open hv
 have HV := hid (Z16.two hv9 (NoInts.two KR.out) false A9 l9 c9)
 clear hv hv9
 obtain rfl : l9 = 0 := h0.2 hz
 clear h0
 have cA0 : w2.cell? ⟨w.heap.size, 0, none⟩ = some (.bool s0) := KA.out.cell 0
 have cA1 : w2.cell? ⟨w.heap.size, 1, none⟩ = some (.slice A0 l0 c0) := KA.out.cell 1
 have cB0 : w2.cell? ⟨(w.heap.size + 1), 0, none⟩ = some (.bool s1) := KB.out.cell 0
 have cB1 : w2.cell? ⟨(w.heap.size + 1), 1, none⟩ = some (.slice A1 l1 c1) := KB.out.cell 1
 have cR0 : w2.cell? ⟨(w.heap.size + 2), 0, none⟩ = some (.bool false) := KR.out.cell 0
 have fR0 : w2.frozen? ⟨(w.heap.size + 2), 0, none⟩ = false := KR.out.free 0
 have cR1 : w2.cell? ⟨(w.heap.size + 2), 1, none⟩ = some (.slice none 0 0) := KR.out.cell 1
 have fR1 : w2.frozen? ⟨(w.heap.size + 2), 1, none⟩ = false := KR.out.free 1
 go_wp2
 refine bodyPost_ret (v := .agg #[.bool false, .slice A9 0 c9]) (by simp [results, Try.results113, go_sem, *]) rfl ?_
 exact ⟨_, _, _, rfl, by rw [HN.out]; exact HV.out, HX.out.two (by omega) _ _⟩
theorem zmul_any (va vb : Value) (x y : Int) (L M : Nat) (w : World) (ha : IntZ w va x) (hb : IntZ w vb y) (fn : Fit 65536 x.natAbs L) (fm : Fit 65536 y.natAbs M) (hL : L ≤ 1000000) (hM : M ≤ 1000000) :
  Calls Try.prog 113 #[va, vb] w (RetZ w (x * y)) := by
 obtain ⟨A0, l0, c0, rfl, hx⟩ := ha
 obtain ⟨A1, l1, c1, rfl, hy⟩ := hb
 have fin : ∀ (b : Bool), b = decide (x * y < 0) → ∀ e w', RetBn w b (x.natAbs * y.natAbs) e w' → RetZ w (x * y) e w' := by
  rintro b rfl e w' ⟨A, l, c, rfl, hz, hX⟩
  exact ⟨_, rfl, ⟨A, l, c, rfl, by rw [Int.natAbs_mul]; exact hz⟩, hX⟩
 by_cases hs : decide (x < 0) = decide (y < 0)
 ·
  refine (zmul_ss _ _ A0 A1 l0 c0 l1 c1 _ _ L M w hx hy fn fm hL hM hs).mono (fin _ ?_)
  symm
  rw [decide_eq_false_iff_not, Int.not_lt]
  by_cases h : x < 0
  ·
   have k : y < 0 := by simpa [h] using hs
   exact Int.le_of_lt (Int.mul_pos_of_neg_of_neg h k)
  ·
   have k : ¬ y < 0 := by simpa [h] using hs
   exact Int.mul_nonneg (by omega) (by omega)
 ·
  by_cases hz : x.natAbs * y.natAbs = 0
  ·
   refine (zmul_zz _ _ A0 A1 l0 c0 l1 c1 _ _ L M w hx hy fn fm hL hM hs hz).mono (fin _ ?_)
   have : x * y = 0 := by rw [← Int.natAbs_eq_zero, Int.natAbs_mul]; exact hz
   rw [this]; rfl
  ·
   refine (zmul_nz _ _ A0 A1 l0 c0 l1 c1 _ _ L M w hx hy fn fm hL hM hs hz).mono (fin _ ?_)
   symm
   rw [decide_eq_true_iff]
   have h1 : x ≠ 0 := fun e => hz (by rw [e]; simp)
   have h2 : y ≠ 0 := fun e => hz (by rw [e]; simp)
   by_cases h : x < 0
   ·
    have k : ¬ y < 0 := by simpa [h] using hs
    exact Int.mul_neg_of_neg_of_pos h (by omega)
   ·
    have k : y < 0 := by simpa [h] using hs
    exact Int.mul_neg_of_pos_of_neg (by omega) k
theorem Blk.one16 {w : World} {g : Nat} {t : TypeId} (h : Blk w g t #[.int .i64 1]) : Z16 w (.slice (some ⟨g, 0, none⟩) 1 1) 1 :=
 ⟨_, 1, 1, [1], rfl, ⟨rfl, fun x hx => by simp at hx; subst hx; exact wf16 (by omega), fun _ => ⟨g, 0, rfl, fun j v hv => by
  match j with
  | 0 => rw [h.cell]; simpa using hv
  | j + 1 => simp at hv⟩⟩, Rep.one (by omega), by omega, by omega⟩
theorem down_neg (n d : Nat) (hd : 0 < d) : (n % d = 0 → (-(n : Int)) / (d : Int) = -((n / d : Nat) : Int)) ∧ (0 < n % d → (-(n : Int)) / (d : Int) = -((n / d + 1 : Nat) : Int)) := by
 have h := Nat.div_add_mod n d
 have hm := Nat.mod_lt n hd
 have hI : ((n / d : Nat) : Int) * d + ((n % d : Nat) : Int) = n := by
  rw [← Int.natCast_mul, ← Int.natCast_add, Nat.mul_comm, h]
 generalize n / d = q at *
 generalize n % d = r at *
 constructor
 ·
  intro h0
  have := (Int.ediv_emod_unique (a := -(n : Int)) (b := (d : Int)) (r := 0) (q := -(q : Int)) (by omega)).2 ⟨by subst h0; simp at hI ⊢; rw [← hI]; grind, by omega, by omega⟩
  exact this.1
 ·
  intro h0
  have := (Int.ediv_emod_unique (a := -(n : Int)) (b := (d : Int)) (r := (d : Int) - r) (q := -((q + 1 : Nat) : Int)) (by omega)).2 ⟨by rw [← hI]; push_cast; grind, by omega, by omega⟩
  exact this.1
set_option maxRecDepth 100000 in
set_option maxHeartbeats 2000000 in
theorem zdown_pos (s1 : Bool) (A0 A1 : Option Addr) (l0 c0 l1 c1 n0 n1 L : Nat) (w : World) (hx : Z16 w (.slice A0 l0 c0) n0) (hy : Z16 w (.slice A1 l1 c1) n1) (fn : Fit 65536 n0 L) (hL : L ≤ 400000) (hd : 0 < n1)  :
  Calls Try.prog 198 #[.agg #[.bool false, .slice A0 l0 c0], .agg #[.bool s1, .slice A1 l1 c1]] w (RetBn w false (n0 / n1)) := by
 have HXX := hid hx
 have HYY := hid hy
 have HFN := hid fn
 have HD := hid hd
 clear hx hy fn hd
 obtain ⟨q, hq⟩ : ∃ q, n0 / n1 = q := ⟨_, rfl⟩
 obtain ⟨r, hr'⟩ : ∃ r, n0 % n1 = r := ⟨_, rfl⟩
 have HQ := hid hq
 have HRR := hid hr'
 clear hq hr'
 have hXe : Ext w (((w.alloc (.cells #[.bool false, .slice A0 l0 c0] 63)).alloc (.cells #[.bool s1, .slice A1 l1 c1] 63)).alloc (.cells #[.bool false, .slice none 0 0] 63)) := ((((Ext.refl w).alloc _).alloc _).alloc _)
 have kA : Blk (((w.alloc (.cells #[.bool false, .slice A0 l0 c0] 63)).alloc (.cells #[.bool s1, .slice A1 l1 c1] 63)).alloc (.cells #[.bool false, .slice none 0 0] 63)) w.heap.size 63 #[.bool false, .slice A0 l0 c0] := Blk.alloc (Blk.alloc (Blk.at_ (by simp)) _) _
 have kB : Blk (((w.alloc (.cells #[.bool false, .slice A0 l0 c0] 63)).alloc (.cells #[.bool s1, .slice A1 l1 c1] 63)).alloc (.cells #[.bool false, .slice none 0 0] 63)) (w.heap.size + 1) 63 #[.bool s1, .slice A1 l1 c1] := Blk.alloc (Blk.at_ (by simp)) _
 have kR : Blk (((w.alloc (.cells #[.bool false, .slice A0 l0 c0] 63)).alloc (.cells #[.bool s1, .slice A1 l1 c1] 63)).alloc (.cells #[.bool false, .slice none 0 0] 63)) (w.heap.size + 2) 63 #[.bool false, .slice none 0 0] := Blk.at_ (by simp)
 go_enter Try.func198, Try.ntmps198
 go_wp2_with fail
 generalize (((w.alloc (.cells #[.bool false, .slice A0 l0 c0] 63)).alloc (.cells #[.bool s1, .slice A1 l1 c1] 63)).alloc (.cells #[.bool false, .slice none 0 0] 63)) = w1 at hXe kA kB kR ⊢
 have HX := hid hXe
 clear hXe
 have KA := hid kA
 clear kA
 have KB := hid kB
 clear kB
 have KR := hid kR
 clear kR
 replace HXX := hid (HXX.out.ext HX.out)
 replace HYY := hid (HYY.out.ext HX.out)
 have cA0 : w1.cell? ⟨w.heap.size, 0, none⟩ = some (.bool false) := KA.out.cell 0
 have cA1 : w1.cell? ⟨w.heap.size, 1, none⟩ = some (.slice A0 l0 c0) := KA.out.cell 1
 have cB0 : w1.cell? ⟨(w.heap.size + 1), 0, none⟩ = some (.bool s1) := KB.out.cell 0
 have cB1 : w1.cell? ⟨(w.heap.size + 1), 1, none⟩ = some (.slice A1 l1 c1) := KB.out.cell 1
 go_wp2_with fail
 clear cA0 cA1 cB0 cB1
 refine (divide_any _ _ n0 n1 L _ HXX.out HYY.out HFN.out hL HD.out).mono ?_
 rw [HQ.out, HRR.out]
 rintro e w2 ⟨v7, v8, rfl, h7, h8, hX⟩
 replace hX : Ext w1 w2 := by with_reducible exact hX
 replace HX := hid (HX.out.trans hX)
 replace HXX := hid (HXX.out.ext hX)
 replace HYY := hid (HYY.out.ext hX)
 replace KA := hid (KA.out.ext hX)
 replace KB := hid (KB.out.ext hX)
 replace KR := hid (KR.out.ext hX)
 clear hX
 obtain ⟨A7, l7, c7, rfl, hv7, hz7⟩ := Z16.open h7
 obtain ⟨A8, l8, c8, rfl, hv8, hz8⟩ := Z16.open h8
 have HV := hid hv7
 clear h7 h8 hv7 hv8
 clear KB
 clear hz7 hz8
 replace HV := hid (HV.out.two (NoInts.two KR.out) false A7 l7 c7)
 have cA0 : w2.cell? ⟨w.heap.size, 0, none⟩ = some (.bool false) := KA.out.cell 0
 have cA1 : w2.cell? ⟨w.heap.size, 1, none⟩ = some (.slice A0 l0 c0) := KA.out.cell 1
 have cR0 : w2.cell? ⟨(w.heap.size + 2), 0, none⟩ = some (.bool false) := KR.out.cell 0
 have fR0 : w2.frozen? ⟨(w.heap.size + 2), 0, none⟩ = false := KR.out.free 0
 have cR1 : w2.cell? ⟨(w.heap.size + 2), 1, none⟩ = some (.slice none 0 0) := KR.out.cell 1
 have fR1 : w2.frozen? ⟨(w.heap.size + 2), 1, none⟩ = false := KR.out.free 1
 go_wp2
 refine bodyPost_ret (v := .agg #[.bool false, .slice A7 l7 c7]) (by simp [results, Try.results198, go_sem, *]) rfl ?_
 exact ⟨_, _, _, rfl, by rw [HQ.out]; exact HV.out, HX.out.two (by omega) _ _⟩
set_option maxRecDepth 100000 in
set_option maxHeartbeats 2000000 in
theorem zdown_ex (s1 : Bool) (A0 A1 : Option Addr) (l0 c0 l1 c1 n0 n1 L : Nat) (w : World) (hx : Z16 w (.slice A0 l0 c0) n0) (hy : Z16 w (.slice A1 l1 c1) n1) (fn : Fit 65536 n0 L) (hL : L ≤ 400000) (hd : 0 < n1) (hn : 0 < n0) (hr : n0 % n1 = 0) :
  Calls Try.prog 198 #[.agg #[.bool true, .slice A0 l0 c0], .agg #[.bool s1, .slice A1 l1 c1]] w (RetBn w true (n0 / n1)) := by
 have HXX := hid hx
 have HYY := hid hy
 have HFN := hid fn
 have HD := hid hd
 clear hx hy fn hd
 have hq0 : 0 < n0 / n1 := Nat.div_pos (Nat.le_of_dvd hn (Nat.dvd_of_mod_eq_zero hr)) HD.out
 clear hn
 obtain ⟨q, hq⟩ : ∃ q, n0 / n1 = q := ⟨_, rfl⟩
 obtain ⟨r, hr'⟩ : ∃ r, n0 % n1 = r := ⟨_, rfl⟩
 have HQ := hid hq
 have HRR := hid hr'
 rw [hr'] at hr
 rw [hq] at hq0
 clear hq hr'
 have hXe : Ext w (((w.alloc (.cells #[.bool true, .slice A0 l0 c0] 63)).alloc (.cells #[.bool s1, .slice A1 l1 c1] 63)).alloc (.cells #[.bool false, .slice none 0 0] 63)) := ((((Ext.refl w).alloc _).alloc _).alloc _)
 have kA : Blk (((w.alloc (.cells #[.bool true, .slice A0 l0 c0] 63)).alloc (.cells #[.bool s1, .slice A1 l1 c1] 63)).alloc (.cells #[.bool false, .slice none 0 0] 63)) w.heap.size 63 #[.bool true, .slice A0 l0 c0] := Blk.alloc (Blk.alloc (Blk.at_ (by simp)) _) _
 have kB : Blk (((w.alloc (.cells #[.bool true, .slice A0 l0 c0] 63)).alloc (.cells #[.bool s1, .slice A1 l1 c1] 63)).alloc (.cells #[.bool false, .slice none 0 0] 63)) (w.heap.size + 1) 63 #[.bool s1, .slice A1 l1 c1] := Blk.alloc (Blk.at_ (by simp)) _
 have kR : Blk (((w.alloc (.cells #[.bool true, .slice A0 l0 c0] 63)).alloc (.cells #[.bool s1, .slice A1 l1 c1] 63)).alloc (.cells #[.bool false, .slice none 0 0] 63)) (w.heap.size + 2) 63 #[.bool false, .slice none 0 0] := Blk.at_ (by simp)
 go_enter Try.func198, Try.ntmps198
 go_wp2_with fail
 generalize (((w.alloc (.cells #[.bool true, .slice A0 l0 c0] 63)).alloc (.cells #[.bool s1, .slice A1 l1 c1] 63)).alloc (.cells #[.bool false, .slice none 0 0] 63)) = w1 at hXe kA kB kR ⊢
 have HX := hid hXe
 clear hXe
 have KA := hid kA
 clear kA
 have KB := hid kB
 clear kB
 have KR := hid kR
 clear kR
 replace HXX := hid (HXX.out.ext HX.out)
 replace HYY := hid (HYY.out.ext HX.out)
 have cA0 : w1.cell? ⟨w.heap.size, 0, none⟩ = some (.bool true) := KA.out.cell 0
 have cA1 : w1.cell? ⟨w.heap.size, 1, none⟩ = some (.slice A0 l0 c0) := KA.out.cell 1
 have cB0 : w1.cell? ⟨(w.heap.size + 1), 0, none⟩ = some (.bool s1) := KB.out.cell 0
 have cB1 : w1.cell? ⟨(w.heap.size + 1), 1, none⟩ = some (.slice A1 l1 c1) := KB.out.cell 1
 go_wp2_with fail
 clear cA0 cA1 cB0 cB1
 refine (divide_any _ _ n0 n1 L _ HXX.out HYY.out HFN.out hL HD.out).mono ?_
 rw [HQ.out, HRR.out]
 rintro e w2 ⟨v7, v8, rfl, h7, h8, hX⟩
 replace hX : Ext w1 w2 := by with_reducible exact hX
 replace HX := hid (HX.out.trans hX)
 replace HXX := hid (HXX.out.ext hX)
 replace HYY := hid (HYY.out.ext hX)
 replace KA := hid (KA.out.ext hX)
 replace KB := hid (KB.out.ext hX)
 replace KR := hid (KR.out.ext hX)
 clear hX
 obtain ⟨A7, l7, c7, rfl, hv7, hz7⟩ := Z16.open h7
 obtain ⟨A8, l8, c8, rfl, hv8, hz8⟩ := Z16.open h8
 have HV := hid hv7
 clear h7 h8 hv7 hv8
 clear KB
 obtain rfl : l8 = 0 := hz8.2 hr
 have hl : (0 : Int) < (l7 : Int) := by
  rcases Nat.eq_zero_or_pos l7 with h | h
  ·
   have := hz7.1 h; omega
  ·
   omega
 have hl' : 0 < l7 := by omega
 clear hz7 hz8 hr
 replace HV := hid (HV.out.two (NoInts.two KR.out) true A7 l7 c7)
 have cA0 : w2.cell? ⟨w.heap.size, 0, none⟩ = some (.bool true) := KA.out.cell 0
 have cA1 : w2.cell? ⟨w.heap.size, 1, none⟩ = some (.slice A0 l0 c0) := KA.out.cell 1
 have cR0 : w2.cell? ⟨(w.heap.size + 2), 0, none⟩ = some (.bool false) := KR.out.cell 0
 have fR0 : w2.frozen? ⟨(w.heap.size + 2), 0, none⟩ = false := KR.out.free 0
 have cR1 : w2.cell? ⟨(w.heap.size + 2), 1, none⟩ = some (.slice none 0 0) := KR.out.cell 1
 have fR1 : w2.frozen? ⟨(w.heap.size + 2), 1, none⟩ = false := KR.out.free 1
 go_wp2
 refine bodyPost_ret (v := .agg #[.bool true, .slice A7 l7 c7]) (by simp [results, Try.results198, go_sem, *]) rfl ?_
 exact ⟨_, _, _, rfl, by rw [HQ.out]; exact HV.out, HX.out.two (by omega) _ _⟩
set_option maxRecDepth 100000 in
set_option maxHeartbeats 2000000 in
theorem zdown_up (s1 : Bool) (A0 A1 : Option Addr) (l0 c0 l1 c1 n0 n1 L : Nat) (w : World) (hx : Z16 w (.slice A0 l0 c0) n0) (hy : Z16 w (.slice A1 l1 c1) n1) (fn : Fit 65536 n0 L) (hL : L ≤ 400000) (hd : 0 < n1) (hr : 0 < n0 % n1) :
  Calls Try.prog 198 #[.agg #[.bool true, .slice A0 l0 c0], .agg #[.bool s1, .slice A1 l1 c1]] w (RetBn w true (n0 / n1 + 1)) := by
 have HXX := hid hx
 have HYY := hid hy
 have HFN := hid fn
 have HD := hid hd
 clear hx hy fn hd
 have HFQ : Hid (Fit 65536 (n0 / n1) L) := HFN.out.le (Nat.div_le_self _ _)
 obtain ⟨q, hq⟩ : ∃ q, n0 / n1 = q := ⟨_, rfl⟩
 obtain ⟨r, hr'⟩ : ∃ r, n0 % n1 = r := ⟨_, rfl⟩
 have HQ := hid hq
 have HRR := hid hr'
 rw [hr'] at hr
 rw [hq] at HFQ
 clear hq hr'
 have hXe : Ext w (((w.alloc (.cells #[.bool true, .slice A0 l0 c0] 63)).alloc (.cells #[.bool s1, .slice A1 l1 c1] 63)).alloc (.cells #[.bool false, .slice none 0 0] 63)) := ((((Ext.refl w).alloc _).alloc _).alloc _)
 have kA : Blk (((w.alloc (.cells #[.bool true, .slice A0 l0 c0] 63)).alloc (.cells #[.bool s1, .slice A1 l1 c1] 63)).alloc (.cells #[.bool false, .slice none 0 0] 63)) w.heap.size 63 #[.bool true, .slice A0 l0 c0] := Blk.alloc (Blk.alloc (Blk.at_ (by simp)) _) _
 have kB : Blk (((w.alloc (.cells #[.bool true, .slice A0 l0 c0] 63)).alloc (.cells #[.bool s1, .slice A1 l1 c1] 63)).alloc (.cells #[.bool false, .slice none 0 0] 63)) (w.heap.size + 1) 63 #[.bool s1, .slice A1 l1 c1] := Blk.alloc (Blk.at_ (by simp)) _
 have kR : Blk (((w.alloc (.cells #[.bool true, .slice A0 l0 c0] 63)).alloc (.cells #[.bool s1, .slice A1 l1 c1] 63)).alloc (.cells #[.bool false, .slice none 0 0] 63)) (w.heap.size + 2) 63 #[.bool false, .slice none 0 0] := Blk.at_ (by simp)
 go_enter Try.func198, Try.ntmps198
 go_wp2_with fail
 generalize (((w.alloc (.cells #[.bool true, .slice A0 l0 c0] 63)).alloc (.cells #[.bool s1, .slice A1 l1 c1] 63)).alloc (.cells #[.bool false, .slice none 0 0] 63)) = w1 at hXe kA kB kR ⊢
 have HX := hid hXe
 clear hXe
 have KA := hid kA
 clear kA
 have KB := hid kB
 clear kB
 have KR := hid kR
 clear kR
 replace HXX := hid (HXX.out.ext HX.out)
 replace HYY := hid (HYY.out.ext HX.out)
 have cA0 : w1.cell? ⟨w.heap.size, 0, none⟩ = some (.bool true) := KA.out.cell 0
 have cA1 : w1.cell? ⟨w.heap.size, 1, none⟩ = some (.slice A0 l0 c0) := KA.out.cell 1
 have cB0 : w1.cell? ⟨(w.heap.size + 1), 0, none⟩ = some (.bool s1) := KB.out.cell 0
 have cB1 : w1.cell? ⟨(w.heap.size + 1), 1, none⟩ = some (.slice A1 l1 c1) := KB.out.cell 1
 go_wp2_with fail
 clear cA0 cA1 cB0 cB1
 refine (divide_any _ _ n0 n1 L _ HXX.out HYY.out HFN.out hL HD.out).mono ?_
 rw [HQ.out, HRR.out]
 rintro e w2 ⟨v7, v8, rfl, h7, h8, hX⟩
 replace hX : Ext w1 w2 := by with_reducible exact hX
 replace HX := hid (HX.out.trans hX)
 replace HXX := hid (HXX.out.ext hX)
 replace HYY := hid (HYY.out.ext hX)
 replace KA := hid (KA.out.ext hX)
 replace KB := hid (KB.out.ext hX)
 replace KR := hid (KR.out.ext hX)
 clear hX
 obtain ⟨A7, l7, c7, rfl, hv7, hz7⟩ := Z16.open h7
 obtain ⟨A8, l8, c8, rfl, hv8, hz8⟩ := Z16.open h8
 have HV := hid hv7
 clear h7 h8 hv7 hv8
 clear KB
 have hl : (0 : Int) < (l8 : Int) := by
  rcases Nat.eq_zero_or_pos l8 with h | h
  ·
   have := hz8.1 h; omega
  ·
   omega
 have hl' : 0 < l8 := by omega
 clear hz7 hz8 hr
 have cA0 : w2.cell? ⟨w.heap.size, 0, none⟩ = some (.bool true) := KA.out.cell 0
 have cA1 : w2.cell? ⟨w.heap.size, 1, none⟩ = some (.slice A0 l0 c0) := KA.out.cell 1
 go_wp2_with fail
 clear cA0 cA1
 have hXa : Ext w2 (w2.alloc (.cells #[.int .i64 1] 3)) := (Ext.refl _).alloc _
 have kO := Blk.new w2 3 #[.int .i64 1]
 have zA := KA.out.lt
 have zR := KR.out.lt
 have zg := HX.out.size
 replace HX := hid (HX.out.trans hXa)
 replace HXX := hid (HXX.out.ext hXa)
 replace HYY := hid (HYY.out.ext hXa)
 replace HV := hid (HV.out.ext hXa)
 replace KA := hid (KA.out.ext hXa)
 replace KR := hid (KR.out.ext hXa)
 generalize (w2.alloc (.cells #[.int .i64 1] 3)) = w3 at HX HXX HYY HV KA KR kO ⊢
 have KO := hid kO
 clear kO hXa
 go_wp2_with fail
 refine (plus_any _ _ q 1 (L + 1) _ HV.out KO.out.one16 (HFQ.out.mono (by omega) (by omega)) (Fit.one (by omega) (by omega)) (by omega)).mono ?_
 rintro e w4 ⟨v9, rfl, h9, hX⟩
 replace hX : Ext w3 w4 := by with_reducible exact hX
 replace HX := hid (HX.out.trans hX)
 replace HXX := hid (HXX.out.ext hX)
 replace HYY := hid (HYY.out.ext hX)
 replace HV := hid (HV.out.ext hX)
 replace KA := hid (KA.out.ext hX)
 replace KR := hid (KR.out.ext hX)
 replace KO := hid (KO.out.ext hX)
 clear hX
 obtain ⟨A9, l9, c9, rfl, hv9, hz9⟩ := Z16.open h9
 have hl9 : (0 : Int) < (l9 : Int) := by
  rcases Nat.eq_zero_or_pos l9 with h | h
  ·
   have := hz9.1 h; omega
  ·
   omega
 have hl9' : 0 < l9 := by omega
 have HW := hid (Z16.two hv9 (NoInts.two KR.out) true A9 l9 c9)
 clear h9 hv9 hz9
 have cA0 : w4.cell? ⟨w.heap.size, 0, none⟩ = some (.bool true) := KA.out.cell 0
 have cA1 : w4.cell? ⟨w.heap.size, 1, none⟩ = some (.slice A0 l0 c0) := KA.out.cell 1
 have cR0 : w4.cell? ⟨(w.heap.size + 2), 0, none⟩ = some (.bool false) := KR.out.cell 0
 have fR0 : w4.frozen? ⟨(w.heap.size + 2), 0, none⟩ = false := KR.out.free 0
 have cR1 : w4.cell? ⟨(w.heap.size + 2), 1, none⟩ = some (.slice none 0 0) := KR.out.cell 1
 have fR1 : w4.frozen? ⟨(w.heap.size + 2), 1, none⟩ = false := KR.out.free 1
 go_wp2
 refine bodyPost_ret (v := .agg #[.bool true, .slice A9 l9 c9]) (by simp [results, Try.results198, go_sem, *]) rfl ?_
 exact ⟨_, _, _, rfl, by rw [HQ.out]; exact HW.out, HX.out.two (by omega) _ _⟩
theorem zdown_any (va : Value) (x : Int) (s : Bool) (B : Option Addr) (m k d L : Nat) (w : World) (ha : IntZ w va x) (hb : Z16 w (.slice B m k) d) (fn : Fit 65536 x.natAbs L) (hL : L ≤ 400000) (hd : 0 < d) :
  Calls Try.prog 198 #[va, .agg #[.bool s, .slice B m k]] w (RetZ w (x / (d : Int))) := by
 obtain ⟨A0, l0, c0, rfl, hx⟩ := ha
 have fin : ∀ (b : Bool) (n : Nat), b = decide (x / (d : Int) < 0) → n = (x / (d : Int)).natAbs → ∀ e w', RetBn w b n e w' → RetZ w (x / (d : Int)) e w' := by
  rintro b n rfl rfl e w' ⟨A, l, c, rfl, hz, hX⟩
  exact ⟨_, rfl, ⟨A, l, c, rfl, hz⟩, hX⟩
 by_cases h : x < 0
 ·
  obtain ⟨e1, e2⟩ := down_neg x.natAbs d hd
  have hn : (-(x.natAbs : Int)) = x := by omega
  rw [hn] at e1 e2
  rw [decide_eq_true h]
  rcases Nat.eq_zero_or_pos (x.natAbs % d) with hr | hr
  ·
   have hq0 : 0 < x.natAbs / d := Nat.div_pos (Nat.le_of_dvd (by omega) (Nat.dvd_of_mod_eq_zero hr)) hd
   refine (zdown_ex s A0 B l0 c0 m k _ d L w hx hb fn hL hd (by omega) hr).mono (fin _ _ ?_ ?_)
   ·
    rw [e1 hr]; clear e1 e2; generalize x.natAbs / d = q at hq0 ⊢; symm; rw [decide_eq_true_iff]; omega
   ·
    rw [e1 hr]; clear e1 e2; generalize x.natAbs / d = q; omega
  ·
   refine (zdown_up s A0 B l0 c0 m k _ d L w hx hb fn hL hd hr).mono (fin _ _ ?_ ?_)
   ·
    rw [e2 hr]; clear e1 e2; generalize x.natAbs / d = q; symm; rw [decide_eq_true_iff]; omega
   ·
    rw [e2 hr]; clear e1 e2; generalize x.natAbs / d = q; omega
 ·
  rw [decide_eq_false h]
  have hn : (x.natAbs : Int) = x := by omega
  have e1 : x / (d : Int) = ((x.natAbs / d : Nat) : Int) := by rw [Int.natCast_ediv, hn]
  refine (zdown_pos s A0 B l0 c0 m k _ d L w hx hb fn hL hd).mono (fin _ _ ?_ ?_)
  ·
   rw [e1]; clear e1; generalize x.natAbs / d = q; symm; rw [decide_eq_false_iff_not]; omega
  ·
   rw [e1]; clear e1; generalize x.natAbs / d = q; omega
theorem val16_drop_le {xs : List Int} (h : Dg 65536 xs) (k : Nat) : val 65536 (xs.drop k) ≤ val 65536 xs := by
 by_cases hk : k ≤ xs.length
 ·
  have h1 := val_split (B := 65536) xs hk
  have h2 := val_nonneg (B := 65536) (by omega) (h.take k)
  have h3 := val_nonneg (B := 65536) (by omega) (h.drop k)
  have h4 : 1 ≤ (65536 : Int) ^ k := by have := pow_pos' (B := 65536) (by omega) k; omega
  have h5 : 1 * val 65536 (xs.drop k) ≤ (65536 : Int) ^ k * val 65536 (xs.drop k) := Int.mul_le_mul_of_nonneg_right h4 h3
  omega
 ·
  rw [List.drop_eq_nil_of_le (by omega)]
  exact val_nonneg (by omega) h
theorem fits_len {xs : List Int} {n : Nat} (h : Rep 65536 xs n) (_hl : 4 < xs.length) : 4611686018427387904 < n := by
 apply Nat.lt_of_not_le
 intro hn
 have := h.len_le (L := 4) (by omega) (by rw [show (65536 : Int) ^ 4 = 18446744073709551616 by decide]; omega)
 omega
theorem fits_top {xs : List Int} {n : Nat} {x : Int} (h : Rep 65536 xs n) (hl : xs.length = 4) (hx : xs[3]? = some x) : (16384 < x → 4611686018427387904 < n) ∧ (x ≤ 16384 → n < 4611967493404098560) := by
 obtain ⟨h1, h2⟩ := val_top (k := 3) h.1 hl hx
 rw [h.2.2, show (65536 : Int) ^ 3 = 281474976710656 by decide] at h1 h2
 constructor <;> intro hh <;> omega
theorem fits_short {xs : List Int} {n : Nat} (h : Rep 65536 xs n) (_hl : xs.length < 4) : n < 281474976710656 := by
 have h1 := h.lt (by omega)
 have h2 : (65536 : Int) ^ xs.length ≤ 65536 ^ 3 := by
  have : ∀ m : Nat, m ≤ 3 → (65536 : Int) ^ m ≤ 65536 ^ 3 := by decide
  exact this _ (by omega)
 rw [show (65536 : Int) ^ 3 = 281474976710656 by decide] at h2
 omega
set_option maxRecDepth 100000 in
set_option maxHeartbeats 2000000 in
theorem zfits_long (s : Bool) (A : Option Addr) (l c n : Nat) (xs : List Int) (w : World) (hx : Ints .i64 w A l xs) (hr : Rep 65536 xs n) (_hlm : l ≤ 9223372036854775807) (_hl : 4 < l) :
  Calls Try.prog 163 #[.agg #[.bool s, .slice A l c]] w (fun e w' => e = .returned (.tuple #[.int .i64 0, .bool false]) ∧ Ext w w') := by
 have HA := hid hx
 have HLX : Hid (xs.length = l) := hx.1
 have HR := hid hr
 clear hx hr
 have hXe : Ext w (w.alloc (.cells #[.bool s, .slice A l c] 63)) := ((Ext.refl w).alloc _)
 have kA : Blk (w.alloc (.cells #[.bool s, .slice A l c] 63)) w.heap.size 63 #[.bool s, .slice A l c] := Blk.at_ (by simp)
 go_enter Try.func163, Try.ntmps163
 go_wp2_with fail
 generalize (w.alloc (.cells #[.bool s, .slice A l c] 63)) = w1 at hXe kA ⊢
 have HX := hid hXe
 clear hXe
 have KA := hid kA
 clear kA
 have cA0 : w1.cell? ⟨w.heap.size, 0, none⟩ = some (.bool s) := KA.out.cell 0
 have cA1 : w1.cell? ⟨w.heap.size, 1, none⟩ = some (.slice A l c) := KA.out.cell 1
 go_wp2
 go_ret2
 exact ⟨rfl, HX.out⟩
set_option maxRecDepth 100000 in
set_option maxHeartbeats 2000000 in
theorem zfits_top (s : Bool) (A : Option Addr) (l c n : Nat) (xs : List Int) (w : World) (hx : Ints .i64 w A l xs) (hr : Rep 65536 xs n) (_hlm : l ≤ 9223372036854775807) (hl : l = 4) (x3 : Int) (h3 : xs[3]? = some x3) (_hx3 : 16384 < x3) :
  Calls Try.prog 163 #[.agg #[.bool s, .slice A l c]] w (fun e w' => e = .returned (.tuple #[.int .i64 0, .bool false]) ∧ Ext w w') := by
 have HA := hid hx
 have HLX : Hid (xs.length = l) := hx.1
 have HR := hid hr
 clear hx hr
 have hl4 := HLX.out
 rw [hl] at hl4
 have HF := hid (fits_top HR.out hl4 h3)
 clear hl4
 subst hl
 obtain ⟨b3, o3, y3, hAA, hy3, _, hc3⟩ := HA.out.get (show 3 < 4 by omega)
 obtain rfl : x3 = y3 := by rw [h3] at hy3; injection hy3
 clear h3 hy3
 subst hAA
 have hXe : Ext w (w.alloc (.cells #[.bool s, .slice (some ⟨b3, o3, none⟩) 4 c] 63)) := ((Ext.refl w).alloc _)
 have kA : Blk (w.alloc (.cells #[.bool s, .slice (some ⟨b3, o3, none⟩) 4 c] 63)) w.heap.size 63 #[.bool s, .slice (some ⟨b3, o3, none⟩) 4 c] := Blk.at_ (by simp)
 have hc4 := hXe.cell hc3
 go_enter Try.func163, Try.ntmps163
 go_wp2_with fail
 generalize (w.alloc (.cells #[.bool s, .slice (some ⟨b3, o3, none⟩) 4 c] 63)) = w1 at hXe hc4 kA ⊢
 have HX := hid hXe
 clear hXe
 have KA := hid kA
 clear kA
 have cA0 : w1.cell? ⟨w.heap.size, 0, none⟩ = some (.bool s) := KA.out.cell 0
 have cA1 : w1.cell? ⟨w.heap.size, 1, none⟩ = some (.slice (some ⟨b3, o3, none⟩) 4 c) := KA.out.cell 1
 go_wp2
 go_ret2
 exact ⟨rfl, HX.out⟩
set_option maxRecDepth 100000 in
set_option maxHeartbeats 2000000 in
theorem zfits_bb (s : Bool) (A : Option Addr) (l c n : Nat) (xs : List Int) (w : World) (hx : Ints .i64 w A l xs) (hr : Rep 65536 xs n) (_hlm : l ≤ 9223372036854775807) (hl : l = 4) (x3 : Int) (h3 : xs[3]? = some x3) (hx3 : x3 ≤ 16384) (_hn : 4611686018427387904 < n) :
  Calls Try.prog 163 #[.agg #[.bool s, .slice A l c]] w (fun e w' => e = .returned (.tuple #[.int .i64 0, .bool false]) ∧ Ext w w') := by
 have HA := hid hx
 have HLX : Hid (xs.length = l) := hx.1
 have HR := hid hr
 clear hx hr
 have hl4 := HLX.out
 rw [hl] at hl4
 have HF := hid (fits_top HR.out hl4 h3)
 clear hl4
 subst hl
 obtain ⟨b3, o3, y3, hAA, hy3, _, hc3⟩ := HA.out.get (show 3 < 4 by omega)
 obtain rfl : x3 = y3 := by rw [h3] at hy3; injection hy3
 clear h3 hy3
 subst hAA
 have HN : Hid (n ≤ 9223372036854775807) := by have := HF.out.2 hx3; show _ ≤ _; omega
 have hXe : Ext w (w.alloc (.cells #[.bool s, .slice (some ⟨b3, o3, none⟩) 4 c] 63)) := ((Ext.refl w).alloc _)
 have kA : Blk (w.alloc (.cells #[.bool s, .slice (some ⟨b3, o3, none⟩) 4 c] 63)) w.heap.size 63 #[.bool s, .slice (some ⟨b3, o3, none⟩) 4 c] := Blk.at_ (by simp)
 have hc4 := hXe.cell hc3
 go_enter Try.func163, Try.ntmps163
 go_wp2_with fail
 generalize (w.alloc (.cells #[.bool s, .slice (some ⟨b3, o3, none⟩) 4 c] 63)) = w1 at hXe hc4 kA ⊢
 have HX := hid hXe
 clear hXe
 have KA := hid kA
 clear kA
 have cA0 : w1.cell? ⟨w.heap.size, 0, none⟩ = some (.bool s) := KA.out.cell 0
 have cA1 : w1.cell? ⟨w.heap.size, 1, none⟩ = some (.slice (some ⟨b3, o3, none⟩) 4 c) := KA.out.cell 1
 go_wp2
 clear cA0 cA1
 go_loopg [4, 5] 4 (fun g s4 s5 wr => ∃ (k : Nat) (u : Int), k = g ∧ k ≤ 4 ∧ s5 = .int .i64 ((k : Int) - 1) ∧ s4 = .int .i64 u ∧ Hid (u = val 65536 (xs.drop k)) ∧ Hid (Blk wr w.heap.size 63 #[.bool s, .slice (some ⟨b3, o3, none⟩) 4 c]) ∧ Hid (Ext w wr))
 case atStart => exact ⟨4, 0, rfl, by omega, rfl, rfl, by rw [List.drop_eq_nil_of_le (by rw [HLX.out]; exact Nat.le_refl _)]; rfl, KA.out, HX.out⟩
 case round =>
  clear KA HX
  obtain ⟨k, u, rfl, hk, rfl, rfl, HU, KA, HX⟩ := hrel
  have cA0 : wr.cell? ⟨w.heap.size, 0, none⟩ = some (.bool s) := KA.out.cell 0
  have cA1 : wr.cell? ⟨w.heap.size, 1, none⟩ = some (.slice (some ⟨b3, o3, none⟩) 4 c) := KA.out.cell 1
  rcases Nat.eq_zero_or_pos k with h0 | h0
  ·
   subst h0
   have hu : u = (n : Int) := by have := HU.out; rw [List.drop_zero, HR.out.2.2] at this; exact this
   clear HU
   subst hu
   rw [show (((0 : Nat) : Int) - 1) = -1 by omega]
   go_wp2
   go_ret2
   exact ⟨rfl, HX.out⟩
  ·
   obtain ⟨j, rfl⟩ : ∃ j, k = j + 1 := ⟨k - 1, by omega⟩
   rw [show ((j + 1 : Nat) : Int) - 1 = (j : Int) by omega]
   have hj0 : (0 : Int) ≤ (j : Int) := by omega
   have hjl : (j : Int) < 4 := by omega
   obtain ⟨b1, o1, x, hAA, hx, _, hcx⟩ := (HA.out.ext HX.out).get (show j < 4 by omega)
   obtain ⟨hx0, hx1⟩ := HR.out.1.get hx
   have hv := val_drop (B := 65536) hx
   rw [← HU.out] at hv
   have hv1 := val16_drop_le HR.out.1 j
   have hv0 := val_nonneg (B := 65536) (by omega) (HR.out.1.drop (j + 1))
   rw [← HU.out] at hv0
   rw [HR.out.2.2] at hv1
   have HV : Hid (u * 65536 + x = val 65536 (xs.drop j)) := by show _ = _; rw [hv]; omega
   have hs0 : 0 ≤ u * 65536 + x := by omega
   have hs1 : u * 65536 + x ≤ 9223372036854775807 := by have := HV.out; have := HN.out; omega
   have hs2 : u * 65536 ≤ 9223372036854775807 := by omega
   clear hx hv hv1
   injection hAA with hAA
   injection hAA with e1 e2
   subst e1 e2
   go_wp2
   go_roundg j
   case rel => exact ⟨j, _, rfl, by omega, by go_num, rfl, HV.out, KA.out, HX.out⟩
   case measure => omega
set_option maxRecDepth 100000 in
set_option maxHeartbeats 2000000 in
theorem zfits_bt (A : Option Addr) (l c n : Nat) (xs : List Int) (w : World) (hx : Ints .i64 w A l xs) (hr : Rep 65536 xs n) (_hlm : l ≤ 9223372036854775807) (hl : l = 4) (x3 : Int) (h3 : xs[3]? = some x3) (hx3 : x3 ≤ 16384) (_hn : n ≤ 4611686018427387904) :
  Calls Try.prog 163 #[.agg #[.bool true, .slice A l c]] w (fun e w' => e = .returned (.tuple #[.int .i64 (-(n : Int)), .bool true]) ∧ Ext w w') := by
 have HA := hid hx
 have HLX : Hid (xs.length = l) := hx.1
 have HR := hid hr
 clear hx hr
 have hl4 := HLX.out
 rw [hl] at hl4
 have HF := hid (fits_top HR.out hl4 h3)
 clear hl4
 subst hl
 obtain ⟨b3, o3, y3, hAA, hy3, _, hc3⟩ := HA.out.get (show 3 < 4 by omega)
 obtain rfl : x3 = y3 := by rw [h3] at hy3; injection hy3
 clear h3 hy3
 subst hAA
 have HN : Hid (n ≤ 9223372036854775807) := by have := HF.out.2 hx3; show _ ≤ _; omega
 have hXe : Ext w (w.alloc (.cells #[.bool true, .slice (some ⟨b3, o3, none⟩) 4 c] 63)) := ((Ext.refl w).alloc _)
 have kA : Blk (w.alloc (.cells #[.bool true, .slice (some ⟨b3, o3, none⟩) 4 c] 63)) w.heap.size 63 #[.bool true, .slice (some ⟨b3, o3, none⟩) 4 c] := Blk.at_ (by simp)
 have hc4 := hXe.cell hc3
 go_enter Try.func163, Try.ntmps163
 go_wp2_with fail
 generalize (w.alloc (.cells #[.bool true, .slice (some ⟨b3, o3, none⟩) 4 c] 63)) = w1 at hXe hc4 kA ⊢
 have HX := hid hXe
 clear hXe
 have KA := hid kA
 clear kA
 have cA0 : w1.cell? ⟨w.heap.size, 0, none⟩ = some (.bool true) := KA.out.cell 0
 have cA1 : w1.cell? ⟨w.heap.size, 1, none⟩ = some (.slice (some ⟨b3, o3, none⟩) 4 c) := KA.out.cell 1
 go_wp2
 clear cA0 cA1
 go_loopg [4, 5] 4 (fun g s4 s5 wr => ∃ (k : Nat) (u : Int), k = g ∧ k ≤ 4 ∧ s5 = .int .i64 ((k : Int) - 1) ∧ s4 = .int .i64 u ∧ Hid (u = val 65536 (xs.drop k)) ∧ Hid (Blk wr w.heap.size 63 #[.bool true, .slice (some ⟨b3, o3, none⟩) 4 c]) ∧ Hid (Ext w wr))
 case atStart => exact ⟨4, 0, rfl, by omega, rfl, rfl, by rw [List.drop_eq_nil_of_le (by rw [HLX.out]; exact Nat.le_refl _)]; rfl, KA.out, HX.out⟩
 case round =>
  clear KA HX
  obtain ⟨k, u, rfl, hk, rfl, rfl, HU, KA, HX⟩ := hrel
  have cA0 : wr.cell? ⟨w.heap.size, 0, none⟩ = some (.bool true) := KA.out.cell 0
  have cA1 : wr.cell? ⟨w.heap.size, 1, none⟩ = some (.slice (some ⟨b3, o3, none⟩) 4 c) := KA.out.cell 1
  rcases Nat.eq_zero_or_pos k with h0 | h0
  ·
   subst h0
   have hu : u = (n : Int) := by have := HU.out; rw [List.drop_zero, HR.out.2.2] at this; exact this
   clear HU
   subst hu
   rw [show (((0 : Nat) : Int) - 1) = -1 by omega]
   go_wp2
   go_ret2
   exact ⟨rfl, HX.out⟩
  ·
   obtain ⟨j, rfl⟩ : ∃ j, k = j + 1 := ⟨k - 1, by omega⟩
   rw [show ((j + 1 : Nat) : Int) - 1 = (j : Int) by omega]
   have hj0 : (0 : Int) ≤ (j : Int) := by omega
   have hjl : (j : Int) < 4 := by omega
   obtain ⟨b1, o1, x, hAA, hx, _, hcx⟩ := (HA.out.ext HX.out).get (show j < 4 by omega)
   obtain ⟨hx0, hx1⟩ := HR.out.1.get hx
   have hv := val_drop (B := 65536) hx
   rw [← HU.out] at hv
   have hv1 := val16_drop_le HR.out.1 j
   have hv0 := val_nonneg (B := 65536) (by omega) (HR.out.1.drop (j + 1))
   rw [← HU.out] at hv0
   rw [HR.out.2.2] at hv1
   have HV : Hid (u * 65536 + x = val 65536 (xs.drop j)) := by show _ = _; rw [hv]; omega
   have hs0 : 0 ≤ u * 65536 + x := by omega
   have hs1 : u * 65536 + x ≤ 9223372036854775807 := by have := HV.out; have := HN.out; omega
   have hs2 : u * 65536 ≤ 9223372036854775807 := by omega
   clear hx hv hv1
   injection hAA with hAA
   injection hAA with e1 e2
   subst e1 e2
   go_wp2
   go_roundg j
   case rel => exact ⟨j, _, rfl, by omega, by go_num, rfl, HV.out, KA.out, HX.out⟩
   case measure => omega
set_option maxRecDepth 100000 in
set_option maxHeartbeats 2000000 in
theorem zfits_bf (A : Option Addr) (l c n : Nat) (xs : List Int) (w : World) (hx : Ints .i64 w A l xs) (hr : Rep 65536 xs n) (_hlm : l ≤ 9223372036854775807) (hl : l = 4) (x3 : Int) (h3 : xs[3]? = some x3) (hx3 : x3 ≤ 16384) (_hn : n ≤ 4611686018427387904) :
  Calls Try.prog 163 #[.agg #[.bool false, .slice A l c]] w (fun e w' => e = .returned (.tuple #[.int .i64 (n : Int), .bool true]) ∧ Ext w w') := by
 have HA := hid hx
 have HLX : Hid (xs.length = l) := hx.1
 have HR := hid hr
 clear hx hr
 have hl4 := HLX.out
 rw [hl] at hl4
 have HF := hid (fits_top HR.out hl4 h3)
 clear hl4
 subst hl
 obtain ⟨b3, o3, y3, hAA, hy3, _, hc3⟩ := HA.out.get (show 3 < 4 by omega)
 obtain rfl : x3 = y3 := by rw [h3] at hy3; injection hy3
 clear h3 hy3
 subst hAA
 have HN : Hid (n ≤ 9223372036854775807) := by have := HF.out.2 hx3; show _ ≤ _; omega
 have hXe : Ext w (w.alloc (.cells #[.bool false, .slice (some ⟨b3, o3, none⟩) 4 c] 63)) := ((Ext.refl w).alloc _)
 have kA : Blk (w.alloc (.cells #[.bool false, .slice (some ⟨b3, o3, none⟩) 4 c] 63)) w.heap.size 63 #[.bool false, .slice (some ⟨b3, o3, none⟩) 4 c] := Blk.at_ (by simp)
 have hc4 := hXe.cell hc3
 go_enter Try.func163, Try.ntmps163
 go_wp2_with fail
 generalize (w.alloc (.cells #[.bool false, .slice (some ⟨b3, o3, none⟩) 4 c] 63)) = w1 at hXe hc4 kA ⊢
 have HX := hid hXe
 clear hXe
 have KA := hid kA
 clear kA
 have cA0 : w1.cell? ⟨w.heap.size, 0, none⟩ = some (.bool false) := KA.out.cell 0
 have cA1 : w1.cell? ⟨w.heap.size, 1, none⟩ = some (.slice (some ⟨b3, o3, none⟩) 4 c) := KA.out.cell 1
 go_wp2
 clear cA0 cA1
 go_loopg [4, 5] 4 (fun g s4 s5 wr => ∃ (k : Nat) (u : Int), k = g ∧ k ≤ 4 ∧ s5 = .int .i64 ((k : Int) - 1) ∧ s4 = .int .i64 u ∧ Hid (u = val 65536 (xs.drop k)) ∧ Hid (Blk wr w.heap.size 63 #[.bool false, .slice (some ⟨b3, o3, none⟩) 4 c]) ∧ Hid (Ext w wr))
 case atStart => exact ⟨4, 0, rfl, by omega, rfl, rfl, by rw [List.drop_eq_nil_of_le (by rw [HLX.out]; exact Nat.le_refl _)]; rfl, KA.out, HX.out⟩
 case round =>
  clear KA HX
  obtain ⟨k, u, rfl, hk, rfl, rfl, HU, KA, HX⟩ := hrel
  have cA0 : wr.cell? ⟨w.heap.size, 0, none⟩ = some (.bool false) := KA.out.cell 0
  have cA1 : wr.cell? ⟨w.heap.size, 1, none⟩ = some (.slice (some ⟨b3, o3, none⟩) 4 c) := KA.out.cell 1
  rcases Nat.eq_zero_or_pos k with h0 | h0
  ·
   subst h0
   have hu : u = (n : Int) := by have := HU.out; rw [List.drop_zero, HR.out.2.2] at this; exact this
   clear HU
   subst hu
   rw [show (((0 : Nat) : Int) - 1) = -1 by omega]
   go_wp2
   go_ret2
   exact ⟨rfl, HX.out⟩
  ·
   obtain ⟨j, rfl⟩ : ∃ j, k = j + 1 := ⟨k - 1, by omega⟩
   rw [show ((j + 1 : Nat) : Int) - 1 = (j : Int) by omega]
   have hj0 : (0 : Int) ≤ (j : Int) := by omega
   have hjl : (j : Int) < 4 := by omega
   obtain ⟨b1, o1, x, hAA, hx, _, hcx⟩ := (HA.out.ext HX.out).get (show j < 4 by omega)
   obtain ⟨hx0, hx1⟩ := HR.out.1.get hx
   have hv := val_drop (B := 65536) hx
   rw [← HU.out] at hv
   have hv1 := val16_drop_le HR.out.1 j
   have hv0 := val_nonneg (B := 65536) (by omega) (HR.out.1.drop (j + 1))
   rw [← HU.out] at hv0
   rw [HR.out.2.2] at hv1
   have HV : Hid (u * 65536 + x = val 65536 (xs.drop j)) := by show _ = _; rw [hv]; omega
   have hs0 : 0 ≤ u * 65536 + x := by omega
   have hs1 : u * 65536 + x ≤ 9223372036854775807 := by have := HV.out; have := HN.out; omega
   have hs2 : u * 65536 ≤ 9223372036854775807 := by omega
   clear hx hv hv1
   injection hAA with hAA
   injection hAA with e1 e2
   subst e1 e2
   go_wp2
   go_roundg j
   case rel => exact ⟨j, _, rfl, by omega, by go_num, rfl, HV.out, KA.out, HX.out⟩
   case measure => omega
set_option maxRecDepth 100000 in
set_option maxHeartbeats 2000000 in
theorem zfits_st (A : Option Addr) (l c n : Nat) (xs : List Int) (w : World) (hx : Ints .i64 w A l xs) (hr : Rep 65536 xs n) (_hlm : l ≤ 9223372036854775807) (hl : l < 4) :
  Calls Try.prog 163 #[.agg #[.bool true, .slice A l c]] w (fun e w' => e = .returned (.tuple #[.int .i64 (-(n : Int)), .bool true]) ∧ Ext w w') := by
 have HA := hid hx
 have HLX : Hid (xs.length = l) := hx.1
 have HR := hid hr
 clear hx hr
 have hn : n < 281474976710656 := fits_short HR.out (by rw [HLX.out]; exact hl)
 have hl4 : ((l : Int) == 4) = false := by simp; omega
 have HN : Hid (n ≤ 9223372036854775807) := by show _ ≤ _; omega
 have hXe : Ext w (w.alloc (.cells #[.bool true, .slice A l c] 63)) := ((Ext.refl w).alloc _)
 have kA : Blk (w.alloc (.cells #[.bool true, .slice A l c] 63)) w.heap.size 63 #[.bool true, .slice A l c] := Blk.at_ (by simp)
 go_enter Try.func163, Try.ntmps163
 go_wp2_with fail
 generalize (w.alloc (.cells #[.bool true, .slice A l c] 63)) = w1 at hXe kA ⊢
 have HX := hid hXe
 clear hXe
 have KA := hid kA
 clear kA
 have cA0 : w1.cell? ⟨w.heap.size, 0, none⟩ = some (.bool true) := KA.out.cell 0
 have cA1 : w1.cell? ⟨w.heap.size, 1, none⟩ = some (.slice A l c) := KA.out.cell 1
 go_wp2
 clear cA0 cA1
 go_loopg [4, 5] l (fun g s4 s5 wr => ∃ (k : Nat) (u : Int), k = g ∧ k ≤ l ∧ s5 = .int .i64 ((k : Int) - 1) ∧ s4 = .int .i64 u ∧ Hid (u = val 65536 (xs.drop k)) ∧ Hid (Blk wr w.heap.size 63 #[.bool true, .slice A l c]) ∧ Hid (Ext w wr))
 case atStart => exact ⟨l, 0, rfl, by omega, rfl, rfl, by rw [List.drop_eq_nil_of_le (by rw [HLX.out]; exact Nat.le_refl _)]; rfl, KA.out, HX.out⟩
 case round =>
  clear KA HX
  obtain ⟨k, u, rfl, hk, rfl, rfl, HU, KA, HX⟩ := hrel
  have cA0 : wr.cell? ⟨w.heap.size, 0, none⟩ = some (.bool true) := KA.out.cell 0
  have cA1 : wr.cell? ⟨w.heap.size, 1, none⟩ = some (.slice A l c) := KA.out.cell 1
  rcases Nat.eq_zero_or_pos k with h0 | h0
  ·
   subst h0
   have hu : u = (n : Int) := by have := HU.out; rw [List.drop_zero, HR.out.2.2] at this; exact this
   clear HU
   subst hu
   rw [show (((0 : Nat) : Int) - 1) = -1 by omega]
   go_wp2
   go_ret2
   exact ⟨rfl, HX.out⟩
  ·
   obtain ⟨j, rfl⟩ : ∃ j, k = j + 1 := ⟨k - 1, by omega⟩
   rw [show ((j + 1 : Nat) : Int) - 1 = (j : Int) by omega]
   have hj0 : (0 : Int) ≤ (j : Int) := by omega
   have hjl : (j : Int) < (l : Int) := by omega
   obtain ⟨b1, o1, x, hAA, hx, _, hcx⟩ := (HA.out.ext HX.out).get (show j < l by omega)
   obtain ⟨hx0, hx1⟩ := HR.out.1.get hx
   have hv := val_drop (B := 65536) hx
   rw [← HU.out] at hv
   have hv1 := val16_drop_le HR.out.1 j
   have hv0 := val_nonneg (B := 65536) (by omega) (HR.out.1.drop (j + 1))
   rw [← HU.out] at hv0
   rw [HR.out.2.2] at hv1
   have HV : Hid (u * 65536 + x = val 65536 (xs.drop j)) := by show _ = _; rw [hv]; omega
   have hs0 : 0 ≤ u * 65536 + x := by omega
   have hs1 : u * 65536 + x ≤ 9223372036854775807 := by have := HV.out; have := HN.out; omega
   have hs2 : u * 65536 ≤ 9223372036854775807 := by omega
   clear hx hv hv1
   obtain rfl := hAA
   go_wp2
   go_roundg j
   case rel => exact ⟨j, _, rfl, by omega, by go_num, rfl, HV.out, KA.out, HX.out⟩
   case measure => omega
set_option maxRecDepth 100000 in
set_option maxHeartbeats 2000000 in
theorem zfits_sf (A : Option Addr) (l c n : Nat) (xs : List Int) (w : World) (hx : Ints .i64 w A l xs) (hr : Rep 65536 xs n) (_hlm : l ≤ 9223372036854775807) (hl : l < 4) :
  Calls Try.prog 163 #[.agg #[.bool false, .slice A l c]] w (fun e w' => e = .returned (.tuple #[.int .i64 (n : Int), .bool true]) ∧ Ext w w') := by
 have HA := hid hx
 have HLX : Hid (xs.length = l) := hx.1
 have HR := hid hr
 clear hx hr
 have hn : n < 281474976710656 := fits_short HR.out (by rw [HLX.out]; exact hl)
 have hl4 : ((l : Int) == 4) = false := by simp; omega
 have HN : Hid (n ≤ 9223372036854775807) := by show _ ≤ _; omega
 have hXe : Ext w (w.alloc (.cells #[.bool false, .slice A l c] 63)) := ((Ext.refl w).alloc _)
 have kA : Blk (w.alloc (.cells #[.bool false, .slice A l c] 63)) w.heap.size 63 #[.bool false, .slice A l c] := Blk.at_ (by simp)
 go_enter Try.func163, Try.ntmps163
 go_wp2_with fail
 generalize (w.alloc (.cells #[.bool false, .slice A l c] 63)) = w1 at hXe kA ⊢
 have HX := hid hXe
 clear hXe
 have KA := hid kA
 clear kA
 have cA0 : w1.cell? ⟨w.heap.size, 0, none⟩ = some (.bool false) := KA.out.cell 0
 have cA1 : w1.cell? ⟨w.heap.size, 1, none⟩ = some (.slice A l c) := KA.out.cell 1
 go_wp2
 clear cA0 cA1
 go_loopg [4, 5] l (fun g s4 s5 wr => ∃ (k : Nat) (u : Int), k = g ∧ k ≤ l ∧ s5 = .int .i64 ((k : Int) - 1) ∧ s4 = .int .i64 u ∧ Hid (u = val 65536 (xs.drop k)) ∧ Hid (Blk wr w.heap.size 63 #[.bool false, .slice A l c]) ∧ Hid (Ext w wr))
 case atStart => exact ⟨l, 0, rfl, by omega, rfl, rfl, by rw [List.drop_eq_nil_of_le (by rw [HLX.out]; exact Nat.le_refl _)]; rfl, KA.out, HX.out⟩
 case round =>
  clear KA HX
  obtain ⟨k, u, rfl, hk, rfl, rfl, HU, KA, HX⟩ := hrel
  have cA0 : wr.cell? ⟨w.heap.size, 0, none⟩ = some (.bool false) := KA.out.cell 0
  have cA1 : wr.cell? ⟨w.heap.size, 1, none⟩ = some (.slice A l c) := KA.out.cell 1
  rcases Nat.eq_zero_or_pos k with h0 | h0
  ·
   subst h0
   have hu : u = (n : Int) := by have := HU.out; rw [List.drop_zero, HR.out.2.2] at this; exact this
   clear HU
   subst hu
   rw [show (((0 : Nat) : Int) - 1) = -1 by omega]
   go_wp2
   go_ret2
   exact ⟨rfl, HX.out⟩
  ·
   obtain ⟨j, rfl⟩ : ∃ j, k = j + 1 := ⟨k - 1, by omega⟩
   rw [show ((j + 1 : Nat) : Int) - 1 = (j : Int) by omega]
   have hj0 : (0 : Int) ≤ (j : Int) := by omega
   have hjl : (j : Int) < (l : Int) := by omega
   obtain ⟨b1, o1, x, hAA, hx, _, hcx⟩ := (HA.out.ext HX.out).get (show j < l by omega)
   obtain ⟨hx0, hx1⟩ := HR.out.1.get hx
   have hv := val_drop (B := 65536) hx
   rw [← HU.out] at hv
   have hv1 := val16_drop_le HR.out.1 j
   have hv0 := val_nonneg (B := 65536) (by omega) (HR.out.1.drop (j + 1))
   rw [← HU.out] at hv0
   rw [HR.out.2.2] at hv1
   have HV : Hid (u * 65536 + x = val 65536 (xs.drop j)) := by show _ = _; rw [hv]; omega
   have hs0 : 0 ≤ u * 65536 + x := by omega
   have hs1 : u * 65536 + x ≤ 9223372036854775807 := by have := HV.out; have := HN.out; omega
   have hs2 : u * 65536 ≤ 9223372036854775807 := by omega
   clear hx hv hv1
   obtain rfl := hAA
   go_wp2
   go_roundg j
   case rel => exact ⟨j, _, rfl, by omega, by go_num, rfl, HV.out, KA.out, HX.out⟩
   case measure => omega
def fitI (z : Int) : Int := if -4611686018427387904 ≤ z ∧ z ≤ 4611686018427387904 then z else 0
def fitB (z : Int) : Bool := decide (-4611686018427387904 ≤ z ∧ z ≤ 4611686018427387904)
theorem zfits_any (v : Value) (z : Int) (w : World) (h : IntZ w v z) : Calls Try.prog 163 #[v] w fun e w' => e = .returned (.tuple #[.int .i64 (fitI z), .bool (fitB z)]) ∧ Ext w w' := by
 obtain ⟨A, l, c, rfl, A', l', c', xs, e, hI, hr, hc1, hc2⟩ := h
 injection e with e1 e2 e3
 subst e1 e2 e3
 have yes : ∀ {z : Int}, -4611686018427387904 ≤ z ∧ z ≤ 4611686018427387904 → fitI z = z ∧ fitB z = true := fun h => ⟨by rw [fitI, if_pos h], decide_eq_true h⟩
 have no : ∀ {z : Int}, ¬ (-4611686018427387904 ≤ z ∧ z ≤ 4611686018427387904) → fitI z = 0 ∧ fitB z = false := fun h => ⟨by rw [fitI, if_neg h], decide_eq_false h⟩
 rcases (show 4 < l ∨ l = 4 ∨ l < 4 by omega) with hl | hl | hl
 ·
  have hb := fits_len hr (by rw [hI.1]; exact hl)
  obtain ⟨e1, e2⟩ := no (z := z) (by omega)
  rw [e1, e2]
  exact zfits_long _ A l c _ xs w hI hr (by omega) hl
 ·
  have h3 : xs[3]? = some (xs[3]'(by rw [hI.1]; omega)) := List.getElem?_eq_getElem _
  generalize xs[3]'(by rw [hI.1]; omega) = x3 at h3
  obtain ⟨f1, f2⟩ := fits_top hr (by rw [hI.1]; exact hl) h3
  by_cases hx : 16384 < x3
  ·
   have hb := f1 hx
   obtain ⟨e1, e2⟩ := no (z := z) (by omega)
   rw [e1, e2]
   exact zfits_top _ A l c _ xs w hI hr (by omega) hl x3 h3 hx
  ·
   by_cases hn : 4611686018427387904 < z.natAbs
   ·
    obtain ⟨e1, e2⟩ := no (z := z) (by omega)
    rw [e1, e2]
    exact zfits_bb _ A l c _ xs w hI hr (by omega) hl x3 h3 (by omega) hn
   ·
    obtain ⟨e1, e2⟩ := yes (z := z) (by omega)
    rw [e1, e2]
    by_cases hz : z < 0
    ·
     rw [decide_eq_true hz]
     have := zfits_bt A l c _ xs w hI hr (by omega) hl x3 h3 (by omega) (by omega)
     rw [show (-(z.natAbs : Int)) = z by omega] at this
     exact this
    ·
     rw [decide_eq_false hz]
     have := zfits_bf A l c _ xs w hI hr (by omega) hl x3 h3 (by omega) (by omega)
     rw [show (z.natAbs : Int) = z by omega] at this
     exact this
 ·
  have hb := fits_short hr (by rw [hI.1]; exact hl)
  obtain ⟨e1, e2⟩ := yes (z := z) (by omega)
  rw [e1, e2]
  by_cases hz : z < 0
  ·
   rw [decide_eq_true hz]
   have := zfits_st A l c _ xs w hI hr (by omega) hl
   rw [show (-(z.natAbs : Int)) = z by omega] at this
   exact this
  ·
   rw [decide_eq_false hz]
   have := zfits_sf A l c _ xs w hI hr (by omega) hl
   rw [show (z.natAbs : Int) = z by omega] at this
   exact this
end Go.Proofs.Ytikhlcgnlbinfaa
