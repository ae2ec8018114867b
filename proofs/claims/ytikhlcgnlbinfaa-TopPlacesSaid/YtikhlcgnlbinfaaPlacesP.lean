/- Lemmas of the proof that follows (Places, part 16): walks of functions by contract, and plain lemmas. Conditions: none. -/
import Derived.Test.YtikhlcgnlbinfaaPlacesO
set_option maxRecDepth 100000
set_option maxHeartbeats 16000000
namespace Go.Proofs.Ytikhlcgnlbinfaa
open Lib (hid)
open Go.RowKit
theorem kJ (pl ph qn sq : Nat -> Int) (k0 r0 r1 : Int) (T kf : Nat -> Int) (nn : Int) (w : World) (hp : df pl ph qn k0) (hr : fI r0 r1 = true) (ht : bV 1000 sq = true) (hpr : ∀ w, Calls Try.prog 109 #[.agg #[.int .i64 (qn 0), .int .i64 (qn 1), .int .i64 (qn 2), .int .i64 (qn 3)], .agg #[.int .i64 (sq 0), .int .i64 (sq 1), .int .i64 (sq 2), .int .i64 (sq 3)]] w (fun e w' => e = .returned (.agg #[.int .i64 (T 0), .int .i64 (T 1), .int .i64 (T 2), .int .i64 (T 3)]) /\ Ext w w')) (hbm : ∀ w, Calls Try.prog 30 #[.agg #[.int .i64 (T 0), .int .i64 (T 1), .int .i64 (T 2), .int .i64 (T 3)]] w (fun e w' => e = .returned (.tuple #[.agg #[.int .i64 (kf 0), .int .i64 (kf 1), .int .i64 (kf 2)], .int .i64 nn, .int .i64 0]) /\ Ext w w')) (hk : ∀ i, -nn <= kf i /\ kf i <= nn) (hn : 1 <= nn /\ nn <= 64000000000000) :
  Calls Try.prog 28 #[.agg #[.int .i64 (pl 0), .int .i64 (ph 0), .int .i64 (pl 1), .int .i64 (ph 1), .int .i64 (pl 2), .int .i64 (ph 2), .int .i64 (qn 0), .int .i64 (qn 1), .int .i64 (qn 2), .int .i64 (qn 3), .int .i64 k0], .agg #[.int .i64 (sq 0), .int .i64 (sq 1), .int .i64 (sq 2), .int .i64 (sq 3)], .agg #[.int .i64 r0, .int .i64 r1]] w (mC (cM pl kf nn r0 r1 (aj (k0 * r1) 1000000)) (cN ph kf nn r0 r1 (aj (k0 * r1) 1000000)) w) := by
 have HP := hid hp;have HR := hid hr;have HT := hid ht;clear hr ht;have hrr := dv.1 HR.out;have hk0 := hp.k;have hm : 0 <= k0 * r1 /\ k0 * r1 <= 9007199254740992 := ⟨Int.mul_nonneg hk0.1 (by omega), Int.le_trans (Int.mul_le_mul hk0.2 hrr.2.2 (by omega) (by omega)) (by omega)⟩;have hsh := fun w => ej k0 r1 1000000 w (by omega) (by omega) (by omega) (by omega) (by omega) (by omega)
 have hwd : 0 <= aj (k0 * r1) 1000000 /\ aj (k0 * r1) 1000000 <= 9007199255 := by unfold aj; omega
 rw [(iO (by omega)).1] at hsh;obtain ⟨wd, hwe⟩ : ∃ x, aj (k0 * r1) 1000000 = x := ⟨_, rfl⟩;simp only [hwe] at hsh;rw [hwe] at hwd |-;obtain ⟨lo, hlo⟩ : ∃ f, cM pl kf nn r0 r1 wd = f := ⟨_, rfl⟩;obtain ⟨hi, hhi⟩ : ∃ f, cN ph kf nn r0 r1 wd = f := ⟨_, rfl⟩;rw [hlo, hhi];have HLO := hid (fun i => (congrFun hlo i).symm);have HHI := hid (fun i => (congrFun hhi i).symm);have HSH := hid hsh;have HPR := hid hpr;have HBM := hid hbm;have HK := hid hk;have HWD := hid hwd;clear hsh hwe hlo hhi hpr hbm hk hm hwd hk0 hrr;clear hp;have hXe : Ext w ((((w.alloc (.cells #[.int .i64 (pl 0), .int .i64 (ph 0), .int .i64 (pl 1), .int .i64 (ph 1), .int .i64 (pl 2), .int .i64 (ph 2), .int .i64 (qn 0), .int .i64 (qn 1), .int .i64 (qn 2), .int .i64 (qn 3), .int .i64 (k0)] 49)).alloc (.cells #[.int .i64 (sq 0), .int .i64 (sq 1), .int .i64 (sq 2), .int .i64 (sq 3)] 23)).alloc (.cells #[.int .i64 (r0), .int .i64 (r1)] 31)).alloc (.cells #[.int .i64 (0), .int .i64 (0), .int .i64 (0), .int .i64 (0), .int .i64 (0), .int .i64 (0)] 54)) := (((((Ext.refl w).alloc _).alloc _).alloc _).alloc _);have kP : Blk ((((w.alloc (.cells #[.int .i64 (pl 0), .int .i64 (ph 0), .int .i64 (pl 1), .int .i64 (ph 1), .int .i64 (pl 2), .int .i64 (ph 2), .int .i64 (qn 0), .int .i64 (qn 1), .int .i64 (qn 2), .int .i64 (qn 3), .int .i64 (k0)] 49)).alloc (.cells #[.int .i64 (sq 0), .int .i64 (sq 1), .int .i64 (sq 2), .int .i64 (sq 3)] 23)).alloc (.cells #[.int .i64 (r0), .int .i64 (r1)] 31)).alloc (.cells #[.int .i64 (0), .int .i64 (0), .int .i64 (0), .int .i64 (0), .int .i64 (0), .int .i64 (0)] 54)) w.heap.size 49 #[.int .i64 (pl 0), .int .i64 (ph 0), .int .i64 (pl 1), .int .i64 (ph 1), .int .i64 (pl 2), .int .i64 (ph 2), .int .i64 (qn 0), .int .i64 (qn 1), .int .i64 (qn 2), .int .i64 (qn 3), .int .i64 (k0)] := Blk.alloc (Blk.alloc (Blk.alloc (Blk.at_ (by simp)) _) _) _;have kQ : Blk ((((w.alloc (.cells #[.int .i64 (pl 0), .int .i64 (ph 0), .int .i64 (pl 1), .int .i64 (ph 1), .int .i64 (pl 2), .int .i64 (ph 2), .int .i64 (qn 0), .int .i64 (qn 1), .int .i64 (qn 2), .int .i64 (qn 3), .int .i64 (k0)] 49)).alloc (.cells #[.int .i64 (sq 0), .int .i64 (sq 1), .int .i64 (sq 2), .int .i64 (sq 3)] 23)).alloc (.cells #[.int .i64 (r0), .int .i64 (r1)] 31)).alloc (.cells #[.int .i64 (0), .int .i64 (0), .int .i64 (0), .int .i64 (0), .int .i64 (0), .int .i64 (0)] 54)) (w.heap.size + 1) 23 #[.int .i64 (sq 0), .int .i64 (sq 1), .int .i64 (sq 2), .int .i64 (sq 3)] := Blk.alloc (Blk.alloc (Blk.at_ (by simp)) _) _;have kS : Blk ((((w.alloc (.cells #[.int .i64 (pl 0), .int .i64 (ph 0), .int .i64 (pl 1), .int .i64 (ph 1), .int .i64 (pl 2), .int .i64 (ph 2), .int .i64 (qn 0), .int .i64 (qn 1), .int .i64 (qn 2), .int .i64 (qn 3), .int .i64 (k0)] 49)).alloc (.cells #[.int .i64 (sq 0), .int .i64 (sq 1), .int .i64 (sq 2), .int .i64 (sq 3)] 23)).alloc (.cells #[.int .i64 (r0), .int .i64 (r1)] 31)).alloc (.cells #[.int .i64 (0), .int .i64 (0), .int .i64 (0), .int .i64 (0), .int .i64 (0), .int .i64 (0)] 54)) (w.heap.size + 2) 31 #[.int .i64 (r0), .int .i64 (r1)] := Blk.alloc (Blk.at_ (by simp)) _
 have kR : Blk ((((w.alloc (.cells #[.int .i64 (pl 0), .int .i64 (ph 0), .int .i64 (pl 1), .int .i64 (ph 1), .int .i64 (pl 2), .int .i64 (ph 2), .int .i64 (qn 0), .int .i64 (qn 1), .int .i64 (qn 2), .int .i64 (qn 3), .int .i64 (k0)] 49)).alloc (.cells #[.int .i64 (sq 0), .int .i64 (sq 1), .int .i64 (sq 2), .int .i64 (sq 3)] 23)).alloc (.cells #[.int .i64 (r0), .int .i64 (r1)] 31)).alloc (.cells #[.int .i64 (0), .int .i64 (0), .int .i64 (0), .int .i64 (0), .int .i64 (0), .int .i64 (0)] 54)) (w.heap.size + 3) 54 #[.int .i64 (0), .int .i64 (0), .int .i64 (0), .int .i64 (0), .int .i64 (0), .int .i64 (0)] := Blk.at_ (by simp);go_enter Try.func28, Try.ntmps28
 go_upto_region 1 with (fail)
 generalize ((((w.alloc _).alloc _).alloc _).alloc _) = w1 at hXe kP kQ kS kR |-;have HX := hid hXe;clear hXe;have KP := hid kP;clear kP;have KQ := hid kQ;clear kQ;have KS := hid kS;clear kS;have KR := hid kR;clear kR;have p0 := KP.out.cell 0;have p1 := KP.out.cell 1;have p2 := KP.out.cell 2;have p3 := KP.out.cell 3;have p4 := KP.out.cell 4;have p5 := KP.out.cell 5;have p6 := KP.out.cell 6;have p7 := KP.out.cell 7;have p8 := KP.out.cell 8;have p9 := KP.out.cell 9;have p10 := KP.out.cell 10;simp only [List.getElem?_toArray, List.getElem?_cons_zero, List.getElem?_cons_succ] at p0 p1 p2 p3 p4 p5 p6 p7 p8 p9 p10
 go_wp2_with fail
 clear p0 p1 p2 p3 p4 p5 p6 p7 p8 p9 p10
 go_loopg [25] 3 (fun fu iv W => ∃ k : Nat, fu = 3 - k /\ k <= 3 /\ iv = .int .i64 (k : Int) /\ Hid (Blk W w.heap.size 49 #[.int .i64 (pl 0), .int .i64 (ph 0), .int .i64 (pl 1), .int .i64 (ph 1), .int .i64 (pl 2), .int .i64 (ph 2), .int .i64 (qn 0), .int .i64 (qn 1), .int .i64 (qn 2), .int .i64 (qn 3), .int .i64 k0]) /\ Hid (Blk W (w.heap.size + 1) 23 #[.int .i64 (sq 0), .int .i64 (sq 1), .int .i64 (sq 2), .int .i64 (sq 3)]) /\ Hid (Blk W (w.heap.size + 2) 31 #[.int .i64 r0, .int .i64 r1]) /\ Hid (Blk W (w.heap.size + 3) 54 #[.int .i64 (0), .int .i64 (0), .int .i64 (0), .int .i64 (0), .int .i64 (0), .int .i64 (0)]) /\ Hid (Ext w W))
 case atStart => exact ⟨0, rfl, by omega, rfl, KP, KQ, KS, KR, HX⟩
 case round =>
  clear HX KP KQ KS KR;obtain ⟨k, rfl, hk, rfl, KP, KQ, KS, KR, HX⟩ := hrel
  by_cases hlt : k < 3
  .
   have q1 : decide (k < 3) = true := decide_eq_true hlt;have q1b : decide ((k : Int) < (3 : Int)) = true := decide_eq_true (by omega);have ix := dt pl ph hlt;obtain ⟨b1, b2, b3⟩ := HP.out.pos k hlt;obtain ⟨lo, hlo⟩ : ∃ x, pl k = x := ⟨_, rfl⟩;obtain ⟨hi, hhi⟩ : ∃ x, ph k = x := ⟨_, rfl⟩;rw [hlo, hhi] at ix;rw [hlo] at b1 b2;rw [hhi] at b2 b3;clear hlo hhi;have g1 : decide (hi < lo) = false := decide_eq_false (by omega);have g2 : decide (lo < -268435456) = false := decide_eq_false (by omega);have g3 : decide (268435456 < hi) = false := decide_eq_false (by omega);clear b1 b2 b3
   go_upto_region 4 with (fail)
   have hXa : Ext wr (wr.alloc (.cells #[.int .i64 lo, .int .i64 hi] 31)) := (Ext.refl _).alloc _;have hB := Blk.new wr 31 #[.int .i64 lo, .int .i64 hi];replace HX := hid (HX.out.trans hXa);replace KP := hid (KP.out.ext hXa);replace KQ := hid (KQ.out.ext hXa);replace KS := hid (KS.out.ext hXa);replace KR := hid (KR.out.ext hXa);clear hXa;generalize wr.heap.size = gm at hB |-;generalize wr.alloc _ = w2 at hB HX KP KQ KS KR |-;have KM := hid hB;clear hB ix;have m0 := KM.out.cell 0;have m1 := KM.out.cell 1;simp only [List.getElem?_toArray, List.getElem?_cons_zero, List.getElem?_cons_succ] at m0 m1;go_wp2;go_roundg (3 - (k + 1))
   case rel => exact ⟨k + 1, rfl, by omega, by go_num, KP, KQ, KS, KR, HX⟩
   case measure => omega
  obtain rfl : k = 3 := by omega
  have h4 : decide ((3 : Int) < (3 : Int)) = false := by decide
  have hkk := HP.out.k;have p0 := KP.out.cell 0;have p1 := KP.out.cell 1;have p2 := KP.out.cell 2;have p3 := KP.out.cell 3;have p4 := KP.out.cell 4;have p5 := KP.out.cell 5;have p6 := KP.out.cell 6;have p7 := KP.out.cell 7;have p8 := KP.out.cell 8;have p9 := KP.out.cell 9;have p10 := KP.out.cell 10;simp only [List.getElem?_toArray, List.getElem?_cons_zero, List.getElem?_cons_succ] at p0 p1 p2 p3 p4 p5 p6 p7 p8 p9 p10
  go_wp2_with fail
  refine (aq 0 k0 2147483648 _).mono ?_;rw [ag.2 hkk];rintro e w2 ⟨rfl, hX⟩;replace HX := hid (HX.out.trans hX);replace KP := hid (KP.out.ext hX);replace KQ := hid (KQ.out.ext hX);replace KS := hid (KS.out.ext hX);replace KR := hid (KR.out.ext hX);clear hX;clear p0 p1 p2 p3 p4 p5 p6 p7 p8 p9 p10;obtain ⟨hr0, hr1, hr2⟩ := dv.1 HR.out;have y1 : decide (r1 < r0) = false := decide_eq_false (by omega);have y2 : decide (r0 < 0) = false := decide_eq_false (by omega);have y3 : decide (4194304 < r1) = false := decide_eq_false (by omega);have p0 := KP.out.cell 0;have p1 := KP.out.cell 1;have p2 := KP.out.cell 2;have p3 := KP.out.cell 3;have p4 := KP.out.cell 4;have p5 := KP.out.cell 5;have p6 := KP.out.cell 6;have p7 := KP.out.cell 7;have p8 := KP.out.cell 8;have p9 := KP.out.cell 9;have p10 := KP.out.cell 10;simp only [List.getElem?_toArray, List.getElem?_cons_zero, List.getElem?_cons_succ] at p0 p1 p2 p3 p4 p5 p6 p7 p8 p9 p10;have s0 := KS.out.cell 0;have s1 := KS.out.cell 1;simp only [List.getElem?_toArray, List.getElem?_cons_zero, List.getElem?_cons_succ] at s0 s1
  go_wp2_with fail
  refine (bM 1000 qn _ (by omega)).mono ?_;rw [HP.out.q];rintro e w3 ⟨rfl, hX⟩;replace HX := hid (HX.out.trans hX);replace KP := hid (KP.out.ext hX);replace KQ := hid (KQ.out.ext hX);replace KS := hid (KS.out.ext hX);replace KR := hid (KR.out.ext hX);clear hX;clear p0 p1 p2 p3 p4 p5 p6 p7 p8 p9 p10;clear s0 s1;have q0 := KQ.out.cell 0;have q1 := KQ.out.cell 1;have q2 := KQ.out.cell 2;have q3 := KQ.out.cell 3;simp only [List.getElem?_toArray, List.getElem?_cons_zero, List.getElem?_cons_succ] at q0 q1 q2 q3
  go_wp2_with fail
  refine (bM 1000 sq _ (by omega)).mono ?_;rw [HT.out];rintro e w4 ⟨rfl, hX⟩;replace HX := hid (HX.out.trans hX);replace KP := hid (KP.out.ext hX);replace KQ := hid (KQ.out.ext hX);replace KS := hid (KS.out.ext hX);replace KR := hid (KR.out.ext hX);clear hX;clear y1 y2 y3;clear q0 q1 q2 q3;clear HT;have p0 := KP.out.cell 0;have p1 := KP.out.cell 1;have p2 := KP.out.cell 2;have p3 := KP.out.cell 3;have p4 := KP.out.cell 4;have p5 := KP.out.cell 5;have p6 := KP.out.cell 6;have p7 := KP.out.cell 7;have p8 := KP.out.cell 8;have p9 := KP.out.cell 9;have p10 := KP.out.cell 10;simp only [List.getElem?_toArray, List.getElem?_cons_zero, List.getElem?_cons_succ] at p0 p1 p2 p3 p4 p5 p6 p7 p8 p9 p10;have q0 := KQ.out.cell 0;have q1 := KQ.out.cell 1;have q2 := KQ.out.cell 2;have q3 := KQ.out.cell 3;simp only [List.getElem?_toArray, List.getElem?_cons_zero, List.getElem?_cons_succ] at q0 q1 q2 q3
  go_wp2_with fail
  refine (HPR.out _).mono ?_;rintro e w5 ⟨rfl, hX⟩;replace HX := hid (HX.out.trans hX);replace KP := hid (KP.out.ext hX);replace KQ := hid (KQ.out.ext hX);replace KS := hid (KS.out.ext hX);replace KR := hid (KR.out.ext hX);clear hX;clear HPR;clear p0 p1 p2 p3 p4 p5 p6 p7 p8 p9 p10;clear q0 q1 q2 q3
  go_wp2_with fail
  refine (HBM.out _).mono ?_;rintro e w6 ⟨rfl, hX⟩;replace HX := hid (HX.out.trans hX);replace KP := hid (KP.out.ext hX);replace KQ := hid (KQ.out.ext hX);replace KS := hid (KS.out.ext hX);replace KR := hid (KR.out.ext hX);clear hX;clear HBM
  go_upto_region 12 with (fail)
  have hXa : Ext w6 (w6.alloc (.cells #[.int .i64 (kf 0), .int .i64 (kf 1), .int .i64 (kf 2)] 22)) := (Ext.refl _).alloc _;have kK := Blk.new w6 22 #[.int .i64 (kf 0), .int .i64 (kf 1), .int .i64 (kf 2)];have zP := KP.out.lt;have zQ := KQ.out.lt;have zS := KS.out.lt;have zR := KR.out.lt;have zg := HX.out.size;replace HX := hid (HX.out.trans hXa);replace KP := hid (KP.out.ext hXa);replace KQ := hid (KQ.out.ext hXa);replace KS := hid (KS.out.ext hXa);replace KR := hid (KR.out.ext hXa);generalize (w6.alloc _) = w7 at HX KP KQ KS KR kK |-;have KK := hid kK;clear kK hXa;have p0 := KP.out.cell 0;have p1 := KP.out.cell 1;have p2 := KP.out.cell 2;have p3 := KP.out.cell 3;have p4 := KP.out.cell 4;have p5 := KP.out.cell 5;have p6 := KP.out.cell 6;have p7 := KP.out.cell 7;have p8 := KP.out.cell 8;have p9 := KP.out.cell 9;have p10 := KP.out.cell 10;simp only [List.getElem?_toArray, List.getElem?_cons_zero, List.getElem?_cons_succ] at p0 p1 p2 p3 p4 p5 p6 p7 p8 p9 p10;have s0 := KS.out.cell 0;have s1 := KS.out.cell 1;simp only [List.getElem?_toArray, List.getElem?_cons_zero, List.getElem?_cons_succ] at s0 s1
  go_wp2_with fail
  refine (HSH.out _).mono ?_;rintro e w8 ⟨rfl, hX⟩;replace HX := hid (HX.out.trans hX);replace KP := hid (KP.out.ext hX);replace KQ := hid (KQ.out.ext hX);replace KS := hid (KS.out.ext hX);replace KR := hid (KR.out.ext hX);replace KK := hid (KK.out.ext hX);clear hX;clear HSH;clear p0 p1 p2 p3 p4 p5 p6 p7 p8 p9 p10;clear s0 s1;obtain ⟨gk, hgk⟩ : ∃ g, w6.heap.size = g := ⟨_, rfl⟩;rw [hgk] at KK |-;have hgk2 : w.heap.size + 3 < gk := by omega
  clear hgk zP zQ zS zR zg
  go_upto_region 14 with (fail)
  have hXa : Ext w8 (w8.alloc (.cells #[.int .i64 (0), .int .i64 (0), .int .i64 (0), .int .i64 (0), .int .i64 (0), .int .i64 (0)] 47)) := (Ext.refl _).alloc _;have kA := Blk.new w8 47 #[.int .i64 (0), .int .i64 (0), .int .i64 (0), .int .i64 (0), .int .i64 (0), .int .i64 (0)];have zP := KP.out.lt;have zQ := KQ.out.lt;have zS := KS.out.lt;have zR := KR.out.lt;have zK := KK.out.lt;have zg := HX.out.size;replace HX := hid (HX.out.trans hXa);replace KP := hid (KP.out.ext hXa);replace KQ := hid (KQ.out.ext hXa);replace KS := hid (KS.out.ext hXa);replace KR := hid (KR.out.ext hXa);replace KK := hid (KK.out.ext hXa);generalize (w8.alloc _) = w9 at HX KP KQ KS KR KK kA |-;have KA := hid kA;clear kA hXa;obtain ⟨ga, hga⟩ : ∃ g, w8.heap.size = g := ⟨_, rfl⟩;rw [hga] at KA |-;have hga2 : w.heap.size + 3 < ga /\ gk ≠ ga := by omega
  clear hga zP zQ zS zR zg zK;have KI : Hid (I6 w9 ga) := hid ⟨fun _ => 0, KA.out⟩;clear KA;clear KQ
  go_wp2_with fail
  go_loopg [91] 3 (fun fu iv W => ∃ k : Nat, fu = 3 - k /\ k <= 3 /\ iv = .int .i64 (k : Int) /\ (∀ i, i < k -> cF lo hi i = true) /\ Hid (Blk W w.heap.size 49 #[.int .i64 (pl 0), .int .i64 (ph 0), .int .i64 (pl 1), .int .i64 (ph 1), .int .i64 (pl 2), .int .i64 (ph 2), .int .i64 (qn 0), .int .i64 (qn 1), .int .i64 (qn 2), .int .i64 (qn 3), .int .i64 k0]) /\ Hid (Blk W (w.heap.size + 2) 31 #[.int .i64 r0, .int .i64 r1]) /\ Hid (Blk W (w.heap.size + 3) 54 #[.int .i64 (0), .int .i64 (0), .int .i64 (0), .int .i64 (0), .int .i64 (0), .int .i64 (0)]) /\ Hid (Blk W gk 22 #[.int .i64 (kf 0), .int .i64 (kf 1), .int .i64 (kf 2)]) /\ Hid (I6 W ga) /\ Hid (Ext w W))
  case atStart => exact ⟨0, rfl, by omega, rfl, fun i h => absurd h (by omega), KP, KS, KR, KK, KI, HX⟩
  case round =>
   clear HX KP KS KR KK KI;obtain ⟨k, rfl, hk, rfl, hal, KP, KS, KR, KK, KI, HX⟩ := hrel;have HAL := hid hal;clear hal
   by_cases hlt : k < 3
   .
    have q1 : decide (k < 3) = true := decide_eq_true hlt;have q1b : decide ((k : Int) < (3 : Int)) = true := decide_eq_true (by omega);obtain ⟨a0, a1⟩ := py KP.out hlt;obtain ⟨wb, rfl⟩ : ∃ x : World, x = wr := ⟨_, rfl⟩;have hpp := HP.out.pos k hlt;have hke := HK.out k;have el := HLO.out k;have eh := HHI.out k;unfold cM at el;unfold cN at eh;obtain ⟨cl, hcl⟩ : ∃ x, pl k = x := ⟨_, rfl⟩;obtain ⟨ch, hch⟩ : ∃ x, ph k = x := ⟨_, rfl⟩;obtain ⟨kv, hkv⟩ : ∃ x, kf k = x := ⟨_, rfl⟩;rw [hcl] at a0 hpp el;rw [hch] at a1 hpp eh;have hk3 := mA KK.out hlt;rw [hkv] at hke hk3 el eh;clear hcl hch hkv;have HEL := hid el;have HEH := hid eh;clear el eh
    go_upto_region 18 with (fail)
    refine oc w.heap.size k cl ch _ (by omega) a0 a1 _ _ (by simp) rfl rfl ?_;rintro xv0 xv1 xv2 xv3 xv4 xv5 xv6 xv7 xv8 xv9 xv10 xv11 xv12 w10 rfl rfl rfl rfl rfl rfl rfl rfl rfl rfl ⟨gC, rfl, hgC, hC⟩ rfl rfl hX;simp only [ae, Try.f28, ab, Option.bind_some, Nat.reduceBEq, if_true, if_false, Bool.false_eq_true, Option.getD_some, List.drop_succ_cons, List.drop_zero];simp only [Act.put, List.setIfInBounds_toArray, List.set_cons_succ, List.set_cons_zero];clear a0 a1;have HXb := hid hX;clear hX;have KC := hid hC;clear hC hgC;have hbs := HXb.out.size;have hCl := KC.out.lt;have HROW : Hid (QRow w10.heap.size w10 (.slice none 0 0) 0 (dy cl ch kv nn r0 r1)) := hid (QRow.nil _ _ _);have HF : Hid (∀ m, m < 0 -> FitR (dy cl ch kv nn r0 r1 m) 17) := hid (fun m h => absurd h (by omega));obtain ⟨B0, hB0⟩ : ∃ x, w10.heap.size = x := ⟨_, rfl⟩;rw [hB0] at HROW hCl hbs;have hB0' : B0 <= w10.heap.size := by omega
    clear hB0
    go_wp2_with fail
    go_loopg [16, 106] 2 (fun fu vv iv W => ∃ (j : Nat) (Av : Option Addr) (cA : Nat), fu = 2 - j /\ j <= 2 /\ iv = .int .i64 (j : Int) /\ vv = .slice Av (2 * j) cA /\ Hid (QRow B0 W (.slice Av (2 * j) cA) (2 * j) (dy cl ch kv nn r0 r1)) /\ Hid (∀ m, m < 2 * j -> FitR (dy cl ch kv nn r0 r1 m) 17) /\ B0 <= W.heap.size /\ Hid (Blk W gC 3 #[.int .i64 cl, .int .i64 ch]) /\ Hid (Ext wb W))
    case atStart => exact ⟨0, none, 0, rfl, by omega, rfl, rfl, HROW, HF, hB0', KC, HXb⟩
    case round =>
     clear HXb KC HROW HF hB0';obtain ⟨j, Av, cA, rfl, hj, rfl, rfl, HROW, HF, hB0', KC, HXb⟩ := hrel
     by_cases hjl : j < 2
     .
      have t1 : decide (j < 2) = true := decide_eq_true hjl;have t1b : decide ((j : Int) < (2 : Int)) = true := decide_eq_true (by omega);have c0 := jG KC.out hjl;have c0' : wr.cell? ⟨gC, 0 + j, none⟩ = some (.int .i64 (bJ cl ch j)) := by rw [Nat.zero_add]; exact c0
      have hcv : -9223372036854775808 <= bJ cl ch j /\ bJ cl ch j <= 9223372036854775807 := iA (by omega) (by omega) j;have HQE := hid (fun i (h : i < 2) => od cl ch kv nn r0 r1 (j := j) h);obtain ⟨cv, hcve⟩ : ∃ x, bJ cl ch j = x := ⟨_, rfl⟩;rw [hcve] at c0 c0' hcv HQE;clear hcve;have s0 := (KS.out.ext HXb.out).cell 0;have s1 := (KS.out.ext HXb.out).cell 1;simp only [List.getElem?_toArray, List.getElem?_cons_zero, List.getElem?_cons_succ] at s0 s1;have hgS : ∀ g, (Value.slice Av (2 * j) cA).ownBlock = some g -> g ≠ wr.heap.size := fun g hg => by have := HROW.out.low hg; omega
      go_upto_region 22 with (fail)
      clear s0 s1 c0 c0';have hXa : Ext wr (wr.alloc (.cells #[.int .i64 r0, .int .i64 r1] 3)) := (Ext.refl _).alloc _;have hB := Blk.new wr 3 #[.int .i64 r0, .int .i64 r1];replace HXb := hid (HXb.out.trans hXa);replace KC := hid (KC.out.ext hXa);replace HROW := hid (HROW.out.ext hXa);have hB2 : B0 <= (wr.alloc (.cells #[.int .i64 r0, .int .i64 r1] 3)).heap.size := Nat.le_trans hB0' hXa.size;clear hXa hB0';generalize wr.heap.size = gS at hB hgS |-;generalize wr.alloc _ = w11 at hB hB2 HXb KC HROW |-;have KT := hid hB;clear hB
      go_wp2_with fail
      go_loopg [16, 116] 2 (fun fu vv iv W => ∃ (i : Nat) (Av : Option Addr) (cA : Nat), fu = 2 - i /\ i <= 2 /\ iv = .int .i64 (i : Int) /\ vv = .slice Av (2 * j + i) cA /\ Hid (QRow B0 W (.slice Av (2 * j + i) cA) (2 * j + i) (dy cl ch kv nn r0 r1)) /\ Hid (∀ m, m < 2 * j + i -> FitR (dy cl ch kv nn r0 r1 m) 17) /\ B0 <= W.heap.size /\ (∀ g, (Value.slice Av (2 * j + i) cA).ownBlock = some g -> g ≠ gS) /\ Hid (Blk W gC 3 #[.int .i64 cl, .int .i64 ch]) /\ Hid (Blk W gS 3 #[.int .i64 r0, .int .i64 r1]) /\ Hid (Ext wb W))
      case atStart => exact ⟨0, Av, cA, rfl, by omega, rfl, rfl, HROW, HF, hB2, hgS, KC, KT, HXb⟩
      case round =>
       clear HXb KC KT HROW HF hB2 hgS;obtain ⟨i, Av, cA, rfl, hi2, rfl, rfl, HROW, HF, hB2, hgS, KC, KT, HXb⟩ := hrel
       by_cases hil : i < 2
       .
        have u1 : decide (i < 2) = true := decide_eq_true hil;have u1b : decide ((i : Int) < (2 : Int)) = true := decide_eq_true (by omega);have c0 := jG KT.out hil;have c0' : wr.cell? ⟨gS, 0 + i, none⟩ = some (.int .i64 (bJ r0 r1 i)) := by rw [Nat.zero_add]; exact c0
        have hsv : -9223372036854775808 <= bJ r0 r1 i /\ bJ r0 r1 i <= 9223372036854775807 := iA (by omega) (by omega) i;have HQ2 := hid (HQE.out i hil);obtain ⟨sv, hsve⟩ : ∃ x, bJ r0 r1 i = x := ⟨_, rfl⟩;rw [hsve] at c0 c0' hsv HQ2;clear hsve
        go_upto_region 24 with (fail)
        clear c0 c0';refine nZ gk k cv kv sv nn _ _ hcv (by omega) hsv (by omega) hn.1 (by omega) (Ext.cell HXb.out hk3) _ _ (by simp) rfl rfl rfl rfl rfl rfl ?_;rintro xv0 xv1 xv2 xv3 xv4 xv5 xv6 xv7 xv8 xv9 xv10 xv11 xv12 xv13 xv14 w12 rfl rfl d2 rfl rfl rfl d6 rfl d8 d9 rfl d11 d12 d13 ⟨g14, rfl, hg14, hQ⟩ hX;simp only [ae, Try.f28, ab, Option.bind_some, Nat.reduceBEq, if_true, if_false, Bool.false_eq_true, Option.getD_some, List.drop_succ_cons, List.drop_zero];simp only [Act.put, List.setIfInBounds_toArray, List.set_cons_succ, List.set_cons_zero];rw [<- HQ2.out] at hQ;have hf := d13.2.mono (show 4 + (4 + 4 + 4) + 1 <= 17 by decide);rw [<- HQ2.out] at hf;clear d2 d6 d8 d9 d11 d12 d13;replace HXb := hid (HXb.out.trans hX);replace KC := hid (KC.out.ext hX);replace KT := hid (KT.out.ext hX);replace HROW := hid (HROW.out.ext hX);have hB3 : B0 <= w12.heap.size := Nat.le_trans hB2 hX.size;clear hX hB2;have HFF := hid hf;have HQQ := hid hQ;clear hf hQ
        go_upto_region 25 with (at_builtin; go_loud (refine iz HROW.out HQQ.out hB3 (by omega) rfl _ _ rfl rfl rfl rfl ?_); intro v13 w13 hrow hgr hown; obtain ⟨A13, c13, rfl⟩ := hrow.slice; have HRW := hid hrow; have HGR := hid hgr; have HOW := hid hown; clear hrow hgr hown)
        have hlow : ∀ g, (Value.slice Av (2 * j + i) cA).ownBlock = some g -> B0 <= g /\ g < w12.heap.size := fun g hg => HROW.out.low hg
        have hTl := KT.out.lt;have KC2 : Hid (Blk w13 gC 3 #[.int .i64 cl, .int .i64 ch]) := hid (KC.out.grown HGR.out (fun e => by have := hlow gC e.symm; omega));have KT2 : Hid (Blk w13 gS 3 #[.int .i64 r0, .int .i64 r1]) := hid (KT.out.grown HGR.out (fun e => hgS gS e.symm rfl));have HX2 : Hid (Ext wb w13) := hid (HXb.out.grown HGR.out (fun g e => by have := hlow g e; omega));have hB4 : B0 <= w13.heap.size := Nat.le_trans hB3 HGR.out.size
        have hgS2 : ∀ g, (Value.slice A13 (2 * j + i + 1) c13).ownBlock = some g -> g ≠ gS := fun g hg => by
         rcases HOW.out with h | h
         .
          exact hgS g (by rw [<- h]; exact hg)
         .
          rw [h] at hg;injection hg with hg;omega
        have HRW2 : Hid (QRow B0 w13 (.slice A13 (2 * j + i + 1) c13) (2 * j + i + 1) (dy cl ch kv nn r0 r1)) := hid (HRW.out.congr (fun m hm => by
         split
         .
          next h => subst h; rfl
         .
          rfl))
        have HF2 : Hid (∀ m, m < 2 * j + i + 1 -> FitR (dy cl ch kv nn r0 r1 m) 17) := hid (fun m hm => by
         rcases (show m < 2 * j + i \/ m = 2 * j + i by omega) with h | rfl
         .
          exact HF.out m h
         .
          exact HFF.out)
        clear HRW HROW HF HFF HGR HOW hgS HXb KC KT hB3 hlow hTl HQQ HQ2;go_wp2;go_roundg (2 - (i + 1))
        case rel => exact ⟨i + 1, A13, c13, rfl, by omega, by go_num, rfl, HRW2, HF2, hB4, hgS2, KC2, KT2, HX2⟩
        case measure => omega
       .
        obtain rfl : i = 2 := by omega
        have u4 : decide ((2 : Int) < (2 : Int)) = false := by decide
        clear hgS KT;go_wp2;go_roundg (2 - (j + 1))
        case rel => exact ⟨j + 1, Av, cA, rfl, by omega, by go_num, rfl, HROW, HF, hB2, KC, HXb⟩
        case measure => omega
     .
      obtain rfl : j = 2 := by omega
      have t4 : decide ((2 : Int) < (2 : Int)) = false := by decide
      have HQA : Hid (QsAt wr Av 4 (bo cl ch kv nn r0 r1)) := hid (QRow.qsAt HROW.out)
      have HFE : Hid (∀ q ∈ bo cl ch kv nn r0 r1, FitR q 17) := hid (fun q hq => by
       rw [<- kI] at hq;simp only [List.mem_cons, List.not_mem_nil, or_false] at hq
       rcases hq with rfl | rfl | rfl | rfl
       .
        exact HF.out 0 (by omega)
       .
        exact HF.out 1 (by omega)
       .
        exact HF.out 2 (by omega)
       .
        exact HF.out 3 (by omega))
      clear HROW HF KC hB0';replace HX := hid (HX.out.trans HXb.out);replace KP := hid (KP.out.ext HXb.out);replace KS := hid (KS.out.ext HXb.out);replace KR := hid (KR.out.ext HXb.out);replace KK := hid (KK.out.ext HXb.out);replace KI := hid (KI.out.ext HXb.out);clear HXb hk3;have hpr0 : 0 <= ao kv r0 r1 /\ ao kv r0 r1 <= 4194304 := by unfold ao; split <;> omega
      have hpr1 : 0 <= ao kv r1 r0 /\ ao kv r1 r0 <= 4194304 := by unfold ao; split <;> omega
      obtain ⟨_, qc, _⟩ := aD (k := kv) (n := nn) (s := ao kv r0 r1) hke.1 hke.2 hn.1 hpr0;obtain ⟨_, _, qf⟩ := aD (k := kv) (n := nn) (s := ao kv r1 r0) hke.1 hke.2 hn.1 hpr1;obtain ⟨eL, eH⟩ := kG (pl := cl) (ph := ch) (k := kv) (n := nn) hpp.2.1 hn.1 hr1;have hle := nY (pl := cl) (ph := ch) (k := kv) (n := nn) hpp.2.1 hn.1 hr1;have el := HEL.out;have eh := HEH.out;obtain ⟨hl, hhl⟩ : ∃ x, cl + kv * ao kv r0 r1 / nn = x := ⟨_, rfl⟩;obtain ⟨hh, hhh⟩ : ∃ x, ch + aj (kv * ao kv r1 r0) nn = x := ⟨_, rfl⟩;rw [hhl] at eL hle el;rw [hhh] at eH hle eh;have hwd := HWD.out;obtain ⟨z1, z2, z3⟩ := lS (eV (z := hl) (by omega)) (eV (z := hh) (by omega));have y2 : IntKind.i64.wrap (hl - wd) = lo k := by rw [el]; exact IntWalk.i64_in _ (by omega)
      have y4 : IntKind.i64.wrap (hh + wd) = hi k := by rw [eh]; exact IntWalk.i64_in _ (by omega)
      have hax := oe (lo := lo) (hi := hi) (i := k) (by omega);clear qc qf el eh hhl hhh hwd hle HEL HEH;have HE3 := hid (show (bl (bo cl ch kv nn r0 r1) 3).floor = hl /\ -(-(aK (bo cl ch kv nn r0 r1) 3)).floor = hh /\ pV hl hh = hl /\ pW hl hh = hh /\ pX hl hh = 0 from ⟨eL, eH, z1, z2, z3⟩);clear eL eH z1 z2 z3;have HAX := hid hax;clear hax hpp hke hpr0 hpr1;obtain ⟨xl, hxl⟩ : ∃ x, lo k = x := ⟨_, rfl⟩;obtain ⟨xh, hxh⟩ : ∃ x, hi k = x := ⟨_, rfl⟩;rw [hxl] at y2 HAX;rw [hxh] at y4 HAX;clear hxl hxh
      go_wp2_with fail
      refine (iQ Av 3 cA 17 _ _ HQA.out (by omega) HFE.out (by omega)).mono ?_;rw [HE3.out.1, HE3.out.2.1];unfold jm;rw [HE3.out.2.2.1, HE3.out.2.2.2.1, HE3.out.2.2.2.2];rintro e w12 ⟨rfl, hX⟩;replace HX := hid (HX.out.trans hX);replace KP := hid (KP.out.ext hX);replace KS := hid (KS.out.ext hX);replace KR := hid (KR.out.ext hX);replace KK := hid (KK.out.ext hX);replace KI := hid (KI.out.ext hX);clear hX;clear HQA HFE HE3
      go_upto_region 28 with (fail)
      have hXa : Ext w12 (w12.alloc (.cells #[.int .i64 hl, .int .i64 hh] 31)) := (Ext.refl _).alloc _;have hB := Blk.new w12 31 #[.int .i64 hl, .int .i64 hh];replace HX := hid (HX.out.trans hXa);replace KP := hid (KP.out.ext hXa);replace KS := hid (KS.out.ext hXa);replace KR := hid (KR.out.ext hXa);replace KK := hid (KK.out.ext hXa);replace KI := hid (KI.out.ext hXa);clear hXa;generalize w12.heap.size = gm at hB |-;generalize w12.alloc _ = w13 at hB HX KP KS KR KK KI |-;have KM := hid hB;clear hB;have m0 := KM.out.cell 0;have m1 := KM.out.cell 1;simp only [List.getElem?_toArray, List.getElem?_cons_zero, List.getElem?_cons_succ] at m0 m1
      by_cases hb1 : xl < -268435456
      .
       have v1 : decide (xl < -268435456) = true := decide_eq_true hb1
       have HNO : Hid (cF lo hi k = false) := hid (by
        cases h : cF lo hi k
        .
         rfl
        .
         have := HAX.out.1 h; omega)
       clear HAX;have r0 := KR.out.cell 0;have r1 := KR.out.cell 1;have r2 := KR.out.cell 2;have r3 := KR.out.cell 3;have r4 := KR.out.cell 4;have r5 := KR.out.cell 5;simp only [List.getElem?_toArray, List.getElem?_cons_zero, List.getElem?_cons_succ] at r0 r1 r2 r3 r4 r5;have rf0 := KR.out.free 0;have rf1 := KR.out.free 1;have rf2 := KR.out.free 2;have rf3 := KR.out.free 3;have rf4 := KR.out.free 4;have rf5 := KR.out.free 5;go_wp2;refine bodyPost_ret (v := .tuple #[.agg #[.int .i64 (0), .int .i64 (0), .int .i64 (0), .int .i64 (0), .int .i64 (0), .int .i64 (0)], .int .i64 3]) (by simp [results, Try.results28, go_sem, *]) rfl ?_;exact .inr ⟨⟨k, hlt, HNO.out⟩, ⟨fun _ => 0, rfl⟩, (Ext.setCell (Ext.setCell (Ext.setCell (Ext.setCell (Ext.setCell (Ext.setCell HX.out (by simp only; omega) _) (by simp only; omega) _) (by simp only; omega) _) (by simp only; omega) _) (by simp only; omega) _) (by simp only; omega) _)⟩
      .
       have v1 : decide (xl < -268435456) = false := decide_eq_false hb1
       by_cases hb2 : 268435456 < xh
       .
        have v2 : decide (268435456 < xh) = true := decide_eq_true hb2
        have HNO : Hid (cF lo hi k = false) := hid (by
         cases h : cF lo hi k
         .
          rfl
         .
          have := HAX.out.1 h; omega)
        clear HAX;have r0 := KR.out.cell 0;have r1 := KR.out.cell 1;have r2 := KR.out.cell 2;have r3 := KR.out.cell 3;have r4 := KR.out.cell 4;have r5 := KR.out.cell 5;simp only [List.getElem?_toArray, List.getElem?_cons_zero, List.getElem?_cons_succ] at r0 r1 r2 r3 r4 r5;have rf0 := KR.out.free 0;have rf1 := KR.out.free 1;have rf2 := KR.out.free 2;have rf3 := KR.out.free 3;have rf4 := KR.out.free 4;have rf5 := KR.out.free 5;go_wp2;refine bodyPost_ret (v := .tuple #[.agg #[.int .i64 (0), .int .i64 (0), .int .i64 (0), .int .i64 (0), .int .i64 (0), .int .i64 (0)], .int .i64 3]) (by simp [results, Try.results28, go_sem, *]) rfl ?_;exact .inr ⟨⟨k, hlt, HNO.out⟩, ⟨fun _ => 0, rfl⟩, (Ext.setCell (Ext.setCell (Ext.setCell (Ext.setCell (Ext.setCell (Ext.setCell HX.out (by simp only; omega) _) (by simp only; omega) _) (by simp only; omega) _) (by simp only; omega) _) (by simp only; omega) _) (by simp only; omega) _)⟩
       .
        have v2 : decide (268435456 < xh) = false := decide_eq_false hb2;have HYES : Hid (cF lo hi k = true) := hid (HAX.out.2 (by omega));clear HAX hb1 hb2;obtain ⟨i0, z0⟩ := KI.out.cell (show k * 2 < 6 by omega);obtain ⟨i1, z1⟩ := KI.out.cell (show k * 2 + 1 < 6 by omega);have z2 := KI.out.free (k * 2);have z3 := KI.out.free (k * 2 + 1)
        go_upto_region 31 with (fail)
        clear z0 z1 z2 z3 m0 m1 v1 v2;have hX2 := (HX.out.setCell (p := ⟨ga, k * 2, none⟩) (by simp only; omega) (.int .i64 xl)).setCell (p := ⟨ga, k * 2 + 1, none⟩) (by simp only; omega) (.int .i64 xh);have hP2 := (KP.out.far (p := ⟨ga, k * 2, none⟩) (by simp only; omega) (.int .i64 xl)).far (p := ⟨ga, k * 2 + 1, none⟩) (by simp only; omega) (.int .i64 xh);have hS2 := (KS.out.far (p := ⟨ga, k * 2, none⟩) (by simp only; omega) (.int .i64 xl)).far (p := ⟨ga, k * 2 + 1, none⟩) (by simp only; omega) (.int .i64 xh);have hR2 := (KR.out.far (p := ⟨ga, k * 2, none⟩) (by simp only; omega) (.int .i64 xl)).far (p := ⟨ga, k * 2 + 1, none⟩) (by simp only; omega) (.int .i64 xh);have hK2 := (KK.out.far (p := ⟨ga, k * 2, none⟩) (by simp only; omega) (.int .i64 xl)).far (p := ⟨ga, k * 2 + 1, none⟩) (by simp only; omega) (.int .i64 xh);have hI2 := (KI.out.put (show k * 2 < 6 by omega) xl).put (show k * 2 + 1 < 6 by omega) xh;generalize (w13.setCell _ _).setCell _ _ = w14 at hX2 hP2 hS2 hR2 hK2 hI2 |-;clear HX KP KS KR KK KI KM;have HX := hid hX2;have KP := hid hP2;have KS := hid hS2;have KR := hid hR2;have KK := hid hK2;have KI := hid hI2;clear hX2 hP2 hS2 hR2 hK2 hI2
        have HAL2 : Hid (∀ i, i < k + 1 -> cF lo hi i = true) := hid (fun i hi => by
         rcases (show i < k \/ i = k by omega) with h | rfl
         .
          exact HAL.out i h
         .
          exact HYES.out)
        clear HAL HYES;go_wp2;go_roundg (3 - (k + 1))
        case rel => exact ⟨k + 1, rfl, by omega, by go_num, HAL2.out, KP, KS, KR, KK, KI, HX⟩
        case measure => omega
   .
    obtain rfl : k = 3 := by omega
    have h4 : decide ((3 : Int) < (3 : Int)) = false := by decide
    obtain ⟨f, hf⟩ := KI.out;have KA := hid hf;clear hf KI;have a0 := KA.out.cell 0;have a1 := KA.out.cell 1;have a2 := KA.out.cell 2;have a3 := KA.out.cell 3;have a4 := KA.out.cell 4;have a5 := KA.out.cell 5;simp only [List.getElem?_toArray, List.getElem?_cons_zero, List.getElem?_cons_succ] at a0 a1 a2 a3 a4 a5;have r0 := KR.out.cell 0;have r1 := KR.out.cell 1;have r2 := KR.out.cell 2;have r3 := KR.out.cell 3;have r4 := KR.out.cell 4;have r5 := KR.out.cell 5;simp only [List.getElem?_toArray, List.getElem?_cons_zero, List.getElem?_cons_succ] at r0 r1 r2 r3 r4 r5;have rf0 := KR.out.free 0;have rf1 := KR.out.free 1;have rf2 := KR.out.free 2;have rf3 := KR.out.free 3;have rf4 := KR.out.free 4;have rf5 := KR.out.free 5;go_wp2;refine bodyPost_ret (v := .tuple #[.agg #[.int .i64 (f 0), .int .i64 (f 1), .int .i64 (f 2), .int .i64 (f 3), .int .i64 (f 4), .int .i64 (f 5)], .int .i64 0]) (by simp [results, Try.results28, go_sem, *]) rfl ?_;exact .inl ⟨HAL.out, ⟨f, rfl⟩, (Ext.setCell (Ext.setCell (Ext.setCell (Ext.setCell (Ext.setCell (Ext.setCell HX.out (by simp only; omega) _) (by simp only; omega) _) (by simp only; omega) _) (by simp only; omega) _) (by simp only; omega) _) (by simp only; omega) _)⟩
theorem kT (pl ph qn sq : Nat -> Int) (k0 r0 r1 : Int) (w : World) (hp : df pl ph qn k0) (hr : fI r0 r1 = true) (ht : bV 1000 sq = true) :
  Calls Try.prog 28 #[.agg #[.int .i64 (pl 0), .int .i64 (ph 0), .int .i64 (pl 1), .int .i64 (ph 1), .int .i64 (pl 2), .int .i64 (ph 2), .int .i64 (qn 0), .int .i64 (qn 1), .int .i64 (qn 2), .int .i64 (qn 3), .int .i64 k0], .agg #[.int .i64 (sq 0), .int .i64 (sq 1), .int .i64 (sq 2), .int .i64 (sq 3)], .agg #[.int .i64 r0, .int .i64 r1]] w (mC (cM pl (dL (ah qn sq)) (dA (ah qn sq)) r0 r1 (aj (k0 * r1) 1000000)) (cN ph (dL (ah qn sq)) (dA (ah qn sq)) r0 r1 (aj (k0 * r1) 1000000)) w) := by
 have t1 := aA hp.q;have t2 := aA ht;have hT := cT hp.q ht;refine kJ pl ph qn sq k0 r0 r1 (ah qn sq) (dL (ah qn sq)) (dA (ah qn sq)) w hp hr ht (fun w => ?_) (fun w => ?_) (jb _) ⟨?_, jc hT⟩
 .
  exact bU qn sq w (fun i hi => by have := t1 i hi; omega) (fun i hi => by have := t2 i hi; omega)
 .
  exact iu (ah qn sq) w (mB hp.q ht)
 .
  rw [eP];have a := cL hp.q;have b := cL ht;have := Int.mul_le_mul a b (by omega) (by omega);omega
theorem og (gq cq : Nat) (fr lo hi scan : Int) (w : World) (hc : Clk w gq fr lo hi) (_hf : 0 <= fr) (_hlh : lo <= hi) (_hl0 : -1125899907000000 <= lo) (_hh0 : hi <= 1125899907000000) (hs0 : 0 <= scan) (hs1 : scan <= 1125899906842624) (_hr1 : 0 <= scan + lo) (_hr2 : scan + hi <= 1125899906842624) :
  Calls Try.prog 22 #[.slice (some ⟨gq, 0, none⟩) 1 cq, .int .i64 (scan)] w (fun e w' => e = .returned (.tuple #[.agg #[.int .i64 (scan + lo), .int .i64 (scan + hi)], .int .i64 0]) /\ Ext w w') := by
 have HC := hid hc;have hok : dz lo hi = true := decide_eq_true (by omega);have HV := hid hok;have v1 := IntWalk.i64_in (scan + lo) (by omega);have v2 := IntWalk.i64_in (scan + hi) (by omega);have q5 : ar 0 1125899906842624 [scan] = true := ag.2 ⟨hs0, hs1⟩;have HQ5 := hid q5;clear hc hok q5;obtain ⟨hXe, KR⟩ := xB1 w 31 #[.int .i64 (0), .int .i64 (0)];go_enter Try.func22, Try.ntmps22
 go_upto_region 1 with (fail)
 generalize (w.alloc _) = w1 at hXe KR |-;have HX := hid hXe;clear hXe;replace HC := hid (HC.out.ext HX.out)
 go_wp2_with fail
 go_loopg [20, 6] 1 (fun fu iv lv W => ∃ k : Nat, fu = 1 - k /\ k <= 1 /\ iv = .int .i64 (k : Int) /\ (k = 0 -> lv = .int .i64 0) /\ Hid (Clk W gq fr lo hi) /\ Hid (Blk W w.heap.size 31 #[.int .i64 0, .int .i64 0]) /\ Hid (Ext w W))
 case atStart => exact ⟨0, rfl, by omega, rfl, fun _ => rfl, HC, KR, HX⟩
 case round =>
  clear HX HC KR;obtain ⟨k, rfl, hk, rfl, hl, HC, KR, HX⟩ := hrel
  rcases (show k = 0 \/ k = 1 by omega) with rfl | rfl
  .
   obtain ⟨c0, c1, c2, _, _⟩ := HC.out.cells;obtain rfl := hl rfl;clear hl
   go_upto_region 7 with (fail)
   obtain ⟨hXa, Kgm⟩ := xB1 wr 177 #[.int .i64 fr, .int .i64 lo, .int .i64 hi];replace HX := xT HX hXa;replace HC := hid (HC.out.ext hXa);replace KR := xE KR hXa;clear hXa c0 c1 c2;generalize wr.heap.size = gm at Kgm |-;generalize wr.alloc _ = w2 at Kgm HX HC KR |-;obtain ⟨b0, b1, b2⟩ := Kgm.out.c3
   go_wp2_with fail
   refine (aF lo hi _).mono ?_;rw [HV.out];rintro e w3 ⟨rfl, hX⟩;replace HX := xT HX hX;replace HC := hid (HC.out.ext hX);replace KR := xE KR hX;replace Kgm := xE Kgm hX;clear hX b0 b1 b2;obtain ⟨b0, b1, b2⟩ := Kgm.out.c3;have q3 := xF (fr < 0) (by omega);go_wp2;go_roundg (1 - 1)
   case rel => exact ⟨1, rfl, by omega, by go_num, fun h => absurd h (by decide), HC, KR, HX⟩
   case measure => omega
  .
   clear hl
   go_wp2_with fail
   refine (af 0 1125899906842624 _ 1 1 [scan] _ (ai _ [scan] 3 (by simp; omega)) (by omega)).mono ?_;rw [HQ5.out];rintro e w3 ⟨rfl, hX⟩;have hXa := ((Ext.refl _).alloc (.cells ([scan].map (Value.int .i64)).toArray 3)).trans hX;replace HX := xT HX hXa;replace HC := hid (HC.out.ext hXa);replace KR := xE KR hXa;clear hXa hX
   go_wp2_with fail
   go_loopg [45, 9] 1 (fun fu iv av W => ∃ k : Nat, fu = 1 - k /\ k <= 1 /\ iv = .int .i64 (k : Int) /\ av = .int .i64 0 /\ Hid (Clk W gq fr lo hi) /\ Hid (Blk W w.heap.size 31 #[.int .i64 0, .int .i64 0]) /\ Hid (Ext w W))
   case atStart => exact ⟨0, rfl, by omega, rfl, rfl, HC, KR, HX⟩
   case round =>
    clear HX HC KR;obtain ⟨k, rfl, hk, rfl, rfl, HC, KR, HX⟩ := hrel;obtain ⟨wr, rfl⟩ : ∃ x : World, x = wr := ⟨_, rfl⟩
    rcases (show k = 0 \/ k = 1 by omega) with rfl | rfl
    .
     obtain ⟨c0, c1, c2, _, _⟩ := HC.out.cells
     go_upto_region 17 with (fail)
     obtain ⟨hXa, Kgm⟩ := xB1 wr 177 #[.int .i64 fr, .int .i64 lo, .int .i64 hi];replace HX := xT HX hXa;replace HC := hid (HC.out.ext hXa);replace KR := xE KR hXa;clear hXa c0 c1 c2;generalize wr.heap.size = gm at Kgm |-;generalize wr.alloc _ = w5 at Kgm HX HC KR |-;skip
     by_cases hle : fr <= scan
     .
      have q4 := xD (fr <= scan) hle;obtain ⟨b0, b1, b2⟩ := Kgm.out.c3;go_wp2;go_roundg (1 - 1)
      case rel => exact ⟨1, rfl, by omega, by go_num, rfl, HC, KR, HX⟩
      case measure => omega
     .
      have q4 := xF (fr <= scan) hle;obtain ⟨b0, b1, b2⟩ := Kgm.out.c3;go_wp2;go_roundg (1 - 1)
      case rel => exact ⟨1, rfl, by omega, by go_num, rfl, HC, KR, HX⟩
      case measure => omega
    .
     obtain ⟨c0, c1, c2, _, _⟩ := HC.out.cells
     go_upto_region 21 with (fail)
     obtain ⟨hXa, KO⟩ := xB1 wr 31 #[.int .i64 lo, .int .i64 hi];replace HX := xT HX hXa;replace HC := hid (HC.out.ext hXa);replace KR := xE KR hXa;clear hXa c0 c1 c2;generalize wr.heap.size = go at KO |-;generalize wr.alloc _ = w5 at KO HX HC KR |-;skip;obtain ⟨o0, o1⟩ := KO.out.c2
     go_upto_region 22 with (fail)
     obtain ⟨hXa, KS⟩ := xB1 w5 31 #[.int .i64 (scan + lo), .int .i64 (scan + hi)];replace HX := xT HX hXa;replace KR := xE KR hXa;clear hXa o0 o1;generalize w5.heap.size = gs at KS |-;generalize w5.alloc _ = w7 at KS HX KR |-;clear HC;obtain ⟨s0, s1⟩ := KS.out.c2;have q6 : ar 0 1125899906842624 [scan + lo, scan + hi] = true := au.2 (by intro x hx; simp at hx; omega);have HQ6 := hid q6;clear q6
     go_wp2_with fail
     refine (af 0 1125899906842624 _ 2 2 [scan + lo, scan + hi] _ (ai _ [scan + lo, scan + hi] 3 (by simp; omega)) (by omega)).mono ?_;rw [HQ6.out];rintro e w8 ⟨rfl, hX⟩;have hXa := ((Ext.refl _).alloc (.cells ([scan + lo, scan + hi].map (Value.int .i64)).toArray 3)).trans hX;replace HX := xT HX hXa;replace KR := xE KR hXa;replace KS := xE KS hXa;clear hXa hX s0 s1;obtain ⟨s0, s1⟩ := KS.out.c2;obtain ⟨r0, r1⟩ := KR.out.c2;have rf0 := KR.out.free 0;have rf1 := KR.out.free 1;go_wp2;refine bodyPost_ret (v := .tuple #[.agg #[.int .i64 (scan + lo), .int .i64 (scan + hi)], .int .i64 0]) (by simp [results, Try.results22, go_sem, *]) rfl ?_;exact ⟨rfl, ((HX.out.setCell (by simp only; omega) _).setCell (by simp only; omega) _)⟩
theorem oi (gq cq : Nat) (fr lo hi scan : Int) (w : World) (hc : Clk w gq fr lo hi) (_hf : 0 <= fr) (_hlh : lo <= hi) (_hl0 : -1125899907000000 <= lo) (_hh0 : hi <= 1125899907000000) (hs0 : 0 <= scan) (hs1 : scan <= 1125899906842624) (_hr1 : scan + lo < 0) :
  Calls Try.prog 22 #[.slice (some ⟨gq, 0, none⟩) 1 cq, .int .i64 (scan)] w (fun e w' => e = .returned (.tuple #[.agg #[.int .i64 0, .int .i64 0], .int .i64 3]) /\ Ext w w') := by
 have HC := hid hc;have hok : dz lo hi = true := decide_eq_true (by omega);have HV := hid hok;have v1 := IntWalk.i64_in (scan + lo) (by omega);have v2 := IntWalk.i64_in (scan + hi) (by omega);have q5 : ar 0 1125899906842624 [scan] = true := ag.2 ⟨hs0, hs1⟩;have HQ5 := hid q5;clear hc hok q5;obtain ⟨hXe, KR⟩ := xB1 w 31 #[.int .i64 (0), .int .i64 (0)];go_enter Try.func22, Try.ntmps22
 go_upto_region 1 with (fail)
 generalize (w.alloc _) = w1 at hXe KR |-;have HX := hid hXe;clear hXe;replace HC := hid (HC.out.ext HX.out)
 go_wp2_with fail
 go_loopg [20, 6] 1 (fun fu iv lv W => ∃ k : Nat, fu = 1 - k /\ k <= 1 /\ iv = .int .i64 (k : Int) /\ (k = 0 -> lv = .int .i64 0) /\ Hid (Clk W gq fr lo hi) /\ Hid (Blk W w.heap.size 31 #[.int .i64 0, .int .i64 0]) /\ Hid (Ext w W))
 case atStart => exact ⟨0, rfl, by omega, rfl, fun _ => rfl, HC, KR, HX⟩
 case round =>
  clear HX HC KR;obtain ⟨k, rfl, hk, rfl, hl, HC, KR, HX⟩ := hrel
  rcases (show k = 0 \/ k = 1 by omega) with rfl | rfl
  .
   obtain ⟨c0, c1, c2, _, _⟩ := HC.out.cells;obtain rfl := hl rfl;clear hl
   go_upto_region 7 with (fail)
   obtain ⟨hXa, Kgm⟩ := xB1 wr 177 #[.int .i64 fr, .int .i64 lo, .int .i64 hi];replace HX := xT HX hXa;replace HC := hid (HC.out.ext hXa);replace KR := xE KR hXa;clear hXa c0 c1 c2;generalize wr.heap.size = gm at Kgm |-;generalize wr.alloc _ = w2 at Kgm HX HC KR |-;obtain ⟨b0, b1, b2⟩ := Kgm.out.c3
   go_wp2_with fail
   refine (aF lo hi _).mono ?_;rw [HV.out];rintro e w3 ⟨rfl, hX⟩;replace HX := xT HX hX;replace HC := hid (HC.out.ext hX);replace KR := xE KR hX;replace Kgm := xE Kgm hX;clear hX b0 b1 b2;obtain ⟨b0, b1, b2⟩ := Kgm.out.c3;have q3 := xF (fr < 0) (by omega);go_wp2;go_roundg (1 - 1)
   case rel => exact ⟨1, rfl, by omega, by go_num, fun h => absurd h (by decide), HC, KR, HX⟩
   case measure => omega
  .
   clear hl
   go_wp2_with fail
   refine (af 0 1125899906842624 _ 1 1 [scan] _ (ai _ [scan] 3 (by simp; omega)) (by omega)).mono ?_;rw [HQ5.out];rintro e w3 ⟨rfl, hX⟩;have hXa := ((Ext.refl _).alloc (.cells ([scan].map (Value.int .i64)).toArray 3)).trans hX;replace HX := xT HX hXa;replace HC := hid (HC.out.ext hXa);replace KR := xE KR hXa;clear hXa hX
   go_wp2_with fail
   go_loopg [45, 9] 1 (fun fu iv av W => ∃ k : Nat, fu = 1 - k /\ k <= 1 /\ iv = .int .i64 (k : Int) /\ av = .int .i64 0 /\ Hid (Clk W gq fr lo hi) /\ Hid (Blk W w.heap.size 31 #[.int .i64 0, .int .i64 0]) /\ Hid (Ext w W))
   case atStart => exact ⟨0, rfl, by omega, rfl, rfl, HC, KR, HX⟩
   case round =>
    clear HX HC KR;obtain ⟨k, rfl, hk, rfl, rfl, HC, KR, HX⟩ := hrel;obtain ⟨wr, rfl⟩ : ∃ x : World, x = wr := ⟨_, rfl⟩
    rcases (show k = 0 \/ k = 1 by omega) with rfl | rfl
    .
     obtain ⟨c0, c1, c2, _, _⟩ := HC.out.cells
     go_upto_region 17 with (fail)
     obtain ⟨hXa, Kgm⟩ := xB1 wr 177 #[.int .i64 fr, .int .i64 lo, .int .i64 hi];replace HX := xT HX hXa;replace HC := hid (HC.out.ext hXa);replace KR := xE KR hXa;clear hXa c0 c1 c2;generalize wr.heap.size = gm at Kgm |-;generalize wr.alloc _ = w5 at Kgm HX HC KR |-;skip
     by_cases hle : fr <= scan
     .
      have q4 := xD (fr <= scan) hle;obtain ⟨b0, b1, b2⟩ := Kgm.out.c3;go_wp2;go_roundg (1 - 1)
      case rel => exact ⟨1, rfl, by omega, by go_num, rfl, HC, KR, HX⟩
      case measure => omega
     .
      have q4 := xF (fr <= scan) hle;obtain ⟨b0, b1, b2⟩ := Kgm.out.c3;go_wp2;go_roundg (1 - 1)
      case rel => exact ⟨1, rfl, by omega, by go_num, rfl, HC, KR, HX⟩
      case measure => omega
    .
     obtain ⟨c0, c1, c2, _, _⟩ := HC.out.cells
     go_upto_region 21 with (fail)
     obtain ⟨hXa, KO⟩ := xB1 wr 31 #[.int .i64 lo, .int .i64 hi];replace HX := xT HX hXa;replace HC := hid (HC.out.ext hXa);replace KR := xE KR hXa;clear hXa c0 c1 c2;generalize wr.heap.size = go at KO |-;generalize wr.alloc _ = w5 at KO HX HC KR |-;skip;obtain ⟨o0, o1⟩ := KO.out.c2
     go_upto_region 22 with (fail)
     obtain ⟨hXa, KS⟩ := xB1 w5 31 #[.int .i64 (scan + lo), .int .i64 (scan + hi)];replace HX := xT HX hXa;replace KR := xE KR hXa;clear hXa o0 o1;generalize w5.heap.size = gs at KS |-;generalize w5.alloc _ = w7 at KS HX KR |-;clear HC;obtain ⟨s0, s1⟩ := KS.out.c2;have q6 : ar 0 1125899906842624 [scan + lo, scan + hi] = false := Bool.eq_false_iff.2 (fun h => by have h1 := au.1 h (scan + lo) (by simp); have h2 := au.1 h (scan + hi) (by simp); omega);have HQ6 := hid q6;clear q6
     go_wp2_with fail
     refine (af 0 1125899906842624 _ 2 2 [scan + lo, scan + hi] _ (ai _ [scan + lo, scan + hi] 3 (by simp; omega)) (by omega)).mono ?_;rw [HQ6.out];rintro e w8 ⟨rfl, hX⟩;have hXa := ((Ext.refl _).alloc (.cells ([scan + lo, scan + hi].map (Value.int .i64)).toArray 3)).trans hX;replace HX := xT HX hXa;replace KR := xE KR hXa;replace KS := xE KS hXa;clear hXa hX s0 s1;obtain ⟨s0, s1⟩ := KS.out.c2;obtain ⟨r0, r1⟩ := KR.out.c2;have rf0 := KR.out.free 0;have rf1 := KR.out.free 1;go_wp2;refine bodyPost_ret (v := .tuple #[.agg #[.int .i64 0, .int .i64 0], .int .i64 3]) (by simp [results, Try.results22, go_sem, *]) rfl ?_;exact ⟨rfl, ((HX.out.setCell (by simp only; omega) _).setCell (by simp only; omega) _)⟩
theorem mD (gq cq : Nat) (fr lo hi scan : Int) (w : World) (hc : Clk w gq fr lo hi) (_hf : 0 <= fr) (_hlh : lo <= hi) (_hl0 : -1125899907000000 <= lo) (_hh0 : hi <= 1125899907000000) (hs0 : 0 <= scan) (hs1 : scan <= 1125899906842624) (_hr0 : 0 <= scan + lo) (_hr1 : 1125899906842624 < scan + hi) :
  Calls Try.prog 22 #[.slice (some ⟨gq, 0, none⟩) 1 cq, .int .i64 (scan)] w (fun e w' => e = .returned (.tuple #[.agg #[.int .i64 0, .int .i64 0], .int .i64 3]) /\ Ext w w') := by
 have HC := hid hc;have hok : dz lo hi = true := decide_eq_true (by omega);have HV := hid hok;have v1 := IntWalk.i64_in (scan + lo) (by omega);have v2 := IntWalk.i64_in (scan + hi) (by omega);have q5 : ar 0 1125899906842624 [scan] = true := ag.2 ⟨hs0, hs1⟩;have HQ5 := hid q5;clear hc hok q5;obtain ⟨hXe, KR⟩ := xB1 w 31 #[.int .i64 (0), .int .i64 (0)];go_enter Try.func22, Try.ntmps22
 go_upto_region 1 with (fail)
 generalize (w.alloc _) = w1 at hXe KR |-;have HX := hid hXe;clear hXe;replace HC := hid (HC.out.ext HX.out)
 go_wp2_with fail
 go_loopg [20, 6] 1 (fun fu iv lv W => ∃ k : Nat, fu = 1 - k /\ k <= 1 /\ iv = .int .i64 (k : Int) /\ (k = 0 -> lv = .int .i64 0) /\ Hid (Clk W gq fr lo hi) /\ Hid (Blk W w.heap.size 31 #[.int .i64 0, .int .i64 0]) /\ Hid (Ext w W))
 case atStart => exact ⟨0, rfl, by omega, rfl, fun _ => rfl, HC, KR, HX⟩
 case round =>
  clear HX HC KR;obtain ⟨k, rfl, hk, rfl, hl, HC, KR, HX⟩ := hrel
  rcases (show k = 0 \/ k = 1 by omega) with rfl | rfl
  .
   obtain ⟨c0, c1, c2, _, _⟩ := HC.out.cells;obtain rfl := hl rfl;clear hl
   go_upto_region 7 with (fail)
   obtain ⟨hXa, Kgm⟩ := xB1 wr 177 #[.int .i64 fr, .int .i64 lo, .int .i64 hi];replace HX := xT HX hXa;replace HC := hid (HC.out.ext hXa);replace KR := xE KR hXa;clear hXa c0 c1 c2;generalize wr.heap.size = gm at Kgm |-;generalize wr.alloc _ = w2 at Kgm HX HC KR |-;obtain ⟨b0, b1, b2⟩ := Kgm.out.c3
   go_wp2_with fail
   refine (aF lo hi _).mono ?_;rw [HV.out];rintro e w3 ⟨rfl, hX⟩;replace HX := xT HX hX;replace HC := hid (HC.out.ext hX);replace KR := xE KR hX;replace Kgm := xE Kgm hX;clear hX b0 b1 b2;obtain ⟨b0, b1, b2⟩ := Kgm.out.c3;have q3 := xF (fr < 0) (by omega);go_wp2;go_roundg (1 - 1)
   case rel => exact ⟨1, rfl, by omega, by go_num, fun h => absurd h (by decide), HC, KR, HX⟩
   case measure => omega
  .
   clear hl
   go_wp2_with fail
   refine (af 0 1125899906842624 _ 1 1 [scan] _ (ai _ [scan] 3 (by simp; omega)) (by omega)).mono ?_;rw [HQ5.out];rintro e w3 ⟨rfl, hX⟩;have hXa := ((Ext.refl _).alloc (.cells ([scan].map (Value.int .i64)).toArray 3)).trans hX;replace HX := xT HX hXa;replace HC := hid (HC.out.ext hXa);replace KR := xE KR hXa;clear hXa hX
   go_wp2_with fail
   go_loopg [45, 9] 1 (fun fu iv av W => ∃ k : Nat, fu = 1 - k /\ k <= 1 /\ iv = .int .i64 (k : Int) /\ av = .int .i64 0 /\ Hid (Clk W gq fr lo hi) /\ Hid (Blk W w.heap.size 31 #[.int .i64 0, .int .i64 0]) /\ Hid (Ext w W))
   case atStart => exact ⟨0, rfl, by omega, rfl, rfl, HC, KR, HX⟩
   case round =>
    clear HX HC KR;obtain ⟨k, rfl, hk, rfl, rfl, HC, KR, HX⟩ := hrel;obtain ⟨wr, rfl⟩ : ∃ x : World, x = wr := ⟨_, rfl⟩
    rcases (show k = 0 \/ k = 1 by omega) with rfl | rfl
    .
     obtain ⟨c0, c1, c2, _, _⟩ := HC.out.cells
     go_upto_region 17 with (fail)
     obtain ⟨hXa, Kgm⟩ := xB1 wr 177 #[.int .i64 fr, .int .i64 lo, .int .i64 hi];replace HX := xT HX hXa;replace HC := hid (HC.out.ext hXa);replace KR := xE KR hXa;clear hXa c0 c1 c2;generalize wr.heap.size = gm at Kgm |-;generalize wr.alloc _ = w5 at Kgm HX HC KR |-;skip
     by_cases hle : fr <= scan
     .
      have q4 := xD (fr <= scan) hle;obtain ⟨b0, b1, b2⟩ := Kgm.out.c3;go_wp2;go_roundg (1 - 1)
      case rel => exact ⟨1, rfl, by omega, by go_num, rfl, HC, KR, HX⟩
      case measure => omega
     .
      have q4 := xF (fr <= scan) hle;obtain ⟨b0, b1, b2⟩ := Kgm.out.c3;go_wp2;go_roundg (1 - 1)
      case rel => exact ⟨1, rfl, by omega, by go_num, rfl, HC, KR, HX⟩
      case measure => omega
    .
     obtain ⟨c0, c1, c2, _, _⟩ := HC.out.cells
     go_upto_region 21 with (fail)
     obtain ⟨hXa, KO⟩ := xB1 wr 31 #[.int .i64 lo, .int .i64 hi];replace HX := xT HX hXa;replace HC := hid (HC.out.ext hXa);replace KR := xE KR hXa;clear hXa c0 c1 c2;generalize wr.heap.size = go at KO |-;generalize wr.alloc _ = w5 at KO HX HC KR |-;skip;obtain ⟨o0, o1⟩ := KO.out.c2
     go_upto_region 22 with (fail)
     obtain ⟨hXa, KS⟩ := xB1 w5 31 #[.int .i64 (scan + lo), .int .i64 (scan + hi)];replace HX := xT HX hXa;replace KR := xE KR hXa;clear hXa o0 o1;generalize w5.heap.size = gs at KS |-;generalize w5.alloc _ = w7 at KS HX KR |-;clear HC;obtain ⟨s0, s1⟩ := KS.out.c2;have q6 : ar 0 1125899906842624 [scan + lo, scan + hi] = false := Bool.eq_false_iff.2 (fun h => by have h1 := au.1 h (scan + lo) (by simp); have h2 := au.1 h (scan + hi) (by simp); omega);have HQ6 := hid q6;clear q6
     go_wp2_with fail
     refine (af 0 1125899906842624 _ 2 2 [scan + lo, scan + hi] _ (ai _ [scan + lo, scan + hi] 3 (by simp; omega)) (by omega)).mono ?_;rw [HQ6.out];rintro e w8 ⟨rfl, hX⟩;have hXa := ((Ext.refl _).alloc (.cells ([scan + lo, scan + hi].map (Value.int .i64)).toArray 3)).trans hX;replace HX := xT HX hXa;replace KR := xE KR hXa;replace KS := xE KS hXa;clear hXa hX s0 s1;obtain ⟨s0, s1⟩ := KS.out.c2;obtain ⟨r0, r1⟩ := KR.out.c2;have rf0 := KR.out.free 0;have rf1 := KR.out.free 1;go_wp2;refine bodyPost_ret (v := .tuple #[.agg #[.int .i64 0, .int .i64 0], .int .i64 3]) (by simp [results, Try.results22, go_sem, *]) rfl ?_;exact ⟨rfl, ((HX.out.setCell (by simp only; omega) _).setCell (by simp only; omega) _)⟩
theorem om (gq cq : Nat) (fr lo hi scan : Int) (w : World) (hc : Clk w gq fr lo hi) (_hf : 0 <= fr) (_hlh : lo <= hi) (_hl0 : -1125899907000000 <= lo) (_hh0 : hi <= 1125899907000000) (hs0 : 0 <= scan) (hs1 : scan <= 1125899906842624) (_hr1 : 0 <= scan + lo) (_hr2 : scan + hi <= 1125899906842624) :
  Calls Try.prog 24 #[.slice (some ⟨gq, 0, none⟩) 1 cq, .int .i64 (scan)] w (fun e w' => e = .returned (.tuple #[.agg #[.int .i64 (scan + lo), .int .i64 (scan + hi)], .int .i64 0]) /\ Ext w w') := by
 have HC := hid hc;have hok : dz lo hi = true := decide_eq_true (by omega);have HV := hid hok;have v1 := IntWalk.i64_in (scan + lo) (by omega);have v2 := IntWalk.i64_in (scan + hi) (by omega);have q5 : ar 0 1125899906842624 [scan] = true := ag.2 ⟨hs0, hs1⟩;have HQ5 := hid q5;clear hc hok q5;obtain ⟨hXe, KR⟩ := xB1 w 31 #[.int .i64 (0), .int .i64 (0)];go_enter Try.func24, Try.ntmps24
 go_upto_region 1 with (fail)
 generalize (w.alloc _) = w1 at hXe KR |-;have HX := hid hXe;clear hXe;replace HC := hid (HC.out.ext HX.out)
 go_wp2_with fail
 go_loopg [19, 6] 1 (fun fu iv lv W => ∃ k : Nat, fu = 1 - k /\ k <= 1 /\ iv = .int .i64 (k : Int) /\ (k = 0 -> lv = .int .i64 0) /\ Hid (Clk W gq fr lo hi) /\ Hid (Blk W w.heap.size 31 #[.int .i64 0, .int .i64 0]) /\ Hid (Ext w W))
 case atStart => exact ⟨0, rfl, by omega, rfl, fun _ => rfl, HC, KR, HX⟩
 case round =>
  clear HX HC KR;obtain ⟨k, rfl, hk, rfl, hl, HC, KR, HX⟩ := hrel
  rcases (show k = 0 \/ k = 1 by omega) with rfl | rfl
  .
   obtain ⟨c0, c1, c2, _, _⟩ := HC.out.cells;obtain rfl := hl rfl;clear hl
   go_upto_region 7 with (fail)
   obtain ⟨hXa, Kgm⟩ := xB1 wr 177 #[.int .i64 fr, .int .i64 lo, .int .i64 hi];replace HX := xT HX hXa;replace HC := hid (HC.out.ext hXa);replace KR := xE KR hXa;clear hXa c0 c1 c2;generalize wr.heap.size = gm at Kgm |-;generalize wr.alloc _ = w2 at Kgm HX HC KR |-;obtain ⟨b0, b1, b2⟩ := Kgm.out.c3
   go_wp2_with fail
   refine (bD lo hi _).mono ?_;rw [HV.out];rintro e w3 ⟨rfl, hX⟩;replace HX := xT HX hX;replace HC := hid (HC.out.ext hX);replace KR := xE KR hX;replace Kgm := xE Kgm hX;clear hX b0 b1 b2;obtain ⟨b0, b1, b2⟩ := Kgm.out.c3;have q3 := xF (fr < 0) (by omega);go_wp2;go_roundg (1 - 1)
   case rel => exact ⟨1, rfl, by omega, by go_num, fun h => absurd h (by decide), HC, KR, HX⟩
   case measure => omega
  .
   clear hl
   go_wp2_with fail
   refine (aq 0 scan 1125899906842624 _).mono ?_;rw [HQ5.out];rintro e w3 ⟨rfl, hX⟩;replace HX := xT HX hX;replace HC := hid (HC.out.ext hX);replace KR := xE KR hX;clear hX;obtain ⟨c0, c1, c2, _, _⟩ := HC.out.cells
   go_upto_region 14 with (fail)
   have hga : w.heap.size < w3.heap.size := KR.out.lt;have hgq2 : gq < w3.heap.size := by obtain ⟨cur, h1, _⟩ := HC.out; exact h1.lt
   obtain ⟨hXa, Kga⟩ := xB1 w3 177 #[.int .i64 fr, .int .i64 lo, .int .i64 hi];replace HX := xT HX hXa;replace HC := hid (HC.out.ext hXa);replace KR := xE KR hXa;clear hXa c0 c1 c2;generalize w3.heap.size = ga at Kga hga hgq2 |-;generalize w3.alloc _ = w4 at Kga HX HC KR |-;skip
   go_wp2_with fail
   go_loopg [46] 1 (fun fu iv W => ∃ k : Nat, fu = 1 - k /\ k <= 1 /\ iv = .int .i64 (k : Int) /\ Hid (Clk W gq fr lo hi) /\ Hid (Blk W w.heap.size 31 #[.int .i64 0, .int .i64 0]) /\ Hid (Ext w W) /\ Hid (Blk W ga 177 #[.int .i64 fr, .int .i64 lo, .int .i64 hi]))
   case atStart => exact ⟨0, rfl, by omega, rfl, HC, KR, HX, Kga⟩
   case round =>
    clear HX HC KR Kga;obtain ⟨k, rfl, hk, rfl, HC, KR, HX, Kga⟩ := hrel;obtain ⟨wr, rfl⟩ : ∃ x : World, x = wr := ⟨_, rfl⟩
    rcases (show k = 0 \/ k = 1 by omega) with rfl | rfl
    .
     obtain ⟨c0, c1, c2, _, _⟩ := HC.out.cells
     go_upto_region 17 with (fail)
     obtain ⟨hXa, Kgm⟩ := xB1 wr 177 #[.int .i64 fr, .int .i64 lo, .int .i64 hi];replace HX := xT HX hXa;replace HC := hid (HC.out.ext hXa);replace KR := xE KR hXa;replace Kga := xE Kga hXa;clear hXa c0 c1 c2;generalize wr.heap.size = gm at Kgm |-;generalize wr.alloc _ = w5 at Kgm HX HC KR Kga |-;skip
     by_cases hle : fr <= scan
     .
      have q4 := xD (fr <= scan) hle;have hgw : w.heap.size < ga := hga;obtain ⟨b0, b1, b2⟩ := Kgm.out.c3;obtain ⟨a0, a1, a2⟩ := Kga.out.c3;have af0 := Kga.out.free 0;have af1 := Kga.out.free 1;have af2 := Kga.out.free 2
      go_upto_region 19 with (fail)
      clear b0 b1 b2 a0 a1 a2 af0 af1 af2
      have hC2 : Clk ((((w5.setCell ⟨ga, 0, none⟩ (.int .i64 (fr))).setCell ⟨ga, 1, none⟩ (.int .i64 (lo))).setCell ⟨ga, 2, none⟩ (.int .i64 (hi)))) gq fr lo hi := by
       obtain ⟨cur, h1, h2⟩ := HC.out;exact ⟨cur, (((h1.far (show gq ≠ ga by omega) _).far (show gq ≠ ga by omega) _).far (show gq ≠ ga by omega) _), h2⟩
      have hXs : Ext w (((w5.setCell ⟨ga, 0, none⟩ (.int .i64 (fr))).setCell ⟨ga, 1, none⟩ (.int .i64 (lo))).setCell ⟨ga, 2, none⟩ (.int .i64 (hi))) := (((HX.out.setCell (show w.heap.size <= ga by omega) _).setCell (show w.heap.size <= ga by omega) _).setCell (show w.heap.size <= ga by omega) _);have hKR : Blk (((w5.setCell ⟨ga, 0, none⟩ (.int .i64 (fr))).setCell ⟨ga, 1, none⟩ (.int .i64 (lo))).setCell ⟨ga, 2, none⟩ (.int .i64 (hi))) w.heap.size 31 #[.int .i64 0, .int .i64 0] := (Blk.far (Blk.far (Blk.far KR.out (show w.heap.size ≠ ga by omega) _) (show w.heap.size ≠ ga by omega) _) (show w.heap.size ≠ ga by omega) _);have hKga : Blk (((w5.setCell ⟨ga, 0, none⟩ (.int .i64 (fr))).setCell ⟨ga, 1, none⟩ (.int .i64 (lo))).setCell ⟨ga, 2, none⟩ (.int .i64 (hi))) ga 177 #[.int .i64 fr, .int .i64 lo, .int .i64 hi] := (Blk.set (Blk.set (Blk.set Kga.out 0 _) 1 _) 2 _);have hHC := hC2;generalize (((w5.setCell _ _).setCell _ _).setCell _ _) = w6 at hXs hKR hKga hHC |-;clear HX KR Kga HC;have HX := hid hXs;clear hXs;have KR := hid hKR;clear hKR;have Kga := hid hKga;clear hKga;have HC := hid hHC;clear hHC hC2;go_wp2;go_roundg (1 - 1)
      case rel => exact ⟨1, rfl, by omega, by go_num, HC, KR, HX, Kga⟩
      case measure => omega
     .
      have q4 := xF (fr <= scan) hle;obtain ⟨b0, b1, b2⟩ := Kgm.out.c3;go_wp2;go_roundg (1 - 1)
      case rel => exact ⟨1, rfl, by omega, by go_num, HC, KR, HX, Kga⟩
      case measure => omega
    .
     obtain ⟨o0, o1, o2⟩ := Kga.out.c3
     go_upto_region 21 with (fail)
     obtain ⟨hXa, KS⟩ := xB1 wr 31 #[.int .i64 (scan + lo), .int .i64 (scan + hi)];replace HX := xT HX hXa;replace KR := xE KR hXa;clear hXa o0 o1 o2;generalize wr.heap.size = gs at KS |-;generalize wr.alloc _ = w7 at KS HX KR |-;clear HC;obtain ⟨s0, s1⟩ := KS.out.c2;have q6 := xF (scan + lo < 0) (by omega);have q7 := xF (1125899906842624 < scan + hi) (by omega);obtain ⟨r0, r1⟩ := KR.out.c2;have rf0 := KR.out.free 0;have rf1 := KR.out.free 1;go_wp2;refine bodyPost_ret (v := .tuple #[.agg #[.int .i64 (scan + lo), .int .i64 (scan + hi)], .int .i64 0]) (by simp [results, Try.results24, go_sem, *]) rfl ?_;exact ⟨rfl, ((HX.out.setCell (by simp only; omega) _).setCell (by simp only; omega) _)⟩
theorem oo (gq cq : Nat) (fr lo hi scan : Int) (w : World) (hc : Clk w gq fr lo hi) (_hf : 0 <= fr) (_hlh : lo <= hi) (_hl0 : -1125899907000000 <= lo) (_hh0 : hi <= 1125899907000000) (hs0 : 0 <= scan) (hs1 : scan <= 1125899906842624) (hr1 : scan + lo < 0) :
  Calls Try.prog 24 #[.slice (some ⟨gq, 0, none⟩) 1 cq, .int .i64 (scan)] w (fun e w' => e = .returned (.tuple #[.agg #[.int .i64 0, .int .i64 0], .int .i64 3]) /\ Ext w w') := by
 have HC := hid hc;have hok : dz lo hi = true := decide_eq_true (by omega);have HV := hid hok;have v1 := IntWalk.i64_in (scan + lo) (by omega);have v2 := IntWalk.i64_in (scan + hi) (by omega);have q5 : ar 0 1125899906842624 [scan] = true := ag.2 ⟨hs0, hs1⟩;have HQ5 := hid q5;clear hc hok q5;obtain ⟨hXe, KR⟩ := xB1 w 31 #[.int .i64 (0), .int .i64 (0)];go_enter Try.func24, Try.ntmps24
 go_upto_region 1 with (fail)
 generalize (w.alloc _) = w1 at hXe KR |-;have HX := hid hXe;clear hXe;replace HC := hid (HC.out.ext HX.out)
 go_wp2_with fail
 go_loopg [19, 6] 1 (fun fu iv lv W => ∃ k : Nat, fu = 1 - k /\ k <= 1 /\ iv = .int .i64 (k : Int) /\ (k = 0 -> lv = .int .i64 0) /\ Hid (Clk W gq fr lo hi) /\ Hid (Blk W w.heap.size 31 #[.int .i64 0, .int .i64 0]) /\ Hid (Ext w W))
 case atStart => exact ⟨0, rfl, by omega, rfl, fun _ => rfl, HC, KR, HX⟩
 case round =>
  clear HX HC KR;obtain ⟨k, rfl, hk, rfl, hl, HC, KR, HX⟩ := hrel
  rcases (show k = 0 \/ k = 1 by omega) with rfl | rfl
  .
   obtain ⟨c0, c1, c2, _, _⟩ := HC.out.cells;obtain rfl := hl rfl;clear hl
   go_upto_region 7 with (fail)
   obtain ⟨hXa, Kgm⟩ := xB1 wr 177 #[.int .i64 fr, .int .i64 lo, .int .i64 hi];replace HX := xT HX hXa;replace HC := hid (HC.out.ext hXa);replace KR := xE KR hXa;clear hXa c0 c1 c2;generalize wr.heap.size = gm at Kgm |-;generalize wr.alloc _ = w2 at Kgm HX HC KR |-;obtain ⟨b0, b1, b2⟩ := Kgm.out.c3
   go_wp2_with fail
   refine (bD lo hi _).mono ?_;rw [HV.out];rintro e w3 ⟨rfl, hX⟩;replace HX := xT HX hX;replace HC := hid (HC.out.ext hX);replace KR := xE KR hX;replace Kgm := xE Kgm hX;clear hX b0 b1 b2;obtain ⟨b0, b1, b2⟩ := Kgm.out.c3;have q3 := xF (fr < 0) (by omega);go_wp2;go_roundg (1 - 1)
   case rel => exact ⟨1, rfl, by omega, by go_num, fun h => absurd h (by decide), HC, KR, HX⟩
   case measure => omega
  .
   clear hl
   go_wp2_with fail
   refine (aq 0 scan 1125899906842624 _).mono ?_;rw [HQ5.out];rintro e w3 ⟨rfl, hX⟩;replace HX := xT HX hX;replace HC := hid (HC.out.ext hX);replace KR := xE KR hX;clear hX;obtain ⟨c0, c1, c2, _, _⟩ := HC.out.cells
   go_upto_region 14 with (fail)
   have hga : w.heap.size < w3.heap.size := KR.out.lt;have hgq2 : gq < w3.heap.size := by obtain ⟨cur, h1, _⟩ := HC.out; exact h1.lt
   obtain ⟨hXa, Kga⟩ := xB1 w3 177 #[.int .i64 fr, .int .i64 lo, .int .i64 hi];replace HX := xT HX hXa;replace HC := hid (HC.out.ext hXa);replace KR := xE KR hXa;clear hXa c0 c1 c2;generalize w3.heap.size = ga at Kga hga hgq2 |-;generalize w3.alloc _ = w4 at Kga HX HC KR |-;skip
   go_wp2_with fail
   go_loopg [46] 1 (fun fu iv W => ∃ k : Nat, fu = 1 - k /\ k <= 1 /\ iv = .int .i64 (k : Int) /\ Hid (Clk W gq fr lo hi) /\ Hid (Blk W w.heap.size 31 #[.int .i64 0, .int .i64 0]) /\ Hid (Ext w W) /\ Hid (Blk W ga 177 #[.int .i64 fr, .int .i64 lo, .int .i64 hi]))
   case atStart => exact ⟨0, rfl, by omega, rfl, HC, KR, HX, Kga⟩
   case round =>
    clear HX HC KR Kga;obtain ⟨k, rfl, hk, rfl, HC, KR, HX, Kga⟩ := hrel;obtain ⟨wr, rfl⟩ : ∃ x : World, x = wr := ⟨_, rfl⟩
    rcases (show k = 0 \/ k = 1 by omega) with rfl | rfl
    .
     obtain ⟨c0, c1, c2, _, _⟩ := HC.out.cells
     go_upto_region 17 with (fail)
     obtain ⟨hXa, Kgm⟩ := xB1 wr 177 #[.int .i64 fr, .int .i64 lo, .int .i64 hi];replace HX := xT HX hXa;replace HC := hid (HC.out.ext hXa);replace KR := xE KR hXa;replace Kga := xE Kga hXa;clear hXa c0 c1 c2;generalize wr.heap.size = gm at Kgm |-;generalize wr.alloc _ = w5 at Kgm HX HC KR Kga |-;skip
     by_cases hle : fr <= scan
     .
      have q4 := xD (fr <= scan) hle;have hgw : w.heap.size < ga := hga;obtain ⟨b0, b1, b2⟩ := Kgm.out.c3;obtain ⟨a0, a1, a2⟩ := Kga.out.c3;have af0 := Kga.out.free 0;have af1 := Kga.out.free 1;have af2 := Kga.out.free 2
      go_upto_region 19 with (fail)
      clear b0 b1 b2 a0 a1 a2 af0 af1 af2
      have hC2 : Clk ((((w5.setCell ⟨ga, 0, none⟩ (.int .i64 (fr))).setCell ⟨ga, 1, none⟩ (.int .i64 (lo))).setCell ⟨ga, 2, none⟩ (.int .i64 (hi)))) gq fr lo hi := by
       obtain ⟨cur, h1, h2⟩ := HC.out;exact ⟨cur, (((h1.far (show gq ≠ ga by omega) _).far (show gq ≠ ga by omega) _).far (show gq ≠ ga by omega) _), h2⟩
      have hXs : Ext w (((w5.setCell ⟨ga, 0, none⟩ (.int .i64 (fr))).setCell ⟨ga, 1, none⟩ (.int .i64 (lo))).setCell ⟨ga, 2, none⟩ (.int .i64 (hi))) := (((HX.out.setCell (show w.heap.size <= ga by omega) _).setCell (show w.heap.size <= ga by omega) _).setCell (show w.heap.size <= ga by omega) _);have hKR : Blk (((w5.setCell ⟨ga, 0, none⟩ (.int .i64 (fr))).setCell ⟨ga, 1, none⟩ (.int .i64 (lo))).setCell ⟨ga, 2, none⟩ (.int .i64 (hi))) w.heap.size 31 #[.int .i64 0, .int .i64 0] := (Blk.far (Blk.far (Blk.far KR.out (show w.heap.size ≠ ga by omega) _) (show w.heap.size ≠ ga by omega) _) (show w.heap.size ≠ ga by omega) _);have hKga : Blk (((w5.setCell ⟨ga, 0, none⟩ (.int .i64 (fr))).setCell ⟨ga, 1, none⟩ (.int .i64 (lo))).setCell ⟨ga, 2, none⟩ (.int .i64 (hi))) ga 177 #[.int .i64 fr, .int .i64 lo, .int .i64 hi] := (Blk.set (Blk.set (Blk.set Kga.out 0 _) 1 _) 2 _);have hHC := hC2;generalize (((w5.setCell _ _).setCell _ _).setCell _ _) = w6 at hXs hKR hKga hHC |-;clear HX KR Kga HC;have HX := hid hXs;clear hXs;have KR := hid hKR;clear hKR;have Kga := hid hKga;clear hKga;have HC := hid hHC;clear hHC hC2;go_wp2;go_roundg (1 - 1)
      case rel => exact ⟨1, rfl, by omega, by go_num, HC, KR, HX, Kga⟩
      case measure => omega
     .
      have q4 := xF (fr <= scan) hle;obtain ⟨b0, b1, b2⟩ := Kgm.out.c3;go_wp2;go_roundg (1 - 1)
      case rel => exact ⟨1, rfl, by omega, by go_num, HC, KR, HX, Kga⟩
      case measure => omega
    .
     obtain ⟨o0, o1, o2⟩ := Kga.out.c3
     go_upto_region 21 with (fail)
     obtain ⟨hXa, KS⟩ := xB1 wr 31 #[.int .i64 (scan + lo), .int .i64 (scan + hi)];replace HX := xT HX hXa;replace KR := xE KR hXa;clear hXa o0 o1 o2;generalize wr.heap.size = gs at KS |-;generalize wr.alloc _ = w7 at KS HX KR |-;clear HC;obtain ⟨s0, s1⟩ := KS.out.c2;have q6 := xD (scan + lo < 0) hr1;obtain ⟨r0, r1⟩ := KR.out.c2;have rf0 := KR.out.free 0;have rf1 := KR.out.free 1;go_wp2;refine bodyPost_ret (v := .tuple #[.agg #[.int .i64 0, .int .i64 0], .int .i64 3]) (by simp [results, Try.results24, go_sem, *]) rfl ?_;exact ⟨rfl, ((HX.out.setCell (by simp only; omega) _).setCell (by simp only; omega) _)⟩
theorem mE (gq cq : Nat) (fr lo hi scan : Int) (w : World) (hc : Clk w gq fr lo hi) (_hf : 0 <= fr) (_hlh : lo <= hi) (_hl0 : -1125899907000000 <= lo) (_hh0 : hi <= 1125899907000000) (hs0 : 0 <= scan) (hs1 : scan <= 1125899906842624) (_hr0 : 0 <= scan + lo) (hr1 : 1125899906842624 < scan + hi) :
  Calls Try.prog 24 #[.slice (some ⟨gq, 0, none⟩) 1 cq, .int .i64 (scan)] w (fun e w' => e = .returned (.tuple #[.agg #[.int .i64 0, .int .i64 0], .int .i64 3]) /\ Ext w w') := by
 have HC := hid hc;have hok : dz lo hi = true := decide_eq_true (by omega);have HV := hid hok;have v1 := IntWalk.i64_in (scan + lo) (by omega);have v2 := IntWalk.i64_in (scan + hi) (by omega);have q5 : ar 0 1125899906842624 [scan] = true := ag.2 ⟨hs0, hs1⟩;have HQ5 := hid q5;clear hc hok q5;obtain ⟨hXe, KR⟩ := xB1 w 31 #[.int .i64 (0), .int .i64 (0)];go_enter Try.func24, Try.ntmps24
 go_upto_region 1 with (fail)
 generalize (w.alloc _) = w1 at hXe KR |-;have HX := hid hXe;clear hXe;replace HC := hid (HC.out.ext HX.out)
 go_wp2_with fail
 go_loopg [19, 6] 1 (fun fu iv lv W => ∃ k : Nat, fu = 1 - k /\ k <= 1 /\ iv = .int .i64 (k : Int) /\ (k = 0 -> lv = .int .i64 0) /\ Hid (Clk W gq fr lo hi) /\ Hid (Blk W w.heap.size 31 #[.int .i64 0, .int .i64 0]) /\ Hid (Ext w W))
 case atStart => exact ⟨0, rfl, by omega, rfl, fun _ => rfl, HC, KR, HX⟩
 case round =>
  clear HX HC KR;obtain ⟨k, rfl, hk, rfl, hl, HC, KR, HX⟩ := hrel
  rcases (show k = 0 \/ k = 1 by omega) with rfl | rfl
  .
   obtain ⟨c0, c1, c2, _, _⟩ := HC.out.cells;obtain rfl := hl rfl;clear hl
   go_upto_region 7 with (fail)
   obtain ⟨hXa, Kgm⟩ := xB1 wr 177 #[.int .i64 fr, .int .i64 lo, .int .i64 hi];replace HX := xT HX hXa;replace HC := hid (HC.out.ext hXa);replace KR := xE KR hXa;clear hXa c0 c1 c2;generalize wr.heap.size = gm at Kgm |-;generalize wr.alloc _ = w2 at Kgm HX HC KR |-;obtain ⟨b0, b1, b2⟩ := Kgm.out.c3
   go_wp2_with fail
   refine (bD lo hi _).mono ?_;rw [HV.out];rintro e w3 ⟨rfl, hX⟩;replace HX := xT HX hX;replace HC := hid (HC.out.ext hX);replace KR := xE KR hX;replace Kgm := xE Kgm hX;clear hX b0 b1 b2;obtain ⟨b0, b1, b2⟩ := Kgm.out.c3;have q3 := xF (fr < 0) (by omega);go_wp2;go_roundg (1 - 1)
   case rel => exact ⟨1, rfl, by omega, by go_num, fun h => absurd h (by decide), HC, KR, HX⟩
   case measure => omega
  .
   clear hl
   go_wp2_with fail
   refine (aq 0 scan 1125899906842624 _).mono ?_;rw [HQ5.out];rintro e w3 ⟨rfl, hX⟩;replace HX := xT HX hX;replace HC := hid (HC.out.ext hX);replace KR := xE KR hX;clear hX;obtain ⟨c0, c1, c2, _, _⟩ := HC.out.cells
   go_upto_region 14 with (fail)
   have hga : w.heap.size < w3.heap.size := KR.out.lt;have hgq2 : gq < w3.heap.size := by obtain ⟨cur, h1, _⟩ := HC.out; exact h1.lt
   obtain ⟨hXa, Kga⟩ := xB1 w3 177 #[.int .i64 fr, .int .i64 lo, .int .i64 hi];replace HX := xT HX hXa;replace HC := hid (HC.out.ext hXa);replace KR := xE KR hXa;clear hXa c0 c1 c2;generalize w3.heap.size = ga at Kga hga hgq2 |-;generalize w3.alloc _ = w4 at Kga HX HC KR |-;skip
   go_wp2_with fail
   go_loopg [46] 1 (fun fu iv W => ∃ k : Nat, fu = 1 - k /\ k <= 1 /\ iv = .int .i64 (k : Int) /\ Hid (Clk W gq fr lo hi) /\ Hid (Blk W w.heap.size 31 #[.int .i64 0, .int .i64 0]) /\ Hid (Ext w W) /\ Hid (Blk W ga 177 #[.int .i64 fr, .int .i64 lo, .int .i64 hi]))
   case atStart => exact ⟨0, rfl, by omega, rfl, HC, KR, HX, Kga⟩
   case round =>
    clear HX HC KR Kga;obtain ⟨k, rfl, hk, rfl, HC, KR, HX, Kga⟩ := hrel;obtain ⟨wr, rfl⟩ : ∃ x : World, x = wr := ⟨_, rfl⟩
    rcases (show k = 0 \/ k = 1 by omega) with rfl | rfl
    .
     obtain ⟨c0, c1, c2, _, _⟩ := HC.out.cells
     go_upto_region 17 with (fail)
     obtain ⟨hXa, Kgm⟩ := xB1 wr 177 #[.int .i64 fr, .int .i64 lo, .int .i64 hi];replace HX := xT HX hXa;replace HC := hid (HC.out.ext hXa);replace KR := xE KR hXa;replace Kga := xE Kga hXa;clear hXa c0 c1 c2;generalize wr.heap.size = gm at Kgm |-;generalize wr.alloc _ = w5 at Kgm HX HC KR Kga |-;skip
     by_cases hle : fr <= scan
     .
      have q4 := xD (fr <= scan) hle;have hgw : w.heap.size < ga := hga;obtain ⟨b0, b1, b2⟩ := Kgm.out.c3;obtain ⟨a0, a1, a2⟩ := Kga.out.c3;have af0 := Kga.out.free 0;have af1 := Kga.out.free 1;have af2 := Kga.out.free 2
      go_upto_region 19 with (fail)
      clear b0 b1 b2 a0 a1 a2 af0 af1 af2
      have hC2 : Clk ((((w5.setCell ⟨ga, 0, none⟩ (.int .i64 (fr))).setCell ⟨ga, 1, none⟩ (.int .i64 (lo))).setCell ⟨ga, 2, none⟩ (.int .i64 (hi)))) gq fr lo hi := by
       obtain ⟨cur, h1, h2⟩ := HC.out;exact ⟨cur, (((h1.far (show gq ≠ ga by omega) _).far (show gq ≠ ga by omega) _).far (show gq ≠ ga by omega) _), h2⟩
      have hXs : Ext w (((w5.setCell ⟨ga, 0, none⟩ (.int .i64 (fr))).setCell ⟨ga, 1, none⟩ (.int .i64 (lo))).setCell ⟨ga, 2, none⟩ (.int .i64 (hi))) := (((HX.out.setCell (show w.heap.size <= ga by omega) _).setCell (show w.heap.size <= ga by omega) _).setCell (show w.heap.size <= ga by omega) _);have hKR : Blk (((w5.setCell ⟨ga, 0, none⟩ (.int .i64 (fr))).setCell ⟨ga, 1, none⟩ (.int .i64 (lo))).setCell ⟨ga, 2, none⟩ (.int .i64 (hi))) w.heap.size 31 #[.int .i64 0, .int .i64 0] := (Blk.far (Blk.far (Blk.far KR.out (show w.heap.size ≠ ga by omega) _) (show w.heap.size ≠ ga by omega) _) (show w.heap.size ≠ ga by omega) _);have hKga : Blk (((w5.setCell ⟨ga, 0, none⟩ (.int .i64 (fr))).setCell ⟨ga, 1, none⟩ (.int .i64 (lo))).setCell ⟨ga, 2, none⟩ (.int .i64 (hi))) ga 177 #[.int .i64 fr, .int .i64 lo, .int .i64 hi] := (Blk.set (Blk.set (Blk.set Kga.out 0 _) 1 _) 2 _);have hHC := hC2;generalize (((w5.setCell _ _).setCell _ _).setCell _ _) = w6 at hXs hKR hKga hHC |-;clear HX KR Kga HC;have HX := hid hXs;clear hXs;have KR := hid hKR;clear hKR;have Kga := hid hKga;clear hKga;have HC := hid hHC;clear hHC hC2;go_wp2;go_roundg (1 - 1)
      case rel => exact ⟨1, rfl, by omega, by go_num, HC, KR, HX, Kga⟩
      case measure => omega
     .
      have q4 := xF (fr <= scan) hle;obtain ⟨b0, b1, b2⟩ := Kgm.out.c3;go_wp2;go_roundg (1 - 1)
      case rel => exact ⟨1, rfl, by omega, by go_num, HC, KR, HX, Kga⟩
      case measure => omega
    .
     obtain ⟨o0, o1, o2⟩ := Kga.out.c3
     go_upto_region 21 with (fail)
     obtain ⟨hXa, KS⟩ := xB1 wr 31 #[.int .i64 (scan + lo), .int .i64 (scan + hi)];replace HX := xT HX hXa;replace KR := xE KR hXa;clear hXa o0 o1 o2;generalize wr.heap.size = gs at KS |-;generalize wr.alloc _ = w7 at KS HX KR |-;clear HC;obtain ⟨s0, s1⟩ := KS.out.c2;have q6 := xF (scan + lo < 0) (by omega);have q7 := xD (1125899906842624 < scan + hi) hr1;obtain ⟨r0, r1⟩ := KR.out.c2;have rf0 := KR.out.free 0;have rf1 := KR.out.free 1;go_wp2;refine bodyPost_ret (v := .tuple #[.agg #[.int .i64 0, .int .i64 0], .int .i64 3]) (by simp [results, Try.results24, go_sem, *]) rfl ?_;exact ⟨rfl, ((HX.out.setCell (by simp only; omega) _).setCell (by simp only; omega) _)⟩
end Go.Proofs.Ytikhlcgnlbinfaa
