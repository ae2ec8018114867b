/- Lemmas of the proof that follows (Places, part 12): walks of functions by contract, and plain lemmas. Conditions: none. -/
import Derived.Test.YtikhlcgnlbinfaaPlacesK
set_option maxRecDepth 100000
set_option maxHeartbeats 4000000
namespace Go.Proofs.Ytikhlcgnlbinfaa
open Lib (hid)
open Go.RowKit
theorem dt (pl ph : Nat -> Int) {k : Nat} (hk : k < 3) (w : World) : (Instr.index 47 (.agg #[.int .i64 (pl 0), .int .i64 (ph 0), .int .i64 (pl 1), .int .i64 (ph 1), .int .i64 (pl 2), .int .i64 (ph 2)]) (.int .i64 (k : Int))).run Try.prog w = .ok (.agg #[.int .i64 (pl k), .int .i64 (ph k)]) w := by
 have i0 : ∀ w : World, (Instr.index 47 (.agg #[.int .i64 (pl 0), .int .i64 (ph 0), .int .i64 (pl 1), .int .i64 (ph 1), .int .i64 (pl 2), .int .i64 (ph 2)]) (.int .i64 0)).run Try.prog w = .ok (.agg #[.int .i64 (pl 0), .int .i64 (ph 0)]) w := fun _ => by kernel_rfl
 have i1 : ∀ w : World, (Instr.index 47 (.agg #[.int .i64 (pl 0), .int .i64 (ph 0), .int .i64 (pl 1), .int .i64 (ph 1), .int .i64 (pl 2), .int .i64 (ph 2)]) (.int .i64 1)).run Try.prog w = .ok (.agg #[.int .i64 (pl 1), .int .i64 (ph 1)]) w := fun _ => by kernel_rfl
 have i2 : ∀ w : World, (Instr.index 47 (.agg #[.int .i64 (pl 0), .int .i64 (ph 0), .int .i64 (pl 1), .int .i64 (ph 1), .int .i64 (pl 2), .int .i64 (ph 2)]) (.int .i64 2)).run Try.prog w = .ok (.agg #[.int .i64 (pl 2), .int .i64 (ph 2)]) w := fun _ => by kernel_rfl
 match k, hk with
 | 0, _ => exact i0 w
 | 1, _ => exact i1 w
 | 2, _ => exact i2 w
/-- A range is valid. -/
def fI (lo hi : Int) : Bool := dz lo hi && ar 0 4194304 [lo, hi]
/-- A pose that Locate accepts. -/
structure df (pl ph qn : Nat -> Int) (k0 : Int) : Prop where
 pos : ∀ i, i < 3 -> -268435456 <= pl i /\ pl i <= ph i /\ ph i <= 268435456
 q : bV 1000 qn = true
 k : 0 <= k0 /\ k0 <= 2147483648
theorem ig (pl ph qn sq : Nat -> Int) (k0 r0 r1 : Int) (w : World) (hp : df pl ph qn k0) (hs : ∀ k, k < 4 -> -9223372036854775808 <= sq k /\ sq k <= 9223372036854775807) (_hr0 : -9223372036854775808 <= r0 /\ r0 <= 9223372036854775807) (_hr1 : -9223372036854775808 <= r1 /\ r1 <= 9223372036854775807) (hr : fI r0 r1 = true) (ht : bV 1000 sq = true) :
  Calls Try.prog 103 #[.agg #[.int .i64 (pl 0), .int .i64 (ph 0), .int .i64 (pl 1), .int .i64 (ph 1), .int .i64 (pl 2), .int .i64 (ph 2), .int .i64 (qn 0), .int .i64 (qn 1), .int .i64 (qn 2), .int .i64 (qn 3), .int .i64 k0], .agg #[.int .i64 (sq 0), .int .i64 (sq 1), .int .i64 (sq 2), .int .i64 (sq 3)], .agg #[.int .i64 r0, .int .i64 r1]] w (fun e w' => e = .returned (.int .i64 0) /\ Ext w w') := by
 have HP := hid hp;have HS := hid hs;have HR := hid hr;clear hp hs hr;have HT := hid ht;clear ht;obtain ⟨hXe, KP, KQ, KS⟩ := xB3 w 49 #[.int .i64 (pl 0), .int .i64 (ph 0), .int .i64 (pl 1), .int .i64 (ph 1), .int .i64 (pl 2), .int .i64 (ph 2), .int .i64 (qn 0), .int .i64 (qn 1), .int .i64 (qn 2), .int .i64 (qn 3), .int .i64 (k0)] 23 #[.int .i64 (sq 0), .int .i64 (sq 1), .int .i64 (sq 2), .int .i64 (sq 3)] 31 #[.int .i64 (r0), .int .i64 (r1)];go_enter Try.func103, Try.ntmps103
 go_upto_region 1 with (fail)
 generalize (((w.alloc _).alloc _).alloc _) = w1 at hXe KP KQ KS |-;have HX := hid hXe;clear hXe;obtain ⟨p0, p1, p2, p3, p4, p5, p6, p7, p8, p9, p10⟩ := KP.out.c11
 go_wp2_with fail
 clear p0 p1 p2 p3 p4 p5 p6 p7 p8 p9 p10
 go_loopg [11] 3 (fun fu iv W => ∃ k : Nat, fu = 3 - k /\ k <= 3 /\ iv = .int .i64 (k : Int) /\ Hid (Blk W w.heap.size 49 #[.int .i64 (pl 0), .int .i64 (ph 0), .int .i64 (pl 1), .int .i64 (ph 1), .int .i64 (pl 2), .int .i64 (ph 2), .int .i64 (qn 0), .int .i64 (qn 1), .int .i64 (qn 2), .int .i64 (qn 3), .int .i64 k0]) /\ Hid (Blk W (w.heap.size + 1) 23 #[.int .i64 (sq 0), .int .i64 (sq 1), .int .i64 (sq 2), .int .i64 (sq 3)]) /\ Hid (Blk W (w.heap.size + 2) 31 #[.int .i64 r0, .int .i64 r1]) /\ Hid (Ext w W))
 case atStart => exact ⟨0, rfl, by omega, rfl, KP, KQ, KS, HX⟩
 case round =>
  clear HX KP KQ KS;obtain ⟨k, rfl, hk, rfl, KP, KQ, KS, HX⟩ := hrel
  by_cases hlt : k < 3
  .
   have q1 := xD (k < 3) hlt;have q1b := xD ((k : Int) < (3 : Int)) (by omega);have ix := dt pl ph hlt;obtain ⟨b1, b2, b3⟩ := HP.out.pos k hlt;obtain ⟨lo, hlo⟩ : ∃ x, pl k = x := ⟨_, rfl⟩;obtain ⟨hi, hhi⟩ : ∃ x, ph k = x := ⟨_, rfl⟩;rw [hlo, hhi] at ix;rw [hlo] at b1 b2;rw [hhi] at b2 b3;clear hlo hhi;have HOK := hid (show dz lo hi = true from decide_eq_true (by omega));have HIN := hid (show ar (-268435456) 268435456 [lo, hi] = true from au.2 (by intro x hx; simp at hx; omega))
   go_upto_region 4 with (fail)
   obtain ⟨hXa, KM⟩ := xB1 wr 31 #[.int .i64 lo, .int .i64 hi];replace HX := xT HX hXa;replace KP := xE KP hXa;replace KQ := xE KQ hXa;replace KS := xE KS hXa;clear hXa;generalize wr.heap.size = gm at KM |-;generalize wr.alloc _ = w2 at KM HX KP KQ KS |-;clear ix;obtain ⟨m0, m1⟩ := KM.out.c2
   go_wp2_with fail
   refine (aF lo hi _).mono ?_;rw [HOK.out];rintro e w3 ⟨rfl, hX⟩;replace HX := xT HX hX;replace KP := xE KP hX;replace KQ := xE KQ hX;replace KS := xE KS hX;replace KM := xE KM hX;clear hX m0 m1;obtain ⟨m0, m1⟩ := KM.out.c2
   go_wp2_with fail
   refine (af (-268435456) 268435456 _ 2 2 [lo, hi] _ (ai _ [lo, hi] 3 (by simp; omega)) (by omega)).mono ?_;rw [HIN.out];rintro e w8 ⟨rfl, hX⟩;have hXa := ((Ext.refl _).alloc (.cells ([lo, hi].map (Value.int .i64)).toArray 3)).trans hX;replace HX := xT HX hXa;replace KP := xE KP hXa;replace KQ := xE KQ hXa;replace KS := xE KS hXa;clear hXa hX;go_wp2;go_roundg (3 - (k + 1))
   case rel => exact ⟨k + 1, rfl, by omega, by go_num, KP, KQ, KS, HX⟩
   case measure => omega
  .
   obtain rfl : k = 3 := by omega
   have h4 : decide ((3 : Int) < (3 : Int)) = false := by decide
   have hkk := HP.out.k;have HIK := hid (show ar 0 2147483648 [k0] = true from ag.2 hkk);obtain ⟨p0, p1, p2, p3, p4, p5, p6, p7, p8, p9, p10⟩ := KP.out.c11
   go_wp2_with fail
   refine (af (0) 2147483648 _ 1 1 [k0] _ (ai _ [k0] 3 (by simp; omega)) (by omega)).mono ?_;rw [HIK.out];rintro e w8 ⟨rfl, hX⟩;have hXa := ((Ext.refl _).alloc (.cells ([k0].map (Value.int .i64)).toArray 3)).trans hX;replace HX := xT HX hXa;replace KP := xE KP hXa;replace KQ := xE KQ hXa;replace KS := xE KS hXa;clear hXa hX p0 p1 p2 p3 p4 p5 p6 p7 p8 p9 p10;obtain ⟨s0, s1⟩ := KS.out.c2;obtain ⟨c1, hc1⟩ : ∃ c, dz r0 r1 = c := ⟨_, rfl⟩;obtain ⟨c2, hc2⟩ : ∃ c, ar 0 4194304 [r0, r1] = c := ⟨_, rfl⟩;have HC1 := hid hc1;have HC2 := hid hc2;have hcc : (c1 && c2) = true := by rw [<- hc1, <- hc2]; exact HR.out
   clear hc1 hc2
   go_wp2_with fail
   refine (aF r0 r1 _).mono ?_;rw [HC1.out];rintro e w3 ⟨rfl, hX⟩;replace HX := xT HX hX;replace KP := xE KP hX;replace KQ := xE KQ hX;replace KS := xE KS hX;clear hX s0 s1;obtain ⟨rfl, rfl⟩ : c1 = true /\ c2 = true := by simpa using hcc
   clear hcc;obtain ⟨s0, s1⟩ := KS.out.c2
   go_wp2_with fail
   refine (af (0) 4194304 _ 2 2 [r0, r1] _ (ai _ [r0, r1] 3 (by simp; omega)) (by omega)).mono ?_;rw [HC2.out];rintro e w8 ⟨rfl, hX⟩;have hXa := ((Ext.refl _).alloc (.cells ([r0, r1].map (Value.int .i64)).toArray 3)).trans hX;replace HX := xT HX hXa;replace KP := xE KP hXa;replace KQ := xE KQ hXa;replace KS := xE KS hXa;clear hXa hX s0 s1;obtain ⟨p0, p1, p2, p3, p4, p5, p6, p7, p8, p9, p10⟩ := KP.out.c11
   go_wp2_with fail
   refine (cn qn _ (fun k hk => by have := aA HP.out.q k hk; omega)).mono ?_;rw [HP.out.q];rintro e w3 ⟨rfl, hX⟩;replace HX := xT HX hX;replace KP := xE KP hX;replace KQ := xE KQ hX;replace KS := xE KS hX;clear hX p0 p1 p2 p3 p4 p5 p6 p7 p8 p9 p10;obtain ⟨q0, q1, q2, q3⟩ := KQ.out.c4
   go_wp2_with fail
   refine (cn sq _ HS.out).mono ?_;rw [HT.out];rintro e w3 ⟨rfl, hX⟩;replace HX := xT HX hX;replace KP := xE KP hX;replace KQ := xE KQ hX;replace KS := xE KS hX;clear hX q0 q1 q2 q3;go_wp2;go_ret;exact ⟨rfl, HX.out⟩
theorem fe (pl ph qn sq : Nat -> Int) (k0 r0 r1 : Int) (w : World) (hp : df pl ph qn k0) (hs : ∀ k, k < 4 -> -9223372036854775808 <= sq k /\ sq k <= 9223372036854775807) (_hr0 : -9223372036854775808 <= r0 /\ r0 <= 9223372036854775807) (_hr1 : -9223372036854775808 <= r1 /\ r1 <= 9223372036854775807) (hr : fI r0 r1 = true) (ht : bV 1000 sq = false) :
  Calls Try.prog 103 #[.agg #[.int .i64 (pl 0), .int .i64 (ph 0), .int .i64 (pl 1), .int .i64 (ph 1), .int .i64 (pl 2), .int .i64 (ph 2), .int .i64 (qn 0), .int .i64 (qn 1), .int .i64 (qn 2), .int .i64 (qn 3), .int .i64 k0], .agg #[.int .i64 (sq 0), .int .i64 (sq 1), .int .i64 (sq 2), .int .i64 (sq 3)], .agg #[.int .i64 r0, .int .i64 r1]] w (fun e w' => e = .returned (.int .i64 46) /\ Ext w w') := by
 have HP := hid hp;have HS := hid hs;have HR := hid hr;clear hp hs hr;have HT := hid ht;clear ht;obtain ⟨hXe, KP, KQ, KS⟩ := xB3 w 49 #[.int .i64 (pl 0), .int .i64 (ph 0), .int .i64 (pl 1), .int .i64 (ph 1), .int .i64 (pl 2), .int .i64 (ph 2), .int .i64 (qn 0), .int .i64 (qn 1), .int .i64 (qn 2), .int .i64 (qn 3), .int .i64 (k0)] 23 #[.int .i64 (sq 0), .int .i64 (sq 1), .int .i64 (sq 2), .int .i64 (sq 3)] 31 #[.int .i64 (r0), .int .i64 (r1)];go_enter Try.func103, Try.ntmps103
 go_upto_region 1 with (fail)
 generalize (((w.alloc _).alloc _).alloc _) = w1 at hXe KP KQ KS |-;have HX := hid hXe;clear hXe;obtain ⟨p0, p1, p2, p3, p4, p5, p6, p7, p8, p9, p10⟩ := KP.out.c11
 go_wp2_with fail
 clear p0 p1 p2 p3 p4 p5 p6 p7 p8 p9 p10
 go_loopg [11] 3 (fun fu iv W => ∃ k : Nat, fu = 3 - k /\ k <= 3 /\ iv = .int .i64 (k : Int) /\ Hid (Blk W w.heap.size 49 #[.int .i64 (pl 0), .int .i64 (ph 0), .int .i64 (pl 1), .int .i64 (ph 1), .int .i64 (pl 2), .int .i64 (ph 2), .int .i64 (qn 0), .int .i64 (qn 1), .int .i64 (qn 2), .int .i64 (qn 3), .int .i64 k0]) /\ Hid (Blk W (w.heap.size + 1) 23 #[.int .i64 (sq 0), .int .i64 (sq 1), .int .i64 (sq 2), .int .i64 (sq 3)]) /\ Hid (Blk W (w.heap.size + 2) 31 #[.int .i64 r0, .int .i64 r1]) /\ Hid (Ext w W))
 case atStart => exact ⟨0, rfl, by omega, rfl, KP, KQ, KS, HX⟩
 case round =>
  clear HX KP KQ KS;obtain ⟨k, rfl, hk, rfl, KP, KQ, KS, HX⟩ := hrel
  by_cases hlt : k < 3
  .
   have q1 := xD (k < 3) hlt;have q1b := xD ((k : Int) < (3 : Int)) (by omega);have ix := dt pl ph hlt;obtain ⟨b1, b2, b3⟩ := HP.out.pos k hlt;obtain ⟨lo, hlo⟩ : ∃ x, pl k = x := ⟨_, rfl⟩;obtain ⟨hi, hhi⟩ : ∃ x, ph k = x := ⟨_, rfl⟩;rw [hlo, hhi] at ix;rw [hlo] at b1 b2;rw [hhi] at b2 b3;clear hlo hhi;have HOK := hid (show dz lo hi = true from decide_eq_true (by omega));have HIN := hid (show ar (-268435456) 268435456 [lo, hi] = true from au.2 (by intro x hx; simp at hx; omega))
   go_upto_region 4 with (fail)
   obtain ⟨hXa, KM⟩ := xB1 wr 31 #[.int .i64 lo, .int .i64 hi];replace HX := xT HX hXa;replace KP := xE KP hXa;replace KQ := xE KQ hXa;replace KS := xE KS hXa;clear hXa;generalize wr.heap.size = gm at KM |-;generalize wr.alloc _ = w2 at KM HX KP KQ KS |-;clear ix;obtain ⟨m0, m1⟩ := KM.out.c2
   go_wp2_with fail
   refine (aF lo hi _).mono ?_;rw [HOK.out];rintro e w3 ⟨rfl, hX⟩;replace HX := xT HX hX;replace KP := xE KP hX;replace KQ := xE KQ hX;replace KS := xE KS hX;replace KM := xE KM hX;clear hX m0 m1;obtain ⟨m0, m1⟩ := KM.out.c2
   go_wp2_with fail
   refine (af (-268435456) 268435456 _ 2 2 [lo, hi] _ (ai _ [lo, hi] 3 (by simp; omega)) (by omega)).mono ?_;rw [HIN.out];rintro e w8 ⟨rfl, hX⟩;have hXa := ((Ext.refl _).alloc (.cells ([lo, hi].map (Value.int .i64)).toArray 3)).trans hX;replace HX := xT HX hXa;replace KP := xE KP hXa;replace KQ := xE KQ hXa;replace KS := xE KS hXa;clear hXa hX;go_wp2;go_roundg (3 - (k + 1))
   case rel => exact ⟨k + 1, rfl, by omega, by go_num, KP, KQ, KS, HX⟩
   case measure => omega
  .
   obtain rfl : k = 3 := by omega
   have h4 : decide ((3 : Int) < (3 : Int)) = false := by decide
   have hkk := HP.out.k;have HIK := hid (show ar 0 2147483648 [k0] = true from ag.2 hkk);obtain ⟨p0, p1, p2, p3, p4, p5, p6, p7, p8, p9, p10⟩ := KP.out.c11
   go_wp2_with fail
   refine (af (0) 2147483648 _ 1 1 [k0] _ (ai _ [k0] 3 (by simp; omega)) (by omega)).mono ?_;rw [HIK.out];rintro e w8 ⟨rfl, hX⟩;have hXa := ((Ext.refl _).alloc (.cells ([k0].map (Value.int .i64)).toArray 3)).trans hX;replace HX := xT HX hXa;replace KP := xE KP hXa;replace KQ := xE KQ hXa;replace KS := xE KS hXa;clear hXa hX p0 p1 p2 p3 p4 p5 p6 p7 p8 p9 p10;obtain ⟨s0, s1⟩ := KS.out.c2;obtain ⟨c1, hc1⟩ : ∃ c, dz r0 r1 = c := ⟨_, rfl⟩;obtain ⟨c2, hc2⟩ : ∃ c, ar 0 4194304 [r0, r1] = c := ⟨_, rfl⟩;have HC1 := hid hc1;have HC2 := hid hc2;have hcc : (c1 && c2) = true := by rw [<- hc1, <- hc2]; exact HR.out
   clear hc1 hc2
   go_wp2_with fail
   refine (aF r0 r1 _).mono ?_;rw [HC1.out];rintro e w3 ⟨rfl, hX⟩;replace HX := xT HX hX;replace KP := xE KP hX;replace KQ := xE KQ hX;replace KS := xE KS hX;clear hX s0 s1;obtain ⟨rfl, rfl⟩ : c1 = true /\ c2 = true := by simpa using hcc
   clear hcc;obtain ⟨s0, s1⟩ := KS.out.c2
   go_wp2_with fail
   refine (af (0) 4194304 _ 2 2 [r0, r1] _ (ai _ [r0, r1] 3 (by simp; omega)) (by omega)).mono ?_;rw [HC2.out];rintro e w8 ⟨rfl, hX⟩;have hXa := ((Ext.refl _).alloc (.cells ([r0, r1].map (Value.int .i64)).toArray 3)).trans hX;replace HX := xT HX hXa;replace KP := xE KP hXa;replace KQ := xE KQ hXa;replace KS := xE KS hXa;clear hXa hX s0 s1;obtain ⟨p0, p1, p2, p3, p4, p5, p6, p7, p8, p9, p10⟩ := KP.out.c11
   go_wp2_with fail
   refine (cn qn _ (fun k hk => by have := aA HP.out.q k hk; omega)).mono ?_;rw [HP.out.q];rintro e w3 ⟨rfl, hX⟩;replace HX := xT HX hX;replace KP := xE KP hX;replace KQ := xE KQ hX;replace KS := xE KS hX;clear hX p0 p1 p2 p3 p4 p5 p6 p7 p8 p9 p10;obtain ⟨q0, q1, q2, q3⟩ := KQ.out.c4
   go_wp2_with fail
   refine (cn sq _ HS.out).mono ?_;rw [HT.out];rintro e w3 ⟨rfl, hX⟩;replace HX := xT HX hX;replace KP := xE KP hX;replace KQ := xE KQ hX;replace KS := xE KS hX;clear hX q0 q1 q2 q3;go_wp2;go_ret;exact ⟨rfl, HX.out⟩
theorem gc (pl ph qn sq : Nat -> Int) (k0 r0 r1 : Int) (w : World) (hp : df pl ph qn k0) (hs : ∀ k, k < 4 -> -9223372036854775808 <= sq k /\ sq k <= 9223372036854775807) (_hr0 : -9223372036854775808 <= r0 /\ r0 <= 9223372036854775807) (_hr1 : -9223372036854775808 <= r1 /\ r1 <= 9223372036854775807) (hr : fI r0 r1 = false) :
  Calls Try.prog 103 #[.agg #[.int .i64 (pl 0), .int .i64 (ph 0), .int .i64 (pl 1), .int .i64 (ph 1), .int .i64 (pl 2), .int .i64 (ph 2), .int .i64 (qn 0), .int .i64 (qn 1), .int .i64 (qn 2), .int .i64 (qn 3), .int .i64 k0], .agg #[.int .i64 (sq 0), .int .i64 (sq 1), .int .i64 (sq 2), .int .i64 (sq 3)], .agg #[.int .i64 r0, .int .i64 r1]] w (fun e w' => e = .returned (.int .i64 2) /\ Ext w w') := by
 have HP := hid hp;have HS := hid hs;have HR := hid hr;clear hp hs hr;obtain ⟨hXe, KP, KQ, KS⟩ := xB3 w 49 #[.int .i64 (pl 0), .int .i64 (ph 0), .int .i64 (pl 1), .int .i64 (ph 1), .int .i64 (pl 2), .int .i64 (ph 2), .int .i64 (qn 0), .int .i64 (qn 1), .int .i64 (qn 2), .int .i64 (qn 3), .int .i64 (k0)] 23 #[.int .i64 (sq 0), .int .i64 (sq 1), .int .i64 (sq 2), .int .i64 (sq 3)] 31 #[.int .i64 (r0), .int .i64 (r1)];go_enter Try.func103, Try.ntmps103
 go_upto_region 1 with (fail)
 generalize (((w.alloc _).alloc _).alloc _) = w1 at hXe KP KQ KS |-;have HX := hid hXe;clear hXe;obtain ⟨p0, p1, p2, p3, p4, p5, p6, p7, p8, p9, p10⟩ := KP.out.c11
 go_wp2_with fail
 clear p0 p1 p2 p3 p4 p5 p6 p7 p8 p9 p10
 go_loopg [11] 3 (fun fu iv W => ∃ k : Nat, fu = 3 - k /\ k <= 3 /\ iv = .int .i64 (k : Int) /\ Hid (Blk W w.heap.size 49 #[.int .i64 (pl 0), .int .i64 (ph 0), .int .i64 (pl 1), .int .i64 (ph 1), .int .i64 (pl 2), .int .i64 (ph 2), .int .i64 (qn 0), .int .i64 (qn 1), .int .i64 (qn 2), .int .i64 (qn 3), .int .i64 k0]) /\ Hid (Blk W (w.heap.size + 1) 23 #[.int .i64 (sq 0), .int .i64 (sq 1), .int .i64 (sq 2), .int .i64 (sq 3)]) /\ Hid (Blk W (w.heap.size + 2) 31 #[.int .i64 r0, .int .i64 r1]) /\ Hid (Ext w W))
 case atStart => exact ⟨0, rfl, by omega, rfl, KP, KQ, KS, HX⟩
 case round =>
  clear HX KP KQ KS;obtain ⟨k, rfl, hk, rfl, KP, KQ, KS, HX⟩ := hrel
  by_cases hlt : k < 3
  .
   have q1 := xD (k < 3) hlt;have q1b := xD ((k : Int) < (3 : Int)) (by omega);have ix := dt pl ph hlt;obtain ⟨b1, b2, b3⟩ := HP.out.pos k hlt;obtain ⟨lo, hlo⟩ : ∃ x, pl k = x := ⟨_, rfl⟩;obtain ⟨hi, hhi⟩ : ∃ x, ph k = x := ⟨_, rfl⟩;rw [hlo, hhi] at ix;rw [hlo] at b1 b2;rw [hhi] at b2 b3;clear hlo hhi;have HOK := hid (show dz lo hi = true from decide_eq_true (by omega));have HIN := hid (show ar (-268435456) 268435456 [lo, hi] = true from au.2 (by intro x hx; simp at hx; omega))
   go_upto_region 4 with (fail)
   obtain ⟨hXa, KM⟩ := xB1 wr 31 #[.int .i64 lo, .int .i64 hi];replace HX := xT HX hXa;replace KP := xE KP hXa;replace KQ := xE KQ hXa;replace KS := xE KS hXa;clear hXa;generalize wr.heap.size = gm at KM |-;generalize wr.alloc _ = w2 at KM HX KP KQ KS |-;clear ix;obtain ⟨m0, m1⟩ := KM.out.c2
   go_wp2_with fail
   refine (aF lo hi _).mono ?_;rw [HOK.out];rintro e w3 ⟨rfl, hX⟩;replace HX := xT HX hX;replace KP := xE KP hX;replace KQ := xE KQ hX;replace KS := xE KS hX;replace KM := xE KM hX;clear hX m0 m1;obtain ⟨m0, m1⟩ := KM.out.c2
   go_wp2_with fail
   refine (af (-268435456) 268435456 _ 2 2 [lo, hi] _ (ai _ [lo, hi] 3 (by simp; omega)) (by omega)).mono ?_;rw [HIN.out];rintro e w8 ⟨rfl, hX⟩;have hXa := ((Ext.refl _).alloc (.cells ([lo, hi].map (Value.int .i64)).toArray 3)).trans hX;replace HX := xT HX hXa;replace KP := xE KP hXa;replace KQ := xE KQ hXa;replace KS := xE KS hXa;clear hXa hX;go_wp2;go_roundg (3 - (k + 1))
   case rel => exact ⟨k + 1, rfl, by omega, by go_num, KP, KQ, KS, HX⟩
   case measure => omega
  .
   obtain rfl : k = 3 := by omega
   have h4 : decide ((3 : Int) < (3 : Int)) = false := by decide
   have hkk := HP.out.k;have HIK := hid (show ar 0 2147483648 [k0] = true from ag.2 hkk);obtain ⟨p0, p1, p2, p3, p4, p5, p6, p7, p8, p9, p10⟩ := KP.out.c11
   go_wp2_with fail
   refine (af (0) 2147483648 _ 1 1 [k0] _ (ai _ [k0] 3 (by simp; omega)) (by omega)).mono ?_;rw [HIK.out];rintro e w8 ⟨rfl, hX⟩;have hXa := ((Ext.refl _).alloc (.cells ([k0].map (Value.int .i64)).toArray 3)).trans hX;replace HX := xT HX hXa;replace KP := xE KP hXa;replace KQ := xE KQ hXa;replace KS := xE KS hXa;clear hXa hX p0 p1 p2 p3 p4 p5 p6 p7 p8 p9 p10;obtain ⟨s0, s1⟩ := KS.out.c2;obtain ⟨c1, hc1⟩ : ∃ c, dz r0 r1 = c := ⟨_, rfl⟩;obtain ⟨c2, hc2⟩ : ∃ c, ar 0 4194304 [r0, r1] = c := ⟨_, rfl⟩;have HC1 := hid hc1;have HC2 := hid hc2;have hcc : (c1 && c2) = false := by rw [<- hc1, <- hc2]; exact HR.out
   clear hc1 hc2
   go_wp2_with fail
   refine (aF r0 r1 _).mono ?_;rw [HC1.out];rintro e w3 ⟨rfl, hX⟩;replace HX := xT HX hX;replace KP := xE KP hX;replace KQ := xE KQ hX;replace KS := xE KS hX;clear hX s0 s1
   by_cases hb1 : c1 = true
   .
    subst hb1;obtain rfl : c2 = false := by simpa using hcc
    clear hcc;obtain ⟨s0, s1⟩ := KS.out.c2
    go_wp2_with fail
    refine (af (0) 4194304 _ 2 2 [r0, r1] _ (ai _ [r0, r1] 3 (by simp; omega)) (by omega)).mono ?_;rw [HC2.out];rintro e w8 ⟨rfl, hX⟩;have hXa := ((Ext.refl _).alloc (.cells ([r0, r1].map (Value.int .i64)).toArray 3)).trans hX;replace HX := xT HX hXa;replace KP := xE KP hXa;replace KQ := xE KQ hXa;replace KS := xE KS hXa;clear hXa hX;go_wp2;go_ret;exact ⟨rfl, HX.out⟩
   .
    obtain rfl : c1 = false := by simpa using hb1
    clear hb1 hcc;go_wp2;go_ret;exact ⟨rfl, HX.out⟩
end Go.Proofs.Ytikhlcgnlbinfaa
