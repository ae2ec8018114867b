/- Lemmas of the proof that follows (Places, part 7): walks of functions by contract, and plain lemmas. Conditions: none. -/
import Derived.Test.YtikhlcgnlbinfaaPlacesF
set_option maxRecDepth 100000
set_option maxHeartbeats 8000000
namespace Go.Proofs.Ytikhlcgnlbinfaa
open Lib (hid)
open Go.RowKit
/-- All numbers are from lo to hi. -/
def ar (lo hi : Int) (xs : List Int) : Bool := xs.all fun x => decide (lo <= x) && decide (x <= hi)
theorem lT {lo hi : Int} {xs : List Int} {k : Nat} {x : Int} (h : xs[k]? = some x) : ar lo hi (xs.drop k) = (decide (lo <= x) && decide (x <= hi) && ar lo hi (xs.drop (k + 1))) := by
 have hk : k < xs.length := by
  rcases Nat.lt_or_ge k xs.length with h' | h'
  .
   exact h'
  .
   rw [List.getElem?_eq_none h'] at h; cases h
 rw [List.drop_eq_getElem_cons hk];have e : xs[k] = x := by rw [List.getElem?_eq_getElem hk] at h; injection h
 rw [e];rfl
theorem af (lo hi : Int) (A : Option Addr) (n c : Nat) (xs : List Int) (w : World) (hI : Ints .i64 w A n xs) (_hn : n <= 1000000) :
  Calls Try.prog 92 #[.int .i64 lo, .int .i64 hi, .slice A n c] w (fun e w' => e = .returned (.bool (ar lo hi xs)) /\ Ext w w') := by
 have HI := hid hI;clear hI;have HX := hid (Ext.refl w);go_enter Try.func92, Try.ntmps92
 go_wp2_with fail
 go_loopg [11] n (fun fu iv wr => ∃ k : Nat, fu = n - k /\ k <= n /\ iv = .int .i64 (k : Int) /\ Hid (ar lo hi xs = ar lo hi (xs.drop k)) /\ Hid (Ext w wr))
 case atStart => exact ⟨0, rfl, by omega, rfl, hid rfl, HX⟩
 case round =>
  clear HX;obtain ⟨k, rfl, hk, rfl, HD, HX⟩ := hrel
  by_cases hlt : k < n
  .
   have q1 := xD (k < n) hlt;have q1b := xD ((k : Int) < (n : Int)) (by omega);obtain ⟨b, o, x, rfl, hx, _, x0⟩ := (HI.out.ext HX.out).get hlt;have HDR := hid (lT (lo := lo) (hi := hi) hx);clear hx
   by_cases h1 : x < lo
   .
    have q2 := xD (x < lo) h1;have HE : Hid (ar lo hi xs = false) := hid (by rw [HD.out, HDR.out, decide_eq_false (show ¬ lo <= x by omega)]; rfl);clear h1;go_wp2;go_ret;exact ⟨by rw [HE.out]; rfl, HX.out⟩
   .
    have q2 := xF (x < lo) h1
    by_cases h2 : hi < x
    .
     have q3 := xD (hi < x) h2;have HE : Hid (ar lo hi xs = false) := hid (by rw [HD.out, HDR.out, decide_eq_false (show ¬ x <= hi by omega), Bool.and_false, Bool.false_and]);clear h1 h2;go_wp2;go_ret;exact ⟨by rw [HE.out]; rfl, HX.out⟩
    .
     have q3 := xF (hi < x) h2;have HE : Hid (ar lo hi xs = ar lo hi (xs.drop (k + 1))) := hid (by rw [HD.out, HDR.out, decide_eq_true (show lo <= x by omega), decide_eq_true (show x <= hi by omega)]; rfl);clear h1 h2;go_wp2;go_roundg (n - (k + 1))
     case rel => exact ⟨k + 1, rfl, by omega, by go_num, HE, HX⟩
     case measure => omega
  .
   obtain rfl : k = n := by omega
   have q1 : decide (k < k) = false := by simp
   have q1b : decide ((k : Int) < (k : Int)) = false := by simp
   have HE : Hid (ar lo hi xs = true) := hid (by rw [HD.out, List.drop_of_length_le (by rw [HI.out.1]; exact Nat.le_refl _)]; rfl);go_wp2;go_ret;exact ⟨by rw [HE.out]; rfl, HX.out⟩
theorem eE (a b : Int) (w : World) (_hb : 1 <= b) (_hb2 : b <= 9223372036854775807) (_ha : -9223372036854775807 <= a) (_ha2 : a <= 9223372036854775807) :
  Calls Try.prog 196 #[.int .i64 a, .int .i64 b] w (fun e w' => e = .returned (.int .i64 (a / b)) /\ Ext w w') := by
 have hb0 : b ≠ 0 := by omega
 have hb1 : (b == 0) = false := by simpa using hb0
 have e1 := Int.mul_tdiv_add_tmod a b;have e2 := Int.mul_ediv_add_emod a b;have e3 := Int.emod_nonneg a hb0;have e4 := Int.emod_lt_of_pos a (show 0 < b by omega);obtain ⟨q, hq⟩ : ∃ q, a.tdiv b = q := ⟨_, rfl⟩;obtain ⟨r, hr⟩ : ∃ r, a.tmod b = r := ⟨_, rfl⟩
 have hqb : -9223372036854775807 <= q /\ q <= 9223372036854775807 := by
  have := Int.natAbs_tdiv_le_natAbs a b;rw [hq] at this;omega
 have w1 : IntKind.i64.wrap q = q := IntWalk.i64_in _ (by omega);have HQ := hid hq;have HR := hid hr
 have hrs : r < 0 -> a < 0 := fun h => by
  rcases Int.lt_or_le a 0 with h' | h'
  .
   exact h'
  .
   have := Int.tmod_nonneg b h';omega
 have hrs2 : ¬ r < 0 -> q = a / b /\ r = a % b := fun h => by
  rcases Int.lt_or_le a 0 with h' | h'
  .
   have h3 : r <= 0 := by
    rw [<- hr];have := Int.tmod_nonneg b (show 0 <= -a by omega);rw [Int.neg_tmod] at this;omega
   have h0 : r = 0 := by omega
   rw [hq, hr, h0, Int.add_zero] at e1;have hm : a % b = 0 := by rw [<- e1]; exact Int.mul_emod_right b q
   refine ⟨?_, by omega⟩;rw [<- e1, Int.mul_ediv_cancel_left _ hb0]
  .
   exact ⟨by rw [<- hq, Int.tdiv_eq_ediv_of_nonneg h'], by rw [<- hr, Int.tmod_eq_emod_of_nonneg h']⟩
 by_cases h : r < 0
 .
  have q2 := xD (r < 0) h
  have hE : a / b = q - 1 := by
   have hr2 : -b < r := by
    rw [<- hr];have := Int.lt_tmod_of_pos a (show 0 < b by omega);exact this
   rw [hq, hr] at e1;have := (Int.ediv_emod_unique (a := a) (b := b) (r := r + b) (q := q - 1) (by omega)).2 ⟨by rw [Int.mul_sub, Int.mul_one]; omega, by omega, by omega⟩;exact this.1
  have w2 := IntWalk.i64_in (q - 1) (by
   have : -9223372036854775807 <= a / b := by
    have := Int.le_ediv_of_mul_le (a := -9223372036854775807) (b := a) (c := b) (by omega) (by
     have : -9223372036854775807 * b <= -9223372036854775807 := by omega
     omega)
    exact this
   omega)
  have HE := hid hE;clear e1 e2 e3 e4 hE h hrs hrs2 hqb;have hq' := HQ.out;have hr' := HR.out;go_enter Try.func196, Try.ntmps196;go_wp2;go_ret;exact ⟨by rw [HE.out]; rfl, Ext.refl _⟩
 .
  have q2 := xF (r < 0) h;have HE := hid (hrs2 h).1;clear e1 e2 e3 e4 h hrs hrs2 hqb;have hq' := HQ.out;have hr' := HR.out;go_enter Try.func196, Try.ntmps196;go_wp2;go_ret;exact ⟨by rw [<- HE.out]; rfl, Ext.refl _⟩
theorem fB (a b : Int) (w : World) (hb : 1 <= b) (hb2 : b <= 9223372036854775807) (_ha : -9223372036854775807 <= a) (_ha2 : a <= 9223372036854775807) :
  Calls Try.prog 195 #[.int .i64 a, .int .i64 b] w (fun e w' => e = .returned (.int .i64 (-(-a / b))) /\ Ext w w') := by
 have w1 := IntWalk.i64_in (-a) (by omega)
 have hq : -9223372036854775807 <= -a / b /\ -a / b <= 9223372036854775807 := by
  have hb0 : 0 < b := by omega
  constructor
  .
   refine Int.le_ediv_of_mul_le hb0 ?_;have : -9223372036854775807 * b <= -9223372036854775807 * 1 := by omega
   omega
  .
   refine Int.le_trans (Int.ediv_le_ediv hb0 (show -a <= 9223372036854775807 by omega)) ?_;exact Int.ediv_le_self b (by omega)
 obtain ⟨q, hqe⟩ : ∃ q, -a / b = q := ⟨_, rfl⟩;rw [hqe] at hq;have w2 := IntWalk.i64_in (-q) (by omega);have HQ := hid hqe;have HX := hid (Ext.refl w);clear hqe;go_enter Try.func195, Try.ntmps195
 go_wp2_with fail
 refine (eE (-a) b _ hb hb2 (by omega) (by omega)).mono ?_;rw [HQ.out];rintro e w2' ⟨rfl, hX⟩;replace HX := xT HX hX;clear hX;go_wp2;go_ret;exact ⟨by rw [HQ.out]; rfl, HX.out⟩
theorem j8 {x : Int} (_h : -9223372036854775808 <= x /\ x <= 9223372036854775807) : (Lit.int .i64 x).wf = true := by
 simp [Lit.wf, IntKind.min, IntKind.max, IntKind.bits, IntKind.signed];omega
theorem At.newT (w : World) (cs : Array Value) (t : TypeId) {vs : List Value} (h : vs = cs.toList) : At (w.alloc (.cells cs t)) (some ⟨w.heap.size, 0, none⟩) vs := by
 subst h;have := At.new w cs.toList t;exact this
theorem ai (w : World) (xs : List Int) (e : TypeId) (h : ∀ x ∈ xs, -9223372036854775808 <= x /\ x <= 9223372036854775807) : Ints .i64 (w.alloc (.cells (xs.map (Value.int .i64)).toArray e)) (some ⟨w.heap.size, 0, none⟩) xs.length xs :=
 ⟨rfl, fun x hx => j8 (h x hx), At.newT w _ e rfl⟩
/-- A sync is valid. -/
def j9 (sc na er : Int) : Bool := ar 0 1125899906842624 [sc, na] && ar 0 100000 [er]
theorem kd (sc na er : Int) (w : World) (_h1 : -9223372036854775808 <= sc /\ sc <= 9223372036854775807) (_h2 : -9223372036854775808 <= na /\ na <= 9223372036854775807) (_h3 : -9223372036854775808 <= er /\ er <= 9223372036854775807) :
  Calls Try.prog 86 #[.agg #[.int .i64 sc, .int .i64 na, .int .i64 er]] w (fun e w' => e = .returned (.bool (j9 sc na er)) /\ Ext w w') := by
 have HX := hid ((Ext.refl w).alloc (.cells #[.int .i64 sc, .int .i64 na, .int .i64 er] 170));have HP := hid (Blk.new w 170 #[.int .i64 sc, .int .i64 na, .int .i64 er]);go_enter Try.func86, Try.ntmps86
 go_upto_region 1 with (fail)
 generalize w.alloc _ = w1 at HX HP |-;obtain ⟨p0, p1⟩ := HP.out.c2
 go_wp2_with fail
 refine (af 0 1125899906842624 _ 2 2 [sc, na] _ (ai w1 [sc, na] 3 (by simp; omega)) (by omega)).mono ?_;rintro e w2 ⟨rfl, hX⟩;have hXa := ((Ext.refl w1).alloc (.cells ([sc, na].map (Value.int .i64)).toArray 3)).trans hX;replace HX := xT HX hXa;replace HP := hid (HP.out.ext hXa);clear hX hXa p0 p1;have p2 := HP.out.q 2 rfl;obtain ⟨b1, hb1⟩ : ∃ b, ar 0 1125899906842624 [sc, na] = b := ⟨_, rfl⟩;rw [hb1];have HB1 := hid hb1;clear hb1
 by_cases hb : b1 = true
 .
  subst hb
  go_wp2_with fail
  refine (af 0 100000 _ 1 1 [er] _ (ai w2 [er] 3 (by simp; omega)) (by omega)).mono ?_;rintro e w3 ⟨rfl, hX⟩;have hXa := ((Ext.refl w2).alloc (.cells ([er].map (Value.int .i64)).toArray 3)).trans hX;replace HX := xT HX hXa;clear hX hXa p2;go_wp2;go_ret;exact ⟨by unfold j9; rw [HB1.out]; rfl, HX.out⟩
 .
  obtain rfl : b1 = false := by simpa using hb
  go_wp2;go_ret
  exact ⟨by unfold j9; rw [HB1.out]; rfl, HX.out⟩
theorem fT (lo hi x : Int) : ar lo hi [x] = (decide (lo <= x) && decide (x <= hi)) := by
 unfold ar;rw [List.all_cons, List.all_nil, Bool.and_true]
theorem aq (lo n hi : Int) (w : World) : Calls Try.prog 94 #[.int .i64 lo, .int .i64 n, .int .i64 hi] w (fun e w' => e = .returned (.bool (ar lo hi [n])) /\ Ext w w') := by
 have HE := hid (fT lo hi n)
 by_cases h1 : lo <= n
 .
  have q1 := xD (lo <= n) h1;obtain ⟨b, hb⟩ : ∃ b, decide (n <= hi) = b := ⟨_, rfl⟩;have HB := hid hb;clear h1;go_enter Try.func94, Try.ntmps94;go_wp2;go_ret;exact ⟨by rw [HE.out, q1, HB.out]; rfl, Ext.refl _⟩
 .
  have q1 := xF (lo <= n) h1;clear h1;go_enter Try.func94, Try.ntmps94;go_wp2;go_ret;exact ⟨by rw [HE.out, q1]; rfl, Ext.refl _⟩
def pD (sc na er : Int) : Bool := ar 0 1125899906842624 [sc] && ar 0 1125899906842624 [na] && ar 0 100000 [er]
theorem pd (sc na er : Int) : pD sc na er = j9 sc na er := by
 unfold pD j9 ar;simp only [List.all_cons, List.all_nil, Bool.and_true, Bool.and_assoc]
/-- Rules are valid. -/
def jo (g s a r : Int) : Bool := ar 1 10000000 [g] && ar 0 1000000 [s] && ar 0 100000 [a] && ar 0 10000000 [r]
theorem nv (sc na er : Int) (w : World)  :
  Calls Try.prog 84 #[.agg #[.int .i64 (sc), .int .i64 (na), .int .i64 (er)]] w (fun e w' => e = .returned (.bool (pD sc na er)) /\ Ext w w') := by
 have HX := hid ((Ext.refl w).alloc (.cells #[.int .i64 (sc), .int .i64 (na), .int .i64 (er)] 170));have HP := hid (Blk.new w 170 #[.int .i64 (sc), .int .i64 (na), .int .i64 (er)]);go_enter Try.func84, Try.ntmps84
 go_upto_region 1 with (fail)
 generalize w.alloc _ = w1 at HX HP |-;have p0 := HP.out.c1;obtain ⟨b0, hb0⟩ : ∃ b, ar 0 1125899906842624 [sc] = b := ⟨_, rfl⟩;have HB0 := hid hb0;clear hb0
 go_wp2_with fail
 refine (aq 0 sc 1125899906842624 _).mono ?_;rw [HB0.out];rintro e w2 ⟨rfl, hXa⟩;replace HX := xT HX hXa;replace HP := hid (HP.out.ext hXa);clear hXa p0
 by_cases hb : b0 = true
 .
  subst hb;have p1 := HP.out.q 1 rfl;obtain ⟨b1, hb1⟩ : ∃ b, ar 0 1125899906842624 [na] = b := ⟨_, rfl⟩;have HB1 := hid hb1;clear hb1
  go_wp2_with fail
  refine (aq 0 na 1125899906842624 _).mono ?_;rw [HB1.out];rintro e w3 ⟨rfl, hXa⟩;replace HX := xT HX hXa;replace HP := hid (HP.out.ext hXa);clear hXa p1
  by_cases hb : b1 = true
  .
   subst hb;have p2 := HP.out.q 2 rfl;obtain ⟨b2, hb2⟩ : ∃ b, ar 0 100000 [er] = b := ⟨_, rfl⟩;have HB2 := hid hb2;clear hb2
   go_wp2_with fail
   refine (aq 0 er 100000 _).mono ?_;rw [HB2.out];rintro e w4 ⟨rfl, hXa⟩;replace HX := xT HX hXa;replace HP := hid (HP.out.ext hXa);clear hXa p2;go_wp2;go_ret;exact ⟨by unfold pD; rw [HB0.out, HB1.out, HB2.out]; rfl, HX.out⟩
  .
   obtain rfl : b1 = false := by simpa using hb
   clear hb;go_wp2;go_ret;exact ⟨by unfold pD; rw [HB0.out, HB1.out]; rfl, HX.out⟩
 .
  obtain rfl : b0 = false := by simpa using hb
  clear hb;go_wp2;go_ret;exact ⟨by unfold pD; rw [HB0.out]; rfl, HX.out⟩
theorem fC (sc na er : Int) (w : World) : Calls Try.prog 84 #[.agg #[.int .i64 sc, .int .i64 na, .int .i64 er]] w (fun e w' => e = .returned (.bool (j9 sc na er)) /\ Ext w w') := by
 rw [<- pd];exact nv sc na er w
theorem eF (rg rs ra rr : Int) (w : World) (_h0 : -9223372036854775808 <= rg /\ rg <= 9223372036854775807) (_h1 : -9223372036854775808 <= rs /\ rs <= 9223372036854775807) (_h2 : -9223372036854775808 <= ra /\ ra <= 9223372036854775807) (_h3 : -9223372036854775808 <= rr /\ rr <= 9223372036854775807) :
  Calls Try.prog 156 #[.agg #[.int .i64 (rg), .int .i64 (rs), .int .i64 (ra), .int .i64 (rr)]] w (fun e w' => e = .returned (.bool (jo rg rs ra rr)) /\ Ext w w') := by
 have HX := hid ((Ext.refl w).alloc (.cells #[.int .i64 (rg), .int .i64 (rs), .int .i64 (ra), .int .i64 (rr)] 27));have HP := hid (Blk.new w 27 #[.int .i64 (rg), .int .i64 (rs), .int .i64 (ra), .int .i64 (rr)]);go_enter Try.func156, Try.ntmps156
 go_upto_region 1 with (fail)
 generalize w.alloc _ = w1 at HX HP |-;have p0 := HP.out.c1;obtain ⟨b0, hb0⟩ : ∃ b, ar 1 10000000 [rg] = b := ⟨_, rfl⟩;have HB0 := hid hb0;clear hb0
 go_wp2_with fail
 refine (af 1 10000000 _ 1 1 [rg] _ (ai w1 [rg] 3 (by simp; omega)) (by omega)).mono ?_;rw [HB0.out];rintro e w2 ⟨rfl, hX⟩;have hXa := ((Ext.refl w1).alloc (.cells ([rg].map (Value.int .i64)).toArray 3)).trans hX;replace HX := xT HX hXa;replace HP := hid (HP.out.ext hXa);clear hX hXa p0
 by_cases hb : b0 = true
 .
  subst hb;have p1 := HP.out.q 1 rfl;obtain ⟨b1, hb1⟩ : ∃ b, ar 0 1000000 [rs] = b := ⟨_, rfl⟩;have HB1 := hid hb1;clear hb1
  go_wp2_with fail
  refine (af 0 1000000 _ 1 1 [rs] _ (ai w2 [rs] 3 (by simp; omega)) (by omega)).mono ?_;rw [HB1.out];rintro e w3 ⟨rfl, hX⟩;have hXa := ((Ext.refl w2).alloc (.cells ([rs].map (Value.int .i64)).toArray 3)).trans hX;replace HX := xT HX hXa;replace HP := hid (HP.out.ext hXa);clear hX hXa p1
  by_cases hb : b1 = true
  .
   subst hb;have p2 := HP.out.q 2 rfl;obtain ⟨b2, hb2⟩ : ∃ b, ar 0 100000 [ra] = b := ⟨_, rfl⟩;have HB2 := hid hb2;clear hb2
   go_wp2_with fail
   refine (af 0 100000 _ 1 1 [ra] _ (ai w3 [ra] 3 (by simp; omega)) (by omega)).mono ?_;rw [HB2.out];rintro e w4 ⟨rfl, hX⟩;have hXa := ((Ext.refl w3).alloc (.cells ([ra].map (Value.int .i64)).toArray 3)).trans hX;replace HX := xT HX hXa;replace HP := hid (HP.out.ext hXa);clear hX hXa p2
   by_cases hb : b2 = true
   .
    subst hb;have p3 := HP.out.q 3 rfl;obtain ⟨b3, hb3⟩ : ∃ b, ar 0 10000000 [rr] = b := ⟨_, rfl⟩;have HB3 := hid hb3;clear hb3
    go_wp2_with fail
    refine (af 0 10000000 _ 1 1 [rr] _ (ai w4 [rr] 3 (by simp; omega)) (by omega)).mono ?_;rw [HB3.out];rintro e w5 ⟨rfl, hX⟩;have hXa := ((Ext.refl w4).alloc (.cells ([rr].map (Value.int .i64)).toArray 3)).trans hX;replace HX := xT HX hXa;replace HP := hid (HP.out.ext hXa);clear hX hXa p3;go_wp2;go_ret;exact ⟨by unfold jo; rw [HB0.out, HB1.out, HB2.out, HB3.out]; rfl, HX.out⟩
   .
    obtain rfl : b2 = false := by simpa using hb
    clear hb;go_wp2;go_ret;exact ⟨by unfold jo; rw [HB0.out, HB1.out, HB2.out]; rfl, HX.out⟩
  .
   obtain rfl : b1 = false := by simpa using hb
   clear hb;go_wp2;go_ret;exact ⟨by unfold jo; rw [HB0.out, HB1.out]; rfl, HX.out⟩
 .
  obtain rfl : b0 = false := by simpa using hb
  clear hb;go_wp2;go_ret;exact ⟨by unfold jo; rw [HB0.out]; rfl, HX.out⟩
theorem bS (rg rs ra rr : Int) (w : World)  :
  Calls Try.prog 83 #[.agg #[.int .i64 (rg), .int .i64 (rs), .int .i64 (ra), .int .i64 (rr)]] w (fun e w' => e = .returned (.bool (jo rg rs ra rr)) /\ Ext w w') := by
 have HX := hid ((Ext.refl w).alloc (.cells #[.int .i64 (rg), .int .i64 (rs), .int .i64 (ra), .int .i64 (rr)] 27));have HP := hid (Blk.new w 27 #[.int .i64 (rg), .int .i64 (rs), .int .i64 (ra), .int .i64 (rr)]);go_enter Try.func83, Try.ntmps83
 go_upto_region 1 with (fail)
 generalize w.alloc _ = w1 at HX HP |-;have p0 := HP.out.c1;obtain ⟨b0, hb0⟩ : ∃ b, ar 1 10000000 [rg] = b := ⟨_, rfl⟩;have HB0 := hid hb0;clear hb0
 go_wp2_with fail
 refine (aq 1 rg 10000000 _).mono ?_;rw [HB0.out];rintro e w2 ⟨rfl, hXa⟩;replace HX := xT HX hXa;replace HP := hid (HP.out.ext hXa);clear hXa p0
 by_cases hb : b0 = true
 .
  subst hb;have p1 := HP.out.q 1 rfl;obtain ⟨b1, hb1⟩ : ∃ b, ar 0 1000000 [rs] = b := ⟨_, rfl⟩;have HB1 := hid hb1;clear hb1
  go_wp2_with fail
  refine (aq 0 rs 1000000 _).mono ?_;rw [HB1.out];rintro e w3 ⟨rfl, hXa⟩;replace HX := xT HX hXa;replace HP := hid (HP.out.ext hXa);clear hXa p1
  by_cases hb : b1 = true
  .
   subst hb;have p2 := HP.out.q 2 rfl;obtain ⟨b2, hb2⟩ : ∃ b, ar 0 100000 [ra] = b := ⟨_, rfl⟩;have HB2 := hid hb2;clear hb2
   go_wp2_with fail
   refine (aq 0 ra 100000 _).mono ?_;rw [HB2.out];rintro e w4 ⟨rfl, hXa⟩;replace HX := xT HX hXa;replace HP := hid (HP.out.ext hXa);clear hXa p2
   by_cases hb : b2 = true
   .
    subst hb;have p3 := HP.out.q 3 rfl;obtain ⟨b3, hb3⟩ : ∃ b, ar 0 10000000 [rr] = b := ⟨_, rfl⟩;have HB3 := hid hb3;clear hb3
    go_wp2_with fail
    refine (aq 0 rr 10000000 _).mono ?_;rw [HB3.out];rintro e w5 ⟨rfl, hXa⟩;replace HX := xT HX hXa;replace HP := hid (HP.out.ext hXa);clear hXa p3;go_wp2;go_ret;exact ⟨by unfold jo; rw [HB0.out, HB1.out, HB2.out, HB3.out]; rfl, HX.out⟩
   .
    obtain rfl : b2 = false := by simpa using hb
    clear hb;go_wp2;go_ret;exact ⟨by unfold jo; rw [HB0.out, HB1.out, HB2.out]; rfl, HX.out⟩
  .
   obtain rfl : b1 = false := by simpa using hb
   clear hb;go_wp2;go_ret;exact ⟨by unfold jo; rw [HB0.out, HB1.out]; rfl, HX.out⟩
 .
  obtain rfl : b0 = false := by simpa using hb
  clear hb;go_wp2;go_ret;exact ⟨by unfold jo; rw [HB0.out]; rfl, HX.out⟩
/-- A sync. -/
structure Sy where
 sc : Int
 na : Int
 er : Int
/-- A block's cells hold syncs. -/
def SyC (cur : Array Value) (ys : List Sy) : Prop := ∀ (i : Nat) (s : Sy), ys[i]? = some s -> cur[i * 3]? = some (.int .i64 s.sc) /\ cur[i * 3 + 1]? = some (.int .i64 s.na) /\ cur[i * 3 + 2]? = some (.int .i64 s.er)
/-- A block holds n syncs, which are those of a list, in whatever order. -/
def SyR (w : World) (g n : Nat) (xs : List Sy) : Prop := ∃ cur ys, Blk w g 170 cur /\ SyC cur ys /\ ys.length = n /\ ∀ s, s ∈ ys ↔ s ∈ xs
theorem SyR.ext {w w' : World} {g n : Nat} {xs : List Sy} (h : SyR w g n xs) (he : Ext w w') : SyR w' g n xs := by
 obtain ⟨cur, ys, h1, h2⟩ := h;exact ⟨cur, ys, h1.ext he, h2⟩
theorem al {cur : Array Value} {a b c k : Nat} {x y z : Value} (h : a ≠ k /\ b ≠ k /\ c ≠ k) : (((cur.setIfInBounds a x).setIfInBounds b y).setIfInBounds c z)[k]? = cur[k]? := by
 rw [Array.getElem?_setIfInBounds_ne h.2.2, Array.getElem?_setIfInBounds_ne h.2.1, Array.getElem?_setIfInBounds_ne h.1]
theorem bF {cur : Array Value} {a : Nat} {x u : Value} (h : cur[a]? = some u) : (cur.setIfInBounds a x)[a]? = some x := by
 have h1 : a < cur.size := (Array.getElem?_eq_some_iff.1 h).1;rw [Array.getElem?_setIfInBounds_self_of_lt h1]
/-- Two neighbours change their places. -/
def oL (ys : List Sy) (k : Nat) (x y : Sy) : List Sy := (ys.set (k + 1) y).set k x
theorem dq {ys : List Sy} {k : Nat} {x y : Sy} (hx : ys[k + 1]? = some x) (_hy : ys[k]? = some y) (i : Nat) : (oL ys k x y)[i]? = if i = k then some x else if i = k + 1 then some y else ys[i]? := by
 have h1 : k + 1 < ys.length := (List.getElem?_eq_some_iff.1 hx).1;unfold oL;rw [List.getElem?_set, List.length_set, List.getElem?_set]
 by_cases e : k = i
 .
  subst e;rw [if_pos rfl, if_pos (by omega), if_pos rfl]
 .
  rw [if_neg e, if_neg (Ne.symm e)]
  by_cases e2 : k + 1 = i
  .
   subst e2;rw [if_pos rfl, if_pos h1, if_pos rfl]
  .
   rw [if_neg e2, if_neg (Ne.symm e2)]
theorem jp {ys : List Sy} {k : Nat} {x y : Sy} (hx : ys[k + 1]? = some x) (hy : ys[k]? = some y) (s : Sy) : s ∈ oL ys k x y ↔ s ∈ ys := by
 rw [List.mem_iff_getElem?, List.mem_iff_getElem?];constructor
 .
  rintro ⟨i, hi⟩;rw [dq hx hy] at hi
  by_cases e : i = k
  .
   rw [if_pos e] at hi; exact ⟨k + 1, by rw [hx]; exact hi⟩
  .
   rw [if_neg e] at hi
   by_cases e2 : i = k + 1
   .
    rw [if_pos e2] at hi; exact ⟨k, by rw [hy]; exact hi⟩
   .
    rw [if_neg e2] at hi; exact ⟨i, hi⟩
 .
  rintro ⟨i, hi⟩
  by_cases e : i = k
  .
   subst e;exact ⟨i + 1, by rw [dq hx hy, if_neg (by omega), if_pos rfl, <- hy, hi]⟩
  .
   by_cases e2 : i = k + 1
   .
    subst e2;exact ⟨k, by rw [dq hx hy, if_pos rfl, <- hx, hi]⟩
   .
    exact ⟨i, by rw [dq hx hy, if_neg e, if_neg e2, hi]⟩
theorem SyC.swap {cur : Array Value} {ys : List Sy} {k : Nat} {x y : Sy} (h : SyC cur ys) (hx : ys[k + 1]? = some x) (hy : ys[k]? = some y) :
  SyC ((((((cur.setIfInBounds ((k + 1) * 3) (.int .i64 y.sc)).setIfInBounds ((k + 1) * 3 + 1) (.int .i64 y.na)).setIfInBounds ((k + 1) * 3 + 2) (.int .i64 y.er)).setIfInBounds (k * 3) (.int .i64 x.sc)).setIfInBounds (k * 3 + 1) (.int .i64 x.na)).setIfInBounds (k * 3 + 2) (.int .i64 x.er)) (oL ys k x y) := by
 obtain ⟨a0, a1, a2⟩ := h _ _ hx;obtain ⟨b0, b1, b2⟩ := h _ _ hy;intro i s hs;rw [dq hx hy] at hs
 by_cases e : i = k
 .
  subst e;rw [if_pos rfl] at hs;injection hs with hs;subst hs;have c0 := (al (cur := cur) (a := (i + 1) * 3) (b := (i + 1) * 3 + 1) (c := (i + 1) * 3 + 2) (x := .int .i64 y.sc) (y := .int .i64 y.na) (z := .int .i64 y.er) (k := i * 3) (by omega)).trans b0;have c1 := (al (cur := cur) (a := (i + 1) * 3) (b := (i + 1) * 3 + 1) (c := (i + 1) * 3 + 2) (x := .int .i64 y.sc) (y := .int .i64 y.na) (z := .int .i64 y.er) (k := i * 3 + 1) (by omega)).trans b1;have c2 := (al (cur := cur) (a := (i + 1) * 3) (b := (i + 1) * 3 + 1) (c := (i + 1) * 3 + 2) (x := .int .i64 y.sc) (y := .int .i64 y.na) (z := .int .i64 y.er) (k := i * 3 + 2) (by omega)).trans b2;refine ⟨?_, ?_, ?_⟩
  .
   rw [Array.getElem?_setIfInBounds_ne (by omega), Array.getElem?_setIfInBounds_ne (by omega)];exact bF c0
  .
   rw [Array.getElem?_setIfInBounds_ne (by omega)];exact bF (((Array.getElem?_setIfInBounds_ne (by omega))).trans c1)
  .
   exact bF ((Array.getElem?_setIfInBounds_ne (by omega)).trans ((Array.getElem?_setIfInBounds_ne (by omega)).trans c2))
 .
  rw [if_neg e] at hs
  by_cases e2 : i = k + 1
  .
   subst e2;rw [if_pos rfl] at hs;injection hs with hs;subst hs;refine ⟨?_, ?_, ?_⟩
   .
    rw [al (by omega), Array.getElem?_setIfInBounds_ne (by omega), Array.getElem?_setIfInBounds_ne (by omega)];exact bF a0
   .
    rw [al (by omega), Array.getElem?_setIfInBounds_ne (by omega)];exact bF ((Array.getElem?_setIfInBounds_ne (by omega)).trans a1)
   .
    rw [al (by omega)];exact bF ((Array.getElem?_setIfInBounds_ne (by omega)).trans ((Array.getElem?_setIfInBounds_ne (by omega)).trans a2))
  .
   rw [if_neg e2] at hs;obtain ⟨d0, d1, d2⟩ := h _ _ hs;refine ⟨?_, ?_, ?_⟩
   .
    rw [al (by omega), al (by omega)]; exact d0
   .
    rw [al (by omega), al (by omega)]; exact d1
   .
    rw [al (by omega), al (by omega)]; exact d2
theorem pe (gt ct mm jj kk : Nat) (tt : TypeId) (cur : Array Value) (x y : Sy) (w : World) (hB : Blk w gt tt cur) (hx0 : cur[jj * 3]? = some (.int .i64 x.sc)) (hx1 : cur[jj * 3 + 1]? = some (.int .i64 x.na)) (hx2 : cur[jj * 3 + 2]? = some (.int .i64 x.er)) (hy0 : cur[kk * 3]? = some (.int .i64 y.sc)) (hy1 : cur[kk * 3 + 1]? = some (.int .i64 y.na)) (hy2 : cur[kk * 3 + 2]? = some (.int .i64 y.er)) (_hjk : kk < jj) (_hw : IntKind.i64.wrap ((jj : Int) - 1) = (kk : Int)) (_hA1 : jj < mm) (hB1 : kk < mm) (_hA2 : (jj : Int) < (mm : Int)) (hB2 : (kk : Int) < (mm : Int)) (a : Act) (Q : Exit -> Act -> World -> Prop) (hsize : 53 <= a.tmps.size)
  (s0 : a.tmps[0]? = some (.slice (some ⟨gt, 0, none⟩) mm ct))
  (s9 : a.tmps[9]? = some (.int .i64 (jj : Int)))
  (hend : ∀ (xv0 xv1 xv2 xv3 xv4 xv5 xv6 xv7 xv8 xv9 xv10 xv11 xv12 xv13 xv14 xv15 xv16 xv17 : Value) (W : World), (xv0 = .slice (some ⟨gt, 0, none⟩) mm ct) -> (xv1 = .int .i64 (jj : Int)) -> (xv2 = .slice (some ⟨gt, 0, none⟩) mm ct) -> (xv3 = .int .i64 (jj : Int)) -> (xv4 = .int .i64 (kk : Int)) -> (xv5 = .slice (some ⟨gt, 0, none⟩) mm ct) -> (xv6 = .int .i64 (jj : Int)) -> (xv7 = .int .i64 (kk : Int)) -> (xv8 = .pointer (some ⟨gt, kk * 3, none⟩)) -> (xv9 = .agg #[.int .i64 (y.sc), .int .i64 (y.na), .int .i64 (y.er)]) -> (xv10 = .slice (some ⟨gt, 0, none⟩) mm ct) -> (xv11 = .int .i64 (jj : Int)) -> (xv12 = .pointer (some ⟨gt, jj * 3, none⟩)) -> (xv13 = .agg #[.int .i64 (x.sc), .int .i64 (x.na), .int .i64 (x.er)]) -> (xv14 = .pointer (some ⟨gt, jj * 3, none⟩)) -> (True) -> (xv16 = .pointer (some ⟨gt, kk * 3, none⟩)) -> (True) -> W = (((((((w.setCell ⟨gt, jj * 3, none⟩ (.int .i64 y.sc)).setCell ⟨gt, jj * 3 + 1, none⟩ (.int .i64 y.na)).setCell ⟨gt, jj * 3 + 2, none⟩ (.int .i64 y.er)).setCell ⟨gt, kk * 3, none⟩ (.int .i64 x.sc)).setCell ⟨gt, kk * 3 + 1, none⟩ (.int .i64 x.na)).setCell ⟨gt, kk * 3 + 2, none⟩ (.int .i64 x.er))).drew -> wpList Try.prog (ae Try.f192 6).toArray Q ((ae Try.f192 6).drop 18) ((((((((((((((((((a.put (some 37) xv0).put (some 38) xv1).put (some 39) xv2).put (some 40) xv3).put (some 41) xv4).put (some 42) xv5).put (some 43) xv6).put (some 44) xv7).put (some 45) xv8).put (some 46) xv9).put (some 47) xv10).put (some 48) xv11).put (some 49) xv12).put (some 50) xv13).put (some 51) xv14).put (none) xv15).put (some 52) xv16).put (none) xv17) W) :
  (Code.region 6 (ae Try.f192 6).toArray true).wp Try.prog Q a w := by
 have hsz : ∀ d, some d ∈ ([some 37, some 38, some 39, some 40, some 41, some 42, some 43, some 44, some 45, some 46, some 47, some 48, some 49, some 50, some 51, none, some 52, none] : List (Option Tmp)) -> d < a.tmps.size := aI (by decide) hsize
 refine aJ 18 [some 37, some 38, some 39, some 40, some 41, some 42, some 43, some 44, some 45, some 46, some 47, some 48, some 49, some 50, some 51, none, some 52, none] [[], [], [], [], [3], [], [], [6], [5, 7], [8], [], [], [10, 11], [12], [0, 1], [9, 14], [2, 4], [13, 15, 16]] [[], [], [], [], [], [], [], [], [], [15, 17], [], [], [], [15, 17], [], [17], [], []] (fun i v _ => match i with
  | 0 => v = .slice (some ⟨gt, 0, none⟩) mm ct
  | 1 => v = .int .i64 (jj : Int)
  | 2 => v = .slice (some ⟨gt, 0, none⟩) mm ct
  | 3 => v = .int .i64 (jj : Int)
  | 4 => v = .int .i64 (kk : Int)
  | 5 => v = .slice (some ⟨gt, 0, none⟩) mm ct
  | 6 => v = .int .i64 (jj : Int)
  | 7 => v = .int .i64 (kk : Int)
  | 8 => v = .pointer (some ⟨gt, kk * 3, none⟩)
  | 9 => v = .agg #[.int .i64 (y.sc), .int .i64 (y.na), .int .i64 (y.er)]
  | 10 => v = .slice (some ⟨gt, 0, none⟩) mm ct
  | 11 => v = .int .i64 (jj : Int)
  | 12 => v = .pointer (some ⟨gt, jj * 3, none⟩)
  | 13 => v = .agg #[.int .i64 (x.sc), .int .i64 (x.na), .int .i64 (x.er)]
  | 14 => v = .pointer (some ⟨gt, jj * 3, none⟩)
  | 15 => True
  | 16 => v = .pointer (some ⟨gt, kk * 3, none⟩)
  | 17 => True
  | _ => True) (fun done W => (¬ done 15 -> ¬ done 17 -> W = w.drew) /\ (done 15 -> ¬ done 17 -> W = ((((w.setCell ⟨gt, jj * 3, none⟩ (.int .i64 y.sc)).setCell ⟨gt, jj * 3 + 1, none⟩ (.int .i64 y.na)).setCell ⟨gt, jj * 3 + 2, none⟩ (.int .i64 y.er))).drew) /\ (done 17 -> W = (((((((w.setCell ⟨gt, jj * 3, none⟩ (.int .i64 y.sc)).setCell ⟨gt, jj * 3 + 1, none⟩ (.int .i64 y.na)).setCell ⟨gt, jj * 3 + 2, none⟩ (.int .i64 y.er)).setCell ⟨gt, kk * 3, none⟩ (.int .i64 x.sc)).setCell ⟨gt, kk * 3 + 1, none⟩ (.int .i64 x.na)).setCell ⟨gt, kk * 3 + 2, none⟩ (.int .i64 x.er))).drew)) (by kernel_rfl) (by kernel_rfl) hsz (fun p q W h hj => by have e : p = q := funext fun k => propext (h k); subst e; exact hj) ⟨fun _ _ => rfl, fun h => h.elim, fun h => h.elim⟩ ?_ ?_
 .
  clear hend;simp only [ae, Try.f192, ab, Option.bind_some, Nat.reduceBEq, if_true, if_false, Bool.false_eq_true, Option.getD_some];simp only [List.take_succ_cons, List.take_zero];refine ⟨?_, ?_, ?_, ?_, ?_, ?_, ?_, ?_, ?_, ?_, ?_, ?_, ?_, ?_, ?_, ?_, ?_, ?_, trivial⟩
  .
   intro done us W hJ hdep haft hnot b hb hb' K hK Q';have e0 := (hb' 0 (by simp)).trans s0;clear hb hb';go_simp;exact hK _ _ rfl (fun _ _ _ h => h) (by simpa using hJ)
  .
   intro done us W hJ hdep haft hnot b hb hb' K hK Q';have e9 := (hb' 9 (by simp)).trans s9;clear hb hb';go_simp;exact hK _ _ rfl (fun _ _ _ h => h) (by simpa using hJ)
  .
   intro done us W hJ hdep haft hnot b hb hb' K hK Q';have e0 := (hb' 0 (by simp)).trans s0;clear hb hb';go_simp;exact hK _ _ rfl (fun _ _ _ h => h) (by simpa using hJ)
  .
   intro done us W hJ hdep haft hnot b hb hb' K hK Q';have e9 := (hb' 9 (by simp)).trans s9;clear hb hb';go_simp;exact hK _ _ rfl (fun _ _ _ h => h) (by simpa using hJ)
  .
   intro done us W hJ hdep haft hnot b hb hb' K hK Q';simp only [List.getD_cons_succ, List.getD_cons_zero, List.mem_cons, List.not_mem_nil, or_false, forall_eq] at hdep;have e40 := hb 3 40 rfl;have d3 := hdep;rw [d3.1] at e40;clear hb hb' hdep d3;go_simp;exact hK _ _ rfl (fun _ _ _ h => h) (by simpa using hJ)
  .
   intro done us W hJ hdep haft hnot b hb hb' K hK Q';have e0 := (hb' 0 (by simp)).trans s0;clear hb hb';go_simp;exact hK _ _ rfl (fun _ _ _ h => h) (by simpa using hJ)
  .
   intro done us W hJ hdep haft hnot b hb hb' K hK Q';have e9 := (hb' 9 (by simp)).trans s9;clear hb hb';go_simp;exact hK _ _ rfl (fun _ _ _ h => h) (by simpa using hJ)
  .
   intro done us W hJ hdep haft hnot b hb hb' K hK Q';simp only [List.getD_cons_succ, List.getD_cons_zero, List.mem_cons, List.not_mem_nil, or_false, forall_eq] at hdep;have e43 := hb 6 43 rfl;have d6 := hdep;rw [d6.1] at e43;clear hb hb' hdep d6;go_simp;exact hK _ _ rfl (fun _ _ _ h => h) (by simpa using hJ)
  .
   intro done us W hJ hdep haft hnot b hb hb' K hK Q';simp only [List.getD_cons_succ, List.getD_cons_zero, List.mem_cons, List.not_mem_nil, or_false, forall_eq_or_imp, forall_eq] at hdep;have e42 := hb 5 42 rfl;have e44 := hb 7 44 rfl;have d5 := hdep.1;have d7 := hdep.2;rw [d5.1] at e42;rw [d7.1] at e44;clear hb hb' hdep d5 d7;go_simp;exact hK _ _ rfl (fun _ _ _ h => h) (by simpa using hJ)
  .
   intro done us W hJ hdep haft hnot b hb hb' K hK Q';simp only [List.getD_cons_succ, List.getD_cons_zero, List.mem_cons, List.not_mem_nil, or_false, forall_eq] at hdep;simp only [List.getD_cons_succ, List.getD_cons_zero, List.mem_cons, List.not_mem_nil, or_false, forall_eq_or_imp, forall_eq] at haft;have e45 := hb 8 45 rfl;have d8 := hdep;rw [d8.1] at e45;clear hb hb' hdep d8;obtain rfl := hJ.1 haft.1 haft.2;have q0 := (hB.drew.cell (kk * 3)).trans hy0;have q1 := (hB.drew.cell (kk * 3 + 1)).trans hy1;have q2 := (hB.drew.cell (kk * 3 + 2)).trans hy2;go_simp;exact hK _ _ rfl (fun _ _ _ h => h) (by simpa using hJ)
  .
   intro done us W hJ hdep haft hnot b hb hb' K hK Q';have e0 := (hb' 0 (by simp)).trans s0;clear hb hb';go_simp;exact hK _ _ rfl (fun _ _ _ h => h) (by simpa using hJ)
  .
   intro done us W hJ hdep haft hnot b hb hb' K hK Q';have e9 := (hb' 9 (by simp)).trans s9;clear hb hb';go_simp;exact hK _ _ rfl (fun _ _ _ h => h) (by simpa using hJ)
  .
   intro done us W hJ hdep haft hnot b hb hb' K hK Q';simp only [List.getD_cons_succ, List.getD_cons_zero, List.mem_cons, List.not_mem_nil, or_false, forall_eq_or_imp, forall_eq] at hdep;have e47 := hb 10 47 rfl;have e48 := hb 11 48 rfl;have d10 := hdep.1;have d11 := hdep.2;rw [d10.1] at e47;rw [d11.1] at e48;clear hb hb' hdep d10 d11;go_simp;exact hK _ _ rfl (fun _ _ _ h => h) (by simpa using hJ)
  .
   intro done us W hJ hdep haft hnot b hb hb' K hK Q';simp only [List.getD_cons_succ, List.getD_cons_zero, List.mem_cons, List.not_mem_nil, or_false, forall_eq] at hdep;simp only [List.getD_cons_succ, List.getD_cons_zero, List.mem_cons, List.not_mem_nil, or_false, forall_eq_or_imp, forall_eq] at haft;have e49 := hb 12 49 rfl;have d12 := hdep;rw [d12.1] at e49;clear hb hb' hdep d12;obtain rfl := hJ.1 haft.1 haft.2;have q0 := (hB.drew.cell (jj * 3)).trans hx0;have q1 := (hB.drew.cell (jj * 3 + 1)).trans hx1;have q2 := (hB.drew.cell (jj * 3 + 2)).trans hx2;go_simp;exact hK _ _ rfl (fun _ _ _ h => h) (by simpa using hJ)
  .
   intro done us W hJ hdep haft hnot b hb hb' K hK Q';simp only [List.getD_cons_succ, List.getD_cons_zero, List.mem_cons, List.not_mem_nil, or_false, forall_eq_or_imp, forall_eq] at hdep;have e37 := hb 0 37 rfl;have e38 := hb 1 38 rfl;have d0 := hdep.1;have d1 := hdep.2;rw [d0.1] at e37;rw [d1.1] at e38;clear hb hb' hdep d0 d1;go_simp;exact hK _ _ rfl (fun _ _ _ h => h) (by simpa using hJ)
  .
   intro done us W hJ hdep haft hnot b hb hb' K hK Q';simp only [List.getD_cons_succ, List.getD_cons_zero, List.mem_cons, List.not_mem_nil, or_false, forall_eq_or_imp, forall_eq] at hdep;simp only [List.getD_cons_succ, List.getD_cons_zero, List.mem_cons, List.not_mem_nil, or_false, forall_eq_or_imp, forall_eq] at haft;have e46 := hb 9 46 rfl;have e51 := hb 14 51 rfl;have d9 := hdep.1;have d14 := hdep.2;rw [d9.1] at e46;rw [d14.1] at e51;clear hb hb' hdep d9 d14;obtain rfl := hJ.1 hnot haft;have q0 := (hB.drew.cell (jj * 3)).trans hx0;have f0 := hB.drew.free (jj * 3);have r0 := (hB.cell (jj * 3)).trans hx0;have g0 := hB.free (jj * 3);have q1 := (hB.drew.cell (jj * 3 + 1)).trans hx1;have f1 := hB.drew.free (jj * 3 + 1);have r1 := (hB.cell (jj * 3 + 1)).trans hx1;have g1 := hB.free (jj * 3 + 1);have q2 := (hB.drew.cell (jj * 3 + 2)).trans hx2;have f2 := hB.drew.free (jj * 3 + 2);have r2 := (hB.cell (jj * 3 + 2)).trans hx2;have g2 := hB.free (jj * 3 + 2);have hfin := hK undef _ trivial (fun _ _ _ h => h) ⟨fun h => absurd (.inr rfl) h, fun _ _ => rfl, fun h => absurd (h.resolve_right (by decide)) haft⟩;clear hK hJ;go_simp;exact hfin
  .
   intro done us W hJ hdep haft hnot b hb hb' K hK Q';simp only [List.getD_cons_succ, List.getD_cons_zero, List.mem_cons, List.not_mem_nil, or_false, forall_eq_or_imp, forall_eq] at hdep;have e39 := hb 2 39 rfl;have e41 := hb 4 41 rfl;have d2 := hdep.1;have d4 := hdep.2;rw [d2.1] at e39;rw [d4.1] at e41;clear hb hb' hdep d2 d4;go_simp;exact hK _ _ rfl (fun _ _ _ h => h) (by simpa using hJ)
  .
   intro done us W hJ hdep haft hnot b hb hb' K hK Q';simp only [List.getD_cons_succ, List.getD_cons_zero, List.mem_cons, List.not_mem_nil, or_false, forall_eq_or_imp, forall_eq] at hdep;have e50 := hb 13 50 rfl;have e52 := hb 16 52 rfl;have d13 := hdep.1;have d15 := hdep.2.1;have d16 := hdep.2.2;rw [d13.1] at e50;rw [d16.1] at e52;clear hb hb' hdep d13 d16;obtain rfl := hJ.2.1 d15.2 hnot;have hB2 := ((hB.set (jj * 3) (.int .i64 y.sc)).set (jj * 3 + 1) (.int .i64 y.na)).set (jj * 3 + 2) (.int .i64 y.er);have hB1 := ((hB.drew.set (jj * 3) (.int .i64 y.sc)).set (jj * 3 + 1) (.int .i64 y.na)).set (jj * 3 + 2) (.int .i64 y.er);have q0 := (hB1.cell (kk * 3)).trans ((al (by omega)).trans hy0);have f0 := hB1.free (kk * 3);have r0 := (hB2.cell (kk * 3)).trans ((al (by omega)).trans hy0);have g0 := hB2.free (kk * 3);have q1 := (hB1.cell (kk * 3 + 1)).trans ((al (by omega)).trans hy1);have f1 := hB1.free (kk * 3 + 1);have r1 := (hB2.cell (kk * 3 + 1)).trans ((al (by omega)).trans hy1);have g1 := hB2.free (kk * 3 + 1);have q2 := (hB1.cell (kk * 3 + 2)).trans ((al (by omega)).trans hy2);have f2 := hB1.free (kk * 3 + 2);have r2 := (hB2.cell (kk * 3 + 2)).trans ((al (by omega)).trans hy2);have g2 := hB2.free (kk * 3 + 2);have hfin := hK undef _ trivial (fun _ _ _ h => h) ⟨fun _ h => absurd (.inr rfl) h, fun _ h => absurd (.inr rfl) h, fun _ => rfl⟩;clear hK hJ hB1 hB2;go_simp;exact hfin
 .
  intro us W hV hJ;exact hend (us 0) (us 1) (us 2) (us 3) (us 4) (us 5) (us 6) (us 7) (us 8) (us 9) (us 10) (us 11) (us 12) (us 13) (us 14) (us 15) (us 16) (us 17) W (hV 0 (by omega)) (hV 1 (by omega)) (hV 2 (by omega)) (hV 3 (by omega)) (hV 4 (by omega)) (hV 5 (by omega)) (hV 6 (by omega)) (hV 7 (by omega)) (hV 8 (by omega)) (hV 9 (by omega)) (hV 10 (by omega)) (hV 11 (by omega)) (hV 12 (by omega)) (hV 13 (by omega)) (hV 14 (by omega)) (hV 15 (by omega)) (hV 16 (by omega)) (hV 17 (by omega)) (hJ.2.2 (show 17 < 18 by decide))
theorem lU (x y : Sy) (w : World) (hx : 0 <= x.sc /\ x.sc <= 1125899906842624) (hy : 0 <= y.sc /\ y.sc <= 1125899906842624) :
  Calls Try.prog 89 #[.agg #[.int .i64 (x.sc), .int .i64 (x.na), .int .i64 (x.er)], .agg #[.int .i64 (y.sc), .int .i64 (y.na), .int .i64 (y.er)]] w (fun e w' => e = .returned (.int .i64 (x.sc - y.sc)) /\ Ext w w') := by
 have v1 := IntWalk.i64_in (x.sc - y.sc) (by omega);clear hx hy;obtain ⟨hXe, KX, KY⟩ := xB2 w 170 #[.int .i64 (x.sc), .int .i64 (x.na), .int .i64 (x.er)] 170 #[.int .i64 (y.sc), .int .i64 (y.na), .int .i64 (y.er)];go_enter Try.func89, Try.ntmps89
 go_upto_region 1 with (fail)
 generalize ((w.alloc _).alloc _) = w1 at hXe KX KY |-;have HX := hid hXe;clear hXe;have cX0 : w1.cell? ⟨w.heap.size, 0, none⟩ = some (.int .i64 (x.sc)) := KX.out.cell 0;have cX1 : w1.cell? ⟨w.heap.size, 1, none⟩ = some (.int .i64 (x.na)) := KX.out.cell 1;have cX2 : w1.cell? ⟨w.heap.size, 2, none⟩ = some (.int .i64 (x.er)) := KX.out.cell 2;have cY0 : w1.cell? ⟨(w.heap.size + 1), 0, none⟩ = some (.int .i64 (y.sc)) := KY.out.cell 0;have cY1 : w1.cell? ⟨(w.heap.size + 1), 1, none⟩ = some (.int .i64 (y.na)) := KY.out.cell 1;have cY2 : w1.cell? ⟨(w.heap.size + 1), 2, none⟩ = some (.int .i64 (y.er)) := KY.out.cell 2;go_wp2;go_ret;exact ⟨rfl, HX.out⟩
theorem pf (gt ct mm jj kk aa : Nat) (x y : Sy) (bb : Bool) (w : World) (vx : 0 <= x.sc /\ x.sc <= 1125899906842624) (vy : 0 <= y.sc /\ y.sc <= 1125899906842624) (hx0 : w.cell? ⟨gt, jj * 3, none⟩ = some (.int .i64 x.sc)) (hx1 : w.cell? ⟨gt, jj * 3 + 1, none⟩ = some (.int .i64 x.na)) (hx2 : w.cell? ⟨gt, jj * 3 + 2, none⟩ = some (.int .i64 x.er)) (hy0 : w.cell? ⟨gt, kk * 3, none⟩ = some (.int .i64 y.sc)) (hy1 : w.cell? ⟨gt, kk * 3 + 1, none⟩ = some (.int .i64 y.na)) (hy2 : w.cell? ⟨gt, kk * 3 + 2, none⟩ = some (.int .i64 y.er)) (_hw : IntKind.i64.wrap ((jj : Int) - 1) = (kk : Int)) (_hA2 : (jj : Int) < (mm : Int)) (_hB2 : (kk : Int) < (mm : Int)) (q1 : decide (aa < jj) = true) (q2 : decide ((aa : Int) < (jj : Int)) = true) (_hbb : decide (x.sc - y.sc < 0) = bb) : aS Try.prog Try.f192 4 17 35 w [18, 19, 20, 21, 22, 23, 24, 25, 26, 27, 28, 29, 30, 31, 32, 33, 34] [.c (.int .i64 (jj : Int)), .c (.int .i64 (aa : Int)), .c (.bool true), .c (.bool true), .c (.func (.func 89) #[] #[]), .c (.slice (some ⟨gt, 0, none⟩) mm ct), .c (.int .i64 (jj : Int)), .c (.pointer (some ⟨gt, jj * 3, none⟩)), .c (.agg #[.int .i64 (x.sc), .int .i64 (x.na), .int .i64 (x.er)]), .c (.slice (some ⟨gt, 0, none⟩) mm ct), .c (.int .i64 (jj : Int)), .c (.int .i64 (kk : Int)), .c (.pointer (some ⟨gt, kk * 3, none⟩)), .c (.agg #[.int .i64 (y.sc), .int .i64 (y.na), .int .i64 (y.er)]), .c (.int .i64 (x.sc - y.sc)), .c (.bool bb), .c (.bool bb)] [(0, .slice (some ⟨gt, 0, none⟩) mm ct), (1, .int .i64 (aa : Int)), (3, .func (.func 89) #[] #[]), (9, .int .i64 (jj : Int))] := by
 refine aT [[], [], [0, 1], [2], [3], [3], [3], [3, 5, 6], [3, 7], [3], [3], [3, 10], [3, 9, 11], [3, 12], [3, 4, 8, 13], [3, 14], [3, 15]] (by kernel_rfl) (by kernel_rfl) rfl trivial ?_;simp only [ae, Try.f192, ab, Option.bind_some, Nat.reduceBEq, if_true, if_false, Bool.false_eq_true, Option.getD_some];simp only [List.take_succ_cons, List.take_zero]
 repeat' first | refine ⟨?_, ?_⟩ | fail
 all_goals first | (intro us W b hJ K hK0 hK Qz; simp only [aO, ay, aB, List.getD_cons_succ, List.getD_cons_zero]) | exact True.intro
 all_goals try (intros; have q0 := Ext.cell hJ hx0; have q1 := Ext.cell hJ hx1; have q2 := Ext.cell hJ hx2; have q3 := Ext.cell hJ hy0; have q4 := Ext.cell hJ hy1; have q5 := Ext.cell hJ hy2; go_simp; exact hK0 _ rfl)
 .
  intro e21 e22 e26 e31 e0 e1 e3 e9;go_simp;refine (lU x y _ vx vy).mono ?_;rintro e w' ⟨rfl, hX⟩;exact hK _ _ rfl hX
theorem nw (gt ct mm jj aa : Nat) (w : World) (_q1 : decide (aa < jj) = false) (_q2 : decide ((aa : Int) < (jj : Int)) = false) : aS Try.prog Try.f192 4 17 35 w [18, 19, 20, 21, 22, 23, 24, 25, 26, 27, 28, 29, 30, 31, 32, 33, 34] [.c (.int .i64 (jj : Int)), .c (.int .i64 (aa : Int)), .c (.bool false), .c (.bool false), .c (undef), .c (undef), .c (undef), .c (undef), .c (undef), .c (undef), .c (undef), .c (undef), .c (undef), .c (undef), .c (undef), .c (undef), .c (.bool false)] [(0, .slice (some ⟨gt, 0, none⟩) mm ct), (1, .int .i64 (aa : Int)), (3, .func (.func 89) #[] #[]), (9, .int .i64 (jj : Int))] := by
 refine aT [[], [], [0, 1], [2], [3], [3], [3], [3, 5, 6], [3, 7], [3], [3], [3, 10], [3, 9, 11], [3, 12], [3, 4, 8, 13], [3, 14], [3, 15]] (by kernel_rfl) (by kernel_rfl) rfl trivial ?_;simp only [ae, Try.f192, ab, Option.bind_some, Nat.reduceBEq, if_true, if_false, Bool.false_eq_true, Option.getD_some];simp only [List.take_succ_cons, List.take_zero]
 repeat' first | refine ⟨?_, ?_⟩ | fail
 all_goals first | (intro us W b hJ K hK0 hK Qz; simp only [aO, ay, aB, List.getD_cons_succ, List.getD_cons_zero]) | exact True.intro
 all_goals try (intros; go_simp; exact hK0 _ rfl)
theorem eG (gt n c a b : Nat) (xs : List Sy) (w : World) (hS : SyR w gt n xs) (hv : ∀ s ∈ xs, 0 <= s.sc /\ s.sc <= 1125899906842624) (_hab : a <= b) (_hb : b <= n) (_hn : n <= 1000) :
  Calls Try.prog 192 #[.slice (some ⟨gt, 0, none⟩) n c, .int .i64 (a : Int), .int .i64 (b : Int), .func (.func 89) #[] #[]] w (fun e w' => e = .returned (.tuple #[]) /\ SyR w' gt n xs /\ Keeps [gt] w w') := by
 have HS := hid hS;have HV := hid hv;have HK := hid (Keeps.refl [gt] w);clear hS hv;go_enter Try.func192, Try.ntmps192
 go_wp2_with fail
 go_loopg [8] (b - a) (fun fu iv wr => ∃ i : Nat, fu = b + 1 - i /\ a + 1 <= i /\ i <= b + 1 /\ iv = .int .i64 (i : Int) /\ Hid (SyR wr gt n xs) /\ Hid (Keeps [gt] w wr))
 case atStart => exact ⟨a + 1, by omega, by omega, by omega, by go_num, HS, HK⟩
 case round =>
  clear HS HK;obtain ⟨i, rfl, hi0, hi, rfl, HS, HK⟩ := hrel
  by_cases hlt : i < b
  .
   have q1 := xD (i < b) hlt;have q2 := xD ((i : Int) < (b : Int)) (by omega)
   go_wp2_with fail
   go_loopg [9] i (fun fu jv wq => ∃ j : Nat, j = fu /\ j <= i /\ jv = .int .i64 (j : Int) /\ Hid (SyR wq gt n xs) /\ Hid (Keeps [gt] w wq))
   case atStart => exact ⟨i, rfl, by omega, rfl, HS, HK⟩
   case round =>
    clear HS HK;obtain ⟨j, rfl, hj, rfl, HS, HK⟩ := hrel;obtain ⟨wq, rfl⟩ : ∃ x : World, x = wr := ⟨_, rfl⟩
    by_cases hja : a < j
    .
     have q3 := xD (a < j) hja;have q4 := xD ((a : Int) < (j : Int)) (by omega);obtain ⟨kk, hkk⟩ : ∃ kk, j = kk + 1 := ⟨j - 1, by omega⟩;have hw : IntKind.i64.wrap ((j : Int) - 1) = (kk : Int) := by rw [show (j : Int) - 1 = (kk : Int) by omega]; exact IntWalk.i64_in _ (by omega)
     obtain ⟨cur, ys, hB, hC, hl, hm⟩ := HS.out;obtain ⟨x, hx⟩ : ∃ x, ys[j]? = some x := ⟨_, List.getElem?_eq_getElem (by omega)⟩;obtain ⟨y, hy⟩ : ∃ y, ys[kk]? = some y := ⟨_, List.getElem?_eq_getElem (by omega)⟩;have vx := HV.out x ((hm x).1 (List.mem_of_getElem? hx));have vy := HV.out y ((hm y).1 (List.mem_of_getElem? hy));obtain ⟨x0, x1, x2⟩ := hC _ _ hx;obtain ⟨y0, y1, y2⟩ := hC _ _ hy;obtain ⟨bb, hbb⟩ : ∃ bb, decide (x.sc - y.sc < 0) = bb := ⟨_, rfl⟩;have hjn : j < n := by omega
     have hkn : kk < n := by omega
     have HJ := hid hkk;clear hkk
     go_upto_region 4 with (fail)
     refine pf gt c n j kk a x y bb wq vx vy ((hB.cell _).trans x0) ((hB.cell _).trans x1) ((hB.cell _).trans x2) ((hB.cell _).trans y0) ((hB.cell _).trans y1) ((hB.cell _).trans y2) hw (by omega) (by omega) q3 q4 hbb _ _ (by simp) ⟨rfl, rfl, rfl, rfl, trivial⟩ ?_;rintro w2 hX;simp only [EndK, ae, Try.f192, ab, Option.bind_some, Nat.reduceBEq, if_true, if_false, Bool.false_eq_true, Option.getD_some, List.drop_succ_cons, List.drop_zero];simp only [Act.put, List.setIfInBounds_toArray, List.set_cons_succ, List.set_cons_zero];replace hB := hB.ext hX;replace HK := hid (HK.out.trans (Keeps.of_ext hX [gt]));clear hX HS;have HS2 : Hid (SyR w2 gt n xs) := hid ⟨cur, ys, hB, hC, hl, hm⟩;clear hbb
     by_cases hbt : bb = true
     .
      subst hbt
      go_upto_region 6 with (fail)
      refine pe gt c n j kk _ cur x y w2 hB x0 x1 x2 y0 y1 y2 (by have := HJ.out; omega) hw hjn hkn (by omega) (by omega) _ _ (by simp) rfl rfl ?_;rintro xv0 xv1 xv2 xv3 xv4 xv5 xv6 xv7 xv8 xv9 xv10 xv11 xv12 xv13 xv14 xv15 xv16 xv17 w3 rfl rfl rfl rfl rfl rfl rfl rfl rfl rfl rfl rfl rfl rfl rfl _ rfl _ hW;simp only [ae, Try.f192, ab, Option.bind_some, Nat.reduceBEq, if_true, if_false, Bool.false_eq_true, Option.getD_some, List.drop_succ_cons, List.drop_zero];simp only [Act.put, List.setIfInBounds_toArray, List.set_cons_succ, List.set_cons_zero];have hxx : ys[kk + 1]? = some x := by rw [<- HJ.out]; exact hx
      have hS3 : SyR w3 gt n xs := by
       rw [hW];have hB3 := (((((hB.set (j * 3) (.int .i64 y.sc)).set (j * 3 + 1) (.int .i64 y.na)).set (j * 3 + 2) (.int .i64 y.er)).set (kk * 3) (.int .i64 x.sc)).set (kk * 3 + 1) (.int .i64 x.na)).set (kk * 3 + 2) (.int .i64 x.er);refine ⟨_, oL ys kk x y, hB3.drew, ?_, by unfold oL; rw [List.length_set, List.length_set]; exact hl, fun s => (jp hxx hy s).trans (hm s)⟩;have := hC.swap hxx hy;rw [<- HJ.out] at this;exact this
      have hK3 : Keeps [gt] w w3 := by
       rw [hW];exact ((((((HK.out.setCell (.inl (by simp)) _).setCell (.inl (by simp)) _).setCell (.inl (by simp)) _).setCell (.inl (by simp)) _).setCell (.inl (by simp)) _).setCell (.inl (by simp)) _).drew
      clear hW HS2 HK;have HS := hid hS3;have HK := hid hK3;clear hS3 hK3 hB hC hl hm hx hy hxx x0 x1 x2 y0 y1 y2 vx vy;have hlt2 : kk < j := by have := HJ.out; omega
      go_wp2;go_roundg kk
      case rel => exact ⟨kk, rfl, by omega, rfl, HS, HK⟩
      case measure => omega
     .
      obtain rfl : bb = false := by simpa using hbt
      clear hbt hB hC hl hm hx hy x0 x1 x2 y0 y1 y2 vx vy;have HS := hid HS2.out;clear HS2;go_wp2;go_roundg (b + 1 - (i + 1))
      case rel => exact ⟨i + 1, rfl, by omega, by omega, by go_num, HS, HK⟩
      case measure => omega
    .
     have q3 := xF (a < j) hja;have q4 := xF ((a : Int) < (j : Int)) (by omega)
     go_upto_region 4 with (fail)
     refine nw gt c n j a wq q3 q4 _ _ (by simp) ⟨rfl, rfl, rfl, rfl, trivial⟩ ?_;rintro w2 hX;simp only [EndK, ae, Try.f192, ab, Option.bind_some, Nat.reduceBEq, if_true, if_false, Bool.false_eq_true, Option.getD_some, List.drop_succ_cons, List.drop_zero];simp only [Act.put, List.setIfInBounds_toArray, List.set_cons_succ, List.set_cons_zero];replace HS := hid (HS.out.ext hX);replace HK := hid (HK.out.trans (Keeps.of_ext hX [gt]));clear hX;go_wp2;go_roundg (b + 1 - (i + 1))
     case rel => exact ⟨i + 1, rfl, by omega, by omega, by go_num, HS, HK⟩
     case measure => omega
  .
   have q1 := xF (i < b) hlt;have q2 := xF ((i : Int) < (b : Int)) (by omega);go_wp2
   go_end0
   exact ⟨rfl, HS.out, HK.out⟩
theorem gX (gt n c : Nat) (xs : List Sy) (w : World) (hS : SyR w gt n xs) (hv : ∀ s ∈ xs, 0 <= s.sc /\ s.sc <= 1125899906842624) (_hn : n <= 20) :
  Calls Try.prog 155 #[.slice (some ⟨gt, 0, none⟩) n c, .int .i64 (n : Int), .func (.func 89) #[] #[]] w (fun e w' => e = .returned (.tuple #[]) /\ SyR w' gt n xs /\ Keeps [gt] w w') := by
 have HS := hid hS;have HV := hid hv;have HK := hid (Keeps.refl [gt] w);clear hS hv;go_enter Try.func155, Try.ntmps155
 go_upto_block 0 with (fail)
 go_cut [7, 8] (fun av bv W => ∃ a : Nat, a <= n /\ av = .int .i64 (a : Int) /\ Hid (SyR W gt n xs) /\ Hid (Keeps [gt] w W))
 case first =>
  go_wp2_with fail
  go_loopg [7, 8] 1 (fun fu av bv W => ∃ k : Nat, fu = 1 - k /\ k <= 1 /\ (k = 1 -> n = 20) /\ av = .int .i64 ((20 * k : Nat) : Int) /\ bv = .int .i64 ((20 + 20 * k : Nat) : Int) /\ Hid (SyR W gt n xs) /\ Hid (Keeps [gt] w W))
  case atStart => exact ⟨0, rfl, by omega, fun h => absurd h (by decide), rfl, rfl, HS, HK⟩
  case round =>
   clear HS HK;obtain ⟨k, rfl, hk, hk1, rfl, rfl, HS, HK⟩ := hrel
   rcases (show k = 0 \/ k = 1 by omega) with rfl | rfl
   .
    clear hk1
    by_cases h20 : n = 20
    .
     subst h20
     go_wp2_with fail
     refine (eG gt 20 c 0 20 xs _ HS.out HV.out (by omega) (by omega) (by omega)).mono ?_;rintro e w' ⟨rfl, hS, hK⟩;clear HS;replace HK := hid (HK.out.trans hK);have HS := hid hS;clear hK hS;go_wp2;go_roundg (1 - 1)
     case rel => exact ⟨1, rfl, by omega, by first | exact fun _ => rfl | exact fun _ => trivial, by go_num, by go_num, HS, HK⟩
     case measure => omega
    .
     have q1 := xF ((20 : Int) <= (n : Int)) (by omega);have q1b := xF (20 <= n) (by omega);clear h20;go_wp2
     go_meet
     exact ⟨0, by omega, rfl, HS, HK⟩
   .
    have h20 := hk1 rfl;subst h20;clear hk1;go_wp2
    go_meet
    exact ⟨20, by omega, rfl, HS, HK⟩
 case rest =>
  clear HS HK;obtain ⟨a, ha, rfl, HS, HK⟩ := hcut
  go_wp2_with fail
  refine (eG gt n c a n xs _ HS.out HV.out ha (by omega) (by omega)).mono ?_;rintro e w' ⟨rfl, hS, hK⟩;clear HS;replace HK := hid (HK.out.trans hK);have HS := hid hS;clear hK hS;have q2 := xF ((20 : Int) < (n : Int)) (by omega);have q2b := xF (20 < n) (by omega)
  go_wp2_with fail
  go_loopg [6] 0 (fun fu sv W => fu = 0 /\ sv = .int .i64 20 /\ Hid (SyR W gt n xs) /\ Hid (Keeps [gt] w W))
  case atStart => exact ⟨rfl, rfl, HS, HK⟩
  case round =>
   clear HS HK;obtain ⟨rfl, rfl, HS, HK⟩ := hrel;go_wp2
   go_end0
   exact ⟨rfl, HS.out, HK.out⟩
theorem ke (gt n c : Nat) (xs : List Sy) (w : World) (hS : SyR w gt n xs) (hv : ∀ s ∈ xs, 0 <= s.sc /\ s.sc <= 1125899906842624) (hn : n <= 20) :
  Calls Try.prog 88 #[.slice (some ⟨gt, 0, none⟩) n c, .func (.func 89) #[] #[]] w (fun e w' => e = .returned (.tuple #[]) /\ SyR w' gt n xs /\ Keeps [gt] w w') := by
 have HS := hid hS;have HV := hid hv;clear hS hv;go_enter Try.func88, Try.ntmps88
 go_wp2_with fail
 refine (gX gt n c xs _ HS.out HV.out hn).mono ?_;rintro e w' ⟨rfl, hS, hK⟩;have HS2 := hid hS;have HK := hid hK;clear hS hK HS;go_wp2
 go_end0
 exact ⟨rfl, HS2.out, HK.out⟩
/-- The cells of syncs, one behind another. -/
def eY : List Sy -> List Value
 | [] => []
 | s :: ss => .int .i64 s.sc :: .int .i64 s.na :: .int .i64 s.er :: eY ss
theorem ei : ∀ ys : List Sy, (eY ys).length = ys.length * 3
 | [] => rfl
 | s :: ss => by
  show (eY ss).length + 1 + 1 + 1 = (ss.length + 1) * 3;rw [ei ss]; omega
theorem fU : ∀ (ys : List Sy) (i : Nat) (s : Sy), ys[i]? = some s -> (eY ys)[i * 3]? = some (.int .i64 s.sc) /\ (eY ys)[i * 3 + 1]? = some (.int .i64 s.na) /\ (eY ys)[i * 3 + 2]? = some (.int .i64 s.er)
 | [], i, s, h => by simp at h
 | x :: xs, 0, s, h => by
  have : x = s := by simpa using h
  subst this;exact ⟨rfl, rfl, rfl⟩
 | x :: xs, i + 1, s, h => by
  have h' := fU xs i s (by simpa using h);rw [show (i + 1) * 3 = i * 3 + 1 + 1 + 1 by omega];exact h'
theorem jr : ∀ (ys : List Sy), ∀ u ∈ eY ys, u.oneCell' = true
 | [], u, h => by cases h
 | s :: ss, u, h => by
  rcases List.mem_cons.1 h with rfl | h
  .
   rfl
  rcases List.mem_cons.1 h with rfl | h
  .
   rfl
  rcases List.mem_cons.1 h with rfl | h
  .
   rfl
  exact jr ss u h
theorem SyR.of_own {w : World} {base n : Nat} {v : Value} {ys : List Sy} (h : w.ownsRow base 170 3 v n (eY ys)) (_hn : 1 <= n) :
  ∃ g c, v = .slice (some ⟨g, 0, none⟩) n c /\ base <= g /\ SyR w g n ys /\ n <= c /\ c <= 9223372036854775807 := by
 have hl : ys.length = n := by
  have := h.1;rw [ei] at this;omega
 have h0 := h
 rcases h.2 with ⟨rfl, h1⟩ | ⟨g, cap, cur, rfl, hg, hb, h2, h3, _⟩
 .
  omega
 .
  have hB : Blk w g 170 cur := hb;refine ⟨g, cap, rfl, hg, ⟨cur, ys, hB, ?_, hl, fun s => Iff.rfl⟩, h2, by unfold maxLen at h3; omega⟩;intro i s hs;obtain ⟨a0, a1, a2⟩ := fU ys i s hs
  have key : ∀ j u, (eY ys)[j]? = some u -> cur[j]? = some u := fun j u hu => by
   have := h0.cells (g := g) rfl j u hu;rw [Addr.add_lit, hB.cell, Nat.zero_add] at this;exact this
  exact ⟨key _ _ a0, key _ _ a1, key _ _ a2⟩
theorem pL : Elem Try.prog 29 170 3 24 (.agg #[.int .i64 0, .int .i64 0, .int .i64 0]) := Elem.mk' (by kernel_rfl) (by kernel_rfl) rfl (by decide)
theorem lV (w : World) (e : TypeId) (size : Nat) (base : Nat) (hb : base <= w.heap.size) : (w.alloc (.cells #[] e)).ownsRow base e size (.slice (some ⟨w.heap.size, 0, none⟩) 0 0) 0 [] :=
 ⟨by simp, .inr ⟨w.heap.size, 0, #[], rfl, hb, heap_alloc_new w _, Nat.le_refl _, by unfold maxLen; omega, by simp, by simp⟩⟩
theorem iT (g o n c : Nat) (xs : List Sy) (w : World) (hA : At w (some ⟨g, o, none⟩) (eY xs)) (hl : xs.length = n) (h1 : 1 <= n) (_hn : n <= 20) :
  Calls Try.prog 87 #[.slice (some ⟨g, o, none⟩) n c] w (fun e w' => ∃ g2 c2, e = .returned (.slice (some ⟨g2, 0, none⟩) n c2) /\ w.heap.size <= g2 /\ SyR w' g2 n xs /\ n <= c2 /\ c2 <= 9223372036854775807 /\ Ext w w') := by
 have HA := hid hA;clear hA;have HX := hid (Ext.refl w);have ho := lV w 170 3 w.heap.size (Nat.le_refl _);have HO := hid ho;clear ho;have hnil : ∀ w : World, (Go.binOp .eql 29 (.slice (some ⟨g, o, none⟩) n c) (.slice none 0 0)).run Try.prog w = .ok (.bool false) w := fun _ => by kernel_rfl
 go_enter Try.func87, Try.ntmps87
 go_wp2_with (at_builtin; refine ap _ pL rfl _ _ rfl w.heap.size (.slice (some ⟨w.heap.size, 0, none⟩) 0 0) 0 [] rfl HO.out (some ⟨g, o, none⟩) n c (eY xs) rfl (by rw [ei, hl]) (HA.out.ext ((Ext.refl w).alloc _)) (jr xs) (by omega) (by unfold maxLen; omega) (by simp) ?_; intro v8 w8 hown8 hgr8 _; have HG8 := hid hgr8; have HO8 := hid hown8; clear hgr8 hown8)
 go_ret;have hown := HO8.out
 rw [Nat.zero_add, List.nil_append] at hown;obtain ⟨g2, c2, rfl, h2, h3, h4, h5⟩ := SyR.of_own hown h1;refine ⟨g2, c2, rfl, h2, h3, h4, h5, ?_⟩;exact (HX.out.alloc _).grown HG8.out (fun k hk => (HO.out.lt k hk).1)
theorem iU (sc na er : Int) (w : World) (_h1 : 0 <= sc /\ sc <= 1125899906842624) (_h2 : 0 <= na /\ na <= 1125899906842624) (_h3 : 0 <= er /\ er <= 100000) :
  Calls Try.prog 90 #[.agg #[.int .i64 sc, .int .i64 na, .int .i64 er]] w (fun e w' => e = .returned (.agg #[.int .i64 (na - sc - er), .int .i64 (na - sc + er)]) /\ Ext w w') := by
 have v1 := IntWalk.i64_in (na - sc) (by omega);have v2 := IntWalk.i64_in (na - sc - er) (by omega);have v3 := IntWalk.i64_in (na - sc + er) (by omega);have HX := hid (((Ext.refl w).alloc (.cells #[.int .i64 sc, .int .i64 na, .int .i64 er] 170)).alloc (.cells #[.int .i64 0, .int .i64 0] 31));have HP : Hid (Blk ((w.alloc (.cells #[.int .i64 sc, .int .i64 na, .int .i64 er] 170)).alloc (.cells #[.int .i64 0, .int .i64 0] 31)) w.heap.size 170 #[.int .i64 sc, .int .i64 na, .int .i64 er]) := hid (Blk.alloc (Blk.new w _ _) _);have HZ : Hid (Blk ((w.alloc (.cells #[.int .i64 sc, .int .i64 na, .int .i64 er] 170)).alloc (.cells #[.int .i64 0, .int .i64 0] 31)) (w.heap.size + 1) 31 #[.int .i64 0, .int .i64 0]) := hid (Blk.at_ (by simp));go_enter Try.func90, Try.ntmps90
 go_upto_region 1 with (fail)
 generalize (w.alloc _).alloc _ = w1 at HX HP HZ |-;obtain ⟨p0, p1, p2⟩ := HP.out.c3;obtain ⟨z0, z1⟩ := HZ.out.c2;have f0 := HZ.out.free 0;have f1 := HZ.out.free 1;go_wp2;refine bodyPost_ret (v := .agg #[.int .i64 (na - sc - er), .int .i64 (na - sc + er)]) (by simp [results, Try.results90, go_sem, *]) rfl ?_;exact ⟨rfl, (HX.out.setCell (by simp only; omega) _).setCell (by simp only; omega) _⟩
/-- The elements of a quaternion are within a limit and not all 0. -/
def bV (L : Int) (q : Nat -> Int) : Bool := ar (-L) L [q 0, q 1, q 2, q 3] && (q 0 != 0 || q 1 != 0 || q 2 != 0 || q 3 != 0)
/-- A fix is valid. -/
def dJ (t : Int) (p : Nat -> Int) (e : Int) (q : Nat -> Int) (k : Int) : Bool := ar (-134217728) 134217728 [p 0, p 1, p 2] && ar 0 1125899906842624 [t] && ar 0 100000 [e] && bV 1000 q && ar 0 1000000 [k]
theorem lW (lo hi x : Int) (xs : List Int) : ar lo hi (x :: xs) = (decide (lo <= x) && decide (x <= hi) && ar lo hi xs) := rfl
theorem nx (lo hi : Int) : ar lo hi [] = true := rfl
theorem dr (lo hi x : Int) (xs : List Int) : ar lo hi (x :: xs) = (ar lo hi [x] && ar lo hi xs) := by
 rw [lW, fT]
theorem ag {lo hi x : Int} : ar lo hi [x] = true ↔ lo <= x /\ x <= hi := by rw [fT, Bool.and_eq_true, decide_eq_true_eq, decide_eq_true_eq]
theorem au {lo hi : Int} {xs : List Int} : ar lo hi xs = true ↔ ∀ x ∈ xs, lo <= x /\ x <= hi := by
 unfold ar;rw [List.all_eq_true];constructor
 .
  intro h x hx;have := h x hx
  rwa [Bool.and_eq_true, decide_eq_true_eq, decide_eq_true_eq] at this
 .
  intro h x hx;rw [Bool.and_eq_true, decide_eq_true_eq, decide_eq_true_eq];exact h x hx
/-- What turns finds out from the k-th element on. -/
def lX (L : Int) (b : Bool) (q : Nat -> Int) : Nat -> Bool
 | 0 => ar (-L) L [q 0] && ar (-L) L [q 1] && ar (-L) L [q 2] && ar (-L) L [q 3] && (b || q 0 != 0 || q 1 != 0 || q 2 != 0 || q 3 != 0)
 | 1 => ar (-L) L [q 1] && ar (-L) L [q 2] && ar (-L) L [q 3] && (b || q 1 != 0 || q 2 != 0 || q 3 != 0)
 | 2 => ar (-L) L [q 2] && ar (-L) L [q 3] && (b || q 2 != 0 || q 3 != 0)
 | 3 => ar (-L) L [q 3] && (b || q 3 != 0)
 | _ => b
theorem kg (L : Int) (q : Nat -> Int) : bV L q = lX L false q 0 := by
 unfold bV lX;rw [dr _ _ _ [q 1, q 2, q 3], dr _ _ _ [q 2, q 3], dr _ _ _ [q 3]]
 cases ar (-L) L [q 0] <;> cases ar (-L) L [q 1] <;> cases ar (-L) L [q 2] <;> cases ar (-L) L [q 3] <;> rfl
theorem lY (L : Int) (b : Bool) (q : Nat -> Int) {k : Nat} (hk : k < 4) : lX L b q k = (ar (-L) L [q k] && lX L (b || q k != 0) q (k + 1)) := by
 match k, hk with
 | 0, _ => unfold lX; cases ar (-L) L [q 0] <;> cases ar (-L) L [q 1] <;> cases ar (-L) L [q 2] <;> cases ar (-L) L [q 3] <;> rfl
 | 1, _ => unfold lX; cases ar (-L) L [q 1] <;> cases ar (-L) L [q 2] <;> cases ar (-L) L [q 3] <;> rfl
 | 2, _ => unfold lX; cases ar (-L) L [q 2] <;> cases ar (-L) L [q 3] <;> rfl
 | 3, _ => rfl
theorem pM (q : Nat -> Int) {k : Nat} (hk : k < 4) (w : World) : (Instr.index 23 (.agg #[.int .i64 (q 0), .int .i64 (q 1), .int .i64 (q 2), .int .i64 (q 3)]) (.int .i64 (k : Int))).run Try.prog w = .ok (.int .i64 (q k)) w := by
 have i0 : ∀ w : World, (Instr.index 23 (.agg #[.int .i64 (q 0), .int .i64 (q 1), .int .i64 (q 2), .int .i64 (q 3)]) (.int .i64 0)).run Try.prog w = .ok (.int .i64 (q 0)) w := fun _ => by kernel_rfl
 have i1 : ∀ w : World, (Instr.index 23 (.agg #[.int .i64 (q 0), .int .i64 (q 1), .int .i64 (q 2), .int .i64 (q 3)]) (.int .i64 1)).run Try.prog w = .ok (.int .i64 (q 1)) w := fun _ => by kernel_rfl
 have i2 : ∀ w : World, (Instr.index 23 (.agg #[.int .i64 (q 0), .int .i64 (q 1), .int .i64 (q 2), .int .i64 (q 3)]) (.int .i64 2)).run Try.prog w = .ok (.int .i64 (q 2)) w := fun _ => by kernel_rfl
 have i3 : ∀ w : World, (Instr.index 23 (.agg #[.int .i64 (q 0), .int .i64 (q 1), .int .i64 (q 2), .int .i64 (q 3)]) (.int .i64 3)).run Try.prog w = .ok (.int .i64 (q 3)) w := fun _ => by kernel_rfl
 match k, hk with
 | 0, _ => exact i0 w
 | 1, _ => exact i1 w
 | 2, _ => exact i2 w
 | 3, _ => exact i3 w
theorem js (q : Nat -> Int) {k : Nat} (hk : k < 3) (w : World) : (Instr.index 22 (.agg #[.int .i64 (q 0), .int .i64 (q 1), .int .i64 (q 2)]) (.int .i64 (k : Int))).run Try.prog w = .ok (.int .i64 (q k)) w := by
 have i0 : ∀ w : World, (Instr.index 22 (.agg #[.int .i64 (q 0), .int .i64 (q 1), .int .i64 (q 2)]) (.int .i64 0)).run Try.prog w = .ok (.int .i64 (q 0)) w := fun _ => by kernel_rfl
 have i1 : ∀ w : World, (Instr.index 22 (.agg #[.int .i64 (q 0), .int .i64 (q 1), .int .i64 (q 2)]) (.int .i64 1)).run Try.prog w = .ok (.int .i64 (q 1)) w := fun _ => by kernel_rfl
 have i2 : ∀ w : World, (Instr.index 22 (.agg #[.int .i64 (q 0), .int .i64 (q 1), .int .i64 (q 2)]) (.int .i64 2)).run Try.prog w = .ok (.int .i64 (q 2)) w := fun _ => by kernel_rfl
 match k, hk with
 | 0, _ => exact i0 w
 | 1, _ => exact i1 w
 | 2, _ => exact i2 w
theorem bM (L : Int) (q : Nat -> Int) (w : World) (_hL : 0 <= L /\ L <= 4000000) :
  Calls Try.prog 108 #[.agg #[.int .i64 (q 0), .int .i64 (q 1), .int .i64 (q 2), .int .i64 (q 3)], .int .i64 L] w (fun e w' => e = .returned (.bool (bV L q)) /\ Ext w w') := by
 have wL := IntWalk.i64_in (-L) (by omega);have HX := hid ((Ext.refl w).alloc (.cells #[.int .i64 (q 0), .int .i64 (q 1), .int .i64 (q 2), .int .i64 (q 3)] 23));have HP := hid (Blk.new w 23 #[.int .i64 (q 0), .int .i64 (q 1), .int .i64 (q 2), .int .i64 (q 3)]);go_enter Try.func108, Try.ntmps108
 go_upto_region 2 with (fail)
 generalize w.alloc _ = w1 at HX HP |-;obtain ⟨p0, p1, p2, p3⟩ := HP.out.c4;clear HP
 go_wp2_with fail
 clear p0 p1 p2 p3
 go_loopg [9, 5] 4 (fun fu iv sv wr => ∃ (k : Nat) (b : Bool), fu = 4 - k /\ k <= 4 /\ iv = .int .i64 (k : Int) /\ sv = .bool b /\ Hid (bV L q = lX L b q k) /\ Hid (Ext w wr))
 case atStart => exact ⟨0, false, rfl, by omega, rfl, rfl, hid (kg L q), HX⟩
 case round =>
  clear HX;obtain ⟨k, b, rfl, hk, rfl, rfl, HT, HX⟩ := hrel
  by_cases hlt : k < 4
  .
   have q1 := xD (k < 4) hlt;have q1b := xD ((k : Int) < (4 : Int)) (by omega);have ix := pM q hlt;have HS : Hid (bV L q = (ar (-L) L [q k] && lX L (b || q k != 0) q (k + 1))) := hid (HT.out.trans (lY L b q hlt));obtain ⟨c, hc⟩ : ∃ c, ar (-L) L [q k] = c := ⟨_, rfl⟩;have HC := hid hc;clear hc;obtain ⟨x, hx⟩ : ∃ x, q k = x := ⟨_, rfl⟩;rw [hx] at HC HS ix;clear hx
   go_wp2_with fail
   refine (aq (-L) x L _).mono ?_;rw [HC.out];rintro e w3 ⟨rfl, hX⟩;replace HX := xT HX hX;clear hX
   by_cases hcb : c = true
   .
    subst hcb
    by_cases hbb : b = true
    .
     subst hbb;have HR : Hid (bV L q = lX L true q (k + 1)) := hid (by rw [HS.out, HC.out]; rfl);go_wp2;go_roundg (4 - (k + 1))
     case rel => exact ⟨k + 1, true, rfl, by omega, by go_num, rfl, HR, HX⟩
     case measure => omega
    .
     obtain rfl : b = false := by simpa using hbb
     clear hbb;obtain ⟨nz, hnz⟩ : ∃ nz, (x != 0) = nz := ⟨_, rfl⟩;have HR : Hid (bV L q = lX L nz q (k + 1)) := hid (by rw [HS.out, HC.out, hnz]; rfl);have HN := hid hnz;clear hnz;go_wp2;go_roundg (4 - (k + 1))
     case rel => exact ⟨k + 1, nz, rfl, by omega, by go_num, by rw [<- HN.out], HR, HX⟩
     case measure => omega
   .
    obtain rfl : c = false := by simpa using hcb
    clear hcb;have HR : Hid (bV L q = false) := hid (by rw [HS.out, HC.out]; rfl);go_wp2;go_ret;exact ⟨by rw [HR.out]; rfl, HX.out⟩
  .
   obtain rfl : k = 4 := by omega
   have h4 : decide ((4 : Int) < (4 : Int)) = false := by decide
   go_wp2;go_ret
   exact ⟨by rw [HT.out]; rfl, HX.out⟩
theorem jt (d : Nat) (x y z s a b c e : Int) (w : World) : (Op.equalIn (d + 2) 23 (.agg #[.int .i64 x, .int .i64 y, .int .i64 z, .int .i64 s]) (.agg #[.int .i64 a, .int .i64 b, .int .i64 c, .int .i64 e])).run Try.prog w = .ok (decide (x = a /\ y = b /\ z = c /\ s = e)) w := by
 have hu : Try.prog.underlying 23 = some (.array 4 3) := by kernel_rfl
 have hi : Try.prog.underlying 3 = some (.int .i64) := by kernel_rfl
 have hn : (sizeOf 3).run Try.prog w = .ok 1 w := by kernel_rfl
 have hp : ∀ (p q r t : Int) (i : Nat) (v : Value), (#[.int .i64 p, .int .i64 q, .int .i64 r, .int .i64 t] : Array Value)[i]? = some v -> (Go.part 3 #[.int .i64 p, .int .i64 q, .int .i64 r, .int .i64 t] i).run Try.prog w = .ok v w := fun p q r t i v h => run_part_plain (P := Try.prog) w (by kernel_rfl) h
 have p0 := fun p q r t => hp p q r t 0 (.int .i64 p) rfl
 have p1 := fun p q r t => hp p q r t 1 (.int .i64 q) rfl
 have p2 := fun p q r t => hp p q r t 2 (.int .i64 r) rfl
 have p3 := fun p q r t => hp p q r t 3 (.int .i64 t) rfl
 have he : ∀ (p q : Int), (Op.equalIn (d + 1) 3 (.int .i64 p) (.int .i64 q)).run Try.prog w = .ok (p == q) w := fun p q => run_equalIn_int (P := Try.prog) w d 3 .i64 .i64 p q hi
 rw [Op.equalIn];simp only [Sem.run_bind, run_underlying hu, Result.andThen_ok, hn];simp only [Std.Legacy.Range.forIn_eq_forIn_range', Std.Legacy.Range.size, List.range', List.forIn_cons, List.forIn_nil];simp [Sem.run_bind, Result.andThen_ok, p0, p1, p2, p3, he]
 by_cases h1 : x = a
 .
  by_cases h2 : y = b
  .
   by_cases h3 : z = c
   .
    by_cases h4 : s = e
    .
     simp [h1, h2, h3, h4]
    .
     simp [h1, h2, h3, h4]
   .
    simp [h1, h2, h3]
  .
   simp [h1, h2]
 .
  simp [h1]
theorem fD {w : World} {g : Nat} {T : TypeId} {q : Nat -> Int} (h : Blk w g T #[.int .i64 (q 0), .int .i64 (q 1), .int .i64 (q 2), .int .i64 (q 3)]) (hq : ∀ k, k < 4 -> -9223372036854775808 <= q k /\ q k <= 9223372036854775807) : Ints .i64 w (some ⟨g, 0, none⟩) 4 [q 0, q 1, q 2, q 3] := by
 refine ⟨rfl, ?_, fun _ => ⟨g, 0, rfl, fun j v hv => ?_⟩⟩
 .
  intro x hx;simp only [List.mem_cons, List.not_mem_nil, or_false] at hx
  rcases hx with rfl | rfl | rfl | rfl
  .
   exact j8 (hq 0 (by omega))
  .
   exact j8 (hq 1 (by omega))
  .
   exact j8 (hq 2 (by omega))
  .
   exact j8 (hq 3 (by omega))
 .
  rw [h.cell, Nat.zero_add]
  simpa using hv
theorem cn (q : Nat -> Int) (w : World) (hq : ∀ k, k < 4 -> -9223372036854775808 <= q k /\ q k <= 9223372036854775807) :
  Calls Try.prog 165 #[.agg #[.int .i64 (q 0), .int .i64 (q 1), .int .i64 (q 2), .int .i64 (q 3)]] w (fun e w' => e = .returned (.bool (bV 1000 q)) /\ Ext w w') := by
 have HX := hid ((Ext.refl w).alloc (.cells #[.int .i64 (q 0), .int .i64 (q 1), .int .i64 (q 2), .int .i64 (q 3)] 23));have HP := hid (Blk.new w 23 #[.int .i64 (q 0), .int .i64 (q 1), .int .i64 (q 2), .int .i64 (q 3)]);have HQ := hid hq;clear hq;go_enter Try.func165, Try.ntmps165
 go_upto_region 1 with (fail)
 generalize w.alloc _ = w1 at HX HP |-;obtain ⟨p0, p1, p2, p3⟩ := HP.out.c4;have HP4 := hid (fD HP.out HQ.out);clear HP;obtain ⟨z, hz⟩ : ∃ z, (!decide (q 0 = 0 /\ q 1 = 0 /\ q 2 = 0 /\ q 3 = 0)) = z := ⟨_, rfl⟩
 have HZ : Hid (bV 1000 q = (z && ar (-1000) 1000 [q 0, q 1, q 2, q 3])) := hid (by
  rw [<- hz];unfold bV;rw [Bool.and_comm]
  congr 1
  by_cases h0 : q 0 = 0 <;> by_cases h1 : q 1 = 0 <;> by_cases h2 : q 2 = 0 <;> by_cases h3 : q 3 = 0 <;> simp [h0, h1, h2, h3])
 have g6 : ∀ w, (Op.equalIn 10000 23 (.agg #[.int .i64 (q 0), .int .i64 (q 1), .int .i64 (q 2), .int .i64 (q 3)]) (.agg #[.int .i64 0, .int .i64 0, .int .i64 0, .int .i64 0])).run Try.prog w = .ok (!z) w := fun w => by rw [jt 9998, <- hz]; simp
 clear hz
 by_cases hzb : z = true
 .
  subst hzb
  go_wp2_with fail
  refine (af (-1000) 1000 _ 4 4 [q 0, q 1, q 2, q 3] _ (HP4.out) (by omega)).mono ?_;obtain ⟨c, hc⟩ : ∃ c, ar (-1000) 1000 [q 0, q 1, q 2, q 3] = c := ⟨_, rfl⟩;rw [hc] at HZ |-;rintro e w3 ⟨rfl, hX⟩;replace HX := xT HX hX;clear hX hc g6 p0 p1 p2 p3;go_wp2;go_ret;exact ⟨by rw [HZ.out]; rfl, HX.out⟩
 .
  obtain rfl : z = false := by simpa using hzb
  clear hzb;go_wp2;go_ret;exact ⟨by rw [HZ.out]; rfl, HX.out⟩
def Sy.lo (s : Sy) : Int := s.na - s.sc - s.er
def Sy.hi (s : Sy) : Int := s.na - s.sc + s.er
/-- A sync is valid and holds an offset. -/
structure Sy.Ok (off : Int) (s : Sy) : Prop where
 sc : 0 <= s.sc /\ s.sc <= 1125899906842624
 na : 0 <= s.na /\ s.na <= 1125899906842624
 er : 0 <= s.er /\ s.er <= 100000
 lo : s.na - s.sc - s.er <= off
 hi : off <= s.na - s.sc + s.er
theorem Sy.Ok.valid {off : Int} {s : Sy} (h : s.Ok off) : j9 s.sc s.na s.er = true := by
 unfold j9;rw [Bool.and_eq_true, au, au];have := h.sc;have := h.na;have := h.er;simp;omega
/-- The offsets that all syncs hold. -/
structure Win (xs : List Sy) (lo hi : Int) : Prop where
 la : ∀ s ∈ xs, s.lo <= lo
 lb : ∃ s ∈ xs, s.lo = lo
 ha : ∀ s ∈ xs, hi <= s.hi
 hb : ∃ s ∈ xs, s.hi = hi
theorem Win.one (s : Sy) : Win [s] s.lo s.hi := ⟨by simp, ⟨s, by simp, rfl⟩, by simp, ⟨s, by simp, rfl⟩⟩
theorem Win.step {xs : List Sy} {lo hi : Int} (h : Win xs lo hi) (s : Sy) : Win (xs ++ [s]) (max lo s.lo) (min hi s.hi) := by
 refine ⟨?_, ?_, ?_, ?_⟩
 .
  intro t ht
  rcases List.mem_append.1 ht with ht | ht
  .
   have := h.la t ht; omega
  .
   have : t = s := by simpa using ht
   subst this; omega
 .
  rcases Int.le_total s.lo lo with hl | hl
  .
   obtain ⟨t, ht, e⟩ := h.lb;exact ⟨t, List.mem_append.2 (.inl ht), by omega⟩
  .
   exact ⟨s, by simp, by omega⟩
 .
  intro t ht
  rcases List.mem_append.1 ht with ht | ht
  .
   have := h.ha t ht; omega
  .
   have : t = s := by simpa using ht
   subst this; omega
 .
  rcases Int.le_total hi s.hi with hl | hl
  .
   obtain ⟨t, ht, e⟩ := h.hb;exact ⟨t, List.mem_append.2 (.inl ht), by omega⟩
  .
   exact ⟨s, by simp, by omega⟩
theorem Win.bounds {xs : List Sy} {lo hi off : Int} (h : Win xs lo hi) (hv : ∀ s ∈ xs, s.Ok off) : lo <= off /\ off <= hi /\ -1125899907000000 <= lo /\ hi <= 1125899907000000 := by
 obtain ⟨s, hs, e⟩ := h.lb;obtain ⟨t, ht, f⟩ := h.hb;have a := hv s hs;have b := hv t ht;obtain ⟨a1, a2, a3, a4, a5⟩ := a;obtain ⟨b1, b2, b3, b4, b5⟩ := b;unfold Sy.lo at e;unfold Sy.hi at f;omega
theorem Win.same {xs ys : List Sy} {lo hi lo' hi' : Int} (h : Win xs lo hi) (k : Win ys lo' hi') (hm : ∀ s, s ∈ ys ↔ s ∈ xs) : lo = lo' /\ hi = hi' := by
 obtain ⟨s, hs, e⟩ := h.lb;obtain ⟨t, ht, f⟩ := h.hb;obtain ⟨s', hs', e'⟩ := k.lb;obtain ⟨t', ht', f'⟩ := k.hb;have a := k.la s ((hm s).2 hs);have b := k.ha t ((hm t).2 ht);have c := h.la s' ((hm s').1 hs');have d := h.ha t' ((hm t').1 ht');omega
theorem Win.mem {xs ys : List Sy} {lo hi : Int} (k : Win ys lo hi) (hm : ∀ s, s ∈ ys ↔ s ∈ xs) : Win xs lo hi := by
 obtain ⟨s, hs, e⟩ := k.lb;obtain ⟨t, ht, f⟩ := k.hb;exact ⟨fun s hs => k.la s ((hm s).2 hs), ⟨s, (hm s).1 hs, e⟩, fun s hs => k.ha s ((hm s).2 hs), ⟨t, (hm t).1 ht, f⟩⟩
/-- A clock in a block. -/
def Clk (w : World) (g : Nat) (fr lo hi : Int) : Prop := ∃ cur, Blk w g 177 cur /\ cur[0]? = some (.int .i64 fr) /\ cur[1]? = some (.int .i64 lo) /\ cur[2]? = some (.int .i64 hi)
theorem Clk.ext {w w' : World} {g : Nat} {fr lo hi : Int} (h : Clk w g fr lo hi) (he : Ext w w') : Clk w' g fr lo hi := by
 obtain ⟨cur, h1, h2⟩ := h;exact ⟨cur, h1.ext he, h2⟩
theorem Clk.cells {w : World} {g : Nat} {fr lo hi : Int} (h : Clk w g fr lo hi) : w.cell? ⟨g, 0, none⟩ = some (.int .i64 fr) /\ w.cell? ⟨g, 1, none⟩ = some (.int .i64 lo) /\ w.cell? ⟨g, 2, none⟩ = some (.int .i64 hi) /\ w.frozen? ⟨g, 1, none⟩ = false /\ w.frozen? ⟨g, 2, none⟩ = false := by
 obtain ⟨cur, h1, h2, h3, h4⟩ := h;exact ⟨(h1.cell 0).trans h2, (h1.cell 1).trans h3, (h1.cell 2).trans h4, h1.free 1, h1.free 2⟩
theorem Clk.put {w : World} {g : Nat} {fr lo hi : Int} (h : Clk w g fr lo hi) (x y : Int) : Clk ((w.setCell ⟨g, 1, none⟩ (.int .i64 x)).setCell ⟨g, 2, none⟩ (.int .i64 y)) g fr x y := by
 obtain ⟨cur, h1, h2, h3, h4⟩ := h;refine ⟨_, (h1.set 1 (.int .i64 x)).set 2 (.int .i64 y), ?_, ?_, ?_⟩
 .
  rw [Array.getElem?_setIfInBounds_ne (by omega), Array.getElem?_setIfInBounds_ne (by omega)]; exact h2
 .
  rw [Array.getElem?_setIfInBounds_ne (by omega)]; exact bF h3
 .
  exact bF ((Array.getElem?_setIfInBounds_ne (by omega)).trans h4)
theorem Clk.of_own {w : World} {base : Nat} {v : Value} {fr lo hi : Int} (h : w.ownsRow base 177 3 v 1 [.int .i64 fr, .int .i64 lo, .int .i64 hi]) :
  ∃ g c, v = .slice (some ⟨g, 0, none⟩) 1 c /\ base <= g /\ Clk w g fr lo hi /\ 1 <= c /\ c <= 9223372036854775807 := by
 have h0 := h
 rcases h.2 with ⟨rfl, h1⟩ | ⟨g, cap, cur, rfl, hg, hb, h2, h3, _⟩
 .
  omega
 .
  have hB : Blk w g 177 cur := hb
  have key : ∀ j u, ([.int .i64 fr, .int .i64 lo, .int .i64 hi] : List Value)[j]? = some u -> cur[j]? = some u := fun j u hu => by
   have := h0.cells (g := g) rfl j u hu;rw [Addr.add_lit, hB.cell, Nat.zero_add] at this;exact this
  exact ⟨g, cap, rfl, hg, ⟨cur, hB, key 0 _ rfl, key 1 _ rfl, key 2 _ rfl⟩, h2, by unfold maxLen at h3; omega⟩
theorem pN : Elem Try.prog 41 177 3 24 (.agg #[.int .i64 0, .int .i64 0, .int .i64 0]) := Elem.mk' (by kernel_rfl) (by kernel_rfl) rfl (by decide)
theorem At.sy {w : World} {g o k : Nat} {xs : List Sy} {s : Sy} (h : At w (some ⟨g, o, none⟩) (eY xs)) (hs : xs[k]? = some s) :
  w.cell? ⟨g, o + k * 3, none⟩ = some (.int .i64 s.sc) /\ w.cell? ⟨g, o + k * 3 + 1, none⟩ = some (.int .i64 s.na) /\ w.cell? ⟨g, o + k * 3 + 2, none⟩ = some (.int .i64 s.er) := by
 obtain ⟨s0, s1, s2⟩ := fU xs k s hs;have x0 := h.add _ rfl _ _ s0;have x1 := h.add _ rfl _ _ s1;have x2 := h.add _ rfl _ _ s2;simp only [Addr.add_lit] at x0 x1 x2;exact ⟨x0, x1, x2⟩
/-- What Clocks returns. -/
def lZ (xs : List Sy) (w : World) (e : Ending) (w' : World) : Prop := ∃ g c fr lo hi, e = .returned (.tuple #[.slice (some ⟨g, 0, none⟩) 1 c, .int .i64 0]) /\ Clk w' g fr lo hi /\ 0 <= fr /\ Win xs lo hi /\ 1 <= c /\ c <= 9223372036854775807 /\ Ext w w'
/-- The clocks so far. -/
def CkSt (ys : List Sy) (wl : World) (k : Nat) (v : Value) (w : World) : Prop := (k = 0 -> v = .slice none 0 0) /\ (k ≠ 0 -> ∃ g c fr lo hi, v = .slice (some ⟨g, 0, none⟩) 1 c /\ wl.heap.size <= g /\ Clk w g fr lo hi /\ 0 <= fr /\ Win (ys.take k) lo hi /\ 1 <= c /\ c <= 9223372036854775807)
theorem CkSt.ext {ys : List Sy} {wl w w' : World} {k : Nat} {v : Value} (h : CkSt ys wl k v w) (he : Ext w w') : CkSt ys wl k v w' := by
 refine ⟨h.1, fun hk => ?_⟩;obtain ⟨g, c, fr, lo, hi, h1, h2, h3, h4⟩ := h.2 hk;exact ⟨g, c, fr, lo, hi, h1, h2, h3.ext he, h4⟩
theorem cf {ys : List Sy} {k : Nat} {s : Sy} (h : ys[k]? = some s) : ys.take (k + 1) = ys.take k ++ [s] := by
 rw [List.take_add_one, h]; rfl
theorem ny (go gs : Nat) (ol oh sl sh mx mn : Int) (w : World) (hmx : (if ol < sl then sl else ol) = mx) (hmn : (if sh < oh then sh else oh) = mn) (o0 : w.cell? ⟨go, 0, none⟩ = some (.int .i64 ol)) (o1 : w.cell? ⟨go, 1, none⟩ = some (.int .i64 oh)) (s0 : w.cell? ⟨gs, 0, none⟩ = some (.int .i64 sl)) (s1 : w.cell? ⟨gs, 1, none⟩ = some (.int .i64 sh)) : aS Try.prog Try.f21 17 12 57 w [47, 48, 49, 50, 51, 52, 53, 54, 55, 56, 13, 14] [.c (.pointer (some ⟨go, 0, none⟩)), .c (.int .i64 (ol)), .c (.pointer (some ⟨gs, 0, none⟩)), .c (.int .i64 (sl)), .c (.int .i64 (mx)), .c (.pointer (some ⟨go, 1, none⟩)), .c (.int .i64 (oh)), .c (.pointer (some ⟨gs, 1, none⟩)), .c (.int .i64 (sh)), .c (.int .i64 (mn)), .c (.int .i64 (mx)), .c (.int .i64 (mn))] [(10, .pointer (some ⟨gs, 0, none⟩)), (12, .pointer (some ⟨go, 0, none⟩))] := by
 refine aT [[], [0], [], [2], [1, 3], [], [5], [], [7], [6, 8], [4], [9]] (by kernel_rfl) (by kernel_rfl) rfl trivial ?_;simp only [ae, Try.f21, ab, Option.bind_some, Nat.reduceBEq, if_true, if_false, Bool.false_eq_true, Option.getD_some];simp only [List.take_succ_cons, List.take_zero]
 repeat' first | refine ⟨?_, ?_⟩ | fail
 all_goals first | (intro us W b hJ K hK0 hK Qz; simp only [aO, ay, aB, List.getD_cons_succ, List.getD_cons_zero]) | exact True.intro
 all_goals try (intros; have q0 := Ext.cell hJ o0; have q1 := Ext.cell hJ s0; have q2 := Ext.cell hJ o1; have q3 := Ext.cell hJ s1; go_simp; exact hK0 _ rfl)
 all_goals try (intros; go_simp; exact hK0 _ (congrArg (Value.int .i64) (by rw [<- hmx]; split <;> omega)))
 all_goals try (intros; go_simp; exact hK0 _ (congrArg (Value.int .i64) (by rw [<- hmn]; split <;> omega)))
theorem gY (g o n c : Nat) (off : Int) (xs : List Sy) (w : World) (hA : At w (some ⟨g, o, none⟩) (eY xs)) (hl : xs.length = n) (h1 : 1 <= n) (hn : n <= 20) (hv : ∀ s ∈ xs, s.Ok off) :
  Calls Try.prog 21 #[.slice (some ⟨g, o, none⟩) n c] w (lZ xs w) := by
 have HA := hid hA;have HV := hid hv;have HL := hid hl;have HX := hid (Ext.refl w);clear hA hv hl;go_enter Try.func21, Try.ntmps21
 go_wp2_with fail
 go_loopg [17] n (fun fu iv wr => ∃ k : Nat, fu = n - k /\ k <= n /\ iv = .int .i64 (k : Int) /\ Hid (Ext w wr))
 case atStart => exact ⟨0, rfl, by omega, rfl, HX⟩
 case round =>
  clear HX;obtain ⟨k, rfl, hk, rfl, HX⟩ := hrel
  by_cases hlt : k < n
  .
   have q1 := xD (k < n) hlt;have q1b := xD ((k : Int) < (n : Int)) (by omega);obtain ⟨s, hs⟩ : ∃ s, xs[k]? = some s := ⟨_, List.getElem?_eq_getElem (by rw [HL.out]; exact hlt)⟩;have HO := hid (HV.out s (List.mem_of_getElem? hs));obtain ⟨x0, x1, x2⟩ := (HA.out.ext HX.out).sy hs;clear hs
   go_upto_region 4 with (fail)
   obtain ⟨hXa, hB⟩ := xA1 wr 170 #[.int .i64 s.sc, .int .i64 s.na, .int .i64 s.er];replace HX := xT HX hXa;clear hXa x0 x1 x2;generalize wr.heap.size = gm at hB |-;generalize wr.alloc _ = w2 at hB HX |-;obtain ⟨b0, b1, b2⟩ := hB.c3;clear hB
   go_wp2_with fail
   refine (kd s.sc s.na s.er _ (by have := HO.out.sc; omega) (by have := HO.out.na; omega) (by have := HO.out.er; omega)).mono ?_;rw [HO.out.valid];rintro e w3 ⟨rfl, hX⟩;replace HX := xT HX hX;clear hX b0 b1 b2;go_wp2;go_roundg (n - (k + 1))
   case rel => exact ⟨k + 1, rfl, by omega, by go_num, HX⟩
   case measure => omega
  .
   obtain rfl : k = n := by omega
   have q1 : decide (k < k) = false := by simp
   have q1b : decide ((k : Int) < (k : Int)) = false := by simp
   go_wp2_with fail
   refine (iT g o k c xs _ (HA.out.ext HX.out) HL.out h1 hn).mono ?_;rintro e w3 ⟨g2, c2, rfl, hg2, hS, hc1, hc2, hX⟩;have HS := hid hS;have hg3 : w.heap.size <= g2 := Nat.le_trans HX.out.size hg2;replace HX := xT HX hX;clear hX hS hg2
   go_wp2_with fail
   refine (ke g2 k c2 xs _ HS.out (fun s hs => (HV.out s hs).sc) hn).mono ?_;rintro e wl ⟨rfl, hS, hK⟩;obtain ⟨cur, ys, hB, hC, hyl, hm⟩ := hS
   replace HX := hid (hK.ext HX.out (fun j hj => by have : j = g2 := (by simpa using hj); omega))
   have HB := hid hB;have HC := hid hC;have HYL := hid hyl;have HM := hid hm;clear hK hB hC hyl hm HS hc1 hc2
   go_wp2_with fail
   clear q1 q1b hlt hk
   go_loopg [31, 7] k (fun fu iv ov wr => ∃ j : Nat, fu = k - j /\ j <= k /\ iv = .int .i64 (j : Int) /\ Hid (CkSt ys wl j ov wr) /\ Hid (Ext wl wr))
   case atStart => exact ⟨0, rfl, by omega, rfl, hid ⟨fun _ => rfl, fun h => absurd rfl h⟩, hid (Ext.refl _)⟩
   case round =>
    obtain ⟨j, rfl, hj, rfl, HQ, HXL⟩ := hrel
    by_cases hlt : j < k
    .
     have q1 := xD (j < k) hlt;have q1b := xD ((j : Int) < (k : Int)) (by omega);obtain ⟨s, hs⟩ : ∃ s, ys[j]? = some s := ⟨_, List.getElem?_eq_getElem (by rw [HYL.out]; exact hlt)⟩;have HO := hid (HV.out s ((HM.out s).1 (List.mem_of_getElem? hs)));have HT := hid (cf hs);obtain ⟨s0, s1, s2⟩ := HC.out j s hs;have hbb := HB.out.ext HXL.out;have x0 := (hbb.cell _).trans s0;have x1 := (hbb.cell _).trans s1;have x2 := (hbb.cell _).trans s2;clear s0 s1 s2 hbb hs
     go_upto_region 13 with (fail)
     obtain ⟨hXa, KS⟩ := xB1 wr 170 #[.int .i64 s.sc, .int .i64 s.na, .int .i64 s.er];replace HXL := xT HXL hXa;replace HQ := hid (HQ.out.ext hXa);clear hXa x0 x1 x2;generalize wr.heap.size = gm at KS |-;generalize wr.alloc _ = w2 at KS HXL HQ |-;obtain ⟨b0, b1, b2⟩ := KS.out.c3
     go_wp2_with fail
     refine (iU s.sc s.na s.er _ HO.out.sc HO.out.na HO.out.er).mono ?_;rintro e w3 ⟨rfl, hX⟩;replace HXL := xT HXL hX;replace HQ := hid (HQ.out.ext hX);replace KS := xE KS hX;clear hX b0 b1 b2;obtain ⟨sl, hsl⟩ : ∃ x, s.na - s.sc - s.er = x := ⟨_, rfl⟩;obtain ⟨sh, hsh⟩ : ∃ x, s.na - s.sc + s.er = x := ⟨_, rfl⟩;rw [hsl, hsh];have HSL : Hid (s.lo = sl) := hid hsl;have HSH : Hid (s.hi = sh) := hid hsh;have hb1 : sl <= off := by rw [<- hsl]; exact HO.out.lo
     have hb2 : off <= sh := by rw [<- hsh]; exact HO.out.hi
     have hfr := HO.out.sc;clear hsl hsh
     go_upto_region 14 with (fail)
     obtain ⟨hXa, KP⟩ := xB1 w3 31 #[.int .i64 sl, .int .i64 sh];replace HXL := xT HXL hXa;replace HQ := hid (HQ.out.ext hXa);replace KS := xE KS hXa;clear hXa;generalize w3.heap.size = gs at KP |-;generalize w3.alloc _ = w4 at KP HXL HQ KS |-;skip;obtain ⟨p0, p1⟩ := KP.out.c2;have b0 := KS.out.c1
     by_cases hj0 : j = 0
     .
      obtain rfl := HQ.out.1 hj0;have HJ := hid hj0;clear hj0
      go_wp2_with (at_builtin; refine ap _ pN rfl _ _ rfl wl.heap.size (.slice none 0 0) 0 [] rfl ⟨rfl, .inl ⟨rfl, rfl⟩⟩ _ 1 1 [.int .i64 s.sc, .int .i64 sl, .int .i64 sh] rfl rfl (At.newT _ _ _ rfl) (by simp [Value.oneCell']) (by omega) (by unfold maxLen; omega) (by have := HXL.out.size; simp; omega) ?_; intro v8 w8 hown8 hgr8 _; have HG8 := hid hgr8; have HO8 := hid hown8; clear hgr8 hown8)
      obtain ⟨gq, cq, rfl, hgq, hck, hc1, hc2⟩ := Clk.of_own HO8.out;have hX2 : Ext wl w8 := (HXL.out.alloc _).grown HG8.out (fun k hk => by simp [Value.ownBlock] at hk);clear HXL HG8 HO8 HQ KS KP p0 p1 b0;have HXL := hid hX2
      have hwin : Win (ys.take (j + 1)) sl sh := by
       rw [HT.out, HJ.out, List.take_zero, List.nil_append, <- HSL.out, <- HSH.out];exact Win.one s
      have HQ : Hid (CkSt ys wl (j + 1) (.slice (some ⟨gq, 0, none⟩) 1 cq) w8) := hid ⟨fun h => absurd h (by omega), fun _ => ⟨gq, cq, s.sc, sl, sh, rfl, hgq, hck, hfr.1, hwin, hc1, hc2⟩⟩;clear hX2 hck hwin;go_wp2;go_roundg (k - (j + 1))
      case rel => exact ⟨j + 1, rfl, by omega, by go_num, HQ, HXL⟩
      case measure => omega
     .
      obtain ⟨gq, cq, fr, lo, hi, rfl, hgq, hck, hf0, hwin, hc1, hc2⟩ := HQ.out.2 hj0;clear HQ;have HCK := hid hck;have HW := hid hwin;have hwb := hwin.bounds (off := off) (fun s hs => HV.out s ((HM.out s).1 (List.mem_of_mem_take hs)));obtain ⟨c0, c1, c2, _, _⟩ := hck.cells;clear hck hwin
      go_upto_region 17 with (fail)
      obtain ⟨hXa, KO⟩ := xB1 w4 31 #[.int .i64 lo, .int .i64 hi];replace HXL := xT HXL hXa;replace HCK := hid (HCK.out.ext hXa);replace KS := xE KS hXa;replace KP := xE KP hXa;clear hXa c0 c1 c2 p0 p1 b0;generalize w4.heap.size = go at KO |-;generalize w4.alloc _ = w5 at KO HXL HCK KS KP |-;skip;obtain ⟨mx, hmx⟩ : ∃ x, (if lo < sl then sl else lo) = x := ⟨_, rfl⟩;obtain ⟨mn, hmn⟩ : ∃ x, (if sh < hi then sh else hi) = x := ⟨_, rfl⟩;refine ny go gs lo hi sl sh mx mn w5 hmx hmn (KO.out.cell 0) (KO.out.cell 1) (KP.out.cell 0) (KP.out.cell 1) _ _ (by simp) ⟨rfl, rfl, trivial⟩ ?_;rintro w6 hX;simp only [EndK, ae, Try.f21, ab, Option.bind_some, Nat.reduceBEq, if_true, if_false, Bool.false_eq_true, Option.getD_some, List.drop_succ_cons, List.drop_zero];simp only [Act.put, List.setIfInBounds_toArray, List.set_cons_succ, List.set_cons_zero];replace HXL := xT HXL hX;replace HCK := hid (HCK.out.ext hX);replace KS := xE KS hX;clear hX KO KP;have em : max lo sl = mx := by rw [<- hmx]; split <;> omega
      have en : min hi sh = mn := by rw [<- hmn]; split <;> omega
      have hle : mx <= mn := by omega
      have HW2 : Hid (Win (ys.take (j + 1)) mx mn) := hid (by
       rw [HT.out, <- em, <- en, <- HSL.out, <- HSH.out];exact HW.out.step s)
      clear hmx hmn em en hwb hb1 hb2;have q3 := xD (mx <= mn) hle;obtain ⟨c0, c1, c2, f1, f2⟩ := HCK.out.cells
      go_upto_region 21 with (fail)
      have hck := HCK.out.put mx mn;have hX2 : Ext wl ((w6.setCell ⟨gq, 1, none⟩ (.int .i64 mx)).setCell ⟨gq, 2, none⟩ (.int .i64 mn)) := (HXL.out.setCell hgq _).setCell hgq _;generalize (w6.setCell _ _).setCell _ _ = w7 at hck hX2 |-;clear HXL HCK c0 c1 c2 f1 f2 hle;have HXL := hid hX2;have HQ : Hid (CkSt ys wl (j + 1) (.slice (some ⟨gq, 0, none⟩) 1 cq) w7) := hid ⟨fun h => absurd h (by omega), fun _ => ⟨gq, cq, fr, mx, mn, rfl, hgq, hck, hf0, HW2.out, hc1, hc2⟩⟩;clear hX2 hck;go_wp2;go_roundg (k - (j + 1))
      case rel => exact ⟨j + 1, rfl, by omega, by go_num, HQ, HXL⟩
      case measure => omega
    .
     obtain rfl : j = k := by omega
     have q1 : decide (j < j) = false := by simp
     have q1b : decide ((j : Int) < (j : Int)) = false := by simp
     obtain ⟨gq, cq, fr, lo, hi, rfl, hgq, hck, hf0, hwin, hc1, hc2⟩ := HQ.out.2 (by omega);rw [List.take_of_length_le (by rw [HYL.out]; exact Nat.le_refl _)] at hwin;have HR := hid (And.intro hck (hwin.mem HM.out));clear HQ hck hwin;go_wp2
     go_ret2
     exact ⟨gq, cq, fr, lo, hi, rfl, HR.out.1, hf0, HR.out.2, hc1, hc2, HX.out.trans HXL.out⟩
end Go.Proofs.Ytikhlcgnlbinfaa
