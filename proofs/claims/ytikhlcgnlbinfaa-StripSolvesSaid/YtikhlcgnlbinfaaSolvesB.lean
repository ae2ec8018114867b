/- Lemmas of the proof that follows (Solves, part 2): walks of functions by contract, and plain lemmas. Conditions: none. -/
import Derived.Test.YtikhlcgnlbinfaaSolvesA
set_option maxRecDepth 100000
set_option maxHeartbeats 4000000
namespace Go.Proofs.Ytikhlcgnlbinfaa
open Lib (hid)
open Go.RowKit
theorem eW {x y : Int} (i : Nat) (hx : 0 <= x) (hy : 0 <= y /\ y < 2 ^ i) (hd : x % 2 ^ i = 0) (_hs : x + y < 18446744073709551616) : bits .or .u64 x y = x + y := by
 obtain ⟨a, rfl⟩ := Int.eq_ofNat_of_zero_le hx;obtain ⟨b, rfl⟩ := Int.eq_ofNat_of_zero_le hy.1;have e : ((2 ^ i : Nat) : Int) = 2 ^ i := by simp
 rw [u64_or_nat a b (by omega) (by omega), nat_join i a b (by rw [<- e] at hd; omega) (by rw [<- e] at hy; omega)];omega
theorem kJ {x y : Int} (i : Nat) (hx : 0 <= x) (hy : 0 <= y /\ y < 2 ^ i) (hd : x % 2 ^ i = 0) (_hs : x + y < 18446744073709551616) : bits .or .u64 y x = y + x := by
 obtain ⟨a, rfl⟩ := Int.eq_ofNat_of_zero_le hx;obtain ⟨b, rfl⟩ := Int.eq_ofNat_of_zero_le hy.1;have e : ((2 ^ i : Nat) : Int) = 2 ^ i := by simp
 rw [u64_or_nat b a (by omega) (by omega), Nat.or_comm, nat_join i a b (by rw [<- e] at hd; omega) (by rw [<- e] at hy; omega)];omega
theorem kK {x y : Int} (i : Nat) (hx : 0 <= x) (hy : 0 <= y /\ y < 2 ^ i) (hd : x % 2 ^ i = 0) (_hs : x + y < 4294967296) : bits .or .u32 y x = y + x := by
 obtain ⟨a, rfl⟩ := Int.eq_ofNat_of_zero_le hx;obtain ⟨b, rfl⟩ := Int.eq_ofNat_of_zero_le hy.1;have e : ((2 ^ i : Nat) : Int) = 2 ^ i := by simp
 rw [u32_or_nat b a (by omega) (by omega), Nat.or_comm, nat_join i a b (by rw [<- e] at hd; omega) (by rw [<- e] at hy; omega)];omega
theorem ji {r x d : Int} (_hr : 0 <= r /\ r < d) (_hx : 0 <= x /\ x <= 4294967295) : (r * 4294967296 + x) / d <= 4294967295 /\ 0 <= (r * 4294967296 + x) / d := by
 have hd : 0 < d := by omega
 refine ⟨?_, Int.ediv_nonneg (by omega) (by omega)⟩;have : (r * 4294967296 + x) / d < 4294967296 := Int.ediv_lt_of_lt_mul hd (by omega);omega
/-- What word returns: the quotient and the rest. -/
def sc (w : World) (q : Nat) (r : Int) (e : Ending) (w' : World) : Prop := ∃ v, e = .returned (.tuple #[v, .int .u32 r]) /\ W32 w' v q /\ Ext w w'
theorem mF (va : Value) (n La : Nat) (d : Int) (w : World) (ha : W32 w va n) (hn : Fit 4294967296 n La) (_hL : La <= 1099511627776) (hd0 : 0 < d) (_hd1 : d <= 4294967295) :
  Calls Try.prog 202 #[va, .int .u32 d] w (sc w (n / d.toNat) ((n : Int) % d)) := by
 obtain ⟨A, la, ca, xs, rfl, hA, hrx, hca, hcam⟩ := ha;have hla := hn.len (by omega) hrx;rw [hA.1] at hla;have HA := hid hA;have HN := hid hrx;have HLA : Hid (xs.length = la) := hA.1;clear hA hrx hn;go_enter Try.func202, Try.ntmps202
 go_wp2_with (at_make; refine ap _ oX rfl rfl _ _ rfl w.heap.size _ _ _ _ la la rfl rfl (by omega) (by omega) (Nat.le_refl _) (by omega) (by unfold maxLen; omega) (Nat.le_refl _) ?_; intro w1 hown1 hext1 hsz1)
 have HO1 := hid (OwnS.made hown1);have HX1 := hid hext1;clear hown1 hext1 hsz1
 go_loopg [7, 8] (la + 1) (fun g rs i wr => ∃ (k : Nat) (r : Int) (out : List Int), g = k + 1 /\ k <= la /\ i = .int .i64 ((k : Int) - 1) /\ rs = .int .u64 r /\ 0 <= r /\ r < d /\ OwnS .u32 129 w.heap.size wr (some ⟨w.heap.size, 0, none⟩) la la out /\ Hid (val 4294967296 (xs.drop k) = d * val 4294967296 (out.drop k) + r) /\ Ext w wr)
 case atStart => exact ⟨la, 0, _, rfl, Nat.le_refl _, rfl, rfl, by omega, hd0, HO1.out, by
  rw [List.drop_eq_nil_of_le (by rw [HLA.out]; exact Nat.le_refl _), List.drop_eq_nil_of_le (by simp)]; simp [Hid, val], HX1.out⟩
 case round =>
  obtain ⟨k, r, out, rfl, hk, rfl, rfl, hr0, hr1, hO, hI, hX⟩ := hrel;have HX := hid hX;have HO := hid hO;clear hX hO
  rcases Nat.eq_zero_or_pos k with h0 | h0
  .
   subst h0;rw [show (((0 : Nat) : Int) - 1) = -1 by omega];have hv := hI.out;rw [List.drop_zero, List.drop_zero, HN.out.2.2] at hv;have hvn := az (B := 4294967296) (by omega) (cS HO.out.ints);obtain ⟨q, hq⟩ := Int.eq_ofNat_of_zero_le hvn;have e1 : (n : Int) / d = q := by rw [hv, hq, Int.add_comm, Int.add_mul_ediv_left _ _ (by omega), Int.ediv_eq_zero_of_lt hr0 hr1]; omega
   have e2 : (n : Int) % d = r := by rw [hv, Int.add_comm, Int.add_mul_emod_self_left]; exact Int.emod_eq_of_lt hr0 hr1
   have e3 : n / d.toNat = q := by
    have h1 : ((n / d.toNat : Nat) : Int) = (n : Int) / (d.toNat : Int) := Int.natCast_ediv ..;rw [Int.toNat_of_nonneg (by omega), e1] at h1; omega
   have E2 := hid e2;have E3 := hid e3;have HV := hid hq;clear hv hvn hq e1 e2 e3;have hrw : IntKind.u32.wrap r = r := IntWalk.u32_in _ (by omega)
   go_wp2_with fail
   refine (aI _ _ _ _ _ HO.out.ints (by omega) (by omega)).mono ?_;rintro e w' ⟨m, hm, hN, hv, rfl, rfl⟩;have HW := hid (RetNorm.natv (N := q) (c := la) HO.out.ints hm hN hv HV.out (by omega) (by omega));clear hm hN hv;go_wp2
   go_ret2
   exact ⟨_, by rw [E2.out]; rfl, by rw [E3.out]; exact HW.out, HX.out⟩
  .
   obtain ⟨i, rfl⟩ : ∃ i, k = i + 1 := ⟨k - 1, by omega⟩;obtain ⟨b1, o1, x, hAe, hx, hwf, hcx⟩ := (HA.out.ext HX.out).get (j := i) (by omega);subst hAe;obtain ⟨hx0, hx1⟩ := ah hwf;obtain ⟨g, z, hg, hz, _, hcz, hfz, _, hst⟩ := HO.out.store (j := i) (by omega);obtain rfl : w.heap.size = g := by injection hg with hg; injection hg
   have hi1 : (((i + 1 : Nat) : Int) - 1) = (i : Int) := by omega
   have hi2 : (i : Int) < (la : Int) := by omega
   have hi0 : (0 : Int) <= (i : Int) := by omega
   rw [hi1];have hor : bits .or .u64 (r * 4294967296) x = r * 4294967296 + x := eW 32 (by omega) (by omega) (by omega) (by omega);obtain ⟨hq1, hq0⟩ := ji ⟨hr0, hr1⟩ ⟨hx0, hx1⟩;have HI := hid (kG (d := d) (r := r) (t := r * 4294967296 + x) hI.out (by rw [HO.out.len]; omega) hx rfl);obtain ⟨t, ht⟩ : ∃ t, r * 4294967296 + x = t := ⟨_, rfl⟩;have ht0 : 0 <= t := by omega
   have ht1 : t <= 18446744073709551615 := by omega
   rw [ht] at hor hq1 hq0 HI;have HS := hid (hst.out (t / d) (b8 (by omega)));have hm0 := Int.emod_nonneg t (show d ≠ 0 by omega);have hm1 := Int.emod_lt_of_pos t hd0;clear hx hwf hz hg hi1 hst ht;go_wp2;go_roundg (i + 1)
   case rel => exact ⟨i, t % d, _, rfl, by omega, by go_num, rfl, hm0, hm1, HS.out, HI.out, HX.out.setCell (Nat.le_refl _) _⟩
   case measure => omega
/-- What shl returns: the number in a row of the call's own. -/
def sd (w : World) (n : Nat) (e : Ending) (w' : World) : Prop := ∃ A m c xs, e = .returned (.slice A m c) /\ OwnS .u32 129 w.heap.size w' A m c xs /\ Rep 4294967296 xs n /\ Ext w w'
theorem rc {o t : Int} {s : Nat} (_hs : s <= 31) {x : Int} (ht : t = x * 2 ^ s) (ho0 : 0 <= o) (ho1 : o < 2 ^ s) : bits .or .u32 o (t % 4294967296) = o + t % 4294967296 /\ o + t % 4294967296 < 4294967296 := by
 have hd : t % 4294967296 % 2 ^ s = 0 := by
  obtain ⟨q, hq⟩ : ∃ q, (2 : Int) ^ 32 = 2 ^ s * q := ⟨2 ^ (32 - s), by rw [<- Int.pow_add]; congr 1; omega⟩;have e : (4294967296 : Int) = 2 ^ s * q := by rw [<- hq]; decide
  rw [e, Int.emod_emod_of_dvd _ ⟨q, rfl⟩, ht, Int.mul_emod_left]
 have hm : 0 <= t % 4294967296 /\ t % 4294967296 < 4294967296 := by omega
 suffices hlt : t % 4294967296 + o < 4294967296 by
  exact ⟨kK s hm.1 ⟨ho0, ho1⟩ hd hlt, by omega⟩
 obtain ⟨q, hq⟩ := Int.dvd_of_emod_eq_zero hd;obtain ⟨p, hp⟩ : ∃ p, (2 : Int) ^ 32 = 2 ^ s * p := ⟨2 ^ (32 - s), by rw [<- Int.pow_add]; congr 1; omega⟩;have e : (4294967296 : Int) = 2 ^ s * p := by rw [<- hp]; decide
 have hpp : (0 : Int) < 2 ^ s := Int.pow_pos (by omega)
 have hqp : q < p := by
  rcases Int.lt_or_le q p with h | h
  .
   exact h
  .
   have := Int.mul_le_mul_of_nonneg_left h (Int.le_of_lt hpp); omega
 have h1 : 2 ^ s * (q + 1) <= 2 ^ s * p := Int.mul_le_mul_of_nonneg_left (by omega) (Int.le_of_lt hpp);rw [Int.mul_add, Int.mul_one] at h1;omega
theorem kL {x : Int} {s : Nat} (hx : 0 <= x /\ x <= 4294967295) (hs : s <= 31) : 0 <= x * 2 ^ s /\ x * 2 ^ s <= 9223372034707292160 /\ x * 2 ^ s / 4294967296 < 2 ^ s := by
 have hp : (0 : Int) < 2 ^ s := Int.pow_pos (by omega);have hp1 : (2 : Int) ^ s <= 2 ^ 31 := df (by omega) hs;have h1 : x * 2 ^ s <= 4294967295 * 2 ^ s := Int.mul_le_mul_of_nonneg_right hx.2 (Int.le_of_lt hp);have h0 : 0 <= x * 2 ^ s := Int.mul_nonneg hx.1 (Int.le_of_lt hp);have e : (2 : Int) ^ 31 = 2147483648 := by decide
 rw [e] at hp1;generalize (2 : Int) ^ s = p at *;generalize x * p = t at *;exact ⟨h0, by omega, by omega⟩
theorem j1 (va : Value) (n La s : Nat) (w : World) (ha : W32 w va n) (hn : Fit 4294967296 n La) (_hL : La <= 1099511627776) (hs : s <= 31) :
  Calls Try.prog 204 #[va, .int .i64 s] w (sd w (n * 2 ^ s)) := by
 obtain ⟨A, la, ca, xs, rfl, hA, hrx, hca, hcam⟩ := ha;have hla := hn.len (by omega) hrx;rw [hA.1] at hla;have HA := hid hA;have HN := hid hrx;have HLA : Hid (xs.length = la) := hA.1;clear hA hrx hn;go_enter Try.func204, Try.ntmps204
 go_wp2_with (at_make; refine ap _ oX rfl rfl _ _ rfl w.heap.size _ _ _ _ (la + 1) (la + 1) rfl rfl (by omega) (by omega) (Nat.le_refl _) (by omega) (by unfold maxLen; omega) (Nat.le_refl _) ?_; intro w1 hown1 hext1 hsz1)
 have HO1 := hid (OwnS.made hown1);have HX1 := hid hext1;clear hown1 hext1 hsz1
 go_loopg [15] la (fun g i wr => ∃ (k : Nat) (o : Int) (out : List Int), g = la - k /\ k <= la /\ i = .int .i64 k /\ OwnS .u32 129 w.heap.size wr (some ⟨w.heap.size, 0, none⟩) (la + 1) (la + 1) out /\ Hid (out[k]? = some o) /\ Hid (0 <= o /\ o < 2 ^ s) /\ Hid (val 4294967296 (out.take (k + 1)) = val 4294967296 (xs.take k) * 2 ^ s) /\ Ext w wr)
 case atStart => exact ⟨0, 0, _, rfl, by omega, rfl, HO1.out, by simp [Hid], ⟨by omega, Int.pow_pos (by omega)⟩, by simp [Hid, val, List.take_replicate, Nat.min_eq_left], HX1.out⟩
 case round =>
  obtain ⟨k, o, out, rfl, hk, rfl, hO, hok, ho, hI, hX⟩ := hrel;have HX := hid hX;have HO := hid hO;clear hX hO
  by_cases hlt : k < la
  .
   obtain ⟨b1, o1, x, hAe, hx, hwf, hcx⟩ := (HA.out.ext HX.out).get hlt;subst hAe;obtain ⟨hx0, hx1⟩ := ah hwf;obtain ⟨g, z, hg, hz, hwz, hcz, hfz, _, hst⟩ := HO.out.store (j := k) (by omega);obtain rfl : w.heap.size = g := by injection hg with hg; injection hg
   obtain rfl : o = z := by have := hok.out; rw [hz] at this; exact (Option.some.inj this).symm
   obtain ⟨hz0, hz1⟩ := ah hwz;have hk0 : (0 : Int) <= (k : Int) := by omega
   have hk1 : (k : Int) < ((la + 1 : Nat) : Int) := by omega
   have hk2 : (k : Int) < (la : Int) := by omega
   obtain ⟨hr0, hr1, hr2⟩ := kL ⟨hx0, hx1⟩ hs;have HI := hid (mD (xs := xs) (p := 2 ^ s) (t := x * 2 ^ s) hI.out (by rw [HO.out.len]; omega) hz (by simp [List.getD, hx]));obtain ⟨t, ht⟩ : ∃ t, x * 2 ^ s = t := ⟨_, rfl⟩;obtain ⟨hor, hol⟩ := rc hs ht.symm ho.out.1 ho.out.2;rw [ht] at hr0 hr1 hr2 HI;have hwr : IntKind.u64.wrap (x * 2 ^ s) = t := by rw [ht]; exact IntWalk.u64_in _ (by omega)
   have hs1 := hst.out (o + t % 4294967296) (b8 (by omega));obtain ⟨g2, z2, hg2, hz2, _, hcz2, hfz2, _, hst2⟩ := hs1.store (j := k + 1) (by omega);obtain rfl : w.heap.size = g2 := by injection hg2 with hg2; injection hg2
   have HS := hid (hst2.out (t / 4294967296) (b8 (by omega)));have HR2 : Hid (0 <= t / 4294967296 /\ t / 4294967296 < 2 ^ s) := ⟨by omega, hr2⟩;clear hx hwf hz hg hst ht hwz hz2 hg2 hst2 hs1 hr2;go_wp2;go_roundg (la - (k + 1))
   case rel => exact ⟨k + 1, t / 4294967296, _, rfl, by omega, by go_num, HS.out, by show _ = _; rw [List.getElem?_set_self (by rw [List.length_set, HO.out.len]; omega)], HR2, HI.out, (HX.out.setCell (Nat.le_refl _) _).setCell (Nat.le_refl _) _⟩
   case measure => omega
  .
   obtain rfl : k = la := by omega
   have HV : Hid (val 4294967296 out = ((n * 2 ^ s : Nat) : Int)) := by
    have h2 := hI.out;rw [aq (by rw [HO.out.len]; omega), aq (by rw [HLA.out]; omega), HN.out.2.2] at h2;show _ = _;rw [h2]; simp
   go_wp2_with fail
   refine (aI _ _ _ _ _ HO.out.ints (by omega) (by omega)).mono ?_;rintro e w' ⟨q, hq, hN, hv, rfl, rfl⟩;have HW := hid (And.intro (HO.out.front hq) (Rep.of_take (cS HO.out.ints) hv hN HV.out));clear hq hN hv;go_wp2;go_ret;exact ⟨_, _, _, _, rfl, HW.out.1, HW.out.2, HX.out⟩
theorem j2 {s : Nat} (_hs : s <= 31) : ((2 : Int) ^ s) ∣ 4294967296 := by
 refine ⟨2 ^ (32 - s), ?_⟩;rw [<- Int.pow_add, show s + (32 - s) = 32 by omega]; decide
theorem pc (va : Value) (n La s : Nat) (w : World) (ha : W32 w va n) (hn : Fit 4294967296 n La) (_hL : La <= 1099511627776) (hs : s <= 31) :
  Calls Try.prog 206 #[va, .int .i64 s] w (ep .u32 4294967296 w (n / 2 ^ s)) := by
 obtain ⟨A, la, ca, xs, rfl, hA, hrx, hca, hcam⟩ := ha;have hla := hn.len (by omega) hrx;rw [hA.1] at hla;have HA := hid hA;have HN := hid hrx;have HLA : Hid (xs.length = la) := hA.1;clear hA hrx hn;go_enter Try.func206, Try.ntmps206
 go_wp2_with (at_make; refine ap _ oX rfl rfl _ _ rfl w.heap.size _ _ _ _ la la rfl rfl (by omega) (by omega) (Nat.le_refl _) (by omega) (by unfold maxLen; omega) (Nat.le_refl _) ?_; intro w1 hown1 hext1 hsz1)
 have HO1 := hid (OwnS.made hown1);have HX1 := hid hext1;clear hown1 hext1 hsz1
 go_loopg [13] la (fun g i wr => ∃ (k : Nat) (out : List Int), g = la - k /\ k <= la /\ i = .int .i64 k /\ OwnS .u32 129 w.heap.size wr (some ⟨w.heap.size, 0, none⟩) la la out /\ Hid (2 ^ s * val 4294967296 (out.take k) + xs.getD 0 0 % 2 ^ s = val 4294967296 (xs.take k) + 4294967296 ^ k * (xs.getD k 0 % 2 ^ s)) /\ Ext w wr)
 case atStart => exact ⟨0, _, rfl, by omega, rfl, HO1.out, by simp [Hid, val], HX1.out⟩
 case round =>
  obtain ⟨k, out, rfl, hk, rfl, hO, hI, hX⟩ := hrel;have HX := hid hX;have HO := hid hO;clear hX hO;have hp0 : Hid ((0 : Int) < 2 ^ s) := Int.pow_pos (by omega)
  by_cases hlt : k < la
  .
   obtain ⟨b1, o1, x, hAe, hx, hwf, hcx⟩ := (HA.out.ext HX.out).get hlt;subst hAe;obtain ⟨hx0, hx1⟩ := ah hwf;obtain ⟨g, z, hg, hz, hwz, hcz, hfz, _, hst⟩ := HO.out.store (j := k) (by omega);obtain rfl : w.heap.size = g := by injection hg with hg; injection hg
   have hk0 : (0 : Int) <= (k : Int) := by omega
   have hk1 : (k : Int) < (la : Int) := by omega
   by_cases hlt2 : k + 1 < la
   .
    obtain ⟨b2, o2, y, hAe, hy, hwf2, hcy⟩ := (HA.out.ext HX.out).get hlt2;injection hAe with hAe;injection hAe with hA1 hA2;subst hA1 hA2;obtain ⟨hy0, hy1⟩ := ah hwf2;have hk2 : (k : Int) + 1 < (la : Int) := by omega
    have hor : bits .or .u64 x (y * 4294967296) = x + y * 4294967296 := kJ 32 (by omega) (by omega) (by omega) (by omega);obtain ⟨t, ht⟩ : ∃ t, x + y * 4294967296 = t := ⟨_, rfl⟩;have ht0 : 0 <= t := by omega
    have ht1 : t <= 18446744073709551615 := by omega
    have HI := hid (gS (xs := xs) (u := t / 2 ^ s % 4294967296) hp0.out (j2 hs) hI.out (by rw [HO.out.len]; omega) (by simp [List.getD, hx, hy, <- ht]) (cS HA.out) (by omega));have hu : 0 <= t / 2 ^ s % 4294967296 /\ t / 2 ^ s % 4294967296 < 4294967296 := by generalize t / 2 ^ s = q; omega
    have HS := hid (hst.out _ (b8 hu));have hoc : o1 + k + 1 = o1 + (k + 1) := by omega
    rw [ht] at hor;clear hx hwf hz hg hst ht hwz hy hwf2 hu hoc;go_wp2;go_roundg (la - (k + 1))
    case rel => exact ⟨k + 1, _, rfl, by omega, by go_num, HS.out, HI.out, HX.out.setCell (Nat.le_refl _) _⟩
    case measure => omega
   .
    have HI := hid (gS (xs := xs) (u := x / 2 ^ s % 4294967296) hp0.out (j2 hs) hI.out (by rw [HO.out.len]; omega) (by simp [List.getD, hx, List.getElem?_eq_none (by rw [HLA.out]; omega : xs.length <= k + 1)]) (cS HA.out) (by omega));have hu : 0 <= x / 2 ^ s % 4294967296 /\ x / 2 ^ s % 4294967296 < 4294967296 := by generalize x / 2 ^ s = q; omega
    have HS := hid (hst.out _ (b8 hu));clear hx hwf hz hg hst hwz hu;go_wp2;go_roundg (la - (k + 1))
    case rel => exact ⟨k + 1, _, rfl, by omega, by go_num, HS.out, HI.out, HX.out.setCell (Nat.le_refl _) _⟩
    case measure => omega
  .
   obtain rfl : k = la := by omega
   have HV : Hid (val 4294967296 out = ((n / 2 ^ s : Nat) : Int)) := by
    have h2 := hI.out;have h0 : xs.getD k 0 = 0 := by simp [List.getD, List.getElem?_eq_none (by rw [HLA.out]; omega : xs.length <= k)]
    rw [aq (by rw [HO.out.len]; omega), aq (by rw [HLA.out]; omega), HN.out.2.2, h0] at h2;have hm0 := Int.emod_nonneg (xs.getD 0 0) (show (2 : Int) ^ s ≠ 0 by have := hp0.out; omega);have hm1 := Int.emod_lt_of_pos (xs.getD 0 0) hp0.out;show _ = _;rw [Int.natCast_ediv];simp only [Int.zero_emod, Int.mul_zero, Int.add_zero] at h2;rw [<- h2, show (((2 ^ s : Nat) : Int)) = 2 ^ s by simp, Int.add_comm, Int.add_mul_ediv_left _ _ (by have := hp0.out; omega), Int.ediv_eq_zero_of_lt hm0 hm1];omega
   go_wp2_with fail
   refine (aI _ _ _ _ _ HO.out.ints (by omega) (by omega)).mono ?_;rintro e w' ⟨q, hq, hN, hv, rfl, rfl⟩;have HW := hid (RetNorm.natv (N := n / 2 ^ s) (c := k) HO.out.ints hq hN hv HV.out (by omega) (by omega));clear hq hN hv;go_wp2;go_ret;exact ⟨_, rfl, HW.out, HX.out⟩
end Go.Proofs.Ytikhlcgnlbinfaa
namespace Go.Proofs.Ytikhlcgnlbinfaa
open Lib (hid)
section
variable {B p vt v2 Vl V top u2 Ul U q r : Int}
/-- The first estimate is not too small. -/
theorem kN (_hB : 1 < B) (hp : 0 < p) (hvt : 0 < vt) (hv2 : 0 <= v2) (_hVl : 0 <= Vl) (_hV : V = (vt * B + v2) * p + Vl) (htop : 0 <= top) (_hu2 : u2 < B) (_hUl : Ul < p) (_hU : U = (top * B + u2) * p + Ul) :
  U < (top / vt + 1) * V := by
 have h1 := Int.emod_add_mul_ediv top vt;have h2 := Int.emod_lt_of_pos top hvt;have hq : 0 <= top / vt := Int.ediv_nonneg htop (by omega);generalize top / vt = q at *;generalize top % vt = r at *;have e : (q + 1) * V - U = (vt - r - 1) * (B * p) + (q + 1) * (v2 * p + Vl) + (B - u2 - 1) * p + (p - Ul) := by grind
 have a1 : 0 <= (vt - r - 1) * (B * p) := Int.mul_nonneg (by omega) (Int.mul_nonneg (by omega) (by omega));have a2 : 0 <= (q + 1) * (v2 * p + Vl) := Int.mul_nonneg (by omega) (by have := Int.mul_nonneg hv2 (Int.le_of_lt hp); omega);have a3 : 0 <= (B - u2 - 1) * p := Int.mul_nonneg (by omega) (by omega);omega
/-- A digit that is seen to be too great. -/
theorem mG (_hp : 0 < p) (hq : 0 <= q) (hVl : 0 <= Vl) (_hV : V = (vt * B + v2) * p + Vl) (_hUl : Ul < p) (_hU : U = (top * B + u2) * p + Ul) (_hr : q * vt + r = top) (_h : r * B + u2 < q * v2) : U < q * V := by
 have e : q * V - U = (q * v2 - (r * B + u2) - 1) * p + q * Vl + (p - Ul) := by grind
 have a1 : 0 <= (q * v2 - (r * B + u2) - 1) * p := Int.mul_nonneg (by omega) (by omega);have a2 : 0 <= q * Vl := Int.mul_nonneg hq hVl;omega
/-- A digit that passes is at most one too great. -/
theorem mH (_hB : 1 < B) (hp : 0 < p) (_hvt : 0 < vt) (hv2 : 0 <= v2) (hq : 0 <= q) (_hqB : q < B) (_hVl : 0 <= Vl) (_hVp : Vl < p) (_hV : V = (vt * B + v2) * p + Vl) (_hUl : 0 <= Ul) (_hU : U = (top * B + u2) * p + Ul) (_hr : q * vt + r = top) (_h : q * v2 <= r * B + u2) : (q - 1) * V <= U := by
 have e : U - (q - 1) * V = (r * B + u2 - q * v2) * p + Ul + (vt - 1) * (B * p) + v2 * p + Vl + (B - q) * p + q * (p - Vl) := by grind
 have a1 : 0 <= (r * B + u2 - q * v2) * p := Int.mul_nonneg (by omega) (by omega);have a2 : 0 <= (vt - 1) * (B * p) := Int.mul_nonneg (by omega) (Int.mul_nonneg (by omega) (by omega));have a3 := Int.mul_nonneg hv2 (Int.le_of_lt hp);have a4 : 0 <= (B - q) * p := Int.mul_nonneg (by omega) (by omega);have a5 : 0 <= q * (p - Vl) := Int.mul_nonneg hq (by omega);omega
/-- While the digit is not below B, what is left is below B. -/
theorem mI {un un1 : Int} (_htop : top = un * B + un1) (_hle : un <= vt) (_h1 : un1 < B) (_hB : 0 < B) (_hr : q * vt + r = top) (_hq : B <= q) (_hvt : 0 < vt) : r < B := by
 have e : B - r = (B - un1) + (vt - un) * B + (q - B) * vt := by grind
 have a1 : 0 <= (vt - un) * B := Int.mul_nonneg (by omega) (by omega);have a2 : 0 <= (q - B) * vt := Int.mul_nonneg (by omega) (by omega);omega
/-- The first digit of a number that is less than B times another one is at most the other's first one. -/
theorem pd {un un1 : Int} (_htop : top = un * B + un1) (_hp : 0 < p) (_hB : 1 < B) (h1 : 0 <= un1) (hu2 : 0 <= u2) (_hv2 : v2 < B) (_hVp : Vl < p) (_hV : V = (vt * B + v2) * p + Vl) (_hUl : 0 <= Ul) (_hU : U = (top * B + u2) * p + Ul) (_h : U < B * V) : un <= vt := by
 rcases Int.lt_or_le vt un with hlt | hle
 .
  exfalso;have e : U - B * V = (un - vt - 1) * (B * B * p) + un1 * (B * p) + u2 * p + Ul + (B - v2 - 1) * (B * p) + B * (p - Vl) := by grind
  have a1 : 0 <= (un - vt - 1) * (B * B * p) := Int.mul_nonneg (by omega) (Int.mul_nonneg (Int.mul_nonneg (by omega) (by omega)) (by omega));have a2 : 0 <= un1 * (B * p) := Int.mul_nonneg h1 (Int.mul_nonneg (by omega) (by omega));have a3 : 0 <= u2 * p := Int.mul_nonneg hu2 (by omega);have a4 : 0 <= (B - v2 - 1) * (B * p) := Int.mul_nonneg (by omega) (Int.mul_nonneg (by omega) (by omega));have a5 : 0 <= B * (p - Vl) := Int.mul_nonneg (by omega) (by omega);omega
 .
  exact hle
end
end Go.Proofs.Ytikhlcgnlbinfaa
namespace Go.Proofs.Ytikhlcgnlbinfaa
open Lib (hid)
open Go.RowKit
/-- The operations of a region. -/
def ab (n : Nat) : Code -> Option (List Oper)
 | .region i ops _ => if i == n then some ops.toList else none
 | .seq a b => match ab n a with
  | some c => some c
  | none => ab n b
 | .block _ c => ab n c
 | .loop c => ab n c
 | .scope c => ab n c
 | .cond _ a b => match ab n a with
  | some c => some c
  | none => ab n b
 | _ => none
def ae (f : Func) (n : Nat) : List Oper := (f.body.bind (ab n)).getD []
/-- The act with the values 'us k', 'us (k + 1)', .. in the slots 'ds' (none: no slot). -/
def aM (a : Act) : List (Option Tmp) -> (Nat -> Value) -> Nat -> Act
 | [], _, _ => a
 | d :: ds, us, k => aM (a.put d (us k)) ds us (k + 1)
def et (us : Nat -> Value) (i : Nat) (v : Value) : Nat -> Value := fun j => if j = i then v else us j
theorem kO (a : Act) (d : Option Tmp) (x y : Value) : (a.put d x).put d y = a.put d y := by
 cases d <;> simp [Act.put, Array.setIfInBounds_setIfInBounds]
theorem kQ (a : Act) {d e : Option Tmp} (h : d = none \/ d ≠ e) (x y : Value) : (a.put d x).put e y = (a.put e y).put d x := by
 cases d with
 | none => rfl
 | some d =>
  cases e with
  | none => rfl
  | some e =>
   have hne : d ≠ e := fun q => by rcases h with h | h <;> simp_all
   simp only [Act.put];rw [Array.setIfInBounds_comm _ _ hne]
/-- No slot twice. -/
def dS (ds : List (Option Tmp)) : Prop := ds.Pairwise fun d e => d = none \/ d ≠ e
theorem kT (us : Nat -> Value) (d : Option Tmp) (v : Value) : ∀ (ds : List (Option Tmp)), (∀ e ∈ ds, d = none \/ d ≠ e) -> ∀ (a : Act) (k : Nat), (aM a ds us k).put d v = aM (a.put d v) ds us k := by
 intro ds
 induction ds with
 | nil => intro _ a k; rfl
 | cons e ds ih =>
  intro hd a k;simp only [aM];rw [ih (fun e he => hd e (List.mem_cons_of_mem _ he)), kQ a (hd e (List.mem_cons_self ..))]
theorem gT (ds : List (Option Tmp)) (us us' : Nat -> Value) : ∀ (a : Act) (k : Nat), (∀ j, k <= j -> us j = us' j) -> aM a ds us k = aM a ds us' k := by
 induction ds with
 | nil => intro a k _; rfl
 | cons e ds ih =>
  intro a k h;simp only [aM];rw [h k (Nat.le_refl _)];exact ih _ _ fun j hj => h j (by omega)
theorem fQ (us : Nat -> Value) (v : Value) : ∀ (ds : List (Option Tmp)), dS ds -> ∀ (a : Act) (k i : Nat) (d : Option Tmp), ds[i]? = some d -> (aM a ds us k).put d v = aM a ds (et us (k + i) v) k := by
 intro ds
 induction ds with
 | nil => intro _ a k i d h; simp at h
 | cons e ds ih =>
  intro hn a k i d h;have hn' := List.pairwise_cons.1 hn
  cases i with
  | zero =>
   simp at h;subst h;simp only [aM];rw [kT us e v ds hn'.1, kO];have e1 : et us (k + 0) v k = v := by simp [et]
   rw [e1];exact gT ds _ _ _ _ fun j hj => by simp [et]; omega
  | succ i =>
   simp only [aM];have hi : ds[i]? = some d := by simpa using h
   rw [ih hn'.2 _ (k + 1) i d hi];have e1 : et us (k + (i + 1)) v k = us k := by simp [et]
   have e2 : k + 1 + i = k + (i + 1) := by omega
   rw [e1, e2]
theorem eJ : ∀ (ds : List (Option Tmp)) (a : Act) (k : Nat) (us : Nat -> Value), (∀ d, some d ∈ ds -> d < a.tmps.size) -> (∀ i d, ds[i]? = some (some d) -> us (k + i) = a.tmps.getD d undef) -> aM a ds us k = a := by
 intro ds
 induction ds with
 | nil => intro a k us _ _; rfl
 | cons e ds ih =>
  intro a k us hb hu;simp only [aM]
  have hput : a.put e (us k) = a := by
   cases e with
   | none => rfl
   | some d =>
    have h0 := hu 0 d rfl;rw [Nat.add_zero] at h0;rw [h0];have hd := hb d (List.mem_cons_self ..);simp only [Act.put]
    have : a.tmps.setIfInBounds d (a.tmps.getD d undef) = a.tmps := by
     apply Array.ext_getElem?;intro i;rw [Array.getElem?_setIfInBounds]
     by_cases hi : d = i
     .
      subst hi; simp [hd, Array.getD]
     .
      simp [hi]
    rw [this]
  rw [hput]
  exact ih a (k + 1) us (fun d hd => hb d (List.mem_cons_of_mem _ hd)) fun i d hi => by
   have := hu (i + 1) d (by simpa using hi);rw [<- this]; congr 1; omega
/-- What one operation must give: 'done' are those that were carried out; 'D' those whose values it uses, 'A' those that cannot have been carried out before it. -/
def JOp (P : Program) (ops : Array Oper) (V : Nat -> Value -> World -> Prop) (J : (Nat -> Prop) -> World -> Prop) (D A : List (List Nat)) (ds : List (Option Tmp)) (a : Act) (i : Nat) (o : Oper) : Prop :=
 ∀ (done : Nat -> Prop) (us : Nat -> Value) (W : World), J done W -> (∀ j ∈ D.getD i [], V j (us j) W /\ done j) -> (∀ j ∈ A.getD i [], ¬ done j) -> ¬ done i -> ∀ K : Act -> World -> Prop,
  (∀ v W', V i v W' -> (∀ j u, done j -> V j u W -> V j u W') -> J (fun k => done k \/ k = i) W' -> K ((aM a ds us 0).put o.dst v) W') -> ∀ Q' : Exit -> Act -> World -> Prop,
  if Region.wanted o (yielded ops (aM a ds us 0).tmps) then o.wp P (aM a ds us 0) W K Q' else K ((aM a ds us 0).put o.dst undef) W
def JAll (P : Program) (ops : Array Oper) (V : Nat -> Value -> World -> Prop) (J : (Nat -> Prop) -> World -> Prop) (D A : List (List Nat)) (ds : List (Option Tmp)) (a : Act) : Nat -> List Oper -> Prop
 | _, [] => True
 | i, o :: rest => JOp P ops V J D A ds a i o /\ JAll P ops V J D A ds a (i + 1) rest
theorem JAll.at {P : Program} {ops : Array Oper} {V : Nat -> Value -> World -> Prop} {J : (Nat -> Prop) -> World -> Prop} {D A : List (List Nat)} {ds : List (Option Tmp)} {a : Act} : ∀ (l : List Oper) (k : Nat), JAll P ops V J D A ds a k l -> ∀ i o, l[i]? = some o -> JOp P ops V J D A ds a (k + i) o := by
 intro l
 induction l with
 | nil => intro k _ i o h; simp at h
 | cons x l ih =>
  intro k h i o ho
  cases i with
  | zero => simp at ho; subst ho; exact h.1
  | succ i =>
   have := ih (k + 1) h.2 i o (by simpa using ho);rw [show k + 1 + i = k + (i + 1) by omega] at this;exact this
theorem kU (a : Act) (d : Option Tmp) (v : Value) : (a.put d v).tmps.size = a.tmps.size := by
 cases d <;> simp [Act.put]
theorem kV (a : Act) (e : Option Tmp) (v : Value) {d : Tmp} (h : e ≠ some d) : (a.put e v).tmps[d]? = a.tmps[d]? := by
 cases e with
 | none => rfl
 | some e => simp only [Act.put]; rw [Array.getElem?_setIfInBounds, if_neg (fun q => h (by rw [q]))]
theorem dI (us : Nat -> Value) : ∀ (ds : List (Option Tmp)) (a : Act) (k : Nat) (d : Tmp), some d ∉ ds -> (aM a ds us k).tmps[d]? = a.tmps[d]? := by
 intro ds
 induction ds with
 | nil => intro a k d _; rfl
 | cons e ds ih =>
  intro a k d h;simp only [List.mem_cons, not_or] at h;simp only [aM];rw [ih _ _ d h.2, kV _ _ _ (Ne.symm h.1)]
theorem fR (us : Nat -> Value) : ∀ (ds : List (Option Tmp)), dS ds -> ∀ (a : Act) (k i : Nat) (d : Tmp), ds[i]? = some (some d) -> d < a.tmps.size -> (aM a ds us k).tmps[d]? = some (us (k + i)) := by
 intro ds
 induction ds with
 | nil => intro _ a k i d h; simp at h
 | cons e ds ih =>
  intro hn a k i d h hd;have hn' := List.pairwise_cons.1 hn;simp only [aM]
  cases i with
  | zero =>
   simp at h;subst h;rw [dI us ds _ _ d (fun hm => by rcases hn'.1 _ hm with h | h <;> simp at h)];simp only [Act.put];rw [Array.getElem?_setIfInBounds_self_of_lt hd]; rfl
  | succ i =>
   have hi : ds[i]? = some (some d) := by simpa using h
   rw [ih hn'.2 _ (k + 1) i d hi (by rw [kU]; exact hd)]
   congr 2; omega
/-- The same je a frame of which only the slots' values are known. -/
theorem JOp.of {P : Program} {ops : Array Oper} {V : Nat -> Value -> World -> Prop} {J : (Nat -> Prop) -> World -> Prop} {D A : List (List Nat)} {ds : List (Option Tmp)} {a : Act} {i : Nat} {o : Oper} (hn : dS ds) (hs : ∀ d, some d ∈ ds -> d < a.tmps.size)
  (h : ∀ (done : Nat -> Prop) (us : Nat -> Value) (W : World), J done W -> (∀ j ∈ D.getD i [], V j (us j) W /\ done j) -> (∀ j ∈ A.getD i [], ¬ done j) -> ¬ done i -> ∀ b : Act, (∀ j d, ds[j]? = some (some d) -> b.tmps[d]? = some (us j)) -> (∀ d, some d ∉ ds -> b.tmps[d]? = a.tmps[d]?) -> ∀ K : Act -> World -> Prop,
   (∀ v W', V i v W' -> (∀ j u, done j -> V j u W -> V j u W') -> J (fun k => done k \/ k = i) W' -> K (b.put o.dst v) W') -> ∀ Q' : Exit -> Act -> World -> Prop,
   if Region.wanted o (yielded ops b.tmps) then o.wp P b W K Q' else K (b.put o.dst undef) W) : JOp P ops V J D A ds a i o := by
 intro done us W hJ hdep haft hnot K hK Q';refine h done us W hJ hdep haft hnot _ (fun j d hj => ?_) (fun d hd => dI us ds a 0 d hd) K hK Q';have := fR us ds hn a 0 j d hj (hs d (List.mem_of_getElem? hj))
 rwa [Nat.zero_add] at this
/-- What one operation must give, je a frame of which only the slots' values are known. -/
def sH (P : Program) (ops : Array Oper) (V : Nat -> Value -> World -> Prop) (J : (Nat -> Prop) -> World -> Prop) (D A : List (List Nat)) (ds : List (Option Tmp)) (a : Act) (i : Nat) (o : Oper) : Prop :=
 ∀ (done : Nat -> Prop) (us : Nat -> Value) (W : World), J done W -> (∀ j ∈ D.getD i [], V j (us j) W /\ done j) -> (∀ j ∈ A.getD i [], ¬ done j) -> ¬ done i -> ∀ b : Act, (∀ j d, ds[j]? = some (some d) -> b.tmps[d]? = some (us j)) -> (∀ d, some d ∉ ds -> b.tmps[d]? = a.tmps[d]?) -> ∀ K : Act -> World -> Prop,
   (∀ v W', V i v W' -> (∀ j u, done j -> V j u W -> V j u W') -> J (fun k => done k \/ k = i) W' -> K (b.put o.dst v) W') -> ∀ Q' : Exit -> Act -> World -> Prop,
   if Region.wanted o (yielded ops b.tmps) then o.wp P b W K Q' else K (b.put o.dst undef) W
def JAllq (P : Program) (ops : Array Oper) (V : Nat -> Value -> World -> Prop) (J : (Nat -> Prop) -> World -> Prop) (D A : List (List Nat)) (ds : List (Option Tmp)) (a : Act) : Nat -> List Oper -> Prop
 | _, [] => True
 | i, o :: rest => sH P ops V J D A ds a i o /\ JAllq P ops V J D A ds a (i + 1) rest
theorem JAllq.all {P : Program} {ops : Array Oper} {V : Nat -> Value -> World -> Prop} {J : (Nat -> Prop) -> World -> Prop} {D A : List (List Nat)} {ds : List (Option Tmp)} {a : Act} (hn : dS ds) (hs : ∀ d, some d ∈ ds -> d < a.tmps.size) : ∀ (l : List Oper) (k : Nat), JAllq P ops V J D A ds a k l -> JAll P ops V J D A ds a k l := by
 intro l
 induction l with
 | nil => intro k _; trivial
 | cons o l ih => intro k h; exact ⟨JOp.of hn hs h.1, ih (k + 1) h.2⟩
def dT : List (Option Tmp) -> Bool
 | [] => true
 | d :: ds => ds.all (fun e => d == none || d != e) && dT ds
theorem dJ : ∀ (ds : List (Option Tmp)), dT ds = true -> dS ds := by
 intro ds
 induction ds with
 | nil => intro _; exact List.Pairwise.nil
 | cons d ds ih =>
  intro h;simp only [dT, Bool.and_eq_true] at h;refine List.Pairwise.cons (fun e he => ?_) (ih h.2);have := List.all_eq_true.1 h.1 e he;simp at this
  rcases this with h | h
  .
   exact .inl h
  .
   exact .inr h
theorem cC {ds : List (Option Tmp)} {N : Nat} (h : ds.all (fun x => match x with | some d => decide (d < N) | none => true) = true) {a : Act} (hs : N <= a.tmps.size) : ∀ d, some d ∈ ds -> d < a.tmps.size := fun d hd => by
 have := List.all_eq_true.1 h _ hd;simp at this;exact Nat.lt_of_lt_of_le this hs
/-- What the kernel looks at. -/
def jB (ops : Array Oper) (n : Nat) (ds : List (Option Tmp)) (D A : List (List Nat)) : Bool :=
 decide (n <= ops.size) && decide (ds.length = n) && dT ds && (List.range n).all (fun i => (((ops[i]?).map (·.dst)) == ds[i]?) && (D.getD i []).all (fun j => decide (j < i) && Region.waitsFor .any ops i j) && (A.getD i []).all (fun j => decide (j < n) && Region.waitsFor .any ops j i)) &&
 (List.range n).all (fun i => match ops[i]? with | some o => o.after.all (fun e => !Region.binds .any e || decide (e.on < i)) | none => false) &&
 (decide (n = ops.size) || (Region.sinkB .any ops n && Region.chainB .any ops n)) && Region.seqB .any ops (ops.size - n) n ((List.range ops.size).map (fun i => decide (i < n))).toArray
section
variable {P : Program} {l : List Oper} {n : Nat} {ds : List (Option Tmp)} {D A : List (List Nat)} {V : Nat -> Value -> World -> Prop} {J : (Nat -> Prop) -> World -> Prop} {a : Act} {Q : Exit -> Act -> World -> Prop}
theorem rQ (hB : jB l.toArray n ds D A = true) (hJ : ∀ p q W, (∀ k, p k ↔ q k) -> J p W -> J q W) (hop : JAll P l.toArray V J D A ds a 0 (l.take n))
  (hend : ∀ us W, (∀ j, j < n -> V j (us j) W) -> J (fun k => k < n) W -> wpList P l.toArray Q (l.drop n) (aM a ds us 0) W) :
  ∀ (f : Nat) (rem : List Nat) (listed : Array Bool) (us : Nat -> Value) (W : World), rem.length = f -> rem.Nodup -> HeadInv .any l.toArray n listed -> (∀ j, j < n -> (listed.getD j true = false ↔ j ∈ rem)) -> (∀ j ∈ rem, j < n) ->
   (∀ j, j < n -> j ∉ rem -> V j (us j) W) -> J (fun k => k < n /\ k ∉ rem) W -> wpAny P .any l.toArray Q (f + (l.toArray.size - n)) listed (aM a ds us 0) W := by
 simp only [jB, Bool.and_eq_true, decide_eq_true_eq] at hB;obtain ⟨⟨⟨⟨⟨⟨hn, hl⟩, hnt⟩, hD⟩, hless⟩, hsc⟩, hseq⟩ := hB;have hnd := dJ ds hnt;intro f
 induction f with
 | zero =>
  intro rem listed us W hlen _ inv hrem _ hV hX;obtain rfl : rem = [] := List.eq_nil_of_length_eq_zero hlen
  have hlist : listed = ((List.range l.toArray.size).map (fun i => decide (i < n))).toArray := by
   apply Array.ext
   .
    simp [inv.size]
   .
    intro i h1 h2;have hsz := inv.size;simp only [List.getElem_toArray, List.getElem_map, List.getElem_range]
    by_cases hi : i < n
    .
     have h3 := hrem i hi;simp only [List.not_mem_nil, iff_false, Bool.not_eq_false] at h3;have h4 : listed.getD i true = listed[i] := by simp [Array.getD, h1]
     rw [h4] at h3;simp [h3, hi]
    .
     have h3 := inv.tail i (by omega) (by omega);have h4 : listed.getD i true = listed[i] := by simp [Array.getD, h1]
     rw [h4] at h3;simp [h3, hi]
  have hdl : (l.drop n).length = l.toArray.size - n := by simp
  rw [Nat.zero_add, <- hdl];refine wpAny_of_seq (l.drop n) n listed _ W (fun j => by simp [List.getElem?_drop]) ?_ (hend us W (fun j hj => hV j hj (by simp)) (hJ _ _ W (by simp) hX));rw [hdl, hlist];exact hseq
 | succ f ih =>
  intro rem listed us W hlen hnodup inv hrem hlt hV hX;rw [show f + 1 + (l.toArray.size - n) = (f + (l.toArray.size - n)) + 1 by omega];have hne : rem ≠ [] := by intro e; subst e; simp at hlen
  refine ⟨fun h0 => ?_, fun i hi => ?_⟩
  .
   exfalso
   obtain ⟨k, hk, hmin⟩ : ∃ k ∈ rem, ∀ j ∈ rem, k <= j := by
    obtain ⟨m, hm, hm2⟩ := exists_least (p := fun m => m ∈ rem) (by cases rem with | nil => exact absurd rfl hne | cons x xs => exact ⟨x, List.mem_cons_self ..⟩);exact ⟨m, hm, fun j hj => hm2 j hj⟩
   have hkn := hlt k hk
   have hr : k ∈ Region.ready .any l.toArray listed := by
    refine mem_ready.2 ⟨(hrem k hkn).2 hk, ?_⟩;have h1 := List.all_eq_true.1 hless k (List.mem_range.2 hkn)
    cases ho : l.toArray[k]? with
    | none => rw [ho] at h1; simp at h1
    | some o =>
     rw [ho] at h1;refine ⟨o, rfl, fun e he hb => ?_⟩;have h2 := Array.all_eq_true_iff_forall_mem.1 h1 e he;simp only [hb, Bool.not_true, Bool.false_or, decide_eq_true_eq] at h2;have h3 : e.on ∉ rem := fun h => by have := hmin _ h; omega
     have h4 : listed.getD e.on true = true := by
      cases h5 : listed.getD e.on true with
      | true => rfl
      | false => exact absurd ((hrem e.on (by omega)).1 h5) h3
     have hsz : e.on < listed.size := by rw [inv.size]; omega
     simp [Array.getD, hsz] at h4 |-;exact h4
   rw [h0] at hr
   cases hr
  .
   obtain ⟨hun, o, ho, hall⟩ := mem_ready.1 hi;have hisz : i < l.toArray.size := (Array.getElem?_eq_some_iff.1 ho).1
   have hin : i < n := by
    rcases Nat.lt_or_ge i n with h | h
    .
     exact h
    .
     simp only [Bool.or_eq_true, Bool.and_eq_true, decide_eq_true_eq] at hsc
     rcases hsc with hsc | ⟨hs, hc⟩
     .
      omega
     .
      obtain ⟨k, hk⟩ : ∃ k, k ∈ rem := by cases rem with | nil => exact absurd rfl hne | cons x xs => exact ⟨x, List.mem_cons_self ..⟩
      exact absurd hi (tail_waits hs hc (by omega) inv _ k rfl (hlt k hk) ((hrem k (hlt k hk)).2 hk) i h)
   have hir : i ∈ rem := (hrem i hin).1 hun;have hDi := List.all_eq_true.1 hD i (List.mem_range.2 hin);simp only [Bool.and_eq_true, beq_iff_eq] at hDi;obtain ⟨⟨hdst, hdeps⟩, hafts⟩ := hDi;rw [ho] at hdst;simp only [Option.map_some] at hdst;have hm := JAll.at (l.take n) 0 hop i o (by rw [List.getElem?_take, if_pos hin]; simpa using ho);rw [Nat.zero_add] at hm
   have hdp : ∀ j ∈ D.getD i [], V j (us j) W /\ (j < n /\ j ∉ rem) := fun j hj => by
    have h1 := List.all_eq_true.1 hdeps j hj;simp only [Bool.and_eq_true, decide_eq_true_eq] at h1;obtain ⟨oj, hoj, e, he, hb, hon⟩ := Region.waitsFor_spec h1.2;have : oj = o := Option.some.inj (hoj.symm.trans ho);subst this;have h2 := hall e he hb;rw [hon] at h2
    have hjr : j ∉ rem := fun hjr => by
     have h3 := (hrem j (by omega)).2 hjr;rw [getD_both h3] at h2
     cases h2
    exact ⟨hV j (by omega) hjr, by omega, hjr⟩
   have haf : ∀ j ∈ A.getD i [], ¬ (j < n /\ j ∉ rem) := fun j hj hd => by
    have h1 := List.all_eq_true.1 hafts j hj;simp only [Bool.and_eq_true, decide_eq_true_eq] at h1;obtain ⟨oj, hoj, e, he, hb, hon⟩ := Region.waitsFor_spec h1.2
    have h4 : listed.getD j false = true := by
     have h5 : listed.getD j true = true := by
      cases h5 : listed.getD j true with
      | true => rfl
      | false => exact absurd ((hrem j hd.1).1 h5) hd.2
     have hsz : j < listed.size := by rw [inv.size]; omega
     simp [Array.getD, hsz] at h5 |-;exact h5
    have h6 := inv.closed j oj hoj h4 e he hb;rw [hon, getD_both hun] at h6
    cases h6
   have key : ∀ v W', V i v W' -> (∀ j u, (j < n /\ j ∉ rem) -> V j u W -> V j u W') -> J (fun k => (k < n /\ k ∉ rem) \/ k = i) W' -> wpAny P .any l.toArray Q (f + (l.toArray.size - n)) (listed.setIfInBounds i true) ((aM a ds us 0).put o.dst v) W' := fun v W' hv hst hj => by
    rw [fQ us v ds hnd a 0 i o.dst hdst.symm, Nat.zero_add];refine ih (rem.erase i) _ (et us i v) W' (by rw [List.length_erase_of_mem hir]; omega) (hnodup.erase i) (inv.set hi hin) (fun j hj => ?_) (fun j hj => hlt j (List.mem_of_mem_erase hj)) (fun j hj hjr => ?_) (hJ _ _ W' (fun k => ?_) hj)
    .
     by_cases hji : i = j
     .
      subst hji;have hsz : i < listed.size := by rw [inv.size]; omega
      simp [Array.getD, hsz];exact fun h => (hnodup.mem_erase_iff.1 h).1 rfl
     .
      rw [getD_set_ne true hji, hrem j hj, hnodup.mem_erase_iff];exact ⟨fun h => ⟨Ne.symm hji, h⟩, fun h => h.2⟩
    .
     by_cases hji : j = i
     .
      subst hji; simpa [et] using hv
     .
      have : et us i v j = us j := by simp [et, hji]
      rw [this];have hjr' : j ∉ rem := fun h => hjr (hnodup.mem_erase_iff.2 ⟨hji, h⟩)
      exact hst j _ ⟨hj, hjr'⟩ (hV j hj hjr')
    .
     rw [hnodup.mem_erase_iff];constructor
     .
      rintro (⟨h1, h2⟩ | rfl)
      .
       exact ⟨h1, fun h => h2 h.2⟩
      .
       exact ⟨hin, fun h => h.1 rfl⟩
     .
      rintro ⟨h1, h2⟩
      by_cases hki : k = i
      .
       exact .inr hki
      .
       exact .inl ⟨h1, fun h => h2 ⟨hki, h⟩⟩
   unfold wpOp;rw [ho];simp only;have hgo := hm (fun k => k < n /\ k ∉ rem) us W hX hdp haf (fun h => h.2 hir) (wpAny P .any l.toArray Q (f + (l.toArray.size - n)) (listed.setIfInBounds i true)) key Q;split
   .
    rename_i hw; rw [if_pos hw] at hgo; exact .inl hgo
   .
    rename_i hw; rw [if_neg hw] at hgo; exact hgo
/-- THE LAW. -/
theorem bA {id : Nat} {w : World} (n : Nat) (ds : List (Option Tmp)) (D A : List (List Nat)) (V : Nat -> Value -> World -> Prop) (J : (Nat -> Prop) -> World -> Prop) (hm : P.follows .mixedOrders = true) (hB : jB l.toArray n ds D A = true)
  (hd : ∀ d, some d ∈ ds -> d < a.tmps.size) (hJ : ∀ p q W, (∀ k, p k ↔ q k) -> J p W -> J q W) (h0 : J (fun _ => False) w.drew) (hop : JAllq P l.toArray V J D A ds a 0 (l.take n))
  (hend : ∀ us W, (∀ j, j < n -> V j (us j) W) -> J (fun k => k < n) W -> wpList P l.toArray Q (l.drop n) (aM a ds us 0) W) : (Code.region id l.toArray true).wp P Q a w := by
 refine wp_region_any hm ?_;have hB' := hB;simp only [jB, Bool.and_eq_true, decide_eq_true_eq] at hB';obtain ⟨⟨⟨⟨⟨⟨hn, hl⟩, hnt⟩, _⟩, _⟩, _⟩, _⟩ := hB'
 have h := rQ hB hJ (JAllq.all (dJ ds hnt) hd _ 0 hop) hend n (List.range n) (Array.replicate l.toArray.size false) (fun j => a.tmps.getD ((ds.getD j none).getD 0) undef) w.drew (by simp) List.nodup_range
  ⟨by simp, fun j oj _ hl => (by rw [getD_replicate_false] at hl; cases hl), fun t _ ht => getD_in (by simpa using ht) (getD_replicate_false _ _)⟩
  (fun j hj => ⟨fun _ => List.mem_range.2 hj, fun _ => getD_in (by simp at hn |-; omega) (getD_replicate_false _ _)⟩) (fun j hj => List.mem_range.1 hj)
  (fun j hj h => absurd (List.mem_range.2 hj) h) (hJ _ _ _ (fun k => by simp) h0)
 rw [eJ ds a 0 _ hd (fun i d hi => by simp [List.getD, hi])] at h;have e : n + (l.toArray.size - n) = l.toArray.size := by omega
 rw [e] at h;exact h
end
/-- What an operation's value is: known, or told by a predicate that growing memory leaves as it is. -/
inductive Sp where
 | c (v : Value)
 | p (P : Value -> World -> Prop)
def Sp.at : Sp -> Value -> World -> Prop
 | .c x, v, _ => v = x
 | .p P, v, W => P v W
def Vs (Ps : List Sp) (i : Nat) (v : Value) (W : World) : Prop := (Ps.getD i (.p fun _ _ => True)).at v W
def Mos : List Sp -> Prop
 | [] => True
 | .c _ :: l => Mos l
 | .p P :: l => (∀ v W W', P v W -> Ext W W' -> P v W') /\ Mos l
theorem Mos.at : ∀ {Ps : List Sp}, Mos Ps -> ∀ (i : Nat) {v : Value} {W W' : World}, Vs Ps i v W -> Ext W W' -> Vs Ps i v W'
 | [], _, _, _, _, _, _, _ => by simp [Vs, Sp.at]
 | .c _ :: _, _, 0, _, _, _, h, _ => h
 | .p _ :: _, hm, 0, v, W, W', h, hX => hm.1 v W W' h hX
 | .c _ :: l, hm, i + 1, _, _, _, h, hX => Mos.at (Ps := l) hm i h hX
 | .p _ :: l, hm, i + 1, _, _, _, h, hX => Mos.at (Ps := l) hm.2 i h hX
/-- What is known of the values that an operation uses. -/
def am (b : Act) (W : World) (u : Value) (d : Tmp) : Sp -> Prop -> Prop
 | .c x, r => b.tmps[d]? = some x -> r
 | .p P, r => b.tmps[d]? = some u -> P u W -> r
def aC (ds : List Tmp) (Ps : List Sp) (us : Nat -> Value) (b : Act) (W : World) : List Nat -> Prop -> Prop
 | [], r => r
 | j :: l, r => am b W (us j) (ds.getD j 0) (Ps.getD j (.p fun _ _ => True)) (aC ds Ps us b W l r)
def al (b : Act) : List (Tmp × Value) -> Prop -> Prop
 | [], r => r
 | s :: l, r => b.tmps[s.1]? = some s.2 -> al b l r
/-- The slots that the region reads. -/
def j3 (a : Act) : List (Tmp × Value) -> Prop
 | [] => True
 | s :: l => a.tmps[s.1]? = some s.2 /\ j3 a l
theorem fS {a b : Act} {r : Prop} {ds : List Tmp} (hb : ∀ d, some d ∉ ds.map some -> b.tmps[d]? = a.tmps[d]?) : ∀ {S : List (Tmp × Value)}, j3 a S -> S.all (fun s => !ds.contains s.1) = true -> al b S r -> r
 | [], _, _, h => h
 | s :: l, hs, hc, h => by
  simp only [List.all_cons, Bool.and_eq_true] at hc;refine fS hb hs.2 hc.2 (h ?_);rw [hb s.1 (by intro hm; obtain ⟨x, hx, e⟩ := List.mem_map.1 hm; injection e with e; subst e; simp [hx] at hc)];exact hs.1
theorem gU {b : Act} {r : Prop} {ds : List Tmp} {Ps : List Sp} {us : Nat -> Value} {W : World} (hl : Ps.length = ds.length) (hb : ∀ j d, (ds.map some)[j]? = some (some d) -> b.tmps[d]? = some (us j)) : ∀ {L : List Nat}, (∀ j ∈ L, j < ds.length /\ Vs Ps j (us j) W) -> aC ds Ps us b W L r -> r
 | [], _, h => h
 | j :: l, hd, h => by
  obtain ⟨h1, h2⟩ := hd j (by simp)
  have hj : (ds.map some)[j]? = some (some (ds.getD j 0)) := by
   rw [List.getElem?_map, List.getElem?_eq_getElem h1, List.getD_eq_getElem?_getD, List.getElem?_eq_getElem h1];rfl
  have hv := hb j _ hj;refine gU hl hb (L := l) (fun k hk => hd k (List.mem_cons_of_mem _ hk)) ?_;unfold aC at h;revert h;unfold Vs at h2;revert h2
  cases Ps.getD j (.p fun _ _ => True) with
  | c x => intro h2 h; exact h (by rw [hv]; exact congrArg some h2)
  | p P => intro h2 h; exact h hv h2
/-- What one operation must give. -/
def sI (P : Program) (ops : Array Oper) (Ps : List Sp) (w : World) (D : List (List Nat)) (ds : List Tmp) (S : List (Tmp × Value)) (i : Nat) (o : Oper) : Prop :=
 ∀ (us : Nat -> Value) (W : World) (b : Act), Ext w W -> ∀ K : Act -> World -> Prop,
  (∀ v, Vs Ps i v W -> K (b.put o.dst v) W) -> (∀ v W', Vs Ps i v W' -> Ext W W' -> K (b.put o.dst v) W') -> ∀ Q' : Exit -> Act -> World -> Prop,
  aC ds Ps us b W (D.getD i []) (al b S (if Region.wanted o (yielded ops b.tmps) then o.wp P b W K Q' else K (b.put o.dst undef) W))
def KAs (P : Program) (ops : Array Oper) (Ps : List Sp) (w : World) (D : List (List Nat)) (ds : List Tmp) (S : List (Tmp × Value)) : Nat -> List Oper -> Prop
 | _, [] => True
 | i, o :: rest => sI P ops Ps w D ds S i o /\ KAs P ops Ps w D ds S (i + 1) rest
theorem KAs.j {P : Program} {ops : Array Oper} {Ps : List Sp} {w : World} {D : List (List Nat)} {ds : List Tmp} {S : List (Tmp × Value)} {a : Act} (hm : Mos Ps) (hl : Ps.length = ds.length) (hD : D.all (fun l => l.all fun j => decide (j < ds.length)) = true) (hS : j3 a S) (hc : S.all (fun s => !ds.contains s.1) = true) : ∀ (l : List Oper) (k : Nat), KAs P ops Ps w D ds S k l -> JAllq P ops (Vs Ps) (fun _ W => Ext w W) D [] (ds.map some) a k l := by
 intro l
 induction l with
 | nil => intro k _; trivial
 | cons o l ih =>
  intro k h;refine ⟨fun done us W hJ hdep haft hnot b hb hb' K hK Q' => ?_, ih (k + 1) h.2⟩;have h1 := h.1 us W b hJ K (fun v hv => hK v W hv (fun _ _ _ q => q) hJ) (fun v W' hv hX => hK v W' hv (fun j u _ q => hm.at j q hX) (hJ.trans hX)) Q';refine fS hb' hS hc (gU hl hb (fun j hj => ⟨?_, (hdep j hj).1⟩) h1)
  have hk : k < D.length := by
   rcases Nat.lt_or_ge k D.length with q | q
   .
    exact q
   .
    rw [List.getD_eq_getElem?_getD, List.getElem?_eq_none q] at hj; simp at hj
  have hmem : D.getD k [] ∈ D := by rw [List.getD_eq_getElem?_getD, List.getElem?_eq_getElem hk]; exact List.getElem_mem hk
  have := List.all_eq_true.1 (List.all_eq_true.1 hD _ hmem) j hj;exact of_decide_eq_true this
/-- What may be used behind the region. -/
def EndK (W : World) (fin : Act -> Prop) : List Tmp -> List Sp -> Act -> Prop
 | [], _, a => fin a
 | _ :: _, [], a => fin a
 | d :: ds, .c x :: Ps, a => EndK W fin ds Ps (a.put (some d) x)
 | d :: ds, .p P :: Ps, a => ∀ v, P v W -> EndK W fin ds Ps (a.put (some d) v)
theorem EndK.use {W : World} {fin : Act -> Prop} {us : Nat -> Value} : ∀ {ds : List Tmp} {Ps : List Sp} {a : Act} {k : Nat}, EndK W fin ds Ps a -> Ps.length = ds.length -> (∀ j, j < Ps.length -> Vs Ps j (us (k + j)) W) -> fin (aM a (ds.map some) us k)
 | [], [], _, _, h, _, _ => h
 | d :: ds, .c x :: Ps, a, k, h, hl, hv => by
  have h0 : us k = x := hv 0 (by simp);have := EndK.use (ds := ds) (Ps := Ps) (k := k + 1) (us := us) h (by simpa using hl) (fun j hj => by have := hv (j + 1) (by simpa using hj); rw [show k + 1 + j = k + (j + 1) by omega]; exact this);rw [<- h0] at this;exact this
 | d :: ds, .p P :: Ps, a, k, h, hl, hv =>
  EndK.use (ds := ds) (Ps := Ps) (k := k + 1) (us := us) (h (us k) (hv 0 (by simp))) (by simpa using hl) (fun j hj => by have := hv (j + 1) (by simpa using hj); rw [show k + 1 + j = k + (j + 1) by omega]; exact this)
 | [], _ :: _, _, _, _, hl, _ => by simp at hl
 | _ :: _, [], _, _, _, hl, _ => by simp at hl
/-- The law of a region. -/
def aF (P : Program) (f : Func) (R n N : Nat) (w : World) (ds : List Tmp) (Ps : List Sp) (S : List (Tmp × Value)) : Prop :=
 ∀ (a : Act) (Q : Exit -> Act -> World -> Prop), N <= a.tmps.size -> j3 a S -> (∀ W, Ext w W -> EndK W (fun b => wpList P (ae f R).toArray Q ((ae f R).drop n) b W) ds Ps a) -> (Code.region R (ae f R).toArray true).wp P Q a w
theorem aJ {P : Program} {f : Func} {R n N : Nat} {w : World} {ds : List Tmp} {Ps : List Sp} {S : List (Tmp × Value)} (D : List (List Nat)) (hm : P.follows .mixedOrders = true) (hB : jB (ae f R).toArray n (ds.map some) D [] = true)
  (hk : (decide (ds.length = n) && decide (Ps.length = n) && D.all (fun l => l.all fun j => decide (j < n)) && ds.all (fun d => decide (d < N)) && S.all (fun s => !ds.contains s.1)) = true) (hmon : Mos Ps) (hop : KAs P (ae f R).toArray Ps w D ds S 0 ((ae f R).take n)) : aF P f R n N w ds Ps S := by
 intro a Q hs hS hend;simp only [Bool.and_eq_true, decide_eq_true_eq] at hk;obtain ⟨⟨⟨⟨h1, h2⟩, h3⟩, h4⟩, h5⟩ := hk;refine bA n (ds.map some) D [] (Vs Ps) (fun _ W => Ext w W) hm hB ?_ (fun _ _ _ _ h => h) ((Ext.refl w).drew) (hop.j hmon (by omega) (by rw [h1]; exact h3) hS h5) ?_
 .
  intro d hd;obtain ⟨x, hx, e⟩ := List.mem_map.1 hd;injection e with e;subst e;exact Nat.lt_of_lt_of_le (of_decide_eq_true (List.all_eq_true.1 h4 _ hx)) hs
 .
  intro us W hV hJ;exact EndK.use (k := 0) (hend W hJ) (by omega) (fun j hj => by rw [Nat.zero_add]; exact hV j (by omega))
/-- The value is c. -/
def cd (c : Value) : Value -> World -> Prop := fun v _ => v = c
def Vl (Ps : List (Value -> World -> Prop)) (i : Nat) (v : Value) (W : World) : Prop := Ps.getD i (fun _ _ => True) v W
/-- Growing memory leaves each predicate as it is. -/
def Mon : List (Value -> World -> Prop) -> Prop
 | [] => True
 | P :: l => (∀ v W W', P v W -> Ext W W' -> P v W') /\ Mon l
theorem aN {c : Value} : ∀ v W W', cd c v W -> Ext W W' -> cd c v W' := fun _ _ _ h _ => h
theorem Mon.at : ∀ {Ps : List (Value -> World -> Prop)}, Mon Ps -> ∀ (i : Nat) {v : Value} {W W' : World}, Vl Ps i v W -> Ext W W' -> Vl Ps i v W'
 | [], _, _, _, _, _, _, _ => by simp [Vl]
 | _ :: _, hm, 0, v, W, W', h, hX => hm.1 v W W' h hX
 | _ :: _, hm, i + 1, _, _, _, h, hX => Mon.at hm.2 i h hX
/-- What the values are that an operation uses. -/
def Deps (Ps : List (Value -> World -> Prop)) (us : Nat -> Value) (W : World) : List Nat -> Prop
 | [] => True
 | [j] => Vl Ps j (us j) W
 | j :: k :: l => Vl Ps j (us j) W /\ Deps Ps us W (k :: l)
theorem Deps.of {Ps : List (Value -> World -> Prop)} {us : Nat -> Value} {W : World} {p : Nat -> Prop} : ∀ {L : List Nat}, (∀ j ∈ L, Vl Ps j (us j) W /\ p j) -> Deps Ps us W L
 | [], _ => trivial
 | [j], h => (h j (by simp)).1
 | j :: k :: l, h => ⟨(h j (by simp)).1, Deps.of (L := k :: l) (fun q hq => h q (List.mem_cons_of_mem _ hq))⟩
/-- What one operation must give. -/
def sJ (P : Program) (ops : Array Oper) (Ps : List (Value -> World -> Prop)) (w : World) (D : List (List Nat)) (ds : List (Option Tmp)) (a : Act) (i : Nat) (o : Oper) : Prop :=
 ∀ (us : Nat -> Value) (W : World), Ext w W -> Deps Ps us W (D.getD i []) -> ∀ b : Act, (∀ j d, ds[j]? = some (some d) -> b.tmps[d]? = some (us j)) -> (∀ d, some d ∉ ds -> b.tmps[d]? = a.tmps[d]?) -> ∀ K : Act -> World -> Prop,
  (∀ v, Vl Ps i v W -> K (b.put o.dst v) W) -> (∀ v W', Vl Ps i v W' -> Ext W W' -> K (b.put o.dst v) W') -> ∀ Q' : Exit -> Act -> World -> Prop,
  if Region.wanted o (yielded ops b.tmps) then o.wp P b W K Q' else K (b.put o.dst undef) W
def KAll (P : Program) (ops : Array Oper) (Ps : List (Value -> World -> Prop)) (w : World) (D : List (List Nat)) (ds : List (Option Tmp)) (a : Act) : Nat -> List Oper -> Prop
 | _, [] => True
 | i, o :: rest => sJ P ops Ps w D ds a i o /\ KAll P ops Ps w D ds a (i + 1) rest
theorem KAll.j {P : Program} {ops : Array Oper} {Ps : List (Value -> World -> Prop)} {w : World} {D : List (List Nat)} {ds : List (Option Tmp)} {a : Act} (hm : Mon Ps) : ∀ (l : List Oper) (k : Nat), KAll P ops Ps w D ds a k l -> JAllq P ops (Vl Ps) (fun _ W => Ext w W) D [] ds a k l := by
 intro l
 induction l with
 | nil => intro k _; trivial
 | cons o l ih =>
  intro k h;refine ⟨fun done us W hJ hdep haft hnot b hb hb' K hK Q' => ?_, ih (k + 1) h.2⟩;exact h.1 us W hJ (.of hdep) b hb hb' K (fun v hv => hK v W hv (fun _ _ _ q => q) hJ) (fun v W' hv hX => hK v W' hv (fun j u _ q => hm.at j q hX) (hJ.trans hX)) Q'
/-- What all values are. -/
def VAll (us : Nat -> Value) (W : World) : List (Value -> World -> Prop) -> Nat -> Prop
 | [], _ => True
 | P :: l, k => P (us k) W /\ VAll us W l (k + 1)
theorem VAll.of {us : Nat -> Value} {W : World} : ∀ {Ps : List (Value -> World -> Prop)} {k : Nat}, (∀ j, j < Ps.length -> Vl Ps j (us (k + j)) W) -> VAll us W Ps k
 | [], _, _ => trivial
 | _ :: Ps, k, h => ⟨h 0 (by simp), VAll.of (Ps := Ps) (k := k + 1) (fun j hj => by have := h (j + 1) (by simpa using hj); rw [show k + 1 + j = k + (j + 1) by omega]; exact this)⟩
/-- A slot's value, known. -/
theorem ay {b : Act} {d : Tmp} {u c : Value} (h : b.tmps[d]? = some u) (e : u = c) : b.tmps[d]? = some c := by
 rw [h, e]
section
variable {P : Program} {l : List Oper} {a : Act} {Q : Exit -> Act -> World -> Prop}
theorem bB {id : Nat} {w : World} (n : Nat) (ds : List (Option Tmp)) (D : List (List Nat)) (Ps : List (Value -> World -> Prop)) {N : Nat} (hm : P.follows .mixedOrders = true) (hB : jB l.toArray n ds D [] = true) (_hn : Ps.length = n)
  (hd : ds.all (fun x => match x with | some d => decide (d < N) | none => true) = true) (hs : N <= a.tmps.size) (hmon : Mon Ps) (hop : KAll P l.toArray Ps w D ds a 0 (l.take n))
  (hend : ∀ us W, VAll us W Ps 0 -> Ext w W -> wpList P l.toArray Q (l.drop n) (aM a ds us 0) W) : (Code.region id l.toArray true).wp P Q a w := by
 refine bA n ds D [] (Vl Ps) (fun _ W => Ext w W) hm hB (cC hd hs) (fun _ _ _ _ h => h) ((Ext.refl w).drew) (hop.j hmon) ?_;intro us W hV hJ;exact hend us W (VAll.of (fun j hj => by rw [Nat.zero_add]; exact hV j (by omega))) hJ
end
theorem gh (g off gv p cu cv k : Nat) (uk' vk cc : Int) (w : World) (_hcu : w.cell? ⟨g, off + k, none⟩ = some (.int .u32 uk')) (_hcv : w.cell? ⟨gv, k, none⟩ = some (.int .u32 vk)) (_hfu : w.frozen? ⟨g, off + k, none⟩ = false) (huk0 : 0 <= uk') (huk1 : uk' <= 4294967295) (hvk0 : 0 <= vk) (hvk1 : vk <= 4294967295) (hcc0 : 0 <= cc) (hcc1 : cc <= 1) (_hk0 : (0 : Int) <= (k : Int)) (_hk1 : (k : Int) < (p : Int) + 2) (_hk2 : (k : Int) < (p : Int) + 3) (a : Act) (Q : Exit -> Act -> World -> Prop) (hsize : 157 <= a.tmps.size)
  (s0 : a.tmps[0]? = some (.slice (some ⟨g, off, none⟩) (p + 3) cu))
  (s1 : a.tmps[1]? = some (.slice (some ⟨gv, 0, none⟩) (p + 2) cv))
  (s15 : a.tmps[15]? = some (.int .u32 cc))
  (s16 : a.tmps[16]? = some (.int .i64 (k : Int)))
  (hend : ∀ (x0 x1 x2 x3 x4 x5 x6 x7 x8 x9 x10 x11 x12 x13 x14 x15 x16 : Value) (W : World), (x0 = .slice (some ⟨g, off, none⟩) (p + 3) cu) -> (x1 = .int .i64 (k : Int)) -> (x2 = .slice (some ⟨g, off, none⟩) (p + 3) cu) -> (x3 = .int .i64 (k : Int)) -> (x4 = .pointer (some ⟨g, off + k, none⟩)) -> (x5 = .int .u32 uk') -> (x6 = .slice (some ⟨gv, 0, none⟩) (p + 2) cv) -> (x7 = .int .i64 (k : Int)) -> (x8 = .pointer (some ⟨gv, k, none⟩)) -> (x9 = .int .u32 vk) -> (x10 = .int .u32 cc) -> (x11 = .tuple #[.int .u32 ((uk' + vk + cc) % 4294967296), .int .u32 ((uk' + vk + cc) / 4294967296)]) -> (x12 = .tuple #[.int .u32 ((uk' + vk + cc) % 4294967296), .int .u32 ((uk' + vk + cc) / 4294967296)]) -> (x13 = .int .u32 ((uk' + vk + cc) % 4294967296)) -> (x14 = .int .u32 ((uk' + vk + cc) / 4294967296)) -> (x15 = .pointer (some ⟨g, off + k, none⟩)) -> (True) -> W = w.drew.setCell ⟨g, off + k, none⟩ (.int .u32 ((uk' + vk + cc) % 4294967296)) -> wpList Try.prog (ae Try.f205 27).toArray Q ((ae Try.f205 27).drop 17) (((((((((((((((((a.put (some 142) x0).put (some 143) x1).put (some 144) x2).put (some 145) x3).put (some 146) x4).put (some 147) x5).put (some 148) x6).put (some 149) x7).put (some 150) x8).put (some 151) x9).put (some 152) x10).put (some 153) x11).put (some 141) x12).put (some 154) x13).put (some 155) x14).put (some 156) x15).put (none) x16) W) :
  (Code.region 27 (ae Try.f205 27).toArray true).wp Try.prog Q a w := by
 have hsz : ∀ d, some d ∈ ([some 142, some 143, some 144, some 145, some 146, some 147, some 148, some 149, some 150, some 151, some 152, some 153, some 141, some 154, some 155, some 156, none] : List (Option Tmp)) -> d < a.tmps.size := cC (by decide) hsize
 refine bA 17 [some 142, some 143, some 144, some 145, some 146, some 147, some 148, some 149, some 150, some 151, some 152, some 153, some 141, some 154, some 155, some 156, none] [[], [], [], [], [2, 3], [4], [], [], [6, 7], [8], [], [5, 9, 10], [11], [12], [12], [0, 1], [13, 15]] [[], [], [], [], [], [16], [], [], [], [16], [], [16], [], [], [], [], []] (fun i v _ => match i with
  | 0 => v = .slice (some ⟨g, off, none⟩) (p + 3) cu
  | 1 => v = .int .i64 (k : Int)
  | 2 => v = .slice (some ⟨g, off, none⟩) (p + 3) cu
  | 3 => v = .int .i64 (k : Int)
  | 4 => v = .pointer (some ⟨g, off + k, none⟩)
  | 5 => v = .int .u32 uk'
  | 6 => v = .slice (some ⟨gv, 0, none⟩) (p + 2) cv
  | 7 => v = .int .i64 (k : Int)
  | 8 => v = .pointer (some ⟨gv, k, none⟩)
  | 9 => v = .int .u32 vk
  | 10 => v = .int .u32 cc
  | 11 => v = .tuple #[.int .u32 ((uk' + vk + cc) % 4294967296), .int .u32 ((uk' + vk + cc) / 4294967296)]
  | 12 => v = .tuple #[.int .u32 ((uk' + vk + cc) % 4294967296), .int .u32 ((uk' + vk + cc) / 4294967296)]
  | 13 => v = .int .u32 ((uk' + vk + cc) % 4294967296)
  | 14 => v = .int .u32 ((uk' + vk + cc) / 4294967296)
  | 15 => v = .pointer (some ⟨g, off + k, none⟩)
  | 16 => True
  | _ => True) (fun done W => (¬ done 16 -> W = w.drew) /\ (done 16 -> W = w.drew.setCell ⟨g, off + k, none⟩ (.int .u32 ((uk' + vk + cc) % 4294967296)))) (by kernel_rfl) (by kernel_rfl) hsz (fun p q W h hJ => ⟨fun hn => hJ.1 (fun hp => hn ((h 16).1 hp)), fun hq => hJ.2 ((h 16).2 hq)⟩) ⟨fun _ => rfl, fun h => h.elim⟩ ?_ ?_
 .
  clear hend;simp only [ae, Try.f205, ab, Option.bind_some, Nat.reduceBEq, if_true, if_false, Bool.false_eq_true, Option.getD_some];simp only [List.take_succ_cons, List.take_zero];refine ⟨?_, ?_, ?_, ?_, ?_, ?_, ?_, ?_, ?_, ?_, ?_, ?_, ?_, ?_, ?_, ?_, ?_, trivial⟩
  .
   intro done us W hJ hdep haft hnot b hb hb' K hK Q';have e0 := (hb' 0 (by simp)).trans s0;clear hb hb';go_simp;exact hK _ _ rfl (fun _ _ _ h => h) (by simpa using hJ)
  .
   intro done us W hJ hdep haft hnot b hb hb' K hK Q';have e16 := (hb' 16 (by simp)).trans s16;clear hb hb';go_simp;exact hK _ _ rfl (fun _ _ _ h => h) (by simpa using hJ)
  .
   intro done us W hJ hdep haft hnot b hb hb' K hK Q';have e0 := (hb' 0 (by simp)).trans s0;clear hb hb';go_simp;exact hK _ _ rfl (fun _ _ _ h => h) (by simpa using hJ)
  .
   intro done us W hJ hdep haft hnot b hb hb' K hK Q';have e16 := (hb' 16 (by simp)).trans s16;clear hb hb';go_simp;exact hK _ _ rfl (fun _ _ _ h => h) (by simpa using hJ)
  .
   intro done us W hJ hdep haft hnot b hb hb' K hK Q';simp only [List.getD_cons_succ, List.getD_cons_zero, List.mem_cons, List.not_mem_nil, or_false, forall_eq_or_imp, forall_eq] at hdep;have e144 := hb 2 144 rfl;have e145 := hb 3 145 rfl;have d2 := hdep.1;have d3 := hdep.2;rw [d2.1] at e144;rw [d3.1] at e145;clear hb hb' hdep d2 d3;go_simp;exact hK _ _ rfl (fun _ _ _ h => h) (by simpa using hJ)
  .
   intro done us W hJ hdep haft hnot b hb hb' K hK Q';simp only [List.getD_cons_succ, List.getD_cons_zero, List.mem_cons, List.not_mem_nil, or_false, forall_eq] at hdep;simp only [List.getD_cons_succ, List.getD_cons_zero, List.mem_cons, List.not_mem_nil, or_false, forall_eq] at haft;have e146 := hb 4 146 rfl;have d4 := hdep;rw [d4.1] at e146;clear hb hb' hdep d4;obtain rfl := hJ.1 haft;go_simp;exact hK _ _ rfl (fun _ _ _ h => h) (by simpa using hJ)
  .
   intro done us W hJ hdep haft hnot b hb hb' K hK Q';have e1 := (hb' 1 (by simp)).trans s1;clear hb hb';go_simp;exact hK _ _ rfl (fun _ _ _ h => h) (by simpa using hJ)
  .
   intro done us W hJ hdep haft hnot b hb hb' K hK Q';have e16 := (hb' 16 (by simp)).trans s16;clear hb hb';go_simp;exact hK _ _ rfl (fun _ _ _ h => h) (by simpa using hJ)
  .
   intro done us W hJ hdep haft hnot b hb hb' K hK Q';simp only [List.getD_cons_succ, List.getD_cons_zero, List.mem_cons, List.not_mem_nil, or_false, forall_eq_or_imp, forall_eq] at hdep;have e148 := hb 6 148 rfl;have e149 := hb 7 149 rfl;have d6 := hdep.1;have d7 := hdep.2;rw [d6.1] at e148;rw [d7.1] at e149;clear hb hb' hdep d6 d7;go_simp;exact hK _ _ rfl (fun _ _ _ h => h) (by simpa using hJ)
  .
   intro done us W hJ hdep haft hnot b hb hb' K hK Q';simp only [List.getD_cons_succ, List.getD_cons_zero, List.mem_cons, List.not_mem_nil, or_false, forall_eq] at hdep;simp only [List.getD_cons_succ, List.getD_cons_zero, List.mem_cons, List.not_mem_nil, or_false, forall_eq] at haft;have e150 := hb 8 150 rfl;have d8 := hdep;rw [d8.1] at e150;clear hb hb' hdep d8;obtain rfl := hJ.1 haft;go_simp;exact hK _ _ rfl (fun _ _ _ h => h) (by simpa using hJ)
  .
   intro done us W hJ hdep haft hnot b hb hb' K hK Q';have e15 := (hb' 15 (by simp)).trans s15;clear hb hb';go_simp;exact hK _ _ rfl (fun _ _ _ h => h) (by simpa using hJ)
  .
   intro done us W hJ hdep haft hnot b hb hb' K hK Q';simp only [List.getD_cons_succ, List.getD_cons_zero, List.mem_cons, List.not_mem_nil, or_false, forall_eq_or_imp, forall_eq] at hdep;simp only [List.getD_cons_succ, List.getD_cons_zero, List.mem_cons, List.not_mem_nil, or_false, forall_eq] at haft;have e147 := hb 5 147 rfl;have e151 := hb 9 151 rfl;have e152 := hb 10 152 rfl;have d5 := hdep.1;have d9 := hdep.2.1;have d10 := hdep.2.2;rw [d5.1] at e147;rw [d9.1] at e151;rw [d10.1] at e152;clear hb hb' hdep d5 d9 d10;obtain rfl := hJ.1 haft;go_simp;refine (cT uk' vk cc _ ⟨huk0, huk1⟩ ⟨hvk0, hvk1⟩ ⟨hcc0, hcc1⟩).mono ?_;rintro e w' ⟨rfl, rfl⟩;exact hK _ _ rfl (fun _ _ _ h => h) (by simpa using hJ)
  .
   intro done us W hJ hdep haft hnot b hb hb' K hK Q';simp only [List.getD_cons_succ, List.getD_cons_zero, List.mem_cons, List.not_mem_nil, or_false, forall_eq] at hdep;have e153 := hb 11 153 rfl;have d11 := hdep;rw [d11.1] at e153;clear hb hb' hdep d11;go_simp;exact hK _ _ rfl (fun _ _ _ h => h) (by simpa using hJ)
  .
   intro done us W hJ hdep haft hnot b hb hb' K hK Q';simp only [List.getD_cons_succ, List.getD_cons_zero, List.mem_cons, List.not_mem_nil, or_false, forall_eq] at hdep;have e141 := hb 12 141 rfl;have d12 := hdep;rw [d12.1] at e141;clear hb hb' hdep d12;go_simp;exact hK _ _ rfl (fun _ _ _ h => h) (by simpa using hJ)
  .
   intro done us W hJ hdep haft hnot b hb hb' K hK Q';simp only [List.getD_cons_succ, List.getD_cons_zero, List.mem_cons, List.not_mem_nil, or_false, forall_eq] at hdep;have e141 := hb 12 141 rfl;have d12 := hdep;rw [d12.1] at e141;clear hb hb' hdep d12;go_simp;exact hK _ _ rfl (fun _ _ _ h => h) (by simpa using hJ)
  .
   intro done us W hJ hdep haft hnot b hb hb' K hK Q';simp only [List.getD_cons_succ, List.getD_cons_zero, List.mem_cons, List.not_mem_nil, or_false, forall_eq_or_imp, forall_eq] at hdep;have e142 := hb 0 142 rfl;have e143 := hb 1 143 rfl;have d0 := hdep.1;have d1 := hdep.2;rw [d0.1] at e142;rw [d1.1] at e143;clear hb hb' hdep d0 d1;go_simp;exact hK _ _ rfl (fun _ _ _ h => h) (by simpa using hJ)
  .
   intro done us W hJ hdep haft hnot b hb hb' K hK Q';simp only [List.getD_cons_succ, List.getD_cons_zero, List.mem_cons, List.not_mem_nil, or_false, forall_eq_or_imp, forall_eq] at hdep;have e154 := hb 13 154 rfl;have e156 := hb 15 156 rfl;have d13 := hdep.1;have d15 := hdep.2;rw [d13.1] at e154;rw [d15.1] at e156;clear hb hb' hdep d13 d15;obtain rfl := hJ.1 hnot;go_simp;exact hK undef _ trivial (fun _ _ _ h => h) ⟨fun h => absurd (Or.inr rfl) h, fun _ => rfl⟩
 .
  intro us W hV hJ;exact hend (us 0) (us 1) (us 2) (us 3) (us 4) (us 5) (us 6) (us 7) (us 8) (us 9) (us 10) (us 11) (us 12) (us 13) (us 14) (us 15) (us 16) W (hV 0 (by omega)) (hV 1 (by omega)) (hV 2 (by omega)) (hV 3 (by omega)) (hV 4 (by omega)) (hV 5 (by omega)) (hV 6 (by omega)) (hV 7 (by omega)) (hV 8 (by omega)) (hV 9 (by omega)) (hV 10 (by omega)) (hV 11 (by omega)) (hV 12 (by omega)) (hV 13 (by omega)) (hV 14 (by omega)) (hV 15 (by omega)) (hV 16 (by omega)) (by simpa using hJ)
theorem OwnS.store' {k : IntKind} {e : TypeId} {base g : Nat} {w : World} {n c : Nat} {xs : List Int} (h : OwnS k e base w (some ⟨g, 0, none⟩) n c xs) {j : Nat} (hj : j < n) :
  ∃ x, xs[j]? = some x /\ (Lit.int k x).wf = true /\ w.cell? ⟨g, j, none⟩ = some (.int k x) /\ w.frozen? ⟨g, j, none⟩ = false /\ base <= g /\
   Hid (∀ u, (Lit.int k u).wf = true -> OwnS k e base (w.setCell ⟨g, j, none⟩ (.int k u)) (some ⟨g, 0, none⟩) n c (xs.set j u) /\ w.grownBy (w.setCell ⟨g, j, none⟩ (.int k u)) (some g)) := by
 obtain ⟨g', x, hg, h1, h2, h3, h4, h5, h6⟩ := h.store hj;obtain rfl : g = g' := by injection hg with hg; injection hg
 exact ⟨x, h1, h2, h3, h4, h5, fun u hu => ⟨h6.out u hu, (h.own.stored j (.int k u)).2⟩⟩
/-- A row of another block. -/
theorem OwnS.other {k : IntKind} {e : TypeId} {base g gv : Nat} {w w' : World} {n c : Nat} {xs : List Int} (h : OwnS k e base w (some ⟨gv, 0, none⟩) n c xs) (hg : w.grownBy w' (some g)) (hne : g ≠ gv) : OwnS k e base w' (some ⟨gv, 0, none⟩) n c xs :=
 ⟨h.own.kept hg (.inr (by simp [Value.ownBlock]; exact fun e => hne e.symm)), h.len, h.wf⟩
/-- What quotient leaves. -/
def se (w : World) (base g off N c n : Nat) (zs : List Int) (V : Int) (e : Ending) (w' : World) : Prop :=
 ∃ (q : Int) (zs' : List Int), e = .returned (.int .u32 q) /\ 0 <= q /\ q < 4294967296 /\ OwnS .u32 129 base w' (some ⟨g, 0, none⟩) N c zs' /\ w.grownBy w' (some g) /\
  val 4294967296 (zs'.drop off) = val 4294967296 (zs.drop off) - q * V /\ zs'.take off = zs.take off /\ val 4294967296 ((zs'.drop off).take (n + 1)) = val 4294967296 ((zs.drop off).take (n + 1)) - q * V /\ 0 <= val 4294967296 ((zs'.drop off).take (n + 1)) /\ val 4294967296 ((zs'.drop off).take (n + 1)) < V
theorem kZ {B : Int} {xs : List Int} {p : Nat} {a b c : Int} (ha : xs[p]? = some a) (hb : xs[p + 1]? = some b) (hc : xs[p + 2]? = some c) : val B (xs.take (p + 3)) = ((c * B + b) * B + a) * B ^ p + val B (xs.take p) := by
 rw [ax hc, ax hb, ax ha, Int.pow_succ, Int.pow_succ]; grind
theorem pe {B : Int} {xs : List Int} {p : Nat} {a b : Int} (ha : xs[p]? = some a) (hb : xs[p + 1]? = some b) : val B (xs.take (p + 2)) = (b * B + a) * B ^ p + val B (xs.take p) := by
 rw [ax hb, ax ha, Int.pow_succ]; grind
/-- What is known of the digits and the numbers. -/
structure QF (P vt v2 Vl V un un1 u2 Ul U : Int) : Prop where
 hp : 0 < P
 vb : 2147483648 <= vt /\ vt < 4294967296
 v2b : 0 <= v2 /\ v2 < 4294967296
 vl : 0 <= Vl /\ Vl < P
 v : V = (vt * 4294967296 + v2) * P + Vl
 ub : 0 <= un /\ un < 4294967296
 u1b : 0 <= un1 /\ un1 < 4294967296
 u2b : 0 <= u2 /\ u2 < 4294967296
 ul : 0 <= Ul /\ Ul < P
 u : U = ((un * 4294967296 + un1) * 4294967296 + u2) * P + Ul
 lt : U < 4294967296 * V
section
variable {P vt v2 Vl V un un1 u2 Ul U q r : Int}
theorem QF.top (h : QF P vt v2 Vl V un un1 u2 Ul U) : un <= vt := pd rfl h.hp (by omega) h.u1b.1 h.u2b.1 h.v2b.2 h.vl.2 h.v h.ul.1 h.u h.lt
theorem QF.start (h : QF P vt v2 Vl V un un1 u2 Ul U) : U < ((un * 4294967296 + un1) / vt + 1) * V /\ 0 <= (un * 4294967296 + un1) / vt /\ (un * 4294967296 + un1) / vt <= 4294967297 := by
 have hb := h.vb;have h0 := h.ub;have h1 := h.u1b;have ht := h.top;refine ⟨kN (by omega) h.hp (by omega) h.v2b.1 h.vl.1 h.v (by omega) h.u2b.2 h.ul.2 h.u, Int.ediv_nonneg (by omega) (by omega), ?_⟩;have : (un * 4294967296 + un1) / vt < 4294967298 := Int.ediv_lt_of_lt_mul (by omega) (by omega);omega
theorem QF.big (h : QF P vt v2 Vl V un un1 u2 Ul U) (hr : q * vt + r = un * 4294967296 + un1) (hq : 4294967296 <= q) : r < 4294967296 /\ U < q * V := by
 have hb := h.vb;refine ⟨mI rfl h.top h.u1b.2 (by omega) hr hq (by omega), ?_⟩
 have hV : 0 <= V := by
  have h1 := h.v;have h2 : 0 <= (vt * 4294967296 + v2) * P := Int.mul_nonneg (by have := h.v2b; omega) (by have := h.hp; omega);have := h.vl; omega
 have := Int.mul_le_mul_of_nonneg_right hq hV;have := h.lt;omega
theorem QF.down (h : QF P vt v2 Vl V un un1 u2 Ul U) (hr : q * vt + r = un * 4294967296 + un1) (hq : 0 <= q) (hd : r * 4294967296 + u2 < q * v2) : U < q * V :=
 mG h.hp hq h.vl.1 h.v h.ul.2 h.u hr hd
theorem QF.stop (h : QF P vt v2 Vl V un un1 u2 Ul U) (hr : q * vt + r = un * 4294967296 + un1) (hq : 0 <= q) (hq1 : q < 4294967296) (hd : q * v2 <= r * 4294967296 + u2) : (q - 1) * V <= U :=
 mH (by omega) h.hp (by have := h.vb; omega) h.v2b.1 hq hq1 h.vl.1 h.vl.2 h.v h.ul.1 h.u hr hd
theorem QF.past (h : QF P vt v2 Vl V un un1 u2 Ul U) (hr : q * vt + r = un * 4294967296 + un1) (hq : 0 <= q) (hq1 : q < 4294967296) (_hd : 4294967296 <= r) : (q - 1) * V <= U := by
 refine h.stop hr hq hq1 ?_;have hb := h.v2b;have h1 : q * v2 <= 4294967295 * v2 := Int.mul_le_mul_of_nonneg_right (by omega) hb.1;have := h.u2b;omega
theorem fT (_hr : q * vt + r = un * 4294967296 + un1) : (q - 1) * vt + (r + vt) = un * 4294967296 + un1 := by grind
end
theorem j4 {k : IntKind} {a b : Int} (h : a = b) : Value.int k a = .int k b := by rw [h]
/-- What the multiplication and subtraction have done so far. -/
def MS (off p : Nat) (q : Int) (k : Nat) (b : Int) (zs zs1 vs : List Int) : Prop :=
 val 4294967296 (zs1.drop off) = val 4294967296 (zs.drop off) - q * val 4294967296 (vs.take k) + b * 4294967296 ^ k /\ zs1.take off = zs.take off /\ zs1.drop (off + p + 3) = zs.drop (off + p + 3)
theorem dU {zs : List Int} {off k : Nat} {x : Int} (h : zs[off + k]? = some x) (u : Int) : val 4294967296 ((zs.set (off + k) u).drop off) = val 4294967296 (zs.drop off) + 4294967296 ^ k * (u - x) := by
 rw [List.drop_set, if_neg (by omega), show off + k - off = k by omega];exact gg (by rw [List.getElem?_drop]; exact h) u
theorem MS.step {off p : Nat} {q : Int} {k : Nat} {ca bo ca' bo' : Int} {zs zs1 vs : List Int} {vk uk u' : Int} (h : MS off p q k (ca + bo) zs zs1 vs) (hvk : vs[k]? = some vk) (huk : zs1[off + k]? = some uk) (_hk : k < p + 3)
  (_hu : u' = uk - (q * vk + ca - ca' * 4294967296) - bo + bo' * 4294967296) : MS off p q (k + 1) (ca' + bo') zs (zs1.set (off + k) u') vs := by
 obtain ⟨h1, h2, h3⟩ := h;refine ⟨?_, by rw [List.take_set_of_le (by omega), h2], by rw [List.drop_set_of_lt (by omega), h3]⟩;rw [dU huk, h1, ax hvk, Int.pow_succ];grind
/-- What has been done behind the last digit. -/
def MF (off p : Nat) (T e : Int) (zs zs2 : List Int) : Prop :=
 val 4294967296 (zs2.drop off) = val 4294967296 (zs.drop off) - T + e * 4294967296 ^ (p + 3) /\ zs2.take off = zs.take off /\ zs2.drop (off + p + 3) = zs.drop (off + p + 3)
theorem MS.fin {off p : Nat} {q b e V uk u' : Int} {zs zs1 vs : List Int} (h : MS off p q (p + 2) b zs zs1 vs) (hv : val 4294967296 vs = V) (_hl : vs.length = p + 2) (huk : zs1[off + (p + 2)]? = some uk) (_hu : u' = uk - b + e * 4294967296) : MF off p (q * V) e zs (zs1.set (off + (p + 2)) u') := by
 obtain ⟨h1, h2, h3⟩ := h;rw [aq (by omega), hv] at h1;refine ⟨?_, by rw [List.take_set_of_le (by omega), h2], by rw [List.drop_set_of_lt (by omega), h3]⟩;rw [dU huk, h1, Int.pow_succ];grind
theorem MF.window {off p : Nat} {T e : Int} {zs zs2 : List Int} (h : MF off p T e zs zs2) (_hl : off + p + 3 <= zs.length) (_hl2 : zs2.length = zs.length) : val 4294967296 ((zs2.drop off).take (p + 3)) = val 4294967296 ((zs.drop off).take (p + 3)) - T + e * 4294967296 ^ (p + 3) := by
 obtain ⟨h1, h2, h3⟩ := h;rw [bm (zs2.drop off) (k := p + 3) (by rw [List.length_drop]; omega), bm (zs.drop off) (k := p + 3) (by rw [List.length_drop]; omega), List.drop_drop, List.drop_drop, show off + (p + 3) = off + p + 3 by omega, h3] at h1;omega
theorem bI {off p : Nat} {zs : List Int} (hd : Dg 4294967296 zs) (_hl : off + p + 3 <= zs.length) : 0 <= val 4294967296 ((zs.drop off).take (p + 3)) /\ val 4294967296 ((zs.drop off).take (p + 3)) < 4294967296 ^ (p + 3) := by
 have h1 := bH (B := 4294967296) (by omega) ((hd.drop off).take (p + 3));rw [List.length_take, List.length_drop, Nat.min_eq_left (by omega)] at h1;exact ⟨az (by omega) ((hd.drop off).take _), h1⟩
/-- Behind the adding back. -/
theorem mJ {off p : Nat} {q cc V U un u' : Int} {zs zs2 zs3 vs : List Int} (h2 : MF off p (q * V) 1 zs zs2) (h3 : MS off p (-1) (p + 2) (-cc) zs2 zs3 vs) (hv : val 4294967296 vs = V) (hl : vs.length = p + 2) (hun : zs3[off + (p + 2)]? = some un) (_hub : 0 <= un /\ un < 4294967296) (_hcc : 0 <= cc /\ cc <= 1)
  (_hu : u' = (un + cc) % 4294967296) (hU : val 4294967296 ((zs.drop off).take (p + 3)) = U) (_hqU : (q - 1) * V <= U) (hlz : off + p + 3 <= zs.length) (hl2 : zs2.length = zs.length) (hl3 : zs3.length = zs.length) (hd2 : Dg 4294967296 zs2) (hd4 : Dg 4294967296 (zs3.set (off + (p + 2)) u')) :
  MF off p ((q - 1) * V) 0 zs (zs3.set (off + (p + 2)) u') /\ U < q * V := by
 have hw2 := h2.window hlz hl2;rw [hU] at hw2;have hr2 := bI hd2 (off := off) (p := p) (by omega);have hlt : U < q * V := by omega
 refine ⟨?_, hlt⟩;have key : ∀ e : Int, u' = un - -cc + e * 4294967296 -> MF off p (-1 * V) e zs2 (zs3.set (off + (p + 2)) u') := fun e he => h3.fin hv hl hun he
 have hr4 := bI hd4 (off := off) (p := p) (by rw [List.length_set]; omega)
 rcases Int.lt_or_le (un + cc) 4294967296 with h | h
 .
  exfalso;have h4 := (key 0 (by omega)).window (by omega) (by rw [List.length_set, hl3, hl2]);have e1 : (q - 1) * V = q * V - V := by grind
  omega
 .
  have h4 := key (-1) (by omega);obtain ⟨a1, a2, a3⟩ := h4;obtain ⟨b1, b2, b3⟩ := h2;exact ⟨by rw [a1, b1]; grind, a2.trans b2, a3.trans b3⟩
theorem gk (base g off N c cu gv p cv : Nat) (zs vs : List Int) (w : World) (hO : OwnS .u32 129 base w (some ⟨g, 0, none⟩) N c zs) (hV : OwnS .u32 129 base w (some ⟨gv, 0, none⟩) (p + 2) cv vs) (hne : g ≠ gv)
  (_hoff : off + p + 2 < N) (_hN : N <= 4398046511104) (vt : Int) (hvt : vs[p + 1]? = some vt) (_hvb : 2147483648 <= vt) (hU : val 4294967296 ((zs.drop off).take (p + 3)) < 4294967296 * val 4294967296 vs) :
  Calls Try.prog 205 #[.slice (some ⟨g, off, none⟩) (p + 3) cu, .slice (some ⟨gv, 0, none⟩) (p + 2) cv] w (se w base g off N c (p + 2) zs (val 4294967296 vs)) := by
 obtain ⟨u2, hu2, hwu2, hcu2, _⟩ := hO.store' (j := off + p) (by omega);obtain ⟨un1, hun1, hwun1, hcun1, _⟩ := hO.store' (j := off + (p + 1)) (by omega);obtain ⟨un, hun, hwun, hcun, _⟩ := hO.store' (j := off + (p + 2)) (by omega);obtain ⟨v2, hv2, hwv2, hcv2, _⟩ := hV.store' (j := p) (by omega);obtain ⟨vt', hvt', hwvt, hcvt, _⟩ := hV.store' (j := p + 1) (by omega);obtain rfl : vt = vt' := by rw [hvt] at hvt'; exact Option.some.inj hvt'
 obtain ⟨hu20, hu21⟩ := ah hwu2;obtain ⟨hun10, hun11⟩ := ah hwun1;obtain ⟨hun0, hunn⟩ := ah hwun;obtain ⟨hv20, hv21⟩ := ah hwv2;obtain ⟨hvt0, hvt1⟩ := ah hwvt;obtain ⟨U, hUe⟩ : ∃ U, val 4294967296 ((zs.drop off).take (p + 3)) = U := ⟨_, rfl⟩;obtain ⟨V, hVe⟩ : ∃ V, val 4294967296 vs = V := ⟨_, rfl⟩;rw [hUe, hVe] at hU
 have hF : QF (4294967296 ^ p) vt v2 (val 4294967296 (vs.take p)) V un un1 u2 (val 4294967296 ((zs.drop off).take p)) U := by
  have hdz := (cS hO.ints).drop off;have hdv := cS hV.ints;have l1 := bH (B := 4294967296) (by omega) (hdv.take p);have l2 := bH (B := 4294967296) (by omega) (hdz.take p);rw [List.length_take, hV.len, Nat.min_eq_left (by omega)] at l1;rw [List.length_take, List.length_drop, hO.len, Nat.min_eq_left (by omega)] at l2;refine ⟨aH (by omega) p, by omega, by omega, ⟨az (by omega) (hdv.take p), l1⟩, ?_, by omega, by omega, by omega, ⟨az (by omega) (hdz.take p), l2⟩, ?_, hU⟩
  .
   rw [<- hVe, <- pe hv2 hvt, aq (by rw [hV.len]; exact Nat.le_refl _)]
  .
   rw [<- hUe];exact kZ (by rw [List.getElem?_drop]; exact hu2) (by rw [List.getElem?_drop]; exact hun1) (by rw [List.getElem?_drop]; exact hun)
 have hor : bits .or .u64 (un * 4294967296) un1 = un * 4294967296 + un1 := eW 32 (by omega) (by omega) (by omega) (by omega);obtain ⟨hs1, hs2, hs3⟩ := hF.start;have hrt := Int.emod_add_mul_ediv (un * 4294967296 + un1) vt;have hrt0 := Int.emod_nonneg (un * 4294967296 + un1) (show vt ≠ 0 by omega);have hrt1 := Int.emod_lt_of_pos (un * 4294967296 + un1) (show 0 < vt by omega);obtain ⟨top, htop⟩ : ∃ t, un * 4294967296 + un1 = t := ⟨_, rfl⟩;have htp0 : 0 <= top := by omega
 have htp1 : top <= 18446744073709551615 := by omega
 rw [htop] at hor hs1 hs2 hs3 hrt hrt0 hrt1;have HTOP := hid htop;have HF := hid hF;have HUe := hid hUe;have HVe := hid hVe;have HS1 := hid hs1;have HRT : Hid (top / vt * vt + top % vt = un * 4294967296 + un1) := by show _ = _; rw [Int.mul_comm, Int.add_comm, hrt, htop]
 have HO := hid hO;have HV := hid hV;clear hO hV hU hu2 hun1 hun hv2 hvt hvt' hwu2 hwun1 hwun hwv2 hwvt hUe hVe hF hs1 htop hrt;go_enter Try.func205, Try.ntmps205
 go_wp2_with fail
 go_quiet (fail)
 go_upto_block 0 with (fail)
 simp only [show p + 2 - 1 = p + 1 from rfl]
 go_cut [7] (fun s7 wx => ∃ q : Int, s7 = .int .u64 q /\ 0 <= q /\ q <= 4294967295 /\ Hid ((q - 1) * V <= U /\ U < (q + 1) * V) /\ Ext w wx)
 case first =>
  go_wp2_with fail
  go_loopg [7, 8] (top / vt).toNat (fun g s7 s8 wr => ∃ q r : Int, g = q.toNat /\ s7 = .int .u64 q /\ s8 = .int .u64 r /\ 0 <= q /\ q <= 4294967297 /\ 0 <= r /\ r <= 4294967295 /\ Hid (q * vt + r = un * 4294967296 + un1 /\ U < (q + 1) * V) /\ Ext w wr)
  case atStart => exact ⟨_, _, rfl, rfl, rfl, hs2, hs3, hrt0, by omega, ⟨HRT.out, HS1.out⟩, (Ext.refl w).drewN _⟩
  case round =>
   obtain ⟨q, r, rfl, rfl, rfl, hq0, hq1, hr0, hr1, hqr, hX⟩ := hrel;have hcu2' := hX.cell hcu2;have hcv2' := hX.cell hcv2;have hcvt' := hX.cell hcvt;have HX := hid hX;clear hX hcu2 hcun1 hcun hcv2 hcvt hor hs2 hs3 hrt0 hrt1;have hp0 : (0 : Int) <= (p : Int) := by omega
   by_cases hbig : 4294967296 <= q
   .
    have hgd : decide ((4294967296 : Int) <= q) = true := by simpa using hbig
    obtain ⟨hbr, hbU⟩ := HF.out.big hqr.out.1 hbig;have hstep := fT hqr.out.1;have HN : Hid ((q - 1) * vt + (r + vt) = un * 4294967296 + un1 /\ U < (q - 1 + 1) * V) := ⟨hstep, by rw [show q - 1 + 1 = q by omega]; exact hbU⟩
    have hlow : 4294967296 <= r + vt -> q - 1 <= 4294967295 := fun h => by
     rcases Int.lt_or_le (q - 1) 4294967296 with h1 | h1
     .
      omega
     .
      have := (HF.out.big hstep h1).1; omega
    clear hbr hbU hstep
    go_wp2_with fail
    go_quiet (fail)
    by_cases hbk : 4294967296 <= r + vt
    .
     have hq2 := hlow hbk;clear hlow;go_wp2
     go_meet
     exact ⟨q - 1, rfl, by omega, hq2, ⟨HF.out.past HN.out.1 (by omega) (by omega) hbk, HN.out.2⟩, HX.out.drewN _⟩
    .
     clear hlow;go_wp2;go_roundg (q - 1).toNat
     case rel => exact ⟨q - 1, r + vt, rfl, rfl, rfl, by omega, by omega, by omega, by omega, HN, HX.out.drewN _⟩
     case measure => omega
   .
    have hgd : decide ((4294967296 : Int) <= q) = false := by simpa using hbig
    have hqb : q <= 4294967295 := by omega
    obtain ⟨hm0, hm1⟩ := dH ⟨hq0, hqb⟩ ⟨hv20, hv21⟩;have hor : bits .or .u64 (r * 4294967296) u2 = r * 4294967296 + u2 := eW 32 (by omega) (by omega) (by omega) (by omega)
    by_cases hdn : r * 4294967296 + u2 < q * v2
    .
     have hq1' : 1 <= q := by
      rcases Int.lt_or_le q 1 with h | h
      .
       have : q = 0 := by omega
       subst this; simp at hdn; omega
      .
       exact h
     have hbU := HF.out.down hqr.out.1 hq0 hdn;have HN : Hid ((q - 1) * vt + (r + vt) = un * 4294967296 + un1 /\ U < (q - 1 + 1) * V) := ⟨fT hqr.out.1, by rw [show q - 1 + 1 = q by omega]; exact hbU⟩;clear hbU
     go_wp2_with fail
     go_quiet (fail)
     by_cases hbk : 4294967296 <= r + vt
     .
      go_wp2
      go_meet
      exact ⟨q - 1, rfl, by omega, by omega, ⟨HF.out.past HN.out.1 (by omega) (by omega) hbk, HN.out.2⟩, HX.out.drewN _⟩
     .
      go_wp2;go_roundg (q - 1).toNat
      case rel => exact ⟨q - 1, r + vt, rfl, rfl, rfl, by omega, by omega, by omega, by omega, HN, HX.out.drewN _⟩
      case measure => omega
    .
     have HN : Hid ((q - 1) * V <= U /\ U < (q + 1) * V) := ⟨HF.out.stop hqr.out.1 hq0 (by omega) (by omega), hqr.out.2⟩
     go_wp2_with fail
     go_quiet (fail)
     go_wp2
     go_meet
     exact ⟨q, rfl, hq0, hqb, HN, HX.out.drewN _⟩
 case rest =>
  obtain ⟨q, rfl, hq0, hq1, hqV, hX⟩ := hcut;have HX := hid hX;clear hX hcu2 hcun1 hcun hcv2 hcvt hor hs2 hs3 hrt0 hrt1 HRT HS1
  go_wp2_with fail
  go_loopg [9, 10, 84] (p + 2) (fun g' s9 s10 s84 wr => ∃ (k : Nat) (bo ca : Int) (zs1 : List Int), g' = p + 2 - k /\ k <= p + 2 /\ s9 = .int .u64 bo /\ s10 = .int .u64 ca /\ s84 = .int .i64 k /\ 0 <= bo /\ bo <= 1 /\ 0 <= ca /\ ca <= 4294967295 /\ OwnS .u32 129 base wr (some ⟨g, 0, none⟩) N c zs1 /\ Hid (MS off p q k (ca + bo) zs zs1 vs) /\ wc.grownBy wr (some g))
  case atStart => exact ⟨0, 0, 0, zs, rfl, by omega, rfl, rfl, rfl, by omega, by omega, by omega, by omega, HO.out.ext HX.out, ⟨by simp [val], rfl, rfl⟩, World.grownBy.refl _ _⟩
  case round =>
   obtain ⟨k, bo, ca, zs1, rfl, hk, rfl, rfl, rfl, hb0, hb1, hc0, hc1, hO1, hM, hgr⟩ := hrel;have HO1 := hid hO1;have HG := hid hgr;have HV1 := hid ((HV.out.ext HX.out).other hgr hne);clear hO1 hgr
   by_cases hlt : k < p + 2
   .
    obtain ⟨vk, hvk, hwv, hcv, _⟩ := HV1.out.store' hlt;obtain ⟨uk, huk, hwu, hcu, hfu, _, hst⟩ := HO1.out.store' (j := off + k) (by omega);obtain ⟨hvk0, hvk1⟩ := ah hwv;obtain ⟨huk0, huk1⟩ := ah hwu;obtain ⟨hm0, hm1⟩ := dH ⟨hq0, hq1⟩ ⟨hvk0, hvk1⟩;have hk0 : (0 : Int) <= (k : Int) := by omega
    have hk1 : (k : Int) < (p : Int) + 2 := by omega
    have hk2 : (k : Int) < (p : Int) + 3 := by omega
    obtain ⟨pk, hpk⟩ : ∃ pk, q * vk + ca = pk := ⟨_, rfl⟩;have hpk0 : 0 <= pk := by omega
    have hpk1 : pk <= 18446744069414584320 := by omega
    have HVK := hid hvk;have HUK := hid huk;have HPK := hid hpk;clear hvk hwv huk hwu
    by_cases hn : 0 <= uk - pk % 4294967296 - bo
    .
     obtain ⟨hS, hSg⟩ := hst.out (uk - pk % 4294967296 - bo) (b8 (by omega));have HS := hid hS;have HSg := hid (HG.out.trans hSg);clear hS hSg hst;go_wp2;go_roundg (p + 2 - (k + 1))
     case rel => exact ⟨k + 1, 0, pk / 4294967296, _, rfl, by omega, j4 (by omega), rfl, by go_num, by omega, by omega, by omega, by omega, HS.out, MS.step hM.out HVK.out HUK.out (by omega) (by rw [HPK.out]; omega), HSg.out⟩
     case measure => omega
    .
     obtain ⟨hS, hSg⟩ := hst.out (uk - pk % 4294967296 - bo + 4294967296) (b8 (by omega));have HS := hid hS;have HSg := hid (HG.out.trans hSg);obtain ⟨t, ht⟩ : ∃ t, IntKind.u64.wrap (IntKind.u64.wrap (uk - pk % 4294967296) - bo) = t := ⟨_, rfl⟩
     have ht0 : t = uk - pk % 4294967296 - bo + 18446744073709551616 := by
      rw [<- ht, IntKind.wrap_u64, IntKind.wrap_u64]; omega
     have ht1 : 9223372036854775808 <= t := by omega
     have ht2 : t <= 18446744073709551615 := by omega
     have ht3 : t % 4294967296 = uk - pk % 4294967296 - bo + 4294967296 := by omega
     have HT3 := hid ht3;clear hS hSg hst ht0 ht3;go_wp2;go_roundg (p + 2 - (k + 1))
     case rel => exact ⟨k + 1, 1, pk / 4294967296, _, rfl, by omega, j4 (by omega), rfl, by go_num, by omega, by omega, by omega, by omega, by rw [HT3.out]; exact HS.out, MS.step hM.out HVK.out HUK.out (by omega) (by rw [HPK.out]; omega), by rw [HT3.out]; exact HSg.out⟩
     case measure => omega
   .
    obtain rfl : k = p + 2 := by omega
    obtain ⟨uk, huk, hwu, hcu, hfu, _, hst⟩ := HO1.out.store' (j := off + (p + 2)) (by omega);obtain ⟨huk0, huk1⟩ := ah hwu;have HUK := hid huk;clear huk hwu
    by_cases hn : 0 <= uk - ca - bo
    .
     obtain ⟨hS, hSg⟩ := hst.out (uk - ca - bo) (b8 (by omega));have HS := hid hS;have HSg' := hid (((Ext.row HX.out (some g)).trans HG.out).trans hSg);have hz : ((uk - ca - bo) / 9223372036854775808 == 0) = true := by simp; omega
     clear hS hSg hst;go_wp2;go_ret;have hfin := hM.out.fin (e := 0) HVe.out HV.out.len HUK.out (u' := uk - ca - bo) (by omega);have hwin := hfin.window (by rw [HO.out.len]; omega) (by rw [List.length_set, HO1.out.len, HO.out.len]);have hrng := bI (off := off) (p := p) (cS HS.out.ints) (by rw [HS.out.len]; omega);rw [HUe.out] at hwin;have hq2 := hqV.out.2;have e1 : (q + 1) * V = q * V + V := by grind
     refine ⟨q, _, rfl, hq0, by omega, HS.out, HSg'.out, ?_, hfin.2.1, ?_, hrng.1, ?_⟩
     .
      rw [HVe.out, hfin.1]; omega
     .
      rw [HVe.out, HUe.out, hwin]; omega
     .
      rw [HVe.out, hwin]; omega
    .
     obtain ⟨hS, hSg⟩ := hst.out (uk - ca - bo + 4294967296) (b8 (by omega));have HS := hid hS;have HSg := hid (HG.out.trans hSg);obtain ⟨t, ht⟩ : ∃ t, IntKind.u64.wrap (IntKind.u64.wrap (uk - ca) - bo) = t := ⟨_, rfl⟩
     have ht0 : t = uk - ca - bo + 18446744073709551616 := by
      rw [<- ht, IntKind.wrap_u64, IntKind.wrap_u64]; omega
     have ht1 : 9223372036854775808 <= t := by omega
     have ht2 : t <= 18446744073709551615 := by omega
     have ht3 : t % 4294967296 = uk - ca - bo + 4294967296 := by omega
     have hz : (t / 9223372036854775808 == 0) = false := by simp; omega
     have HT3 := hid ht3;have HMF := hid (hM.out.fin (e := 1) HVe.out HV.out.len HUK.out (u' := uk - ca - bo + 4294967296) (by omega));clear hS hSg hst ht0 ht3
     go_wp2_with fail
     rw [HT3.out];obtain ⟨w2, hw2⟩ : ∃ w2, w2 = wr.setCell ⟨g, off + (p + 2), none⟩ (.int .u32 (uk - ca - bo + 4294967296)) := ⟨_, rfl⟩;rw [<- hw2] at HS HSg |-;have HZL : Hid (zs.length = N) := HO.out.len;obtain ⟨zs2, hz2⟩ : ∃ zs2, zs1.set (off + (p + 2)) (uk - ca - bo + 4294967296) = zs2 := ⟨_, rfl⟩;rw [hz2] at HS HMF;clear hw2 hz2 hcu hfu HUK hz ht ht1 ht2 HT3;have hp3 : (p : Int) + 2 < (p : Int) + 3 := by omega
     go_loopg [15, 138] (p + 2) (fun g' s15 s138 wq => ∃ (k : Nat) (cc : Int) (zs3 : List Int), g' = p + 2 - k /\ k <= p + 2 /\ s15 = .int .u32 cc /\ s138 = .int .i64 k /\ 0 <= cc /\ cc <= 1 /\ OwnS .u32 129 base wq (some ⟨g, 0, none⟩) N c zs3 /\ Hid (MS off p (-1) k (-cc) zs2 zs3 vs) /\ wc.grownBy wq (some g))
     case atStart => exact ⟨0, 0, zs2, rfl, by omega, rfl, rfl, by omega, by omega, HS.out, ⟨by simp [val], rfl, rfl⟩, HSg.out⟩
     case round =>
      obtain ⟨k, cc, zs3, rfl, hk, rfl, rfl, hcc0, hcc1, hO3, hM3, hgr⟩ := hrel;have HO3 := hid hO3;have HG3 := hid hgr;have HV3 := hid ((HV.out.ext HX.out).other hgr hne);clear hO3 hgr
      by_cases hlt : k < p + 2
      .
       obtain ⟨vk, hvk, hwv, hcv, _⟩ := HV3.out.store' hlt;obtain ⟨uk', huk, hwu, hcu, hfu, _, hst⟩ := HO3.out.store' (j := off + k) (by omega);obtain ⟨hvk0, hvk1⟩ := ah hwv;obtain ⟨huk0, huk1⟩ := ah hwu;have hk0 : (0 : Int) <= (k : Int) := by omega
       have hk1 : (k : Int) < (p : Int) + 2 := by omega
       have hk2 : (k : Int) < (p : Int) + 3 := by omega
       obtain ⟨hS3, hSg3⟩ := hst.out ((uk' + vk + cc) % 4294967296) (b8 (by omega));have HS3 := hid hS3;have HSg3 := hid (HG3.out.trans hSg3);have HM4 := hid (MS.step (ca := -cc) (bo := 0) (ca' := -((uk' + vk + cc) / 4294967296)) (bo' := 0) (u' := (uk' + vk + cc) % 4294967296) (by have := hM3.out; rw [Int.add_zero]; exact this) hvk huk (by omega) (by omega));clear hS3 hSg3 hst hvk huk hwv hwu
       go_wp2_with fail
       refine gh g off gv p cu cv k uk' vk cc wr hcu hcv hfu huk0 huk1 hvk0 hvk1 hcc0 hcc1 hk0 hk1 hk2 _ _ (by simp) rfl rfl rfl rfl ?_;rintro _ _ _ _ _ _ _ _ _ _ _ _ _ _ _ _ x16 _ rfl rfl rfl rfl rfl rfl rfl rfl rfl rfl rfl rfl rfl rfl rfl rfl _ rfl;simp only [ae, Try.f205, ab, Option.bind_some, Nat.reduceBEq, if_true, if_false, Bool.false_eq_true, Option.getD_some, List.drop_succ_cons, List.drop_zero];simp only [Act.put, List.setIfInBounds_toArray, List.set_cons_succ, List.set_cons_zero];go_wp2;go_roundg (p + 2 - (k + 1))
       case rel => exact ⟨k + 1, (uk' + vk + cc) / 4294967296, _, rfl, by omega, rfl, by go_num, by omega, by omega, HS3.out.ext ((Ext.refl _).drew), by have := HM4.out; rw [Int.add_zero] at this; exact this, HSg3.out.trans (Ext.row ((Ext.refl _).drew) _)⟩
       case measure => omega
      .
       obtain rfl : k = p + 2 := by omega
       obtain ⟨uk', huk, hwu, hcu, hfu, _, hst⟩ := HO3.out.store' (j := off + (p + 2)) (by omega);obtain ⟨huk0, huk1⟩ := ah hwu;obtain ⟨hS3, hSg3⟩ := hst.out ((uk' + cc) % 4294967296) (b8 (by omega));obtain ⟨hfin, hUq⟩ := mJ HMF.out hM3.out HVe.out HV.out.len huk ⟨huk0, by omega⟩ ⟨hcc0, hcc1⟩ rfl HUe.out hqV.out.1 (by rw [HZL.out]; omega) (by rw [HS.out.len, HZL.out]) (by rw [HO3.out.len, HZL.out]) (cS HS.out.ints) (cS hS3.ints)
       have hq1' : 1 <= q := by
        rcases Int.lt_or_le q 1 with h | h
        .
         have hq00 : q = 0 := by omega
         subst hq00;have := (HF.out.lt);have h1 := hqV.out.1;rw [Int.zero_mul] at hUq;have h2 := bI (off := off) (p := p) (cS HO.out.ints) (by rw [HO.out.len]; omega);rw [HUe.out] at h2;omega
        .
         exact h
       have HS3 := hid hS3;have HSg3 := hid (((Ext.row HX.out (some g)).trans HG3.out).trans hSg3);have HFIN := hid hfin;have HUQ := hid hUq;clear hS3 hSg3 hst huk hwu hfin hUq;go_wp2;go_ret;have hwin := HFIN.out.window (by rw [HZL.out]; omega) (by rw [List.length_set, HO3.out.len, HZL.out]);have hrng := bI (off := off) (p := p) (cS HS3.out.ints) (by rw [HS3.out.len]; omega);rw [HUe.out] at hwin;have hq2 := HUQ.out;have e1 : (q - 1) * V = q * V - V := by grind
       refine ⟨q - 1, _, rfl, by omega, by omega, HS3.out, HSg3.out, ?_, HFIN.out.2.1, ?_, hrng.1, ?_⟩
       .
        rw [HVe.out, HFIN.out.1]; omega
       .
        rw [HVe.out, HUe.out, hwin]; omega
       .
        rw [HVe.out, hwin]; omega
theorem k6 (x : Int) (w : World) (_h0 : 0 <= x) (_h1 : x <= 4294967295) :
  Calls Try.prog 211 #[.int .u32 x] w fun e w' => e = .returned (.int .i64 (Lib.bitLen x.toNat)) /\ w = w' := by
 rcases (by omega : x <= 255 \/ (256 <= x /\ x < 65536) \/ (65536 <= x /\ x / 65536 <= 255) \/ (65536 <= x /\ 256 <= x / 65536)) with hx | ⟨hx, hy⟩ | ⟨hx, hy⟩ | ⟨hx, hy⟩
 .
  have hi1 : x <= 255 := hx;have hl8 := Lib.len8_of (x) (by omega) (by omega);have hle := Lib.bitLen_le8' (x) (by omega) (by omega)
  have hsp : Hid (((0 : Nat) : Int) + Lib.len8 (x) = (Lib.bitLen x.toNat : Int)) := by
   show _ = _;rw [hl8];have e : (x).toNat = x.toNat / 1 := by omega
   rw [e];rw [Nat.div_one]; omega
  have hn0 : 0 <= Lib.len8 (x) := by rw [hl8]; omega
  have hn1 : Lib.len8 (x) <= 8 := by rw [hl8]; omega
  clear hl8 hle;go_enter Try.func211, Try.ntmps211;go_wp2;go_ret;refine ⟨congrArg Ending.returned (congrArg (Value.int IntKind.i64) ?_), rfl⟩;have := hsp.out;omega
 .
  have hi0 : 0 <= x / 256 := by omega
  have hi1 : x / 256 <= 255 := by omega
  have hl8 := Lib.len8_of (x / 256) (by omega) (by omega);have hle := Lib.bitLen_le8' (x / 256) (by omega) (by omega)
  have hsp : Hid (((8 : Nat) : Int) + Lib.len8 (x / 256) = (Lib.bitLen x.toNat : Int)) := by
   show _ = _;rw [hl8];have e : (x / 256).toNat = x.toNat / 256 := by omega
   rw [e];have := Lib.bitLen_shift8 x.toNat (by omega) (by omega); omega
  have hn0 : 0 <= Lib.len8 (x / 256) := by rw [hl8]; omega
  have hn1 : Lib.len8 (x / 256) <= 8 := by rw [hl8]; omega
  clear hl8 hle;go_enter Try.func211, Try.ntmps211;go_wp2;go_ret;refine ⟨congrArg Ending.returned (congrArg (Value.int IntKind.i64) ?_), rfl⟩;have := hsp.out;omega
 .
  have hi0 : 0 <= x / 65536 := by omega
  have hi1 : x / 65536 <= 255 := by omega
  have hl8 := Lib.len8_of (x / 65536) (by omega) (by omega);have hle := Lib.bitLen_le8' (x / 65536) (by omega) (by omega)
  have hsp : Hid (((16 : Nat) : Int) + Lib.len8 (x / 65536) = (Lib.bitLen x.toNat : Int)) := by
   show _ = _;rw [hl8];have e : (x / 65536).toNat = x.toNat / 65536 := by omega
   rw [e];have := Lib.bitLen_shift16 x.toNat (by omega) (by omega); omega
  have hn0 : 0 <= Lib.len8 (x / 65536) := by rw [hl8]; omega
  have hn1 : Lib.len8 (x / 65536) <= 8 := by rw [hl8]; omega
  clear hl8 hle;go_enter Try.func211, Try.ntmps211;go_wp2;go_ret;refine ⟨congrArg Ending.returned (congrArg (Value.int IntKind.i64) ?_), rfl⟩;have := hsp.out;omega
 .
  have hi0 : 0 <= x / 65536 / 256 := by omega
  have hi1 : x / 65536 / 256 <= 255 := by omega
  have hl8 := Lib.len8_of (x / 65536 / 256) (by omega) (by omega);have hle := Lib.bitLen_le8' (x / 65536 / 256) (by omega) (by omega)
  have hsp : Hid (((24 : Nat) : Int) + Lib.len8 (x / 65536 / 256) = (Lib.bitLen x.toNat : Int)) := by
   show _ = _;rw [hl8];have e : (x / 65536 / 256).toNat = x.toNat / 16777216 := by omega
   rw [e];have := Lib.bitLen_shift24 x.toNat (by omega) (by omega); omega
  have hn0 : 0 <= Lib.len8 (x / 65536 / 256) := by rw [hl8]; omega
  have hn1 : Lib.len8 (x / 65536 / 256) <= 8 := by rw [hl8]; omega
  clear hl8 hle;go_enter Try.func211, Try.ntmps211;go_wp2;go_ret;refine ⟨congrArg Ending.returned (congrArg (Value.int IntKind.i64) ?_), rfl⟩;have := hsp.out;omega
theorem gV : ∀ (k x : Nat), x < 2 ^ k -> k <= 64 -> 0 < x -> 1 <= Lib.bitLen x /\ 2 ^ (Lib.bitLen x - 1) <= x /\ x < 2 ^ Lib.bitLen x := by
 intro k
 induction k with
 | zero => intro x h _ h0; simp at h; omega
 | succ k ih =>
  intro x h hk h0;have h64 : x < 2 ^ 64 := Nat.lt_of_lt_of_le h (Nat.pow_le_pow_right (by omega) hk);have hh := Lib.bitLen_half x (by omega) h64
  rcases Nat.eq_zero_or_pos (x / 2) with h2 | h2
  .
   have : x = 1 := by omega
   subst this;have e : Lib.bitLen 1 = 1 := by decide
   rw [e]; decide
  .
   have hi := ih (x / 2) (by rw [Nat.pow_succ] at h; omega) (by omega) h2;rw [hh];generalize Lib.bitLen (x / 2) = b at *;obtain ⟨c, rfl⟩ : ∃ c, b = c + 1 := ⟨b - 1, by omega⟩;simp only [Nat.add_sub_cancel] at hi;rw [show 1 + (c + 1) - 1 = c + 1 by omega, show 1 + (c + 1) = c + 2 by omega, Nat.pow_succ, Nat.pow_succ];rw [Nat.pow_succ] at hi;omega
/-- What LeadingZeros32 returns for a word that is not 0. -/
theorem mK (x : Int) (_h0 : 0 < x) (h1 : x <= 4294967295) :
  ∃ s : Nat, s <= 31 /\ 2147483648 <= x * 2 ^ s /\ x * 2 ^ s < 4294967296 /\ ∀ w : World, Calls Try.prog 203 #[.int .u32 x] w fun e w' => e = .returned (.int .i64 s) /\ w = w' := by
 have hb := gV 32 x.toNat (by omega) (by omega) (by omega);have hl := Lib.bitLen_le x.toNat 32 (by omega) (by omega);have hcall := fun w => k6 x w (by omega) h1
 obtain ⟨b, hbe⟩ : ∃ b, Lib.bitLen x.toNat = b := ⟨_, rfl⟩;rw [hbe] at hb hl;simp only [hbe] at hcall;have e1 : (2 : Nat) ^ (b - 1) * 2 ^ (32 - b) = 2 ^ 31 := by rw [<- Nat.pow_add]; congr 1; omega
 have e2 : (2 : Nat) ^ b * 2 ^ (32 - b) = 2 ^ 32 := by rw [<- Nat.pow_add]; congr 1; omega
 have hp : 0 < 2 ^ (32 - b) := Nat.pow_pos (by omega);have g1 := Nat.mul_le_mul_right (2 ^ (32 - b)) hb.2.1;have g2 := Nat.mul_lt_mul_of_pos_right hb.2.2 hp;rw [e1] at g1;rw [e2] at g2;have e3 : ((x.toNat * 2 ^ (32 - b) : Nat) : Int) = x * 2 ^ (32 - b) := by rw [Int.natCast_mul, Int.toNat_of_nonneg (by omega)]; simp
 refine ⟨32 - b, by omega, by rw [<- e3]; omega, by rw [<- e3]; omega, ?_⟩;intro w;have HC := hid (hcall w);clear hcall hbe hb e1 e2 hp g1 g2 e3;go_enter Try.func203, Try.ntmps203
 go_wp2_with fail
 refine HC.out.mono ?_;rintro e w' ⟨rfl, rfl⟩;go_wp2;go_ret;refine ⟨congrArg Ending.returned (congrArg (Value.int IntKind.i64) ?_), rfl⟩;omega
end Go.Proofs.Ytikhlcgnlbinfaa
