/- Walks: shl, shr and word of natural numbers (program). -/
import Derived.Test.YteoijnaljkagfaaN3
namespace Go.Proofs.Yteoijnaljkagfaa
open Go.RowKit

theorem or64_add {x y : Int} (i : Nat) (hx : 0 ≤ x) (hy : 0 ≤ y ∧ y < 2 ^ i) (hd : x % 2 ^ i = 0) (hs : x + y < 18446744073709551616) : bits .or .u64 x y = x + y := by
  obtain ⟨a, rfl⟩ := Int.eq_ofNat_of_zero_le hx
  obtain ⟨b, rfl⟩ := Int.eq_ofNat_of_zero_le hy.1
  have e : ((2 ^ i : Nat) : Int) = 2 ^ i := by simp
  rw [u64_or_nat a b (by omega) (by omega), nat_join i a b (by rw [← e] at hd; omega) (by rw [← e] at hy; omega)]
  omega
theorem or64_add' {x y : Int} (i : Nat) (hx : 0 ≤ x) (hy : 0 ≤ y ∧ y < 2 ^ i) (hd : x % 2 ^ i = 0) (hs : x + y < 18446744073709551616) : bits .or .u64 y x = y + x := by
  obtain ⟨a, rfl⟩ := Int.eq_ofNat_of_zero_le hx
  obtain ⟨b, rfl⟩ := Int.eq_ofNat_of_zero_le hy.1
  have e : ((2 ^ i : Nat) : Int) = 2 ^ i := by simp
  rw [u64_or_nat b a (by omega) (by omega), Nat.or_comm, nat_join i a b (by rw [← e] at hd; omega) (by rw [← e] at hy; omega)]
  omega
theorem or32_add' {x y : Int} (i : Nat) (hx : 0 ≤ x) (hy : 0 ≤ y ∧ y < 2 ^ i) (hd : x % 2 ^ i = 0) (hs : x + y < 4294967296) : bits .or .u32 y x = y + x := by
  obtain ⟨a, rfl⟩ := Int.eq_ofNat_of_zero_le hx
  obtain ⟨b, rfl⟩ := Int.eq_ofNat_of_zero_le hy.1
  have e : ((2 ^ i : Nat) : Int) = 2 ^ i := by simp
  rw [u32_or_nat b a (by omega) (by omega), Nat.or_comm, nat_join i a b (by rw [← e] at hd; omega) (by rw [← e] at hy; omega)]
  omega

theorem word_digit {r x d : Int} (hr : 0 ≤ r ∧ r < d) (hx : 0 ≤ x ∧ x ≤ 4294967295) : (r * 4294967296 + x) / d ≤ 4294967295 ∧ 0 ≤ (r * 4294967296 + x) / d := by
  have hd : 0 < d := by omega
  refine ⟨?_, Int.ediv_nonneg (by omega) (by omega)⟩
  have : (r * 4294967296 + x) / d < 4294967296 := Int.ediv_lt_of_lt_mul hd (by omega)
  omega

/-- What word returns: the quotient and the rest. -/
def RetW (w : World) (q : Nat) (r : Int) (e : Ending) (w' : World) : Prop := ∃ v, e = .returned (.tuple #[v, .int .u32 r]) ∧ W32 w' v q ∧ Ext w w'

set_option maxHeartbeats 1000000 in
theorem word_any (va : Value) (n La : Nat) (d : Int) (w : World) (ha : W32 w va n) (hn : Fit 4294967296 n La) (hL : La ≤ 1099511627776) (hd0 : 0 < d) (hd1 : d ≤ 4294967295) :
    Calls Try.prog 135 #[va, .int .u32 d] w (RetW w (n / d.toNat) ((n : Int) % d)) := by
  obtain ⟨A, la, ca, xs, rfl, hA, hrx, hca, hcam⟩ := ha
  have hla := hn.len (by omega) hrx
  rw [hA.1] at hla
  have HA := Lib.hid hA
  have HN := Lib.hid hrx
  have HLA : Hid (xs.length = la) := hA.1
  clear hA hrx hn
  go_enter Try.func135, Try.ntmps135
  go_wp2_with (at_make; refine wpList_mk _ elW rfl rfl _ _ rfl w.heap.size _ _ _ _ la la rfl rfl (by omega) (by omega) (Nat.le_refl _) (by omega) (by unfold maxLen; omega) (Nat.le_refl _) ?_; intro w1 hown1 hext1 hsz1)
  have HO1 := Lib.hid (OwnS.made hown1)
  have HX1 := Lib.hid hext1
  clear hown1 hext1 hsz1
  go_loopg [7, 8] (la + 1) (fun g rs i wr => ∃ (k : Nat) (r : Int) (out : List Int), g = k + 1 ∧ k ≤ la ∧ i = .int .i64 ((k : Int) - 1) ∧ rs = .int .u64 r ∧ 0 ≤ r ∧ r < d ∧ OwnS .u32 79 w.heap.size wr (some ⟨w.heap.size, 0, none⟩) la la out ∧ Hid (val 4294967296 (xs.drop k) = d * val 4294967296 (out.drop k) + r) ∧ Ext w wr)
  case atStart => exact ⟨la, 0, _, rfl, Nat.le_refl _, rfl, rfl, by omega, hd0, HO1.out, by
    rw [List.drop_eq_nil_of_le (by rw [HLA.out]; exact Nat.le_refl _), List.drop_eq_nil_of_le (by simp)]; simp [Hid, val], HX1.out⟩
  case round =>
    obtain ⟨k, r, out, rfl, hk, rfl, rfl, hr0, hr1, hO, hI, hX⟩ := hrel
    have HX := Lib.hid hX
    have HO := Lib.hid hO
    clear hX hO
    rcases Nat.eq_zero_or_pos k with h0 | h0
    · subst h0
      rw [show (((0 : Nat) : Int) - 1) = -1 by omega]
      have hv := hI.out
      rw [List.drop_zero, List.drop_zero, HN.out.2.2] at hv
      have hvn := val_nonneg (B := 4294967296) (by omega) (dg32 HO.out.ints)
      obtain ⟨q, hq⟩ := Int.eq_ofNat_of_zero_le hvn
      have e1 : (n : Int) / d = q := by rw [hv, hq, Int.add_comm, Int.add_mul_ediv_left _ _ (by omega), Int.ediv_eq_zero_of_lt hr0 hr1]; omega
      have e2 : (n : Int) % d = r := by rw [hv, Int.add_comm, Int.add_mul_emod_self_left]; exact Int.emod_eq_of_lt hr0 hr1
      have e3 : n / d.toNat = q := by
        have h1 : ((n / d.toNat : Nat) : Int) = (n : Int) / (d.toNat : Int) := Int.natCast_ediv ..
        rw [Int.toNat_of_nonneg (by omega), e1] at h1; omega
      have E2 := Lib.hid e2
      have E3 := Lib.hid e3
      have HV := Lib.hid hq
      clear hv hvn hq e1 e2 e3
      have hrw : IntKind.u32.wrap r = r := IntWalk.u32_in _ (by omega)
      go_wp2_with fail
      refine (norm_any _ _ _ _ _ HO.out.ints (by omega) (by omega)).mono ?_
      rintro e w' ⟨m, hm, hN, hv, rfl, rfl⟩
      have HW := Lib.hid (RetNorm.natv (N := q) (c := la) HO.out.ints hm hN hv HV.out (by omega) (by omega))
      clear hm hN hv
      go_wp2
      go_ret2
      exact ⟨_, by rw [E2.out]; rfl, by rw [E3.out]; exact HW.out, HX.out⟩
    · obtain ⟨i, rfl⟩ : ∃ i, k = i + 1 := ⟨k - 1, by omega⟩
      obtain ⟨b1, o1, x, hAe, hx, hwf, hcx⟩ := (HA.out.ext HX.out).get (j := i) (by omega)
      subst hAe
      obtain ⟨hx0, hx1⟩ := u32_bounds hwf
      obtain ⟨g, z, hg, hz, _, hcz, hfz, _, hst⟩ := HO.out.store (j := i) (by omega)
      obtain rfl : w.heap.size = g := by injection hg with hg; injection hg
      have hi1 : (((i + 1 : Nat) : Int) - 1) = (i : Int) := by omega
      have hi2 : (i : Int) < (la : Int) := by omega
      have hi0 : (0 : Int) ≤ (i : Int) := by omega
      rw [hi1]
      have hor : bits .or .u64 (r * 4294967296) x = r * 4294967296 + x := or64_add 32 (by omega) (by omega) (by omega) (by omega)
      obtain ⟨hq1, hq0⟩ := word_digit ⟨hr0, hr1⟩ ⟨hx0, hx1⟩
      have HI := Lib.hid (word_step (d := d) (r := r) (t := r * 4294967296 + x) hI.out (by rw [HO.out.len]; omega) hx rfl)
      obtain ⟨t, ht⟩ : ∃ t, r * 4294967296 + x = t := ⟨_, rfl⟩
      have ht0 : 0 ≤ t := by omega
      have ht1 : t ≤ 18446744073709551615 := by omega
      rw [ht] at hor hq1 hq0 HI
      have HS := Lib.hid (hst.out (t / d) (wf32 (by omega)))
      have hm0 := Int.emod_nonneg t (show d ≠ 0 by omega)
      have hm1 := Int.emod_lt_of_pos t hd0
      clear hx hwf hz hg hi1 hst ht
      go_wp2
      go_roundg (i + 1)
      case rel => exact ⟨i, t % d, _, rfl, by omega, by go_num, rfl, hm0, hm1, HS.out, HI.out, HX.out.setCell (Nat.le_refl _) _⟩
      case measure => omega

/-- What shl returns: the number in a row of the call's own. -/
def RetO (w : World) (n : Nat) (e : Ending) (w' : World) : Prop := ∃ A m c xs, e = .returned (.slice A m c) ∧ OwnS .u32 79 w.heap.size w' A m c xs ∧ Rep 4294967296 xs n ∧ Ext w w'

theorem shl_or {o t : Int} {s : Nat} (hs : s ≤ 31) {x : Int} (ht : t = x * 2 ^ s) (ho0 : 0 ≤ o) (ho1 : o < 2 ^ s) : bits .or .u32 o (t % 4294967296) = o + t % 4294967296 ∧ o + t % 4294967296 < 4294967296 := by
  have hd : t % 4294967296 % 2 ^ s = 0 := by
    obtain ⟨q, hq⟩ : ∃ q, (2 : Int) ^ 32 = 2 ^ s * q := ⟨2 ^ (32 - s), by rw [← Int.pow_add]; congr 1; omega⟩
    have e : (4294967296 : Int) = 2 ^ s * q := by rw [← hq]; decide
    rw [e, Int.emod_emod_of_dvd _ ⟨q, rfl⟩, ht, Int.mul_emod_left]
  have hm : 0 ≤ t % 4294967296 ∧ t % 4294967296 < 4294967296 := by omega
  suffices hlt : t % 4294967296 + o < 4294967296 by
    exact ⟨or32_add' s hm.1 ⟨ho0, ho1⟩ hd hlt, by omega⟩
  obtain ⟨q, hq⟩ := Int.dvd_of_emod_eq_zero hd
  obtain ⟨p, hp⟩ : ∃ p, (2 : Int) ^ 32 = 2 ^ s * p := ⟨2 ^ (32 - s), by rw [← Int.pow_add]; congr 1; omega⟩
  have e : (4294967296 : Int) = 2 ^ s * p := by rw [← hp]; decide
  have hpp : (0 : Int) < 2 ^ s := Int.pow_pos (by omega)
  have hqp : q < p := by
    rcases Int.lt_or_le q p with h | h
    · exact h
    · have := Int.mul_le_mul_of_nonneg_left h (Int.le_of_lt hpp); omega
  have h1 : 2 ^ s * (q + 1) ≤ 2 ^ s * p := Int.mul_le_mul_of_nonneg_left (by omega) (Int.le_of_lt hpp)
  rw [Int.mul_add, Int.mul_one] at h1
  omega
theorem shl_range {x : Int} {s : Nat} (hx : 0 ≤ x ∧ x ≤ 4294967295) (hs : s ≤ 31) : 0 ≤ x * 2 ^ s ∧ x * 2 ^ s ≤ 9223372034707292160 ∧ x * 2 ^ s / 4294967296 < 2 ^ s := by
  have hp : (0 : Int) < 2 ^ s := Int.pow_pos (by omega)
  have hp1 : (2 : Int) ^ s ≤ 2 ^ 31 := pow_le (by omega) hs
  have h1 : x * 2 ^ s ≤ 4294967295 * 2 ^ s := Int.mul_le_mul_of_nonneg_right hx.2 (Int.le_of_lt hp)
  have h0 : 0 ≤ x * 2 ^ s := Int.mul_nonneg hx.1 (Int.le_of_lt hp)
  have e : (2 : Int) ^ 31 = 2147483648 := by decide
  rw [e] at hp1
  generalize (2 : Int) ^ s = p at *
  generalize x * p = t at *
  exact ⟨h0, by omega, by omega⟩

set_option maxRecDepth 100000 in
set_option maxHeartbeats 1000000 in
theorem shl_any (va : Value) (n La s : Nat) (w : World) (ha : W32 w va n) (hn : Fit 4294967296 n La) (hL : La ≤ 1099511627776) (hs : s ≤ 31) :
    Calls Try.prog 139 #[va, .int .i64 s] w (RetO w (n * 2 ^ s)) := by
  obtain ⟨A, la, ca, xs, rfl, hA, hrx, hca, hcam⟩ := ha
  have hla := hn.len (by omega) hrx
  rw [hA.1] at hla
  have HA := Lib.hid hA
  have HN := Lib.hid hrx
  have HLA : Hid (xs.length = la) := hA.1
  clear hA hrx hn
  go_enter Try.func139, Try.ntmps139
  go_wp2_with (at_make; refine wpList_mk _ elW rfl rfl _ _ rfl w.heap.size _ _ _ _ (la + 1) (la + 1) rfl rfl (by omega) (by omega) (Nat.le_refl _) (by omega) (by unfold maxLen; omega) (Nat.le_refl _) ?_; intro w1 hown1 hext1 hsz1)
  have HO1 := Lib.hid (OwnS.made hown1)
  have HX1 := Lib.hid hext1
  clear hown1 hext1 hsz1
  go_loopg [15] la (fun g i wr => ∃ (k : Nat) (o : Int) (out : List Int), g = la - k ∧ k ≤ la ∧ i = .int .i64 k ∧ OwnS .u32 79 w.heap.size wr (some ⟨w.heap.size, 0, none⟩) (la + 1) (la + 1) out ∧ Hid (out[k]? = some o) ∧ Hid (0 ≤ o ∧ o < 2 ^ s) ∧ Hid (val 4294967296 (out.take (k + 1)) = val 4294967296 (xs.take k) * 2 ^ s) ∧ Ext w wr)
  case atStart => exact ⟨0, 0, _, rfl, by omega, rfl, HO1.out, by simp [Hid], ⟨by omega, Int.pow_pos (by omega)⟩, by simp [Hid, val, List.take_replicate, Nat.min_eq_left], HX1.out⟩
  case round =>
    obtain ⟨k, o, out, rfl, hk, rfl, hO, hok, ho, hI, hX⟩ := hrel
    have HX := Lib.hid hX
    have HO := Lib.hid hO
    clear hX hO
    by_cases hlt : k < la
    · obtain ⟨b1, o1, x, hAe, hx, hwf, hcx⟩ := (HA.out.ext HX.out).get hlt
      subst hAe
      obtain ⟨hx0, hx1⟩ := u32_bounds hwf
      obtain ⟨g, z, hg, hz, hwz, hcz, hfz, _, hst⟩ := HO.out.store (j := k) (by omega)
      obtain rfl : w.heap.size = g := by injection hg with hg; injection hg
      obtain rfl : o = z := by have := hok.out; rw [hz] at this; exact (Option.some.inj this).symm
      obtain ⟨hz0, hz1⟩ := u32_bounds hwz
      have hk0 : (0 : Int) ≤ (k : Int) := by omega
      have hk1 : (k : Int) < ((la + 1 : Nat) : Int) := by omega
      have hk2 : (k : Int) < (la : Int) := by omega
      obtain ⟨hr0, hr1, hr2⟩ := shl_range ⟨hx0, hx1⟩ hs
      have HI := Lib.hid (shl_step (xs := xs) (p := 2 ^ s) (t := x * 2 ^ s) hI.out (by rw [HO.out.len]; omega) hz (by simp [List.getD, hx]))
      obtain ⟨t, ht⟩ : ∃ t, x * 2 ^ s = t := ⟨_, rfl⟩
      obtain ⟨hor, hol⟩ := shl_or hs ht.symm ho.out.1 ho.out.2
      rw [ht] at hr0 hr1 hr2 HI
      have hwr : IntKind.u64.wrap (x * 2 ^ s) = t := by rw [ht]; exact IntWalk.u64_in _ (by omega)
      have hs1 := hst.out (o + t % 4294967296) (wf32 (by omega))
      obtain ⟨g2, z2, hg2, hz2, _, hcz2, hfz2, _, hst2⟩ := hs1.store (j := k + 1) (by omega)
      obtain rfl : w.heap.size = g2 := by injection hg2 with hg2; injection hg2
      have HS := Lib.hid (hst2.out (t / 4294967296) (wf32 (by omega)))
      have HR2 : Hid (0 ≤ t / 4294967296 ∧ t / 4294967296 < 2 ^ s) := ⟨by omega, hr2⟩
      clear hx hwf hz hg hst ht hwz hz2 hg2 hst2 hs1 hr2
      go_wp2
      go_roundg (la - (k + 1))
      case rel => exact ⟨k + 1, t / 4294967296, _, rfl, by omega, by go_num, HS.out, by show _ = _; rw [List.getElem?_set_self (by rw [List.length_set, HO.out.len]; omega)], HR2, HI.out, (HX.out.setCell (Nat.le_refl _) _).setCell (Nat.le_refl _) _⟩
      case measure => omega
    · obtain rfl : k = la := by omega
      have HV : Hid (val 4294967296 out = ((n * 2 ^ s : Nat) : Int)) := by
        have h2 := hI.out
        rw [val_take_all (by rw [HO.out.len]; omega), val_take_all (by rw [HLA.out]; omega), HN.out.2.2] at h2
        show _ = _
        rw [h2]; simp
      go_wp2_with fail
      refine (norm_any _ _ _ _ _ HO.out.ints (by omega) (by omega)).mono ?_
      rintro e w' ⟨q, hq, hN, hv, rfl, rfl⟩
      have HW := Lib.hid (And.intro (HO.out.front hq) (Rep.of_take (dg32 HO.out.ints) hv hN HV.out))
      clear hq hN hv
      go_wp2
      go_ret
      exact ⟨_, _, _, _, rfl, HW.out.1, HW.out.2, HX.out⟩

theorem shr_dvd {s : Nat} (hs : s ≤ 31) : ((2 : Int) ^ s) ∣ 4294967296 := by
  refine ⟨2 ^ (32 - s), ?_⟩
  rw [← Int.pow_add, show s + (32 - s) = 32 by omega]; decide

set_option maxRecDepth 100000 in
set_option maxHeartbeats 1000000 in
theorem shr_any (va : Value) (n La s : Nat) (w : World) (ha : W32 w va n) (hn : Fit 4294967296 n La) (hL : La ≤ 1099511627776) (hs : s ≤ 31) :
    Calls Try.prog 141 #[va, .int .i64 s] w (RetN .u32 4294967296 w (n / 2 ^ s)) := by
  obtain ⟨A, la, ca, xs, rfl, hA, hrx, hca, hcam⟩ := ha
  have hla := hn.len (by omega) hrx
  rw [hA.1] at hla
  have HA := Lib.hid hA
  have HN := Lib.hid hrx
  have HLA : Hid (xs.length = la) := hA.1
  clear hA hrx hn
  go_enter Try.func141, Try.ntmps141
  go_wp2_with (at_make; refine wpList_mk _ elW rfl rfl _ _ rfl w.heap.size _ _ _ _ la la rfl rfl (by omega) (by omega) (Nat.le_refl _) (by omega) (by unfold maxLen; omega) (Nat.le_refl _) ?_; intro w1 hown1 hext1 hsz1)
  have HO1 := Lib.hid (OwnS.made hown1)
  have HX1 := Lib.hid hext1
  clear hown1 hext1 hsz1
  go_loopg [13] la (fun g i wr => ∃ (k : Nat) (out : List Int), g = la - k ∧ k ≤ la ∧ i = .int .i64 k ∧ OwnS .u32 79 w.heap.size wr (some ⟨w.heap.size, 0, none⟩) la la out ∧ Hid (2 ^ s * val 4294967296 (out.take k) + xs.getD 0 0 % 2 ^ s = val 4294967296 (xs.take k) + 4294967296 ^ k * (xs.getD k 0 % 2 ^ s)) ∧ Ext w wr)
  case atStart => exact ⟨0, _, rfl, by omega, rfl, HO1.out, by simp [Hid, val], HX1.out⟩
  case round =>
    obtain ⟨k, out, rfl, hk, rfl, hO, hI, hX⟩ := hrel
    have HX := Lib.hid hX
    have HO := Lib.hid hO
    clear hX hO
    have hp0 : Hid ((0 : Int) < 2 ^ s) := Int.pow_pos (by omega)
    by_cases hlt : k < la
    · obtain ⟨b1, o1, x, hAe, hx, hwf, hcx⟩ := (HA.out.ext HX.out).get hlt
      subst hAe
      obtain ⟨hx0, hx1⟩ := u32_bounds hwf
      obtain ⟨g, z, hg, hz, hwz, hcz, hfz, _, hst⟩ := HO.out.store (j := k) (by omega)
      obtain rfl : w.heap.size = g := by injection hg with hg; injection hg
      have hk0 : (0 : Int) ≤ (k : Int) := by omega
      have hk1 : (k : Int) < (la : Int) := by omega
      by_cases hlt2 : k + 1 < la
      · obtain ⟨b2, o2, y, hAe, hy, hwf2, hcy⟩ := (HA.out.ext HX.out).get hlt2
        injection hAe with hAe
        injection hAe with hA1 hA2
        subst hA1 hA2
        obtain ⟨hy0, hy1⟩ := u32_bounds hwf2
        have hk2 : (k : Int) + 1 < (la : Int) := by omega
        have hor : bits .or .u64 x (y * 4294967296) = x + y * 4294967296 := or64_add' 32 (by omega) (by omega) (by omega) (by omega)
        obtain ⟨t, ht⟩ : ∃ t, x + y * 4294967296 = t := ⟨_, rfl⟩
        have ht0 : 0 ≤ t := by omega
        have ht1 : t ≤ 18446744073709551615 := by omega
        have HI := Lib.hid (shr_step (xs := xs) (u := t / 2 ^ s % 4294967296) hp0.out (shr_dvd hs) hI.out (by rw [HO.out.len]; omega) (by simp [List.getD, hx, hy, ← ht]) (dg32 HA.out) (by omega))
        have hu : 0 ≤ t / 2 ^ s % 4294967296 ∧ t / 2 ^ s % 4294967296 < 4294967296 := by generalize t / 2 ^ s = q; omega
        have HS := Lib.hid (hst.out _ (wf32 hu))
        have hoc : o1 + k + 1 = o1 + (k + 1) := by omega
        rw [ht] at hor
        clear hx hwf hz hg hst ht hwz hy hwf2 hu hoc
        go_wp2
        go_roundg (la - (k + 1))
        case rel => exact ⟨k + 1, _, rfl, by omega, by go_num, HS.out, HI.out, HX.out.setCell (Nat.le_refl _) _⟩
        case measure => omega
      · have HI := Lib.hid (shr_step (xs := xs) (u := x / 2 ^ s % 4294967296) hp0.out (shr_dvd hs) hI.out (by rw [HO.out.len]; omega) (by simp [List.getD, hx, List.getElem?_eq_none (by rw [HLA.out]; omega : xs.length ≤ k + 1)]) (dg32 HA.out) (by omega))
        have hu : 0 ≤ x / 2 ^ s % 4294967296 ∧ x / 2 ^ s % 4294967296 < 4294967296 := by generalize x / 2 ^ s = q; omega
        have HS := Lib.hid (hst.out _ (wf32 hu))
        clear hx hwf hz hg hst hwz hu
        go_wp2
        go_roundg (la - (k + 1))
        case rel => exact ⟨k + 1, _, rfl, by omega, by go_num, HS.out, HI.out, HX.out.setCell (Nat.le_refl _) _⟩
        case measure => omega
    · obtain rfl : k = la := by omega
      have HV : Hid (val 4294967296 out = ((n / 2 ^ s : Nat) : Int)) := by
        have h2 := hI.out
        have h0 : xs.getD k 0 = 0 := by simp [List.getD, List.getElem?_eq_none (by rw [HLA.out]; omega : xs.length ≤ k)]
        rw [val_take_all (by rw [HO.out.len]; omega), val_take_all (by rw [HLA.out]; omega), HN.out.2.2, h0] at h2
        have hm0 := Int.emod_nonneg (xs.getD 0 0) (show (2 : Int) ^ s ≠ 0 by have := hp0.out; omega)
        have hm1 := Int.emod_lt_of_pos (xs.getD 0 0) hp0.out
        show _ = _
        rw [Int.natCast_ediv]
        simp only [Int.zero_emod, Int.mul_zero, Int.add_zero] at h2
        rw [← h2, show (((2 ^ s : Nat) : Int)) = 2 ^ s by simp, Int.add_comm, Int.add_mul_ediv_left _ _ (by have := hp0.out; omega), Int.ediv_eq_zero_of_lt hm0 hm1]
        omega
      go_wp2_with fail
      refine (norm_any _ _ _ _ _ HO.out.ints (by omega) (by omega)).mono ?_
      rintro e w' ⟨q, hq, hN, hv, rfl, rfl⟩
      have HW := Lib.hid (RetNorm.natv (N := n / 2 ^ s) (c := k) HO.out.ints hq hN hv HV.out (by omega) (by omega))
      clear hq hN hv
      go_wp2
      go_ret
      exact ⟨_, rfl, HW.out, HX.out⟩
end Go.Proofs.Yteoijnaljkagfaa
