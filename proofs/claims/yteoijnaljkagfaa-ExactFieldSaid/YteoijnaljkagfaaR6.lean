/- Walks: Floor of a rational number (program), and floor of package exact. -/
import Derived.Test.YteoijnaljkagfaaR5
namespace Go.Proofs.Yteoijnaljkagfaa
open Go.RowKit

theorem rat_le_div {x a d : Rat} (hd : 0 < d) : x ≤ a / d ↔ x * d ≤ a := by
  rw [← Rat.not_lt, Rat.div_lt_iff hd, Rat.not_lt]
theorem floor_mk (a : Int) (d : Nat) (hd : 0 < d) : (mkRat a d).floor = a / (d : Int) := by
  have hdz : (d : Rat) ≠ 0 := by intro h; have := (Rat.natCast_inj (a := d) (b := 0)).1 h; omega
  have key : ∀ x : Int, x ≤ (mkRat a d).floor ↔ x ≤ a / (d : Int) := by
    intro x
    rw [Rat.le_floor_iff, Int.le_ediv_iff_mul_le (by omega), Rat.mkRat_eq_div]
    have hdp : (0 : Rat) < (d : Rat) := by have := (Rat.natCast_lt_natCast (a := 0) (b := d)).2 hd; simpa using this
    rw [rat_le_div hdp]
    rw [← Rat.intCast_natCast, ← Rat.intCast_mul, Rat.intCast_le_intCast]
  have h1 := (key (mkRat a d).floor).1 (Int.le_refl _)
  have h2 := (key (a / (d : Int))).2 (Int.le_refl _)
  omega
/-- The absolute value of a number rounded down. -/
def flN (s : Bool) (n d : Nat) : Nat := if s = true ∧ n % d ≠ 0 then n / d + 1 else n / d
theorem floor_ratV (s : Bool) (n d : Nat) (hd : 0 < d) : (ratV s n d).floor = sgn s (flN s n d) := by
  unfold ratV
  rw [floor_mk _ _ hd]
  cases s
  · simp [sgn, flN]
  · have hm := Nat.div_add_mod n d
    have hl := Nat.mod_lt n hd
    by_cases h : n % d = 0
    · unfold sgn flN
      rw [if_pos rfl, if_pos rfl, if_neg (fun q => q.2 h)]
      rw [h, Nat.add_zero] at hm
      have : -(n : Int) = d * -((n / d : Nat) : Int) := by rw [← hm]; simp; grind
      rw [this, Int.mul_ediv_cancel_left _ (by omega)]
    · unfold sgn flN
      rw [if_pos rfl, if_pos rfl, if_pos ⟨rfl, h⟩]
      have e : -(n : Int) = ((d : Int) - (n % d : Nat)) + d * -((n / d : Nat) + 1 : Int) := by
        have : (n : Int) = d * (n / d : Nat) + (n % d : Nat) := by exact_mod_cast hm.symm
        rw [this]; grind
      rw [e, Int.add_mul_ediv_left _ _ (by omega), Int.ediv_eq_zero_of_lt (by omega) (by omega)]
      simp
theorem val_drop_le {B : Int} (hB : 1 ≤ B) {xs : List Int} (hd : Dg B xs) (k : Nat) : val B (xs.drop k) ≤ val B xs := by
  rcases Nat.lt_or_ge xs.length k with h | h
  · rw [List.drop_eq_nil_of_le (by omega)]; exact val_nonneg (by omega) hd
  · rw [val_split xs h]
    have h0 := val_nonneg (by omega) (hd.take k)
    have h1 := val_nonneg (by omega) (hd.drop k)
    have hp := pow_pos' (B := B) (by omega) k
    have : 1 * val B (xs.drop k) ≤ B ^ k * val B (xs.drop k) := Int.mul_le_mul_of_nonneg_right (by omega) h1
    omega
theorem ori64_add {x y : Int} (i : Nat) (hx : 0 ≤ x) (hy : 0 ≤ y ∧ y < 2 ^ i) (hd : x % 2 ^ i = 0) (hs : x + y < 9223372036854775808) : bits .or .i64 x y = x + y := by
  obtain ⟨a, rfl⟩ := Int.eq_ofNat_of_zero_le hx
  obtain ⟨b, rfl⟩ := Int.eq_ofNat_of_zero_le hy.1
  have e : ((2 ^ i : Nat) : Int) = 2 ^ i := by simp
  show IntKind.i64.wrap ((BitVec.ofInt 64 (a : Int) ||| BitVec.ofInt 64 (b : Int)).toNat : Int) = _
  have q : ∀ k : Nat, k < 9223372036854775808 → (BitVec.ofInt 64 (k : Int)).toNat = k := fun k hk => by
    rw [BitVec.ofInt_natCast, BitVec.toNat_ofNat]; exact Nat.mod_eq_of_lt (by omega)
  rw [BitVec.toNat_or, q _ (by omega), q _ (by omega), nat_join i a b (by rw [← e] at hd; omega) (by rw [← e] at hy; omega), IntWalk.i64_in _ (by omega)]
  omega


set_option maxRecDepth 100000 in
set_option maxHeartbeats 4000000 in
theorem floor_in (v : Value) (s : Bool) (n d L : Nat) (w : World) (h : NumV w v s n d) (hd : 0 < d) (fn : Fit 4294967296 n L) (hL : L ≤ 1099511627775) (hN : flN s n d ≤ 4611686018427387904) :
    Calls Try.prog 117 #[v] w fun e w' => e = .returned (.tuple #[.int .i64 (ratV s n d).floor, .bool true]) ∧ Ext w w' := by
  obtain ⟨A1, l1, c1, A2, l2, c2, rfl, h1, h2, _, _⟩ := h.open
  have H1 := Lib.hid (h1.ext ((Ext.refl w).alloc (.cells #[.bool s, .slice A1 l1 c1, .slice A2 l2 c2] 96)))
  have H2 := Lib.hid (h2.ext ((Ext.refl w).alloc (.cells #[.bool s, .slice A1 l1 c1, .slice A2 l2 c2] 96)))
  have HFL := Lib.hid (floor_ratV s n d hd)
  obtain ⟨N, hNe⟩ : ∃ N, flN s n d = N := ⟨_, rfl⟩
  rw [hNe] at HFL hN
  have HNe := Lib.hid hNe
  clear h h1 h2 hNe
  go_enter Try.func117, Try.ntmps117
  go_wp2_with fail
  refine (div_any _ _ n d L _ H1.out H2.out hd fn hL).mono ?_
  rintro e w2 ⟨vq, vr, rfl, hq, hr, hX2⟩
  obtain ⟨Q1, q2, q3, rfl, hq, _⟩ := W32.open hq
  obtain ⟨R1, r2, r3, rfl, hr, er⟩ := W32.open hr
  have HQ := Lib.hid hq
  have hB := (Blk.new w 96 #[.bool s, .slice A1 l1 c1, .slice A2 l2 c2]).ext hX2
  have HBA := Lib.hid hB
  obtain ⟨z0, z1, z2, _, _, _⟩ := hB.three
  have HX2 := Lib.hid (((Ext.refl w).alloc _).trans hX2)
  have ER := Lib.hid er
  clear hq hr hX2 er hB
  by_cases hcase : s = true ∧ 0 < r2
  · obtain ⟨rfl, hr0⟩ := hcase
    have hmod : n % d ≠ 0 := fun h => by have := ER.out.2 h; omega
    have HN1 : Hid (n / d + 1 = N) := by have := HNe.out; unfold flN at this; rw [if_pos ⟨rfl, hmod⟩] at this; exact this
    clear hmod
    go_wp2_with fail
    have hXo : Ext w2 (w2.alloc (.cells #[.int .u32 1] 79)) := (Ext.refl w2).alloc _
    refine (add_any _ _ (n / d) 1 (L + 1) _ (HQ.out.ext hXo) (W32.one w2 _) ((fn.le (Nat.div_le_self _ _)).mono (by omega) (by omega)) (Fit.one (by omega) (by omega)) (by omega)).mono ?_
    rintro e w3 ⟨vc, rfl, hc, hX3⟩
    rw [HN1.out] at hc
    obtain ⟨C1, u1, v1, rfl, hc, _⟩ := W32.open hc
    have HCW := Lib.hid hc
    have HXw := Lib.hid (HX2.out.trans (hXo.trans hX3))
    replace HBA := Lib.hid (HBA.out.ext (hXo.trans hX3))
    clear hc hX3 hXo z0 z1 z2
    go_wp2_with fail
    refine (natOf_any 4611686018427387904 _ (by omega) (by omega)).mono ?_
    rintro e w4 ⟨vz, rfl, hz, hX4⟩
    have HZ := Lib.hid hz
    have hB4 := HBA.out.ext hX4
    have HBA4 := Lib.hid hB4
    have HCW4 := Lib.hid (W32.ext HCW.out hX4)
    have HX4 := Lib.hid (HXw.out.trans hX4)
    clear hz hX4 hB4
    go_wp2_with fail
    refine (cmp_any _ _ N 4611686018427387904 _ HCW4.out HZ.out).mono ?_
    obtain ⟨cr, hcr, hcr0⟩ : ∃ cr, cmpI N 4611686018427387904 = cr ∧ cr ≤ 0 := ⟨_, rfl, by unfold cmpI; rw [if_neg (by omega : ¬ 4611686018427387904 < N)]; split <;> omega⟩
    rw [hcr]
    clear hcr
    rintro e w5 ⟨rfl, hX5⟩
    obtain ⟨z0, z1, z2, _, _, _⟩ := (HBA4.out.ext hX5).three
    have HC5 := Lib.hid (W32.ext HCW4.out hX5)
    have HX5 := Lib.hid (HX4.out.trans hX5)
    have hcrb : decide (0 < cr) = false := by simp; omega
    clear hX5
    obtain ⟨C1', u1', v1', xs, hve, hI, hR, hcv, hcm⟩ := HC5.out
    injection hve with h1 h2 h3
    subst h1 h2 h3
    have HI := Lib.hid hI
    have HR := Lib.hid hR
    have HL : Hid (xs.length = u1) := hI.1
    clear hI hR
    go_wp2_with fail
    go_loopg [6, 7] (u1 + 1) (fun g s6 s7 wr => ∃ (k : Nat) (m : Int), g = k + 1 ∧ k ≤ u1 ∧ s7 = .int .i64 ((k : Int) - 1) ∧ s6 = .int .i64 m ∧ 0 ≤ m ∧ m ≤ 4611686018427387904 ∧ Hid (m = val 4294967296 (xs.drop k)) ∧ w5 = wr)
    case atStart => exact ⟨u1, 0, rfl, Nat.le_refl _, rfl, rfl, by omega, by omega, by rw [List.drop_eq_nil_of_le (by rw [HL.out]; exact Nat.le_refl _)]; rfl, rfl⟩
    case round =>
      obtain ⟨k, m, rfl, hk, rfl, rfl, hm0, hm1, hmv, rfl⟩ := hrel
      rcases Nat.eq_zero_or_pos k with h0 | h0
      · subst h0
        rw [show (((0 : Nat) : Int) - 1) = -1 by omega]
        have hmN : Hid (m = (N : Int)) := by
          have := hmv.out
          rw [List.drop_zero, HR.out.2.2] at this
          exact this
        go_wp2
        go_ret2
        refine ⟨?_, HX5.out⟩
        rw [HFL.out, sgn_true, ← hmN.out]
        rfl
      · obtain ⟨i, rfl⟩ : ∃ i, k = i + 1 := ⟨k - 1, by omega⟩
        obtain ⟨b, o, x, rfl, hx, hwf, hc⟩ := HI.out.get (j := i) (by omega)
        obtain ⟨hx0, hx1⟩ := u32_bounds hwf
        have hvd := val_drop (B := 4294967296) hx
        rw [← hmv.out] at hvd
        have hle := val_drop_le (B := 4294967296) (by omega) HR.out.1 i
        rw [HR.out.2.2, hvd] at hle
        have hor : bits .or .i64 (m * 4294967296) x = m * 4294967296 + x := ori64_add 32 (by omega) (by omega) (by omega) (by omega)
        have HVD : Hid (m * 4294967296 + x = val 4294967296 (xs.drop i)) := by show _ = _; rw [hvd]; omega
        have hi1 : (((i + 1 : Nat) : Int) - 1) = (i : Int) := by omega
        have hi2 : (i : Int) < (u1 : Int) := by omega
        have hi0 : (0 : Int) ≤ (i : Int) := by omega
        have hs1 : 0 ≤ m * 4294967296 := by omega
        have hs2 : m * 4294967296 + x ≤ 4611686018427387904 := by omega
        rw [hi1]
        clear hx hwf hvd hle hi1
        go_wp2
        go_roundg (i + 1)
        case rel => exact ⟨i, _, rfl, by omega, by go_num, rfl, by omega, hs2, HVD.out, rfl⟩
        case measure => omega
  · have HN1 : Hid (n / d = N) := by
      have := HNe.out
      unfold flN at this
      rw [if_neg (fun h => hcase ⟨h.1, by rcases Nat.eq_zero_or_pos r2 with h2 | h2; exact absurd (ER.out.1 h2) h.2; exact h2⟩)] at this
      exact this
    have hcs : s = false ∨ (s = true ∧ r2 = 0) := by
      cases s
      · exact .inl rfl
      · exact .inr ⟨rfl, by rcases Nat.eq_zero_or_pos r2 with h | h; exact h; exact absurd ⟨rfl, h⟩ hcase⟩
    have hq := HQ.out
    rw [HN1.out] at hq
    have HCW := Lib.hid hq
    have HXw := Lib.hid HX2.out
    clear hq hcase HQ
    rcases hcs with rfl | ⟨rfl, rfl⟩
    ·
      go_wp2_with fail
      refine (natOf_any 4611686018427387904 _ (by omega) (by omega)).mono ?_
      rintro e w4 ⟨vz, rfl, hz, hX4⟩
      have HZ := Lib.hid hz
      have hB4 := HBA.out.ext hX4
      have HBA4 := Lib.hid hB4
      have HCW4 := Lib.hid (W32.ext HCW.out hX4)
      have HX4 := Lib.hid (HXw.out.trans hX4)
      clear hz hX4 hB4
      go_wp2_with fail
      refine (cmp_any _ _ N 4611686018427387904 _ HCW4.out HZ.out).mono ?_
      obtain ⟨cr, hcr, hcr0⟩ : ∃ cr, cmpI N 4611686018427387904 = cr ∧ cr ≤ 0 := ⟨_, rfl, by unfold cmpI; rw [if_neg (by omega : ¬ 4611686018427387904 < N)]; split <;> omega⟩
      rw [hcr]
      clear hcr
      rintro e w5 ⟨rfl, hX5⟩
      obtain ⟨z0, z1, z2, _, _, _⟩ := (HBA4.out.ext hX5).three
      have HC5 := Lib.hid (W32.ext HCW4.out hX5)
      have HX5 := Lib.hid (HX4.out.trans hX5)
      have hcrb : decide (0 < cr) = false := by simp; omega
      clear hX5
      obtain ⟨C1', q2', v1', xs, hve, hI, hR, hcv, hcm⟩ := HC5.out
      injection hve with h1 h2 h3
      subst h1 h2 h3
      have HI := Lib.hid hI
      have HR := Lib.hid hR
      have HL : Hid (xs.length = q2) := hI.1
      clear hI hR
      go_wp2_with fail
      go_loopg [6, 7] (q2 + 1) (fun g s6 s7 wr => ∃ (k : Nat) (m : Int), g = k + 1 ∧ k ≤ q2 ∧ s7 = .int .i64 ((k : Int) - 1) ∧ s6 = .int .i64 m ∧ 0 ≤ m ∧ m ≤ 4611686018427387904 ∧ Hid (m = val 4294967296 (xs.drop k)) ∧ w5 = wr)
      case atStart => exact ⟨q2, 0, rfl, Nat.le_refl _, rfl, rfl, by omega, by omega, by rw [List.drop_eq_nil_of_le (by rw [HL.out]; exact Nat.le_refl _)]; rfl, rfl⟩
      case round =>
        obtain ⟨k, m, rfl, hk, rfl, rfl, hm0, hm1, hmv, rfl⟩ := hrel
        rcases Nat.eq_zero_or_pos k with h0 | h0
        · subst h0
          rw [show (((0 : Nat) : Int) - 1) = -1 by omega]
          have hmN : Hid (m = (N : Int)) := by
            have := hmv.out
            rw [List.drop_zero, HR.out.2.2] at this
            exact this
          go_wp2
          go_ret2
          refine ⟨?_, HX5.out⟩
          rw [HFL.out, sgn_false, ← hmN.out]
          rfl
        · obtain ⟨i, rfl⟩ : ∃ i, k = i + 1 := ⟨k - 1, by omega⟩
          obtain ⟨b, o, x, rfl, hx, hwf, hc⟩ := HI.out.get (j := i) (by omega)
          obtain ⟨hx0, hx1⟩ := u32_bounds hwf
          have hvd := val_drop (B := 4294967296) hx
          rw [← hmv.out] at hvd
          have hle := val_drop_le (B := 4294967296) (by omega) HR.out.1 i
          rw [HR.out.2.2, hvd] at hle
          have hor : bits .or .i64 (m * 4294967296) x = m * 4294967296 + x := ori64_add 32 (by omega) (by omega) (by omega) (by omega)
          have HVD : Hid (m * 4294967296 + x = val 4294967296 (xs.drop i)) := by show _ = _; rw [hvd]; omega
          have hi1 : (((i + 1 : Nat) : Int) - 1) = (i : Int) := by omega
          have hi2 : (i : Int) < (q2 : Int) := by omega
          have hi0 : (0 : Int) ≤ (i : Int) := by omega
          have hs1 : 0 ≤ m * 4294967296 := by omega
          have hs2 : m * 4294967296 + x ≤ 4611686018427387904 := by omega
          rw [hi1]
          clear hx hwf hvd hle hi1
          go_wp2
          go_roundg (i + 1)
          case rel => exact ⟨i, _, rfl, by omega, by go_num, rfl, by omega, hs2, HVD.out, rfl⟩
          case measure => omega
    ·
      go_wp2_with fail
      refine (natOf_any 4611686018427387904 _ (by omega) (by omega)).mono ?_
      rintro e w4 ⟨vz, rfl, hz, hX4⟩
      have HZ := Lib.hid hz
      have hB4 := HBA.out.ext hX4
      have HBA4 := Lib.hid hB4
      have HCW4 := Lib.hid (W32.ext HCW.out hX4)
      have HX4 := Lib.hid (HXw.out.trans hX4)
      clear hz hX4 hB4
      go_wp2_with fail
      refine (cmp_any _ _ N 4611686018427387904 _ HCW4.out HZ.out).mono ?_
      obtain ⟨cr, hcr, hcr0⟩ : ∃ cr, cmpI N 4611686018427387904 = cr ∧ cr ≤ 0 := ⟨_, rfl, by unfold cmpI; rw [if_neg (by omega : ¬ 4611686018427387904 < N)]; split <;> omega⟩
      rw [hcr]
      clear hcr
      rintro e w5 ⟨rfl, hX5⟩
      obtain ⟨z0, z1, z2, _, _, _⟩ := (HBA4.out.ext hX5).three
      have HC5 := Lib.hid (W32.ext HCW4.out hX5)
      have HX5 := Lib.hid (HX4.out.trans hX5)
      have hcrb : decide (0 < cr) = false := by simp; omega
      clear hX5
      obtain ⟨C1', q2', v1', xs, hve, hI, hR, hcv, hcm⟩ := HC5.out
      injection hve with h1 h2 h3
      subst h1 h2 h3
      have HI := Lib.hid hI
      have HR := Lib.hid hR
      have HL : Hid (xs.length = q2) := hI.1
      clear hI hR
      go_wp2_with fail
      go_loopg [6, 7] (q2 + 1) (fun g s6 s7 wr => ∃ (k : Nat) (m : Int), g = k + 1 ∧ k ≤ q2 ∧ s7 = .int .i64 ((k : Int) - 1) ∧ s6 = .int .i64 m ∧ 0 ≤ m ∧ m ≤ 4611686018427387904 ∧ Hid (m = val 4294967296 (xs.drop k)) ∧ w5 = wr)
      case atStart => exact ⟨q2, 0, rfl, Nat.le_refl _, rfl, rfl, by omega, by omega, by rw [List.drop_eq_nil_of_le (by rw [HL.out]; exact Nat.le_refl _)]; rfl, rfl⟩
      case round =>
        obtain ⟨k, m, rfl, hk, rfl, rfl, hm0, hm1, hmv, rfl⟩ := hrel
        rcases Nat.eq_zero_or_pos k with h0 | h0
        · subst h0
          rw [show (((0 : Nat) : Int) - 1) = -1 by omega]
          have hmN : Hid (m = (N : Int)) := by
            have := hmv.out
            rw [List.drop_zero, HR.out.2.2] at this
            exact this
          go_wp2
          go_ret2
          refine ⟨?_, HX5.out⟩
          rw [HFL.out, sgn_true, ← hmN.out]
          rfl
        · obtain ⟨i, rfl⟩ : ∃ i, k = i + 1 := ⟨k - 1, by omega⟩
          obtain ⟨b, o, x, rfl, hx, hwf, hc⟩ := HI.out.get (j := i) (by omega)
          obtain ⟨hx0, hx1⟩ := u32_bounds hwf
          have hvd := val_drop (B := 4294967296) hx
          rw [← hmv.out] at hvd
          have hle := val_drop_le (B := 4294967296) (by omega) HR.out.1 i
          rw [HR.out.2.2, hvd] at hle
          have hor : bits .or .i64 (m * 4294967296) x = m * 4294967296 + x := ori64_add 32 (by omega) (by omega) (by omega) (by omega)
          have HVD : Hid (m * 4294967296 + x = val 4294967296 (xs.drop i)) := by show _ = _; rw [hvd]; omega
          have hi1 : (((i + 1 : Nat) : Int) - 1) = (i : Int) := by omega
          have hi2 : (i : Int) < (q2 : Int) := by omega
          have hi0 : (0 : Int) ≤ (i : Int) := by omega
          have hs1 : 0 ≤ m * 4294967296 := by omega
          have hs2 : m * 4294967296 + x ≤ 4611686018427387904 := by omega
          rw [hi1]
          clear hx hwf hvd hle hi1
          go_wp2
          go_roundg (i + 1)
          case rel => exact ⟨i, _, rfl, by omega, by go_num, rfl, by omega, hs2, HVD.out, rfl⟩
          case measure => omega
set_option maxRecDepth 100000 in
set_option maxHeartbeats 4000000 in
theorem floor_out (v : Value) (s : Bool) (n d L : Nat) (w : World) (h : NumV w v s n d) (hd : 0 < d) (fn : Fit 4294967296 n L) (hL : L ≤ 1099511627775) (hN : 4611686018427387904 < flN s n d) :
    Calls Try.prog 117 #[v] w fun e w' => e = .returned (.tuple #[.int .i64 0, .bool false]) ∧ Ext w w' := by
  obtain ⟨A1, l1, c1, A2, l2, c2, rfl, h1, h2, _, _⟩ := h.open
  have H1 := Lib.hid (h1.ext ((Ext.refl w).alloc (.cells #[.bool s, .slice A1 l1 c1, .slice A2 l2 c2] 96)))
  have H2 := Lib.hid (h2.ext ((Ext.refl w).alloc (.cells #[.bool s, .slice A1 l1 c1, .slice A2 l2 c2] 96)))
  have HFL := Lib.hid (floor_ratV s n d hd)
  obtain ⟨N, hNe⟩ : ∃ N, flN s n d = N := ⟨_, rfl⟩
  rw [hNe] at HFL hN
  have HNe := Lib.hid hNe
  clear h h1 h2 hNe
  go_enter Try.func117, Try.ntmps117
  go_wp2_with fail
  refine (div_any _ _ n d L _ H1.out H2.out hd fn hL).mono ?_
  rintro e w2 ⟨vq, vr, rfl, hq, hr, hX2⟩
  obtain ⟨Q1, q2, q3, rfl, hq, _⟩ := W32.open hq
  obtain ⟨R1, r2, r3, rfl, hr, er⟩ := W32.open hr
  have HQ := Lib.hid hq
  have hB := (Blk.new w 96 #[.bool s, .slice A1 l1 c1, .slice A2 l2 c2]).ext hX2
  have HBA := Lib.hid hB
  obtain ⟨z0, z1, z2, _, _, _⟩ := hB.three
  have HX2 := Lib.hid (((Ext.refl w).alloc _).trans hX2)
  have ER := Lib.hid er
  clear hq hr hX2 er hB
  by_cases hcase : s = true ∧ 0 < r2
  · obtain ⟨rfl, hr0⟩ := hcase
    have hmod : n % d ≠ 0 := fun h => by have := ER.out.2 h; omega
    have HN1 : Hid (n / d + 1 = N) := by have := HNe.out; unfold flN at this; rw [if_pos ⟨rfl, hmod⟩] at this; exact this
    clear hmod
    go_wp2_with fail
    have hXo : Ext w2 (w2.alloc (.cells #[.int .u32 1] 79)) := (Ext.refl w2).alloc _
    refine (add_any _ _ (n / d) 1 (L + 1) _ (HQ.out.ext hXo) (W32.one w2 _) ((fn.le (Nat.div_le_self _ _)).mono (by omega) (by omega)) (Fit.one (by omega) (by omega)) (by omega)).mono ?_
    rintro e w3 ⟨vc, rfl, hc, hX3⟩
    rw [HN1.out] at hc
    obtain ⟨C1, u1, v1, rfl, hc, _⟩ := W32.open hc
    have HCW := Lib.hid hc
    have HXw := Lib.hid (HX2.out.trans (hXo.trans hX3))
    replace HBA := Lib.hid (HBA.out.ext (hXo.trans hX3))
    clear hc hX3 hXo z0 z1 z2
    go_wp2_with fail
    refine (natOf_any 4611686018427387904 _ (by omega) (by omega)).mono ?_
    rintro e w4 ⟨vz, rfl, hz, hX4⟩
    have HZ := Lib.hid hz
    have hB4 := HBA.out.ext hX4
    have HBA4 := Lib.hid hB4
    have HCW4 := Lib.hid (W32.ext HCW.out hX4)
    have HX4 := Lib.hid (HXw.out.trans hX4)
    clear hz hX4 hB4
    go_wp2_with fail
    refine (cmp_any _ _ N 4611686018427387904 _ HCW4.out HZ.out).mono ?_
    rw [cmpI_gt (by omega)]
    rintro e w5 ⟨rfl, hX5⟩
    have HX5 := Lib.hid (HX4.out.trans hX5)
    clear hX5
    go_wp2
    go_ret2
    exact ⟨rfl, HX5.out⟩
  · have HN1 : Hid (n / d = N) := by
      have := HNe.out
      unfold flN at this
      rw [if_neg (fun h => hcase ⟨h.1, by rcases Nat.eq_zero_or_pos r2 with h2 | h2; exact absurd (ER.out.1 h2) h.2; exact h2⟩)] at this
      exact this
    have hcs : s = false ∨ (s = true ∧ r2 = 0) := by
      cases s
      · exact .inl rfl
      · exact .inr ⟨rfl, by rcases Nat.eq_zero_or_pos r2 with h | h; exact h; exact absurd ⟨rfl, h⟩ hcase⟩
    have hq := HQ.out
    rw [HN1.out] at hq
    have HCW := Lib.hid hq
    have HXw := Lib.hid HX2.out
    clear hq hcase HQ
    rcases hcs with rfl | ⟨rfl, rfl⟩
    ·
      go_wp2_with fail
      refine (natOf_any 4611686018427387904 _ (by omega) (by omega)).mono ?_
      rintro e w4 ⟨vz, rfl, hz, hX4⟩
      have HZ := Lib.hid hz
      have hB4 := HBA.out.ext hX4
      have HBA4 := Lib.hid hB4
      have HCW4 := Lib.hid (W32.ext HCW.out hX4)
      have HX4 := Lib.hid (HXw.out.trans hX4)
      clear hz hX4 hB4
      go_wp2_with fail
      refine (cmp_any _ _ N 4611686018427387904 _ HCW4.out HZ.out).mono ?_
      rw [cmpI_gt (by omega)]
      rintro e w5 ⟨rfl, hX5⟩
      have HX5 := Lib.hid (HX4.out.trans hX5)
      clear hX5
      go_wp2
      go_ret2
      exact ⟨rfl, HX5.out⟩
    ·
      go_wp2_with fail
      refine (natOf_any 4611686018427387904 _ (by omega) (by omega)).mono ?_
      rintro e w4 ⟨vz, rfl, hz, hX4⟩
      have HZ := Lib.hid hz
      have hB4 := HBA.out.ext hX4
      have HBA4 := Lib.hid hB4
      have HCW4 := Lib.hid (W32.ext HCW.out hX4)
      have HX4 := Lib.hid (HXw.out.trans hX4)
      clear hz hX4 hB4
      go_wp2_with fail
      refine (cmp_any _ _ N 4611686018427387904 _ HCW4.out HZ.out).mono ?_
      rw [cmpI_gt (by omega)]
      rintro e w5 ⟨rfl, hX5⟩
      have HX5 := Lib.hid (HX4.out.trans hX5)
      clear hX5
      go_wp2
      go_ret2
      exact ⟨rfl, HX5.out⟩
end Go.Proofs.Yteoijnaljkagfaa
