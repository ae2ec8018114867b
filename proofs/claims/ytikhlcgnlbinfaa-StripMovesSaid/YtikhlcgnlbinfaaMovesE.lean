/- Lemmas of the proof that follows (Moves, part 5): walks of functions by contract, and plain lemmas. Conditions: none. -/
import Derived.Test.YtikhlcgnlbinfaaMovesD
namespace Go.Proofs.Ytikhlcgnlbinfaa
open Lib (hid)
open Go.RowKit
theorem rat_le_div {x a d : Rat} (hd : 0 < d) : x ≤ a / d ↔ x * d ≤ a := by
 rw [← Rat.not_lt, Rat.div_lt_iff hd, Rat.not_lt]
theorem floor_mk (a : Int) (d : Nat) (hd : 0 < d) : (mkRat a d).floor = a / (d : Int) := by
 have hdz : (d : Rat) ≠ 0 := by intro h; have := (Rat.natCast_inj (a := d) (b := 0)).1 h; omega
 have key : ∀ x : Int, x ≤ (mkRat a d).floor ↔ x ≤ a / (d : Int) := by
  intro x
  rw [Rat.le_floor_iff, Int.le_ediv_iff_mul_le (by omega), Rat.mkRat_eq_div]
  have hdp : (0 : Rat) < (d : Rat) := by have := (Rat.natCast_lt_natCast (a := 0) (b := d)).2 hd; simpa using this
  rw [rat_le_div hdp]
  rw [← Rat.intCast_natCast, ← Rat.intCast_mul, Rat.intCast_le_intCast]
 have h1 := (key (mkRat a d).floor).1 (Int.le_refl _)
 have h2 := (key (a / (d : Int))).2 (Int.le_refl _)
 omega
/-- The absolute value of a number rounded down. -/
def flN (s : Bool) (n d : Nat) : Nat := if s = true ∧ n % d ≠ 0 then n / d + 1 else n / d
theorem floor_ratV (s : Bool) (n d : Nat) (hd : 0 < d) : (ratV s n d).floor = sgn s (flN s n d) := by
 unfold ratV
 rw [floor_mk _ _ hd]
 cases s
 ·
  simp [sgn, flN]
 ·
  have hm := Nat.div_add_mod n d
  have hl := Nat.mod_lt n hd
  by_cases h : n % d = 0
  ·
   unfold sgn flN
   rw [if_pos rfl, if_pos rfl, if_neg (fun q => q.2 h)]
   rw [h, Nat.add_zero] at hm
   have : -(n : Int) = d * -((n / d : Nat) : Int) := by rw [← hm]; simp; grind
   rw [this, Int.mul_ediv_cancel_left _ (by omega)]
  ·
   unfold sgn flN
   rw [if_pos rfl, if_pos rfl, if_pos ⟨rfl, h⟩]
   have e : -(n : Int) = ((d : Int) - (n % d : Nat)) + d * -((n / d : Nat) + 1 : Int) := by
    have : (n : Int) = d * (n / d : Nat) + (n % d : Nat) := by exact_mod_cast hm.symm
    rw [this]; grind
   rw [e, Int.add_mul_ediv_left _ _ (by omega), Int.ediv_eq_zero_of_lt (by omega) (by omega)]
   simp
theorem val_drop_le {B : Int} (_hB : 1 ≤ B) {xs : List Int} (hd : Dg B xs) (k : Nat) : val B (xs.drop k) ≤ val B xs := by
 rcases Nat.lt_or_ge xs.length k with h | h
 ·
  rw [List.drop_eq_nil_of_le (by omega)]; exact val_nonneg (by omega) hd
 ·
  rw [val_split xs h]
  have h0 := val_nonneg (by omega) (hd.take k)
  have h1 := val_nonneg (by omega) (hd.drop k)
  have hp := pow_pos' (B := B) (by omega) k
  have : 1 * val B (xs.drop k) ≤ B ^ k * val B (xs.drop k) := Int.mul_le_mul_of_nonneg_right (by omega) h1
  omega
theorem ori64_add {x y : Int} (i : Nat) (hx : 0 ≤ x) (hy : 0 ≤ y ∧ y < 2 ^ i) (hd : x % 2 ^ i = 0) (_hs : x + y < 9223372036854775808) : bits .or .i64 x y = x + y := by
 obtain ⟨a, rfl⟩ := Int.eq_ofNat_of_zero_le hx
 obtain ⟨b, rfl⟩ := Int.eq_ofNat_of_zero_le hy.1
 have e : ((2 ^ i : Nat) : Int) = 2 ^ i := by simp
 show IntKind.i64.wrap ((BitVec.ofInt 64 (a : Int) ||| BitVec.ofInt 64 (b : Int)).toNat : Int) = _
 have q : ∀ k : Nat, k < 9223372036854775808 → (BitVec.ofInt 64 (k : Int)).toNat = k := fun k hk => by
  rw [BitVec.ofInt_natCast, BitVec.toNat_ofNat]; exact Nat.mod_eq_of_lt (by omega)
 rw [BitVec.toNat_or, q _ (by omega), q _ (by omega), nat_join i a b (by rw [← e] at hd; omega) (by rw [← e] at hy; omega), IntWalk.i64_in _ (by omega)]
 omega
set_option maxRecDepth 100000 in
set_option maxHeartbeats 4000000 in
theorem floor_in (v : Value) (s : Bool) (n d L : Nat) (w : World) (h : NumV w v s n d) (hd : 0 < d) (fn : Fit 4294967296 n L) (hL : L ≤ 1099511627775) (hN : flN s n d ≤ 4611686018427387904) :
  Calls Try.prog 142 #[v] w fun e w' => e = .returned (.tuple #[.int .i64 (ratV s n d).floor, .bool true]) ∧ Ext w w' := by
 obtain ⟨A1, l1, c1, A2, l2, c2, rfl, h1, h2, _, _⟩ := h.open
 have H1 := hid (h1.ext ((Ext.refl w).alloc (.cells #[.bool s, .slice A1 l1 c1, .slice A2 l2 c2] 217)))
 have H2 := hid (h2.ext ((Ext.refl w).alloc (.cells #[.bool s, .slice A1 l1 c1, .slice A2 l2 c2] 217)))
 have HFL := hid (floor_ratV s n d hd)
 obtain ⟨N, hNe⟩ : ∃ N, flN s n d = N := ⟨_, rfl⟩
 rw [hNe] at HFL hN
 have HNe := hid hNe
 clear h h1 h2 hNe
 go_enter Try.func142, Try.ntmps142
 go_wp2_with fail
 refine (div_any _ _ n d L _ H1.out H2.out hd fn hL).mono ?_
 rintro e w2 ⟨vq, vr, rfl, hq, hr, hX2⟩
 obtain ⟨Q1, q2, q3, rfl, hq, _⟩ := W32.open hq
 obtain ⟨R1, r2, r3, rfl, hr, er⟩ := W32.open hr
 have HQ := hid hq
 have hB := (Blk.new w 217 #[.bool s, .slice A1 l1 c1, .slice A2 l2 c2]).ext hX2
 have HBA := hid hB
 obtain ⟨z0, z1, z2, _, _, _⟩ := hB.three
 have HX2 := hid (((Ext.refl w).alloc _).trans hX2)
 have ER := hid er
 clear hq hr hX2 er hB
 by_cases hcase : s = true ∧ 0 < r2
 ·
  obtain ⟨rfl, hr0⟩ := hcase
  have hmod : n % d ≠ 0 := fun h => by have := ER.out.2 h; omega
  have HN1 : Hid (n / d + 1 = N) := by have := HNe.out; unfold flN at this; rw [if_pos ⟨rfl, hmod⟩] at this; exact this
  clear hmod
  go_wp2_with fail
  have hXo : Ext w2 (w2.alloc (.cells #[.int .u32 1] 129)) := (Ext.refl w2).alloc _
  refine (add_any _ _ (n / d) 1 (L + 1) _ (HQ.out.ext hXo) (W32.one w2 _) ((fn.le (Nat.div_le_self _ _)).mono (by omega) (by omega)) (Fit.one (by omega) (by omega)) (by omega)).mono ?_
  rintro e w3 ⟨vc, rfl, hc, hX3⟩
  rw [HN1.out] at hc
  obtain ⟨C1, u1, v1, rfl, hc, _⟩ := W32.open hc
  have HCW := hid hc
  have HXw := hid (HX2.out.trans (hXo.trans hX3))
  replace HBA := hid (HBA.out.ext (hXo.trans hX3))
  clear hc hX3 hXo z0 z1 z2
  go_wp2_with fail
  refine (natOf_any 4611686018427387904 _ (by omega) (by omega)).mono ?_
  rintro e w4 ⟨vz, rfl, hz, hX4⟩
  have HZ := hid hz
  have hB4 := HBA.out.ext hX4
  have HBA4 := hid hB4
  have HCW4 := hid (W32.ext HCW.out hX4)
  have HX4 := hid (HXw.out.trans hX4)
  clear hz hX4 hB4
  go_wp2_with fail
  refine (cmp_any _ _ N 4611686018427387904 _ HCW4.out HZ.out).mono ?_
  obtain ⟨cr, hcr, hcr0⟩ : ∃ cr, cmpI N 4611686018427387904 = cr ∧ cr ≤ 0 := ⟨_, rfl, by unfold cmpI; rw [if_neg (by omega : ¬ 4611686018427387904 < N)]; split <;> omega⟩
  rw [hcr]
  clear hcr
  rintro e w5 ⟨rfl, hX5⟩
  obtain ⟨z0, z1, z2, _, _, _⟩ := (HBA4.out.ext hX5).three
  have HC5 := hid (W32.ext HCW4.out hX5)
  have HX5 := hid (HX4.out.trans hX5)
  have hcrb : decide (0 < cr) = false := by simp; omega
  clear hX5
  obtain ⟨C1', u1', v1', xs, hve, hI, hR, hcv, hcm⟩ := HC5.out
  injection hve with h1 h2 h3
  subst h1 h2 h3
  have HI := hid hI
  have HR := hid hR
  have HL : Hid (xs.length = u1) := hI.1
  clear hI hR
  go_wp2_with fail
  go_loopg [6, 7] (u1 + 1) (fun g s6 s7 wr => ∃ (k : Nat) (m : Int), g = k + 1 ∧ k ≤ u1 ∧ s7 = .int .i64 ((k : Int) - 1) ∧ s6 = .int .i64 m ∧ 0 ≤ m ∧ m ≤ 4611686018427387904 ∧ Hid (m = val 4294967296 (xs.drop k)) ∧ w5 = wr)
  case atStart => exact ⟨u1, 0, rfl, Nat.le_refl _, rfl, rfl, by omega, by omega, by rw [List.drop_eq_nil_of_le (by rw [HL.out]; exact Nat.le_refl _)]; rfl, rfl⟩
  case round =>
   obtain ⟨k, m, rfl, hk, rfl, rfl, hm0, hm1, hmv, rfl⟩ := hrel
   rcases Nat.eq_zero_or_pos k with h0 | h0
   ·
    subst h0
    rw [show (((0 : Nat) : Int) - 1) = -1 by omega]
    have hmN : Hid (m = (N : Int)) := by
     have := hmv.out
     rw [List.drop_zero, HR.out.2.2] at this
     exact this
    go_wp2
    go_ret2
    refine ⟨?_, HX5.out⟩
    rw [HFL.out, sgn_true, ← hmN.out]
    rfl
   ·
    obtain ⟨i, rfl⟩ : ∃ i, k = i + 1 := ⟨k - 1, by omega⟩
    obtain ⟨b, o, x, rfl, hx, hwf, hc⟩ := HI.out.get (j := i) (by omega)
    obtain ⟨hx0, hx1⟩ := u32_bounds hwf
    have hvd := val_drop (B := 4294967296) hx
    rw [← hmv.out] at hvd
    have hle := val_drop_le (B := 4294967296) (by omega) HR.out.1 i
    rw [HR.out.2.2, hvd] at hle
    have hor : bits .or .i64 (m * 4294967296) x = m * 4294967296 + x := ori64_add 32 (by omega) (by omega) (by omega) (by omega)
    have HVD : Hid (m * 4294967296 + x = val 4294967296 (xs.drop i)) := by show _ = _; rw [hvd]; omega
    have hi1 : (((i + 1 : Nat) : Int) - 1) = (i : Int) := by omega
    have hi2 : (i : Int) < (u1 : Int) := by omega
    have hi0 : (0 : Int) ≤ (i : Int) := by omega
    have hs1 : 0 ≤ m * 4294967296 := by omega
    have hs2 : m * 4294967296 + x ≤ 4611686018427387904 := by omega
    rw [hi1]
    clear hx hwf hvd hle hi1
    go_wp2
    go_roundg (i + 1)
    case rel => exact ⟨i, _, rfl, by omega, by go_num, rfl, by omega, hs2, HVD.out, rfl⟩
    case measure => omega
 ·
  have HN1 : Hid (n / d = N) := by
   have := HNe.out
   unfold flN at this
   rw [if_neg (fun h => hcase ⟨h.1, by rcases Nat.eq_zero_or_pos r2 with h2 | h2; exact absurd (ER.out.1 h2) h.2; exact h2⟩)] at this
   exact this
  have hcs : s = false ∨ (s = true ∧ r2 = 0) := by
   cases s
   ·
    exact .inl rfl
   ·
    exact .inr ⟨rfl, by rcases Nat.eq_zero_or_pos r2 with h | h; exact h; exact absurd ⟨rfl, h⟩ hcase⟩
  have hq := HQ.out
  rw [HN1.out] at hq
  have HCW := hid hq
  have HXw := hid HX2.out
  clear hq hcase HQ
  rcases hcs with rfl | ⟨rfl, rfl⟩
  ·
   go_wp2_with fail
   refine (natOf_any 4611686018427387904 _ (by omega) (by omega)).mono ?_
   rintro e w4 ⟨vz, rfl, hz, hX4⟩
   have HZ := hid hz
   have hB4 := HBA.out.ext hX4
   have HBA4 := hid hB4
   have HCW4 := hid (W32.ext HCW.out hX4)
   have HX4 := hid (HXw.out.trans hX4)
   clear hz hX4 hB4
   go_wp2_with fail
   refine (cmp_any _ _ N 4611686018427387904 _ HCW4.out HZ.out).mono ?_
   obtain ⟨cr, hcr, hcr0⟩ : ∃ cr, cmpI N 4611686018427387904 = cr ∧ cr ≤ 0 := ⟨_, rfl, by unfold cmpI; rw [if_neg (by omega : ¬ 4611686018427387904 < N)]; split <;> omega⟩
   rw [hcr]
   clear hcr
   rintro e w5 ⟨rfl, hX5⟩
   obtain ⟨z0, z1, z2, _, _, _⟩ := (HBA4.out.ext hX5).three
   have HC5 := hid (W32.ext HCW4.out hX5)
   have HX5 := hid (HX4.out.trans hX5)
   have hcrb : decide (0 < cr) = false := by simp; omega
   clear hX5
   obtain ⟨C1', q2', v1', xs, hve, hI, hR, hcv, hcm⟩ := HC5.out
   injection hve with h1 h2 h3
   subst h1 h2 h3
   have HI := hid hI
   have HR := hid hR
   have HL : Hid (xs.length = q2) := hI.1
   clear hI hR
   go_wp2_with fail
   go_loopg [6, 7] (q2 + 1) (fun g s6 s7 wr => ∃ (k : Nat) (m : Int), g = k + 1 ∧ k ≤ q2 ∧ s7 = .int .i64 ((k : Int) - 1) ∧ s6 = .int .i64 m ∧ 0 ≤ m ∧ m ≤ 4611686018427387904 ∧ Hid (m = val 4294967296 (xs.drop k)) ∧ w5 = wr)
   case atStart => exact ⟨q2, 0, rfl, Nat.le_refl _, rfl, rfl, by omega, by omega, by rw [List.drop_eq_nil_of_le (by rw [HL.out]; exact Nat.le_refl _)]; rfl, rfl⟩
   case round =>
    obtain ⟨k, m, rfl, hk, rfl, rfl, hm0, hm1, hmv, rfl⟩ := hrel
    rcases Nat.eq_zero_or_pos k with h0 | h0
    ·
     subst h0
     rw [show (((0 : Nat) : Int) - 1) = -1 by omega]
     have hmN : Hid (m = (N : Int)) := by
      have := hmv.out
      rw [List.drop_zero, HR.out.2.2] at this
      exact this
     go_wp2
     go_ret2
     refine ⟨?_, HX5.out⟩
     rw [HFL.out, sgn_false, ← hmN.out]
     rfl
    ·
     obtain ⟨i, rfl⟩ : ∃ i, k = i + 1 := ⟨k - 1, by omega⟩
     obtain ⟨b, o, x, rfl, hx, hwf, hc⟩ := HI.out.get (j := i) (by omega)
     obtain ⟨hx0, hx1⟩ := u32_bounds hwf
     have hvd := val_drop (B := 4294967296) hx
     rw [← hmv.out] at hvd
     have hle := val_drop_le (B := 4294967296) (by omega) HR.out.1 i
     rw [HR.out.2.2, hvd] at hle
     have hor : bits .or .i64 (m * 4294967296) x = m * 4294967296 + x := ori64_add 32 (by omega) (by omega) (by omega) (by omega)
     have HVD : Hid (m * 4294967296 + x = val 4294967296 (xs.drop i)) := by show _ = _; rw [hvd]; omega
     have hi1 : (((i + 1 : Nat) : Int) - 1) = (i : Int) := by omega
     have hi2 : (i : Int) < (q2 : Int) := by omega
     have hi0 : (0 : Int) ≤ (i : Int) := by omega
     have hs1 : 0 ≤ m * 4294967296 := by omega
     have hs2 : m * 4294967296 + x ≤ 4611686018427387904 := by omega
     rw [hi1]
     clear hx hwf hvd hle hi1
     go_wp2
     go_roundg (i + 1)
     case rel => exact ⟨i, _, rfl, by omega, by go_num, rfl, by omega, hs2, HVD.out, rfl⟩
     case measure => omega
  ·
   go_wp2_with fail
   refine (natOf_any 4611686018427387904 _ (by omega) (by omega)).mono ?_
   rintro e w4 ⟨vz, rfl, hz, hX4⟩
   have HZ := hid hz
   have hB4 := HBA.out.ext hX4
   have HBA4 := hid hB4
   have HCW4 := hid (W32.ext HCW.out hX4)
   have HX4 := hid (HXw.out.trans hX4)
   clear hz hX4 hB4
   go_wp2_with fail
   refine (cmp_any _ _ N 4611686018427387904 _ HCW4.out HZ.out).mono ?_
   obtain ⟨cr, hcr, hcr0⟩ : ∃ cr, cmpI N 4611686018427387904 = cr ∧ cr ≤ 0 := ⟨_, rfl, by unfold cmpI; rw [if_neg (by omega : ¬ 4611686018427387904 < N)]; split <;> omega⟩
   rw [hcr]
   clear hcr
   rintro e w5 ⟨rfl, hX5⟩
   obtain ⟨z0, z1, z2, _, _, _⟩ := (HBA4.out.ext hX5).three
   have HC5 := hid (W32.ext HCW4.out hX5)
   have HX5 := hid (HX4.out.trans hX5)
   have hcrb : decide (0 < cr) = false := by simp; omega
   clear hX5
   obtain ⟨C1', q2', v1', xs, hve, hI, hR, hcv, hcm⟩ := HC5.out
   injection hve with h1 h2 h3
   subst h1 h2 h3
   have HI := hid hI
   have HR := hid hR
   have HL : Hid (xs.length = q2) := hI.1
   clear hI hR
   go_wp2_with fail
   go_loopg [6, 7] (q2 + 1) (fun g s6 s7 wr => ∃ (k : Nat) (m : Int), g = k + 1 ∧ k ≤ q2 ∧ s7 = .int .i64 ((k : Int) - 1) ∧ s6 = .int .i64 m ∧ 0 ≤ m ∧ m ≤ 4611686018427387904 ∧ Hid (m = val 4294967296 (xs.drop k)) ∧ w5 = wr)
   case atStart => exact ⟨q2, 0, rfl, Nat.le_refl _, rfl, rfl, by omega, by omega, by rw [List.drop_eq_nil_of_le (by rw [HL.out]; exact Nat.le_refl _)]; rfl, rfl⟩
   case round =>
    obtain ⟨k, m, rfl, hk, rfl, rfl, hm0, hm1, hmv, rfl⟩ := hrel
    rcases Nat.eq_zero_or_pos k with h0 | h0
    ·
     subst h0
     rw [show (((0 : Nat) : Int) - 1) = -1 by omega]
     have hmN : Hid (m = (N : Int)) := by
      have := hmv.out
      rw [List.drop_zero, HR.out.2.2] at this
      exact this
     go_wp2
     go_ret2
     refine ⟨?_, HX5.out⟩
     rw [HFL.out, sgn_true, ← hmN.out]
     rfl
    ·
     obtain ⟨i, rfl⟩ : ∃ i, k = i + 1 := ⟨k - 1, by omega⟩
     obtain ⟨b, o, x, rfl, hx, hwf, hc⟩ := HI.out.get (j := i) (by omega)
     obtain ⟨hx0, hx1⟩ := u32_bounds hwf
     have hvd := val_drop (B := 4294967296) hx
     rw [← hmv.out] at hvd
     have hle := val_drop_le (B := 4294967296) (by omega) HR.out.1 i
     rw [HR.out.2.2, hvd] at hle
     have hor : bits .or .i64 (m * 4294967296) x = m * 4294967296 + x := ori64_add 32 (by omega) (by omega) (by omega) (by omega)
     have HVD : Hid (m * 4294967296 + x = val 4294967296 (xs.drop i)) := by show _ = _; rw [hvd]; omega
     have hi1 : (((i + 1 : Nat) : Int) - 1) = (i : Int) := by omega
     have hi2 : (i : Int) < (q2 : Int) := by omega
     have hi0 : (0 : Int) ≤ (i : Int) := by omega
     have hs1 : 0 ≤ m * 4294967296 := by omega
     have hs2 : m * 4294967296 + x ≤ 4611686018427387904 := by omega
     rw [hi1]
     clear hx hwf hvd hle hi1
     go_wp2
     go_roundg (i + 1)
     case rel => exact ⟨i, _, rfl, by omega, by go_num, rfl, by omega, hs2, HVD.out, rfl⟩
     case measure => omega
set_option maxRecDepth 100000 in
set_option maxHeartbeats 4000000 in
theorem floor_out (v : Value) (s : Bool) (n d L : Nat) (w : World) (h : NumV w v s n d) (hd : 0 < d) (fn : Fit 4294967296 n L) (hL : L ≤ 1099511627775) (hN : 4611686018427387904 < flN s n d) :
  Calls Try.prog 142 #[v] w fun e w' => e = .returned (.tuple #[.int .i64 0, .bool false]) ∧ Ext w w' := by
 obtain ⟨A1, l1, c1, A2, l2, c2, rfl, h1, h2, _, _⟩ := h.open
 have H1 := hid (h1.ext ((Ext.refl w).alloc (.cells #[.bool s, .slice A1 l1 c1, .slice A2 l2 c2] 217)))
 have H2 := hid (h2.ext ((Ext.refl w).alloc (.cells #[.bool s, .slice A1 l1 c1, .slice A2 l2 c2] 217)))
 have HFL := hid (floor_ratV s n d hd)
 obtain ⟨N, hNe⟩ : ∃ N, flN s n d = N := ⟨_, rfl⟩
 rw [hNe] at HFL hN
 have HNe := hid hNe
 clear h h1 h2 hNe
 go_enter Try.func142, Try.ntmps142
 go_wp2_with fail
 refine (div_any _ _ n d L _ H1.out H2.out hd fn hL).mono ?_
 rintro e w2 ⟨vq, vr, rfl, hq, hr, hX2⟩
 obtain ⟨Q1, q2, q3, rfl, hq, _⟩ := W32.open hq
 obtain ⟨R1, r2, r3, rfl, hr, er⟩ := W32.open hr
 have HQ := hid hq
 have hB := (Blk.new w 217 #[.bool s, .slice A1 l1 c1, .slice A2 l2 c2]).ext hX2
 have HBA := hid hB
 obtain ⟨z0, z1, z2, _, _, _⟩ := hB.three
 have HX2 := hid (((Ext.refl w).alloc _).trans hX2)
 have ER := hid er
 clear hq hr hX2 er hB
 by_cases hcase : s = true ∧ 0 < r2
 ·
  obtain ⟨rfl, hr0⟩ := hcase
  have hmod : n % d ≠ 0 := fun h => by have := ER.out.2 h; omega
  have HN1 : Hid (n / d + 1 = N) := by have := HNe.out; unfold flN at this; rw [if_pos ⟨rfl, hmod⟩] at this; exact this
  clear hmod
  go_wp2_with fail
  have hXo : Ext w2 (w2.alloc (.cells #[.int .u32 1] 129)) := (Ext.refl w2).alloc _
  refine (add_any _ _ (n / d) 1 (L + 1) _ (HQ.out.ext hXo) (W32.one w2 _) ((fn.le (Nat.div_le_self _ _)).mono (by omega) (by omega)) (Fit.one (by omega) (by omega)) (by omega)).mono ?_
  rintro e w3 ⟨vc, rfl, hc, hX3⟩
  rw [HN1.out] at hc
  obtain ⟨C1, u1, v1, rfl, hc, _⟩ := W32.open hc
  have HCW := hid hc
  have HXw := hid (HX2.out.trans (hXo.trans hX3))
  replace HBA := hid (HBA.out.ext (hXo.trans hX3))
  clear hc hX3 hXo z0 z1 z2
  go_wp2_with fail
  refine (natOf_any 4611686018427387904 _ (by omega) (by omega)).mono ?_
  rintro e w4 ⟨vz, rfl, hz, hX4⟩
  have HZ := hid hz
  have hB4 := HBA.out.ext hX4
  have HBA4 := hid hB4
  have HCW4 := hid (W32.ext HCW.out hX4)
  have HX4 := hid (HXw.out.trans hX4)
  clear hz hX4 hB4
  go_wp2_with fail
  refine (cmp_any _ _ N 4611686018427387904 _ HCW4.out HZ.out).mono ?_
  rw [cmpI_gt (by omega)]
  rintro e w5 ⟨rfl, hX5⟩
  have HX5 := hid (HX4.out.trans hX5)
  clear hX5
  go_wp2
  go_ret2
  exact ⟨rfl, HX5.out⟩
 ·
  have HN1 : Hid (n / d = N) := by
   have := HNe.out
   unfold flN at this
   rw [if_neg (fun h => hcase ⟨h.1, by rcases Nat.eq_zero_or_pos r2 with h2 | h2; exact absurd (ER.out.1 h2) h.2; exact h2⟩)] at this
   exact this
  have hcs : s = false ∨ (s = true ∧ r2 = 0) := by
   cases s
   ·
    exact .inl rfl
   ·
    exact .inr ⟨rfl, by rcases Nat.eq_zero_or_pos r2 with h | h; exact h; exact absurd ⟨rfl, h⟩ hcase⟩
  have hq := HQ.out
  rw [HN1.out] at hq
  have HCW := hid hq
  have HXw := hid HX2.out
  clear hq hcase HQ
  rcases hcs with rfl | ⟨rfl, rfl⟩
  ·
   go_wp2_with fail
   refine (natOf_any 4611686018427387904 _ (by omega) (by omega)).mono ?_
   rintro e w4 ⟨vz, rfl, hz, hX4⟩
   have HZ := hid hz
   have hB4 := HBA.out.ext hX4
   have HBA4 := hid hB4
   have HCW4 := hid (W32.ext HCW.out hX4)
   have HX4 := hid (HXw.out.trans hX4)
   clear hz hX4 hB4
   go_wp2_with fail
   refine (cmp_any _ _ N 4611686018427387904 _ HCW4.out HZ.out).mono ?_
   rw [cmpI_gt (by omega)]
   rintro e w5 ⟨rfl, hX5⟩
   have HX5 := hid (HX4.out.trans hX5)
   clear hX5
   go_wp2
   go_ret2
   exact ⟨rfl, HX5.out⟩
  ·
   go_wp2_with fail
   refine (natOf_any 4611686018427387904 _ (by omega) (by omega)).mono ?_
   rintro e w4 ⟨vz, rfl, hz, hX4⟩
   have HZ := hid hz
   have hB4 := HBA.out.ext hX4
   have HBA4 := hid hB4
   have HCW4 := hid (W32.ext HCW.out hX4)
   have HX4 := hid (HXw.out.trans hX4)
   clear hz hX4 hB4
   go_wp2_with fail
   refine (cmp_any _ _ N 4611686018427387904 _ HCW4.out HZ.out).mono ?_
   rw [cmpI_gt (by omega)]
   rintro e w5 ⟨rfl, hX5⟩
   have HX5 := hid (HX4.out.trans hX5)
   clear hX5
   go_wp2
   go_ret2
   exact ⟨rfl, HX5.out⟩
/-- A value that is a number of the interface: a sign and two lists of words. -/
def RatV (w : World) (v : Value) (neg : Bool) (xs ys : List Int) : Prop :=
 ∃ A l c B m k, v = .agg #[.bool neg, .slice A l c, .slice B m k] ∧ Ints .u32 w A l xs ∧ l ≤ c ∧ c ≤ 9223372036854775807 ∧ Ints .u32 w B m ys ∧ m ≤ k ∧ k ≤ 9223372036854775807
theorem RatV.ext {w w' : World} {v : Value} {neg : Bool} {xs ys : List Int} (h : RatV w v neg xs ys) (he : Ext w w') : RatV w' v neg xs ys := by
 obtain ⟨A, l, c, B, m, k, h1, h2, h3, h4, h5, h6⟩ := h
 exact ⟨A, l, c, B, m, k, h1, h2.ext he, h3, h4, h5.ext he, h6⟩
/-- What the words denote. -/
def wN (xs : List Int) : Nat := (val 4294967296 xs).toNat
def wD (ys : List Int) : Nat := if wN ys = 0 then 1 else wN ys
def ratOf (neg : Bool) (xs ys : List Int) : Rat := ratV neg (wN xs) (wD ys)
theorem wD_pos (ys : List Int) : 0 < wD ys := by unfold wD; split <;> omega
theorem wN_val {w : World} {A : Option Addr} {l : Nat} {xs : List Int} (h : Ints .u32 w A l xs) : val 4294967296 xs = (wN xs : Int) := by
 have := val_nonneg (B := 4294967296) (by omega) (dg32 h); unfold wN; omega
theorem norm_len {w : World} {A : Option Addr} {l m : Nat} {xs : List Int} (h : Ints .u32 w A l xs) (_hm : m ≤ l) (hN : Nm (xs.take m)) (hv : val 4294967296 (xs.take m) = val 4294967296 xs) (K : Nat) : m ≤ K ↔ Fit 4294967296 (wN xs) K := by
 have hr : Rep 4294967296 (xs.take m) (wN xs) := Rep.of_take (dg32 h) hv hN (wN_val h)
 have hl : (xs.take m).length = m := by rw [List.length_take, h.1]; omega
 constructor
 ·
  intro hk
  have := hr.lt (by omega)
  rw [hl] at this
  have h2 := pow_le (B := 4294967296) (by omega) hk
  unfold Fit; omega
 ·
  intro hf
  have := hf.len (by omega) hr
  omega
theorem norm_nil {w : World} {A : Option Addr} {l m : Nat} {xs : List Int} (h : Ints .u32 w A l xs) (_hm : m ≤ l) (hN : Nm (xs.take m)) (hv : val 4294967296 (xs.take m) = val 4294967296 xs) : m = 0 ↔ wN xs = 0 := by
 have hr : Rep 4294967296 (xs.take m) (wN xs) := Rep.of_take (dg32 h) hv hN (wN_val h)
 have hl : (xs.take m).length = m := by rw [List.length_take, h.1]; omega
 rw [hr.pos (by omega), ← List.length_eq_zero_iff, hl]
set_option maxRecDepth 100000 in
set_option maxHeartbeats 2000000 in
theorem of_r4 (g : Nat) (neg : Bool) (A B : Option Addr) (l c m k : Nat) (xs : List Int) (D L : Nat) (w : World) (a0 : w.cell? ⟨g, 0, none⟩ = some (.bool neg)) (a1 : w.cell? ⟨g, 1, none⟩ = some (.slice A l c)) (hI : Ints .u32 w A l xs) (hlc : l ≤ c) (hcm : c ≤ 9223372036854775807) (hd : W32 w (.slice B m k) D) (hD : 0 < D) (fN : Fit 4294967296 (wN xs) L) (fD : Fit 4294967296 D L) (hL : L ≤ 1099511627775) (a : Act) (Q : Exit → Act → World → Prop) (hsize : 19 ≤ a.tmps.size)
  (s1 : a.tmps[1]? = some (.pointer (some ⟨g, 0, none⟩)))
  (s3 : a.tmps[3]? = some (.slice B m k))
  (hend : ∀ (xv0 xv1 xv2 xv3 xv4 xv5 xv6 xv7 : Value) (W : World), (xv0 = .pointer (some ⟨g, 0, none⟩)) → (xv1 = .bool neg) → (xv2 = .pointer (some ⟨g, 1, none⟩)) → (xv3 = .slice A l c) → (W32 W xv4 (wN xs)) → (xv5 = .slice B m k) → (NumV W xv6 neg (wN xs) D) → (NumQ W xv7 (ratV neg (wN xs) D)) → Ext w W → wpList Try.prog (rops Try.f133 4).toArray Q ((rops Try.f133 4).drop 8) ((((((((a.put (some 11) xv0).put (some 12) xv1).put (some 13) xv2).put (some 14) xv3).put (some 15) xv4).put (some 16) xv5).put (some 17) xv6).put (some 18) xv7) W) :
  (Code.region 4 (rops Try.f133 4).toArray true).wp Try.prog Q a w := by
 refine wp_region_k 8 [some 11, some 12, some 13, some 14, some 15, some 16, some 17, some 18] [[], [0], [], [2], [3], [], [1, 4, 5], [6]] [eqv (.pointer (some ⟨g, 0, none⟩)), eqv (.bool neg), eqv (.pointer (some ⟨g, 1, none⟩)), eqv (.slice A l c), fun v W => W32 W v (wN xs), eqv (.slice B m k), fun v W => NumV W v neg (wN xs) D, fun v W => NumQ W v (ratV neg (wN xs) D)] (by kernel_rfl) (by kernel_rfl) rfl (by decide) hsize ⟨monC, monC, monC, monC, by intro v W W' h hX; exact W32.ext h hX, monC, by intro v W W' h hX; exact NumV.ext h hX, by intro v W W' h hX; exact NumQ.ext h hX, trivial⟩ ?_ ?_
 ·
  clear hend
  simp only [rops, Try.f133, regOf, Option.bind_some, Nat.reduceBEq, if_true, if_false, Bool.false_eq_true, Option.getD_some]
  simp only [List.take_succ_cons, List.take_zero]
  refine ⟨?_, ?_, ?_, ?_, ?_, ?_, ?_, ?_, trivial⟩
  ·
   rintro us W hJ _ b hb hbz K hK0 hK Qz
   have e1 := (hbz 1 (by simp)).trans s1
   clear hb hbz
   go_simp
   exact hK0 _ rfl
  ·
   rintro us W hJ d0 b hb hbz K hK0 hK Qz
   have e11 := slotV (hb 0 11 rfl) d0
   clear hb hbz d0
   have q := Ext.cell hJ a0
   go_simp
   exact hK0 _ rfl
  ·
   rintro us W hJ _ b hb hbz K hK0 hK Qz
   have e1 := (hbz 1 (by simp)).trans s1
   clear hb hbz
   go_simp
   exact hK0 _ rfl
  ·
   rintro us W hJ d2 b hb hbz K hK0 hK Qz
   have e13 := slotV (hb 2 13 rfl) d2
   clear hb hbz d2
   have q := Ext.cell hJ a1
   go_simp
   exact hK0 _ rfl
  ·
   rintro us W hJ d3 b hb hbz K hK0 hK Qz
   have e14 := slotV (hb 3 14 rfl) d3
   clear hb hbz d3
   go_simp
   refine (norm_any A l c xs _ (Ints.ext hI hJ) hlc hcm).mono ?_
   rintro e w' ⟨q, hq, hN, hv, rfl, rfl⟩
   exact hK0 _ (RetNorm.natv (N := wN xs) (Ints.ext hI hJ) hq hN hv (wN_val hI) hlc hcm)
  ·
   rintro us W hJ _ b hb hbz K hK0 hK Qz
   have e3 := (hbz 3 (by simp)).trans s3
   clear hb hbz
   go_simp
   exact hK0 _ rfl
  ·
   rintro us W hJ ⟨d1, d4, d5⟩ b hb hbz K hK0 hK Qz
   have e12 := slotV (hb 1 12 rfl) d1
   have e15 := hb 4 15 rfl
   have e16 := slotV (hb 5 16 rfl) d5
   clear hb hbz d1 d5
   obtain ⟨P1, q1, r1, hv1, g1, _⟩ := W32.open d4
   rw [hv1] at e15
   go_simp
   exact hK0 _ ⟨_, _, rfl, g1, W32.ext hd hJ⟩
  ·
   rintro us W hJ d6 b hb hbz K hK0 hK Qz
   have e17 := hb 6 17 rfl
   clear hb hbz
   go_simp
   refine (reducedX ⟨_, _, _, d6, hD, rfl, fN, fD⟩ hL).mono ?_
   rintro e w' ⟨v, rfl, hv, hX⟩
   exact hK _ _ hv hX
 ·
  rintro us W ⟨v0, v1, v2, v3, v4, v5, v6, v7, _⟩ hJ
  exact hend _ _ _ _ _ _ _ _ W v0 v1 v2 v3 v4 v5 v6 v7 hJ
set_option maxRecDepth 100000 in
set_option maxHeartbeats 2000000 in
theorem of_any (v : Value) (neg : Bool) (xs ys : List Int) (L : Nat) (w : World) (h : RatV w v neg xs ys) (fN : Fit 4294967296 (wN xs) L) (fD : Fit 4294967296 (wD ys) L) (hL : L ≤ 1099511627775) :
  Calls Try.prog 133 #[v] w (RetQ2 w (ratOf neg xs ys)) := by
 obtain ⟨A, l, c, B, m, k, rfl, hA, hlc, hcm, hB, hmk, hkm⟩ := h
 have hXw : Ext w ((w.alloc (.cells #[.bool neg, .slice A l c, .slice B m k] 97)).alloc (.cells #[.bool false, .slice none 0 0, .slice none 0 0] 217)) := ((Ext.refl w).alloc _).alloc _
 have hBA : Blk ((w.alloc (.cells #[.bool neg, .slice A l c, .slice B m k] 97)).alloc (.cells #[.bool false, .slice none 0 0, .slice none 0 0] 217)) w.heap.size 97 #[.bool neg, .slice A l c, .slice B m k] := (Blk.new w _ _).alloc _
 have hBR : Blk ((w.alloc (.cells #[.bool neg, .slice A l c, .slice B m k] 97)).alloc (.cells #[.bool false, .slice none 0 0, .slice none 0 0] 217)) (w.heap.size + 1) 217 #[.bool false, .slice none 0 0, .slice none 0 0] := by
  have := Blk.new (w.alloc (.cells #[.bool neg, .slice A l c, .slice B m k] 97)) 217 #[.bool false, .slice none 0 0, .slice none 0 0]
  simpa using this
 have HQE : Hid (ratOf neg xs ys = ratV neg (wN xs) (wD ys)) := rfl
 have HIA := hid (hA.ext hXw)
 have HIB := hid (hB.ext hXw)
 clear hA hB
 go_enter Try.func133, Try.ntmps133
 go_wp2_with fail
 generalize (w.alloc (.cells #[.bool neg, .slice A l c, .slice B m k] 97)).alloc (.cells #[.bool false, .slice none 0 0, .slice none 0 0] 217) = w1 at hXw hBA hBR HIA HIB ⊢
 have HXw := hid hXw
 have HBA := hid hBA
 have HBR := hid hBR
 obtain ⟨a0, a1, a2, _, _, _⟩ := hBA.three
 clear hXw hBA hBR
 refine (norm_any B m k ys _ HIB.out hmk hkm).mono ?_
 rintro e w' ⟨q, hq, hN, hv, rfl, rfl⟩
 have hnil := norm_nil HIB.out hq hN hv
 have hWB := RetNorm.natv (N := wN ys) (c := k) HIB.out hq hN hv (wN_val HIB.out) hmk hkm
 by_cases hz : wN ys = 0
 ·
  obtain rfl : q = 0 := hnil.2 hz
  have HD1 : Hid (wD ys = 1) := by show _ = _; unfold wD; rw [if_pos hz]
  have HDP : Hid (0 < 1) := Nat.one_pos
  rw [HD1.out] at fD HQE
  clear hnil hWB hz hN hv hq
  go_wp2_with fail
  have hXo : Ext w1 (w1.alloc (.cells #[.int .u32 1] 129)) := (Ext.refl w1).alloc _
  have hD : W32 (w1.alloc (.cells #[.int .u32 1] 129)) (.slice (some ⟨w1.heap.size, 0, none⟩) 1 1) 1 := W32.one w1 _
  replace HIA := hid (HIA.out.ext hXo)
  replace HBA := hid (HBA.out.ext hXo)
  replace HBR := hid (HBR.out.ext hXo)
  replace HXw := hid (HXw.out.trans hXo)
  obtain ⟨N1, hN1⟩ : ∃ N1, N1 = w1.heap.size := ⟨_, rfl⟩
  rw [← hN1] at hD ⊢
  generalize w1.alloc (.cells #[.int .u32 1] 129) = w2 at *
  obtain ⟨a0, a1, a2, _, _, _⟩ := HBA.out.three
  have HD := hid hD
  clear hD hXo hN1
  refine of_r4 w.heap.size neg A (some ⟨N1, 0, none⟩) l c 1 1 xs _ L w2 a0 a1 HIA.out hlc hcm HD.out HDP.out fN fD hL _ _ (by simp) rfl rfl ?_
  rintro xv0 xv1 xv2 xv3 xv4 xv5 xv6 xv7 W rfl rfl rfl rfl h4 rfl h6 h7 hXW
  simp only [rops, Try.f133, regOf, Option.bind_some, Nat.reduceBEq, if_true, if_false, Bool.false_eq_true, Option.getD_some, List.drop_succ_cons, List.drop_zero]
  simp only [Act.put, List.setIfInBounds_toArray, List.set_cons_succ, List.set_cons_zero]
  obtain ⟨P1, q1, r1, P2, q2, r2, rfl, g1, g2, _, _⟩ := NumV.open h7
  obtain ⟨y0, y1, y2, f0, f1', f2'⟩ := (HBR.out.ext hXW).three
  have HNB := hid (NoInts.three (HBR.out.ext hXW))
  have G7 := hid h7
  have HXW := hid hXW
  clear h4 h6 h7 hXW a0 a1 a2 g1 g2
  go_wp2
  refine bodyPost_ret (v := .agg #[.bool _, .slice P1 q1 r1, .slice P2 q2 r2]) (by simp [results, Try.results133, go_sem, *]; rfl) rfl ?_
  rw [HQE.out]
  exact ⟨_, rfl, NumQ.boxed G7.out HNB.out _ _ _ _ _ _ _, Ext.boxed (HXw.out.trans HXW.out) (by omega) _ _ _⟩
 ·
  have hq0 : ((q : Int) == 0) = false := by
   have : q ≠ 0 := fun h => hz (hnil.1 h)
   simp; omega
  have HD1 : Hid (wD ys = wN ys) := by show _ = _; unfold wD; rw [if_neg hz]
  have HDP : Hid (0 < wN ys) := by show 0 < wN ys; omega
  rw [HD1.out] at fD HQE
  have HD := hid hWB
  clear hnil hWB hz hN hv
  go_wp2_with fail
  refine of_r4 w.heap.size neg A B l c q k xs _ L w1 a0 a1 HIA.out hlc hcm HD.out HDP.out fN fD hL _ _ (by simp) rfl rfl ?_
  rintro xv0 xv1 xv2 xv3 xv4 xv5 xv6 xv7 W rfl rfl rfl rfl h4 rfl h6 h7 hXW
  simp only [rops, Try.f133, regOf, Option.bind_some, Nat.reduceBEq, if_true, if_false, Bool.false_eq_true, Option.getD_some, List.drop_succ_cons, List.drop_zero]
  simp only [Act.put, List.setIfInBounds_toArray, List.set_cons_succ, List.set_cons_zero]
  obtain ⟨P1, q1, r1, P2, q2, r2, rfl, g1, g2, _, _⟩ := NumV.open h7
  obtain ⟨y0, y1, y2, f0, f1', f2'⟩ := (HBR.out.ext hXW).three
  have HNB := hid (NoInts.three (HBR.out.ext hXW))
  have G7 := hid h7
  have HXW := hid hXW
  clear h4 h6 h7 hXW a0 a1 a2 g1 g2
  go_wp2
  refine bodyPost_ret (v := .agg #[.bool _, .slice P1 q1 r1, .slice P2 q2 r2]) (by simp [results, Try.results133, go_sem, *]; rfl) rfl ?_
  rw [HQE.out]
  exact ⟨_, rfl, NumQ.boxed G7.out HNB.out _ _ _ _ _ _ _, Ext.boxed (HXw.out.trans HXW.out) (by omega) _ _ _⟩
/-- At most as many words as the interface lets. -/
structure FitW (n : Nat) : Prop where
 fit : Fit 4294967296 n 256
theorem fitW {n m : Nat} (h : m ≤ 256 ↔ Fit 4294967296 n 256) : m ≤ 256 ↔ FitW n := h.trans ⟨fun h => ⟨h⟩, fun h => h.fit⟩
set_option maxRecDepth 100000 in
set_option maxHeartbeats 1000000 in
theorem large_no (v : Value) (neg : Bool) (xs ys : List Int) (w : World) (h : RatV w v neg xs ys) (f1 : FitW (wN xs)) (f2 : FitW (wN ys)) :
  Calls Try.prog 141 #[v] w fun e w' => e = .returned (.bool false) ∧ Ext w w' := by
 obtain ⟨A, l, c, B, m, k, rfl, hA, hlc, hcm, hB, hmk, hkm⟩ := h
 have hXw : Ext w (w.alloc (.cells #[.bool neg, .slice A l c, .slice B m k] 97)) := (Ext.refl w).alloc _
 have HIA := hid (hA.ext hXw)
 have HIB := hid (hB.ext hXw)
 have HXw := hid hXw
 have HF1 := hid f1
 clear hA hB hXw f1
 have HF2 := hid f2
 clear f2
 go_enter Try.func141, Try.ntmps141
 go_wp2_with fail
 refine (norm_any A l c xs _ HIA.out hlc hcm).mono ?_
 rintro e w' ⟨q, hq, hN, hv, rfl, rfl⟩
 have hlen : q ≤ 256 ↔ FitW (wN xs) := fitW (norm_len HIA.out hq hN hv 256)
 have hq1 : q ≤ 256 := hlen.2 HF1.out
 clear hlen hN hv
 go_wp2_with fail
 refine (norm_any B m k ys _ HIB.out hmk hkm).mono ?_
 rintro e w' ⟨q2, hq2, hN, hv, rfl, rfl⟩
 have hlen : q2 ≤ 256 ↔ FitW (wN ys) := fitW (norm_len HIB.out hq2 hN hv 256)
 have hq3 : q2 ≤ 256 := hlen.2 HF2.out
 clear hlen hN hv
 go_wp2
 go_ret
 exact ⟨by first | rfl | (simp; done) | (simp; omega), HXw.out⟩
set_option maxRecDepth 100000 in
set_option maxHeartbeats 1000000 in
theorem large_num (v : Value) (neg : Bool) (xs ys : List Int) (w : World) (h : RatV w v neg xs ys) (f1 : ¬ FitW (wN xs)) :
  Calls Try.prog 141 #[v] w fun e w' => e = .returned (.bool true) ∧ Ext w w' := by
 obtain ⟨A, l, c, B, m, k, rfl, hA, hlc, hcm, hB, hmk, hkm⟩ := h
 have hXw : Ext w (w.alloc (.cells #[.bool neg, .slice A l c, .slice B m k] 97)) := (Ext.refl w).alloc _
 have HIA := hid (hA.ext hXw)
 have HIB := hid (hB.ext hXw)
 have HXw := hid hXw
 have HF1 := hid f1
 clear hA hB hXw f1
 go_enter Try.func141, Try.ntmps141
 go_wp2_with fail
 refine (norm_any A l c xs _ HIA.out hlc hcm).mono ?_
 rintro e w' ⟨q, hq, hN, hv, rfl, rfl⟩
 have hlen : q ≤ 256 ↔ FitW (wN xs) := fitW (norm_len HIA.out hq hN hv 256)
 have hq1 : 256 < q := by
  rcases Nat.lt_or_ge 256 q with h | h
  ·
   exact h
  ·
   exact absurd (hlen.1 h) HF1.out
 clear hlen hN hv
 go_wp2
 go_ret
 exact ⟨by first | rfl | (simp; done) | (simp; omega), HXw.out⟩
set_option maxRecDepth 100000 in
set_option maxHeartbeats 1000000 in
theorem large_den (v : Value) (neg : Bool) (xs ys : List Int) (w : World) (h : RatV w v neg xs ys) (f1 : FitW (wN xs)) (f2 : ¬ FitW (wN ys)) :
  Calls Try.prog 141 #[v] w fun e w' => e = .returned (.bool true) ∧ Ext w w' := by
 obtain ⟨A, l, c, B, m, k, rfl, hA, hlc, hcm, hB, hmk, hkm⟩ := h
 have hXw : Ext w (w.alloc (.cells #[.bool neg, .slice A l c, .slice B m k] 97)) := (Ext.refl w).alloc _
 have HIA := hid (hA.ext hXw)
 have HIB := hid (hB.ext hXw)
 have HXw := hid hXw
 have HF1 := hid f1
 clear hA hB hXw f1
 have HF2 := hid f2
 clear f2
 go_enter Try.func141, Try.ntmps141
 go_wp2_with fail
 refine (norm_any A l c xs _ HIA.out hlc hcm).mono ?_
 rintro e w' ⟨q, hq, hN, hv, rfl, rfl⟩
 have hlen : q ≤ 256 ↔ FitW (wN xs) := fitW (norm_len HIA.out hq hN hv 256)
 have hq1 : q ≤ 256 := hlen.2 HF1.out
 clear hlen hN hv
 go_wp2_with fail
 refine (norm_any B m k ys _ HIB.out hmk hkm).mono ?_
 rintro e w' ⟨q2, hq2, hN, hv, rfl, rfl⟩
 have hlen : q2 ≤ 256 ↔ FitW (wN ys) := fitW (norm_len HIB.out hq2 hN hv 256)
 have hq3 : 256 < q2 := by
  rcases Nat.lt_or_ge 256 q2 with h | h
  ·
   exact h
  ·
   exact absurd (hlen.1 h) HF2.out
 clear hlen hN hv
 go_wp2
 go_ret
 exact ⟨by first | rfl | (simp; done) | (simp; omega), HXw.out⟩
/-- Both lists are not too long. -/
def SmallR (xs ys : List Int) : Prop := FitW (wN xs) ∧ FitW (wN ys)
theorem large_yes (v : Value) (neg : Bool) (xs ys : List Int) (w : World) (h : RatV w v neg xs ys) (hs : ¬ SmallR xs ys) :
  Calls Try.prog 141 #[v] w fun e w' => e = .returned (.bool true) ∧ Ext w w' := by
 by_cases h1 : FitW (wN xs)
 ·
  exact large_den v neg xs ys w h h1 fun h2 => hs ⟨h1, h2⟩
 ·
  exact large_num v neg xs ys w h h1
theorem SmallR.den {xs ys : List Int} (h : SmallR xs ys) : FitW (wD ys) := by
 unfold wD
 split
 ·
  exact ⟨Fit.one (by omega) (by omega)⟩
 ·
  exact h.2
theorem elU : Elem Try.prog 95 129 1 4 (.int .u32 0) := Elem.mk' (by kernel_rfl) (by kernel_rfl) rfl (by decide)
/-- A number that is not large. -/
structure FitQW (q : Rat) : Prop where
 num : FitW q.num.natAbs
 den : FitW q.den
/-- The canonical words of a denominator. -/
def CanD (ys : List Int) (d : Nat) : Prop := (d = 1 ∧ ys = []) ∨ (d ≠ 1 ∧ Rep 4294967296 ys d)
/-- The canonical value of a number. -/
def RatC (w : World) (v : Value) (q : Rat) : Prop := ∃ xs ys, RatV w v (decide (q.num < 0)) xs ys ∧ Rep 4294967296 xs q.num.natAbs ∧ CanD ys q.den
theorem RatC.ext {w w' : World} {v : Value} {q : Rat} (h : RatC w v q) (he : Ext w w') : RatC w' v q := by
 obtain ⟨xs, ys, h1, h2⟩ := h
 exact ⟨xs, ys, h1.ext he, h2⟩
/-- What Done leaves. -/
def RetC (w : World) (q : Rat) (e : Ending) (w' : World) : Prop := ∃ v', e = .returned (.tuple #[v', .int .i64 0]) ∧ RatC w' v' q ∧ Ext w w'
/-- A row of integers and a block of another type. -/
theorem OwnS.apart {k : IntKind} {e t : TypeId} {base g gv n c : Nat} {w : World} {xs : List Int} {cs : Array Value} (h : OwnS k e base w (some ⟨gv, 0, none⟩) n c xs) (hB : Blk w g t cs) (hne : e ≠ t) : g ≠ gv := by
 intro he
 subst he
 rcases h.own.2 with ⟨hv, _⟩ | ⟨g', cap, cur, hv, _, hg, _⟩
 ·
  cases hv
 ·
  injection hv with hA _ _
  injection hA with hA
  injection hA with hA
  subst hA
  unfold Blk at hB
  rw [hB] at hg
  injection hg with hg
  injection hg with _ h2
  exact hne h2.symm
/-- The block of a row lies in memory. -/
theorem OwnS.inMem {k : IntKind} {e : TypeId} {base gv n c : Nat} {w : World} {xs : List Int} (h : OwnS k e base w (some ⟨gv, 0, none⟩) n c xs) : gv < w.heap.size := by
 rcases h.own.2 with ⟨hv, _⟩ | ⟨g', cap, cur, hv, _, hg, _⟩
 ·
  cases hv
 ·
  injection hv with hA _ _
  injection hA with hA
  injection hA with hA
  subst hA
  exact (Array.getElem?_eq_some_iff.1 hg).1
theorem grownBy_set (w : World) (g i : Nat) (u : Value) : w.grownBy (w.setCell ⟨g, i, none⟩ u) (some g) :=
 ⟨rfl, rfl, rfl, by simp, fun k _ hk => heap_setCell_other w ⟨g, i, none⟩ k u (fun e => hk (by simp [e]))⟩
set_option maxRecDepth 100000 in
set_option maxHeartbeats 2000000 in
theorem done_r4 (g : Nat) (s : Bool) (A _B : Option Addr) (l c _m _k : Nat) (w : World) (a0 : w.cell? ⟨g, 0, none⟩ = some (.bool s)) (a1 : w.cell? ⟨g, 1, none⟩ = some (.slice A l c)) (_hl : l ≤ 256) (a : Act) (Q : Exit → Act → World → Prop) (hsize : 25 ≤ a.tmps.size)
  (s1 : a.tmps[1]? = some (.pointer (some ⟨g, 0, none⟩)))
  (hend : ∀ (xv0 xv1 xv2 xv3 xv4 xv5 xv6 xv7 : Value) (W : World), (xv0 = .pointer (some ⟨g, 0, none⟩)) → (xv1 = .bool s) → (xv2 = .pointer (some ⟨g, 1, none⟩)) → (xv3 = .slice A l c) → (xv4 = .int .i64 (l : Int)) → (∃ g', xv5 = .slice (some ⟨g', 0, none⟩) l l ∧ w.heap.size ≤ g' ∧ OwnS .u32 129 w.heap.size W (some ⟨g', 0, none⟩) l l (List.replicate l 0)) → (∃ g', xv6 = .agg #[.bool s, .slice (some ⟨g', 0, none⟩) l l, .slice none 0 0] ∧ w.heap.size ≤ g' ∧ OwnS .u32 129 w.heap.size W (some ⟨g', 0, none⟩) l l (List.replicate l 0)) → (∃ g', xv7 = .pointer (some ⟨g', 0, none⟩) ∧ w.heap.size ≤ g' ∧ Blk W g' 97 #[.bool false, .slice none 0 0, .slice none 0 0]) → Ext w W → wpList Try.prog (rops Try.f131 4).toArray Q ((rops Try.f131 4).drop 8) ((((((((a.put (some 18) xv0).put (some 19) xv1).put (some 20) xv2).put (some 21) xv3).put (some 22) xv4).put (some 23) xv5).put (some 24) xv6).put (some 4) xv7) W) :
  (Code.region 4 (rops Try.f131 4).toArray true).wp Try.prog Q a w := by
 refine wp_region_k 8 [some 18, some 19, some 20, some 21, some 22, some 23, some 24, some 4] [[], [0], [], [2], [3], [4], [1, 5], []] [eqv (.pointer (some ⟨g, 0, none⟩)), eqv (.bool s), eqv (.pointer (some ⟨g, 1, none⟩)), eqv (.slice A l c), eqv (.int .i64 (l : Int)), fun v W => ∃ g', v = .slice (some ⟨g', 0, none⟩) l l ∧ w.heap.size ≤ g' ∧ OwnS .u32 129 w.heap.size W (some ⟨g', 0, none⟩) l l (List.replicate l 0), fun v W => ∃ g', v = .agg #[.bool s, .slice (some ⟨g', 0, none⟩) l l, .slice none 0 0] ∧ w.heap.size ≤ g' ∧ OwnS .u32 129 w.heap.size W (some ⟨g', 0, none⟩) l l (List.replicate l 0), fun v W => ∃ g', v = .pointer (some ⟨g', 0, none⟩) ∧ w.heap.size ≤ g' ∧ Blk W g' 97 #[.bool false, .slice none 0 0, .slice none 0 0]] (by kernel_rfl) (by kernel_rfl) rfl (by decide) hsize ⟨monC, monC, monC, monC, monC, by intro v W W' h hX; obtain ⟨g', h1, h2, h3⟩ := h; exact ⟨g', h1, h2, h3.ext hX⟩, by intro v W W' h hX; obtain ⟨g', h1, h2, h3⟩ := h; exact ⟨g', h1, h2, h3.ext hX⟩, by intro v W W' h hX; obtain ⟨g', h1, h2, h3⟩ := h; exact ⟨g', h1, h2, h3.ext hX⟩, trivial⟩ ?_ ?_
 ·
  clear hend
  simp only [rops, Try.f131, regOf, Option.bind_some, Nat.reduceBEq, if_true, if_false, Bool.false_eq_true, Option.getD_some]
  simp only [List.take_succ_cons, List.take_zero]
  refine ⟨?_, ?_, ?_, ?_, ?_, ?_, ?_, ?_, trivial⟩
  ·
   rintro us W hJ _ b hb hbz K hK0 hK Qz
   have e1 := (hbz 1 (by simp)).trans s1
   clear hb hbz
   go_simp
   exact hK0 _ rfl
  ·
   rintro us W hJ d0 b hb hbz K hK0 hK Qz
   have e18 := slotV (hb 0 18 rfl) d0
   clear hb hbz d0
   have q := Ext.cell hJ a0
   go_simp
   exact hK0 _ rfl
  ·
   rintro us W hJ _ b hb hbz K hK0 hK Qz
   have e1 := (hbz 1 (by simp)).trans s1
   clear hb hbz
   go_simp
   exact hK0 _ rfl
  ·
   rintro us W hJ d2 b hb hbz K hK0 hK Qz
   have e20 := slotV (hb 2 20 rfl) d2
   clear hb hbz d2
   have q := Ext.cell hJ a1
   go_simp
   exact hK0 _ rfl
  ·
   rintro us W hJ d3 b hb hbz K hK0 hK Qz
   have e21 := slotV (hb 3 21 rfl) d3
   clear hb hbz d3
   go_simp
   exact hK0 _ rfl
  ·
   rintro us W hJ d4 b hb hbz K hK0 hK Qz
   have e22 := slotV (hb 4 22 rfl) d4
   clear hb hbz d4
   have hsz := Ext.size hJ
   have hmk := fun (W0 : World) => run_make (P := Try.prog) W0 95 129
   obtain ⟨i0, hi0, hz0, hs0, hb0⟩ := elU.info
   have hrun := run_make (P := Try.prog) W 95 129 i0 (.int .u32 0) elU.und hi0 hz0 .i64 .i64 (l : Int) (l : Int) (by omega) (by omega) (by rw [hb0]; omega) (by omega)
   simp only [Int.toNat_natCast] at hrun
   clear hmk
   go_simp
   refine hK _ _ ⟨W.heap.size, rfl, hsz, ?_⟩ ((Ext.refl W).alloc _)
   have hown : (W.alloc (.cells (madeCells #[Value.int .u32 0] l) 129)).ownsRow w.heap.size 129 1 (.slice (some ⟨W.heap.size, 0, none⟩) l l) l (List.replicate l (.int .u32 0)) := by
    refine ⟨by simp, .inr ⟨W.heap.size, l, _, rfl, hsz, heap_alloc_new W _, Nat.le_refl _, by unfold maxLen; omega, by rw [size_madeCells]; simp, ?_⟩⟩
    rw [toList_madeCells_one, Nat.mul_one, List.take_replicate, Nat.min_self]
   exact OwnS.made hown
  ·
   rintro us W hJ ⟨d1, d5⟩ b hb hbz K hK0 hK Qz
   have e19 := slotV (hb 1 19 rfl) d1
   have e23 := hb 5 23 rfl
   clear hb hbz d1
   obtain ⟨g', hv1, h2, h3⟩ := d5
   rw [hv1] at e23
   go_simp
   exact hK0 _ ⟨g', rfl, h2, h3⟩
  ·
   rintro us W hJ _ b hb hbz K hK0 hK Qz
   clear hb hbz
   have hsz := Ext.size hJ
   go_simp
   exact hK _ _ ⟨W.heap.size, rfl, hsz, Blk.new W _ _⟩ ((Ext.refl W).alloc _)
 ·
  rintro us W ⟨v0, v1, v2, v3, v4, v5, v6, v7, _⟩ hJ
  exact hend _ _ _ _ _ _ _ _ W v0 v1 v2 v3 v4 v5 v6 v7 hJ
set_option maxRecDepth 100000 in
set_option maxHeartbeats 4000000 in
theorem done_ok (v : Value) (q : Rat) (L : Nat) (w : World) (h : NumX w v q L) (hL : L ≤ 1099511627775) (hq : FitQW q) :
  Calls Try.prog 131 #[v] w (RetC w q) := by
 have HQ := hid hq
 clear hq
 obtain ⟨s, A1, l1, c1, A2, l2, c2, rfl⟩ := h.open
 have hXw : Ext w ((w.alloc (.cells #[.bool s, .slice A1 l1 c1, .slice A2 l2 c2] 217)).alloc (.cells #[.bool false, .slice none 0 0, .slice none 0 0] 97)) := ((Ext.refl w).alloc _).alloc _
 have hBA : Blk ((w.alloc (.cells #[.bool s, .slice A1 l1 c1, .slice A2 l2 c2] 217)).alloc (.cells #[.bool false, .slice none 0 0, .slice none 0 0] 97)) w.heap.size 217 #[.bool s, .slice A1 l1 c1, .slice A2 l2 c2] := (Blk.new w _ _).alloc _
 have hBR : Blk ((w.alloc (.cells #[.bool s, .slice A1 l1 c1, .slice A2 l2 c2] 217)).alloc (.cells #[.bool false, .slice none 0 0, .slice none 0 0] 97)) (w.heap.size + 1) 97 #[.bool false, .slice none 0 0, .slice none 0 0] := by
  have := Blk.new (w.alloc (.cells #[.bool s, .slice A1 l1 c1, .slice A2 l2 c2] 217)) 97 #[.bool false, .slice none 0 0, .slice none 0 0]
  simpa using this
 have HH := hid (h.ext hXw)
 clear h
 go_enter Try.func131, Try.ntmps131
 go_wp2_with fail
 generalize (w.alloc (.cells #[.bool s, .slice A1 l1 c1, .slice A2 l2 c2] 217)).alloc (.cells #[.bool false, .slice none 0 0, .slice none 0 0] 97) = w1 at hXw hBA hBR HH ⊢
 have HXw := hid hXw
 have HBR := hid hBR
 clear hXw hBR
 refine (reducedX HH.out hL).mono ?_
 rintro e w2 ⟨v2, rfl, hv2, hX2⟩
 obtain ⟨B1, m1, k1, B2, m2, k2, rfl, _⟩ := NumV.open hv2
 have hB2 := hBA.ext hX2
 obtain ⟨a0, a1, a2, f0, f1, f2⟩ := hB2.three
 have hNB := NoInts.three hB2
 have hv3 := hv2.boxed hNB (decide (q.num < 0)) B1 B2 m1 k1 m2 k2
 have hX3 : Ext w (((w2.setCell ⟨w.heap.size, 0, none⟩ (.bool (decide (q.num < 0)))).setCell ⟨w.heap.size, 1, none⟩ (.slice B1 m1 k1)).setCell ⟨w.heap.size, 2, none⟩ (.slice B2 m2 k2)) := Ext.boxed (HXw.out.trans hX2) (Nat.le_refl _) _ _ _
 have hBA3 : Blk (((w2.setCell ⟨w.heap.size, 0, none⟩ (.bool (decide (q.num < 0)))).setCell ⟨w.heap.size, 1, none⟩ (.slice B1 m1 k1)).setCell ⟨w.heap.size, 2, none⟩ (.slice B2 m2 k2)) w.heap.size 217 #[.bool (decide (q.num < 0)), .slice B1 m1 k1, .slice B2 m2 k2] := by
  have := ((hB2.set 0 (.bool (decide (q.num < 0)))).set 1 (.slice B1 m1 k1)).set 2 (.slice B2 m2 k2)
  simpa using this
 have hBR3 : Blk (((w2.setCell ⟨w.heap.size, 0, none⟩ (.bool (decide (q.num < 0)))).setCell ⟨w.heap.size, 1, none⟩ (.slice B1 m1 k1)).setCell ⟨w.heap.size, 2, none⟩ (.slice B2 m2 k2)) (w.heap.size + 1) 97 #[.bool false, .slice none 0 0, .slice none 0 0] :=
  (((HBR.out.ext hX2).far (by simp) _).far (by simp) _).far (by simp) _
 obtain ⟨sg, hsg⟩ : ∃ sg, decide (q.num < 0) = sg := ⟨_, rfl⟩
 rw [hsg] at hv3 hX3 hBA3 hBR3 ⊢
 have HSG := hid hsg
 obtain ⟨vn, vd, hve, hWn, hWd⟩ := hv3
 injection hve with hve
 have h1 : .slice B1 m1 k1 = vn := by have := congrArg (fun a => a[1]?) hve; simpa using this
 have h2 : .slice B2 m2 k2 = vd := by have := congrArg (fun a => a[2]?) hve; simpa using this
 subst h1 h2
 have hlm1 : m1 ≤ 256 ↔ FitW q.num.natAbs := by
  obtain ⟨A', l', c', xs', hve', hI', hr', _⟩ := hWn
  injection hve' with h1 h2 h3
  subst h1 h2 h3
  refine fitW ⟨fun hk => ?_, fun hf => by have := hf.len (by omega) hr'; rw [hI'.1] at this; exact this⟩
  have := (Fit.of_rep (by omega) hr').mono (b := 256) (by omega) (by rw [hI'.1]; exact hk)
  exact this
 have hlm2 : m2 ≤ 256 ↔ FitW q.den := by
  obtain ⟨A', l', c', xs', hve', hI', hr', _⟩ := hWd
  injection hve' with h1 h2 h3
  subst h1 h2 h3
  refine fitW ⟨fun hk => ?_, fun hf => by have := hf.len (by omega) hr'; rw [hI'.1] at this; exact this⟩
  have := (Fit.of_rep (by omega) hr').mono (b := 256) (by omega) (by rw [hI'.1]; exact hk)
  exact this
 obtain ⟨r0, r1, r2, g0, g1, g2⟩ := (HBR.out.ext hX2).three
 have HWn := hid hWn
 have HWd := hid hWd
 have HX3 := hid hX3
 have HBA3 := hid hBA3
 have HBR3 := hid hBR3
 have HLM1 := hid hlm1
 have HLM2 := hid hlm2
 clear hve hv2 hX2 hB2 hNB hsg hBA hWn hWd hX3 hBA3 hBR3 hlm1 hlm2
 have hm1 : m1 ≤ 256 := HLM1.out.2 HQ.out.num
 have hm2 : m2 ≤ 256 := HLM2.out.2 HQ.out.den
 go_upto_region 4 with (fail)
 generalize ((w2.setCell ⟨w.heap.size, 0, none⟩ (.bool sg)).setCell ⟨w.heap.size, 1, none⟩ (.slice B1 m1 k1)).setCell ⟨w.heap.size, 2, none⟩ (.slice B2 m2 k2) = w3 at HWn HWd HX3 HBA3 HBR3 ⊢
 clear a0 a1 a2 f0 f1 f2 r0 r1 r2 g0 g1 g2
 obtain ⟨a0, a1, a2, _, _, _⟩ := HBA3.out.three
 refine done_r4 w.heap.size sg B1 B2 m1 k1 m2 k2 w3 a0 a1 hm1 _ _ (by simp) rfl ?_
 rintro xv0 xv1 xv2 xv3 xv4 xv5 xv6 xv7 W rfl rfl rfl rfl rfl h5 h6 h7 hXW
 simp only [rops, Try.f131, regOf, Option.bind_some, Nat.reduceBEq, if_true, if_false, Bool.false_eq_true, Option.getD_some, List.drop_succ_cons, List.drop_zero]
 simp only [Act.put, List.setIfInBounds_toArray, List.set_cons_succ, List.set_cons_zero]
 obtain ⟨g5, rfl, _, _⟩ := h5
 obtain ⟨gn, rfl, hgn, hOn⟩ := h6
 obtain ⟨g4, rfl, hg4, hB4⟩ := h7
 have hne4 : g4 ≠ gn := hOn.apart hB4 (by decide)
 obtain ⟨y0, y1, y2, f0, f1, f2⟩ := hB4.three
 have hw3 := HX3.out.size
 have hga : w.heap.size < w3.heap.size := HBA3.out.lt
 have hgr : w.heap.size + 1 < w3.heap.size := HBR3.out.lt
 go_upto_region 5 with (fail)
 have hgw := (((grownBy_set W g4 0 (.bool sg)).trans (grownBy_set _ g4 1 (.slice (some ⟨gn, 0, none⟩) m1 m1))).trans (grownBy_set _ g4 2 (.slice none 0 0)))
 have hO4 := hOn.other hgw hne4
 have hB4' : Blk (((W.setCell ⟨g4, 0, none⟩ (.bool sg)).setCell ⟨g4, 1, none⟩ (.slice (some ⟨gn, 0, none⟩) m1 m1)).setCell ⟨g4, 2, none⟩ (.slice none 0 0)) g4 97 #[.bool sg, .slice (some ⟨gn, 0, none⟩) m1 m1, .slice none 0 0] := by
  have := ((hB4.set 0 (.bool sg)).set 1 (.slice (some ⟨gn, 0, none⟩) m1 m1)).set 2 (.slice none 0 0)
  simpa using this
 have hX4 := Ext.boxed hXW hg4 (.bool sg) (.slice (some ⟨gn, 0, none⟩) m1 m1) (.slice none 0 0)
 generalize ((W.setCell ⟨g4, 0, none⟩ (.bool sg)).setCell ⟨g4, 1, none⟩ (.slice (some ⟨gn, 0, none⟩) m1 m1)).setCell ⟨g4, 2, none⟩ (.slice none 0 0) = w4 at hO4 hB4' hX4 ⊢
 clear y0 y1 y2 f0 f1 f2 hgw hOn hB4 hXW a0 a1 a2
 have HX4 := hid hX4
 have HB4 := hid hB4'
 obtain ⟨a0, a1, a2, _, _, _⟩ := (HBA3.out.ext hX4).three
 obtain ⟨y0, y1, y2, f0, f1, f2⟩ := hB4'.three
 obtain ⟨_, _, _, xs, hve, hIn, hRn, _, _⟩ := HWn.out.ext hX4
 injection hve with e1 e2 e3
 subst e1 e2 e3
 have HIn := hid hIn
 have HRn := hid hRn
 clear hIn hRn hX4 hB4'
 obtain ⟨_, _, _, ys, hve, hId, hRd, hkd, hkm⟩ := HWd.out
 injection hve with e1 e2 e3
 subst e1 e2 e3
 have HId := hid hId
 have HRd := hid hRd
 have hcase : Hid (q.den = 1 ∧ m2 = 1 ∧ (∃ b o, B2 = some ⟨b, o, none⟩ ∧ w3.cell? ⟨b, o, none⟩ = some (.int .u32 1)) ∨ (q.den ≠ 1 ∧ (1 < m2 ∨ (m2 = 1 ∧ ∃ b o x, B2 = some ⟨b, o, none⟩ ∧ w3.cell? ⟨b, o, none⟩ = some (.int .u32 x) ∧ (x != 1) = true)))) := by
  by_cases h1 : q.den = 1
  ·
   have hys : ys = [1] := by rw [h1] at hRd; exact hRd.unique (by omega) (Rep.one (by omega))
   subst hys
   have hm : m2 = 1 := by simpa using hId.1.symm
   subst hm
   obtain ⟨b, o, y, rfl, hy, _, hcy⟩ := hId.get (j := 0) (by omega)
   obtain rfl : 1 = y := by simpa using hy
   rw [Nat.add_zero] at hcy
   exact .inl ⟨h1, rfl, b, o, rfl, hcy⟩
  ·
   refine .inr ⟨h1, ?_⟩
   have hm0 : 0 < m2 := by
    rcases Nat.eq_zero_or_pos m2 with h | h
    ·
     have h2 := hId.1
     rw [h] at h2
     have := (hRd.pos (by omega)).2 (List.eq_nil_of_length_eq_zero h2)
     have := q.den_pos
     omega
    ·
     exact h
   by_cases hm : m2 = 1
   ·
    subst hm
    obtain ⟨x, rfl, hx, _, _⟩ := one_digit (by omega) hRd hId.1
    obtain ⟨b, o, y, rfl, hy, _, hcy⟩ := hId.get (j := 0) (by omega)
    obtain rfl : x = y := by simpa using hy
    rw [Nat.add_zero] at hcy
    refine .inr ⟨rfl, b, o, x, rfl, hcy, ?_⟩
    simp only [bne_iff_ne, ne_eq]
    intro h2; apply h1; omega
   ·
    exact .inl (by omega)
 have HCASE := hid hcase
 clear hId hRd hcase
 go_upto_region 6 with (first | (refine wpList_cp (o := ⟨some 29, _, _, _, _, _⟩) _ elU rfl _ _ rfl w3.heap.size (some ⟨gn, 0, none⟩) m1 m1 _ rfl hO4.own B1 m1 k1 (xs.map (.int .u32)) rfl (by rw [List.length_map]; exact HIn.out.1) HIn.out.2.2 (ints_oneCell _ _) ?_; intro w5 r5 hown5 hgr5 hr5))
 have hX5 : Ext w3 w5 := HX4.out.grown hgr5 (fun k hk => by simp [Value.ownBlock] at hk; omega)
 have hO5 : OwnS .u32 129 w3.heap.size w5 (some ⟨gn, 0, none⟩) m1 m1 xs := by
  refine ⟨?_, HIn.out.1, HIn.out.2.1⟩
  have e : List.take m1 (xs.map (Value.int .u32)) ++ List.drop m1 ((List.replicate m1 (0 : Int)).map (Value.int .u32)) = xs.map (Value.int .u32) := by
   rw [List.take_of_length_le (by rw [List.length_map, HIn.out.1]; exact Nat.le_refl _), List.drop_eq_nil_of_le (by simp)]; simp
  rw [e] at hown5
  exact hown5
 have hB5 : Blk w5 g4 97 #[.bool sg, .slice (some ⟨gn, 0, none⟩) m1 m1, .slice none 0 0] := HB4.out.grown hgr5 (by simp [Value.ownBlock]; exact hne4)
 have HX5 := hid hX5
 have HO5 := hid hO5
 have HB5 := hid hB5
 clear hown5 hgr5 hr5 hX5 hO5 hB5 a0 a1 a2 y0 y1 y2 f0 f1 f2 hO4
 obtain ⟨a0, a1, a2, _, _, _⟩ := (HBA3.out.ext HX5.out).three
 obtain ⟨y0, y1, y2, f0, f1, f2⟩ := HB5.out.three
 obtain ⟨r0, r1, r2, g0, g1, g2⟩ := (HBR3.out.ext HX5.out).three
 have hgr5 := (HBR3.out.ext HX5.out).lt
 have hner : w.heap.size + 1 ≠ g4 := by omega
 rcases HCASE.out with ⟨hd1, rfl, b, o, rfl, hcb⟩ | ⟨hd1, hrest⟩
 ·
  replace hcb := HX5.out.cell hcb
  have HD1 := hid hd1
  clear hd1 HCASE
  go_wp2
  refine bodyPost_ret (v := .tuple #[.agg #[.bool sg, .slice (some ⟨gn, 0, none⟩) m1 m1, .slice none 0 0], .int .i64 0]) (by simp [results, Try.results131, go_sem, *]) rfl ?_
  have hNR := NoInts.three (HBR3.out.ext HX5.out)
  have hI5 := HO5.out.ints
  refine ⟨_, rfl, ⟨xs, [], ⟨_, _, _, _, _, _, by rw [HSG.out], ?_, Nat.le_refl _, by omega, Ints.nil, by omega, by omega⟩, HRn.out, .inl ⟨HD1.out, rfl⟩⟩, Ext.boxed (HX3.out.trans HX5.out) (by omega) _ _ _⟩
  exact ((hI5.past hNR.cell 0 _).past (hNR.set 0 (noInt_bool _)).cell 1 _).past ((hNR.set 0 (noInt_bool _)).set 1 (noInt_slice _ _ _)).cell 2 _
 ·
  have HD1 := hid hd1
  clear hd1 HCASE
  rcases hrest with hm | ⟨rfl, b, o, x, rfl, hcb, hx⟩
  ·
   have hmb : (1 : Int) < (m2 : Int) := by omega
   have hgn5 : gn < w5.heap.size := HO5.out.inMem
   have hg45 : g4 < w5.heap.size := HB5.out.lt
   go_upto_region 8 with (first | (at_make; refine wpList_mk _ elU rfl rfl _ _ rfl w5.heap.size _ _ _ _ m2 m2 rfl rfl rfl rfl (Nat.le_refl _) (by omega) (by unfold maxLen; omega) (Nat.le_refl _) ?_; intro w6 hown6 hext6 hsz6; obtain ⟨y0, y1, y2, f0, f1, f2⟩ := (HB5.out.ext hext6).three))
   have hO6d := OwnS.made hown6
   obtain ⟨gd, hgd⟩ : ∃ gd, gd = w5.heap.size := ⟨_, rfl⟩
   rw [← hgd] at hO6d ⊢
   have hgd1 : w5.heap.size ≤ gd := by omega
   have hgd2 : gn < gd := by omega
   have hgd3 : g4 < gd := by omega
   clear hgd
   have hg7 := grownBy_set w6 g4 2 (.slice (some ⟨gd, 0, none⟩) m2 m2)
   have hO7d := hO6d.other hg7 (by omega)
   have hO7n := (HO5.out.ext hext6).other hg7 hne4
   have hB7 : Blk (w6.setCell ⟨g4, 2, none⟩ (.slice (some ⟨gd, 0, none⟩) m2 m2)) g4 97 #[.bool sg, .slice (some ⟨gn, 0, none⟩) m1 m1, .slice (some ⟨gd, 0, none⟩) m2 m2] := by
    have := (HB5.out.ext hext6).set 2 (.slice (some ⟨gd, 0, none⟩) m2 m2)
    simpa using this
   have hX7 := (HX5.out.trans hext6).setCell (p := ⟨g4, 2, none⟩) hg4 (.slice (some ⟨gd, 0, none⟩) m2 m2)
   generalize w6.setCell ⟨g4, 2, none⟩ (.slice (some ⟨gd, 0, none⟩) m2 m2) = w7 at hO7d hO7n hB7 hX7 ⊢
   have HId7 := hid (HId.out.ext hX7)
   have HX7 := hid hX7
   have HO7n := hid hO7n
   have HB7 := hid hB7
   obtain ⟨a0, a1, a2, _, _, _⟩ := (HBA3.out.ext hX7).three
   clear hown6 hext6 hsz6 hO6d hg7 hO7n y0 y1 y2 f0 f1 f2 hX7
   obtain ⟨y0, y1, y2, f0, f1, f2⟩ := hB7.three
   clear hB7 r0 r1 r2 g0 g1 g2
   have hl' : (ys.map (Value.int .u32)).length = m2 := by rw [List.length_map]; exact HId7.out.1
   have hat' : At w7 B2 (ys.map (Value.int .u32)) := HId7.out.2.2
   have ho' := hO7d.own
   go_upto_region 9 with (first | (refine wpList_cp (o := ⟨some 50, _, _, _, _, _⟩) _ elU rfl _ _ rfl _ _ _ _ _ rfl ho' B2 m2 k2 (ys.map (.int .u32)) rfl hl' hat' (ints_oneCell _ _) ?_; intro w8 r8 hown8 hgr8 hr8))
   clear hl' hat' ho'
   have hX8 : Ext w3 w8 := HX7.out.grown hgr8 (fun k hk => by simp [Value.ownBlock] at hk; have := HX5.out.size; omega)
   have hO8d : OwnS .u32 129 gd w8 (some ⟨gd, 0, none⟩) m2 m2 ys := by
    refine ⟨?_, HId7.out.1, HId7.out.2.1⟩
    have e : List.take m2 (ys.map (Value.int .u32)) ++ List.drop m2 ((List.replicate m2 (0 : Int)).map (Value.int .u32)) = ys.map (Value.int .u32) := by
     rw [List.take_of_length_le (by rw [List.length_map, HId7.out.1]; exact Nat.le_refl _), List.drop_eq_nil_of_le (by simp)]; simp
    rw [e] at hown8
    exact hown8
   have hO8n := HO7n.out.other hgr8 (show gd ≠ gn by omega)
   have hB8 : Blk w8 g4 97 #[.bool sg, .slice (some ⟨gn, 0, none⟩) m1 m1, .slice (some ⟨gd, 0, none⟩) m2 m2] := HB7.out.grown hgr8 (by simp [Value.ownBlock]; omega)
   have HX8 := hid hX8
   have HO8d := hid hO8d
   have HO8n := hid hO8n
   have HBR8 := hid (HBR3.out.ext hX8)
   clear hown8 hgr8 hr8 hO8d hO8n hO7d a0 a1 a2 y0 y1 y2 f0 f1 f2 hX8
   obtain ⟨y0, y1, y2, f0, f1, f2⟩ := hB8.three
   obtain ⟨r0, r1, r2, g0, g1, g2⟩ := HBR8.out.three
   clear hB8
   go_wp2
   refine bodyPost_ret (v := .tuple #[.agg #[.bool sg, .slice (some ⟨gn, 0, none⟩) m1 m1, .slice (some ⟨gd, 0, none⟩) m2 m2], .int .i64 0]) (by simp [results, Try.results131, go_sem, *]) rfl ?_
   have hNR := NoInts.three HBR8.out
   refine ⟨_, rfl, ⟨xs, ys, ⟨_, _, _, _, _, _, by rw [HSG.out], ?_, Nat.le_refl _, by omega, ?_, Nat.le_refl _, by omega⟩, HRn.out, .inr ⟨HD1.out, HRd.out⟩⟩, Ext.boxed (HX3.out.trans HX8.out) (by omega) _ _ _⟩
   ·
    exact ((HO8n.out.ints.past hNR.cell 0 _).past (hNR.set 0 (noInt_bool _)).cell 1 _).past ((hNR.set 0 (noInt_bool _)).set 1 (noInt_slice _ _ _)).cell 2 _
   ·
    exact ((HO8d.out.ints.past hNR.cell 0 _).past (hNR.set 0 (noInt_bool _)).cell 1 _).past ((hNR.set 0 (noInt_bool _)).set 1 (noInt_slice _ _ _)).cell 2 _
  ·
   replace hcb := HX5.out.cell hcb
   have hgn5 : gn < w5.heap.size := HO5.out.inMem
   have hg45 : g4 < w5.heap.size := HB5.out.lt
   go_upto_region 8 with (first | (at_make; refine wpList_mk _ elU rfl rfl _ _ rfl w5.heap.size _ _ _ _ 1 1 rfl rfl rfl rfl (Nat.le_refl _) (by omega) (by unfold maxLen; omega) (Nat.le_refl _) ?_; intro w6 hown6 hext6 hsz6; obtain ⟨y0, y1, y2, f0, f1, f2⟩ := (HB5.out.ext hext6).three))
   have hO6d := OwnS.made hown6
   obtain ⟨gd, hgd⟩ : ∃ gd, gd = w5.heap.size := ⟨_, rfl⟩
   rw [← hgd] at hO6d ⊢
   have hgd1 : w5.heap.size ≤ gd := by omega
   have hgd2 : gn < gd := by omega
   have hgd3 : g4 < gd := by omega
   clear hgd
   have hg7 := grownBy_set w6 g4 2 (.slice (some ⟨gd, 0, none⟩) 1 1)
   have hO7d := hO6d.other hg7 (by omega)
   have hO7n := (HO5.out.ext hext6).other hg7 hne4
   have hB7 : Blk (w6.setCell ⟨g4, 2, none⟩ (.slice (some ⟨gd, 0, none⟩) 1 1)) g4 97 #[.bool sg, .slice (some ⟨gn, 0, none⟩) m1 m1, .slice (some ⟨gd, 0, none⟩) 1 1] := by
    have := (HB5.out.ext hext6).set 2 (.slice (some ⟨gd, 0, none⟩) 1 1)
    simpa using this
   have hX7 := (HX5.out.trans hext6).setCell (p := ⟨g4, 2, none⟩) hg4 (.slice (some ⟨gd, 0, none⟩) 1 1)
   generalize w6.setCell ⟨g4, 2, none⟩ (.slice (some ⟨gd, 0, none⟩) 1 1) = w7 at hO7d hO7n hB7 hX7 ⊢
   have HId7 := hid (HId.out.ext hX7)
   have HX7 := hid hX7
   have HO7n := hid hO7n
   have HB7 := hid hB7
   obtain ⟨a0, a1, a2, _, _, _⟩ := (HBA3.out.ext hX7).three
   clear hown6 hext6 hsz6 hO6d hg7 hO7n y0 y1 y2 f0 f1 f2 hX7
   obtain ⟨y0, y1, y2, f0, f1, f2⟩ := hB7.three
   clear hB7 r0 r1 r2 g0 g1 g2
   have hl' : (ys.map (Value.int .u32)).length = 1 := by rw [List.length_map]; exact HId7.out.1
   have hat' : At w7 (some ⟨b, o, none⟩) (ys.map (Value.int .u32)) := HId7.out.2.2
   have ho' := hO7d.own
   go_upto_region 9 with (first | (refine wpList_cp (o := ⟨some 50, _, _, _, _, _⟩) _ elU rfl _ _ rfl _ _ _ _ _ rfl ho' (some ⟨b, o, none⟩) 1 k2 (ys.map (.int .u32)) rfl hl' hat' (ints_oneCell _ _) ?_; intro w8 r8 hown8 hgr8 hr8))
   clear hl' hat' ho'
   have hX8 : Ext w3 w8 := HX7.out.grown hgr8 (fun k hk => by simp [Value.ownBlock] at hk; have := HX5.out.size; omega)
   have hO8d : OwnS .u32 129 gd w8 (some ⟨gd, 0, none⟩) 1 1 ys := by
    refine ⟨?_, HId7.out.1, HId7.out.2.1⟩
    have e : List.take 1 (ys.map (Value.int .u32)) ++ List.drop 1 ((List.replicate 1 (0 : Int)).map (Value.int .u32)) = ys.map (Value.int .u32) := by
     rw [List.take_of_length_le (by rw [List.length_map, HId7.out.1]; exact Nat.le_refl _), List.drop_eq_nil_of_le (by simp)]; simp
    rw [e] at hown8
    exact hown8
   have hO8n := HO7n.out.other hgr8 (show gd ≠ gn by omega)
   have hB8 : Blk w8 g4 97 #[.bool sg, .slice (some ⟨gn, 0, none⟩) m1 m1, .slice (some ⟨gd, 0, none⟩) 1 1] := HB7.out.grown hgr8 (by simp [Value.ownBlock]; omega)
   have HX8 := hid hX8
   have HO8d := hid hO8d
   have HO8n := hid hO8n
   have HBR8 := hid (HBR3.out.ext hX8)
   clear hown8 hgr8 hr8 hO8d hO8n hO7d a0 a1 a2 y0 y1 y2 f0 f1 f2 hX8
   obtain ⟨y0, y1, y2, f0, f1, f2⟩ := hB8.three
   obtain ⟨r0, r1, r2, g0, g1, g2⟩ := HBR8.out.three
   clear hB8
   go_wp2
   refine bodyPost_ret (v := .tuple #[.agg #[.bool sg, .slice (some ⟨gn, 0, none⟩) m1 m1, .slice (some ⟨gd, 0, none⟩) 1 1], .int .i64 0]) (by simp [results, Try.results131, go_sem, *]) rfl ?_
   have hNR := NoInts.three HBR8.out
   refine ⟨_, rfl, ⟨xs, ys, ⟨_, _, _, _, _, _, by rw [HSG.out], ?_, Nat.le_refl _, by omega, ?_, Nat.le_refl _, by omega⟩, HRn.out, .inr ⟨HD1.out, HRd.out⟩⟩, Ext.boxed (HX3.out.trans HX8.out) (by omega) _ _ _⟩
   ·
    exact ((HO8n.out.ints.past hNR.cell 0 _).past (hNR.set 0 (noInt_bool _)).cell 1 _).past ((hNR.set 0 (noInt_bool _)).set 1 (noInt_slice _ _ _)).cell 2 _
   ·
    exact ((HO8d.out.ints.past hNR.cell 0 _).past (hNR.set 0 (noInt_bool _)).cell 1 _).past ((hNR.set 0 (noInt_bool _)).set 1 (noInt_slice _ _ _)).cell 2 _
theorem large_is (b : Bool) (v : Value) (neg : Bool) (xs ys : List Int) (w : World) (h : RatV w v neg xs ys) (hb : b = true ↔ ¬ SmallR xs ys) :
  Calls Try.prog 141 #[v] w fun e w' => e = .returned (.bool b) ∧ Ext w w' := by
 cases b
 ·
  have hs : SmallR xs ys := Classical.byContradiction fun h => by simpa using hb.2 h
  exact large_no v neg xs ys w h hs.1 hs.2
 ·
  exact large_yes v neg xs ys w h (hb.1 rfl)
/-- The sign of an integer. -/
def sgI (n : Int) : Int := if n < 0 then -1 else if 0 < n then 1 else 0
set_option maxHeartbeats 1000000 in
theorem rminus_neg (A : Option Addr) (l c : Nat) (w : World)  :
  Calls Try.prog 151 #[.agg #[.bool true, .slice A l c]] w fun e w' => e = .returned (.agg #[.bool false, .slice A l c]) ∧ Ext w w' := by
 have HX := hid (((Ext.refl w).alloc (.cells #[.bool true, .slice A l c] 63)).alloc (.cells #[.bool false, .slice A l c] 63))
 skip
 go_enter Try.func151, Try.ntmps151
 go_wp2
 refine bodyPost_ret (v := .agg #[.bool false, .slice A l c]) (by simp [results, Try.results151, go_sem, *]) rfl ?_
 exact ⟨rfl, HX.out⟩
set_option maxHeartbeats 1000000 in
theorem rminus_pos (A : Option Addr) (l c : Nat) (w : World) (_hl : 0 < l) :
  Calls Try.prog 151 #[.agg #[.bool false, .slice A l c]] w fun e w' => e = .returned (.agg #[.bool true, .slice A l c]) ∧ Ext w w' := by
 have HX := hid (((Ext.refl w).alloc (.cells #[.bool false, .slice A l c] 63)).alloc (.cells #[.bool true, .slice A l c] 63))
 have hl2 : (0 : Int) < (l : Int) := by omega
 go_enter Try.func151, Try.ntmps151
 go_wp2
 refine bodyPost_ret (v := .agg #[.bool true, .slice A l c]) (by simp [results, Try.results151, go_sem, *]) rfl ?_
 exact ⟨rfl, HX.out⟩
set_option maxHeartbeats 1000000 in
theorem rminus_zero (A : Option Addr) (l c : Nat) (w : World) (hl : l = 0) :
  Calls Try.prog 151 #[.agg #[.bool false, .slice A l c]] w fun e w' => e = .returned (.agg #[.bool false, .slice A l c]) ∧ Ext w w' := by
 have HX := hid (((Ext.refl w).alloc (.cells #[.bool false, .slice A l c] 63)).alloc (.cells #[.bool false, .slice A l c] 63))
 subst hl
 go_enter Try.func151, Try.ntmps151
 go_wp2
 refine bodyPost_ret (v := .agg #[.bool false, .slice A 0 c]) (by simp [results, Try.results151, go_sem, *]) rfl ?_
 exact ⟨rfl, HX.out⟩
set_option maxHeartbeats 1000000 in
theorem rsign_neg (A : Option Addr) (l c : Nat) (w : World) (_hl : 0 < l) :
  Calls Try.prog 117 #[.agg #[.bool true, .slice A l c]] w fun e w' => e = .returned (.int .i64 (-1)) ∧ Ext w w' := by
 have HX := hid ((Ext.refl w).alloc (.cells #[.bool true, .slice A l c] 63))
 have hl2 : ((l : Int) == 0) = false := by simp; omega
 go_enter Try.func117, Try.ntmps117
 go_wp2
 go_ret
 exact ⟨rfl, HX.out⟩
set_option maxHeartbeats 1000000 in
theorem rsign_pos (A : Option Addr) (l c : Nat) (w : World) (_hl : 0 < l) :
  Calls Try.prog 117 #[.agg #[.bool false, .slice A l c]] w fun e w' => e = .returned (.int .i64 (1)) ∧ Ext w w' := by
 have HX := hid ((Ext.refl w).alloc (.cells #[.bool false, .slice A l c] 63))
 have hl2 : ((l : Int) == 0) = false := by simp; omega
 go_enter Try.func117, Try.ntmps117
 go_wp2
 go_ret
 exact ⟨rfl, HX.out⟩
set_option maxHeartbeats 1000000 in
theorem rsign_zero (A : Option Addr) (l c : Nat) (w : World) (hl : l = 0) :
  Calls Try.prog 117 #[.agg #[.bool false, .slice A l c]] w fun e w' => e = .returned (.int .i64 (0)) ∧ Ext w w' := by
 have HX := hid ((Ext.refl w).alloc (.cells #[.bool false, .slice A l c] 63))
 subst hl
 go_enter Try.func117, Try.ntmps117
 go_wp2
 go_ret
 exact ⟨rfl, HX.out⟩
theorem IntZ.parts {w : World} {v : Value} {z : Int} (h : IntZ w v z) : ∃ A l c, v = .agg #[.bool (decide (z < 0)), .slice A l c] ∧ Z16 w (.slice A l c) z.natAbs ∧ (z = 0 ↔ l = 0) := by
 obtain ⟨A, l, c, rfl, hz⟩ := h
 have hz' := hz
 obtain ⟨A', l', c', xs, e, hI, hr, _⟩ := hz'
 injection e with e1 e2 e3
 subst e1 e2 e3
 have hp := hr.pos (by omega)
 rw [← List.length_eq_zero_iff, hI.1] at hp
 exact ⟨A, l, c, rfl, hz, by rw [← hp]; omega⟩
theorem rsign_any (v : Value) (z : Int) (w : World) (h : IntZ w v z) : Calls Try.prog 117 #[v] w fun e w' => e = .returned (.int .i64 (sgI z)) ∧ Ext w w' := by
 obtain ⟨A, l, c, rfl, hz, hl⟩ := h.parts
 rcases Int.lt_trichotomy z 0 with h | h | h
 ·
  rw [decide_eq_true h, show sgI z = -1 by simp [sgI, h]]
  exact rsign_neg A l c w (by rcases Nat.eq_zero_or_pos l with h0 | h0; have := hl.2 h0; omega; exact h0)
 ·
  rw [decide_eq_false (by omega), h]
  exact rsign_zero A l c w (hl.1 h)
 ·
  rw [decide_eq_false (by omega), show sgI z = 1 by simp [sgI, h, show ¬ z < 0 by omega]]
  exact rsign_pos A l c w (by rcases Nat.eq_zero_or_pos l with h0 | h0; have := hl.2 h0; omega; exact h0)
theorem rminus_any (v : Value) (z : Int) (w : World) (h : IntZ w v z) : Calls Try.prog 151 #[v] w (RetZ w (-z)) := by
 obtain ⟨A, l, c, rfl, hz⟩ := h
 have hz' := hz
 obtain ⟨A', l', c', xs, e, hI, hr, _⟩ := hz'
 injection e with e1 e2 e3
 subst e1 e2 e3
 have hp := hr.pos (by omega)
 rw [← List.length_eq_zero_iff, hI.1] at hp
 have hab : (-z).natAbs = z.natAbs := Int.natAbs_neg z
 rcases Int.lt_trichotomy z 0 with h | h | h
 ·
  rw [decide_eq_true h]
  refine (rminus_neg A l c w).mono ?_
  rintro e w' ⟨rfl, hX⟩
  exact ⟨_, rfl, ⟨A, l, c, by rw [decide_eq_false (by omega)], by rw [hab]; exact hz.ext hX⟩, hX⟩
 ·
  rw [decide_eq_false (by omega)]
  refine (rminus_zero A l c w (hp.1 (by omega))).mono ?_
  rintro e w' ⟨rfl, hX⟩
  exact ⟨_, rfl, ⟨A, l, c, by rw [decide_eq_false (by omega)], by rw [hab]; exact hz.ext hX⟩, hX⟩
 ·
  rw [decide_eq_false (by omega)]
  refine (rminus_pos A l c w (by rcases Nat.eq_zero_or_pos l with h0 | h0; have := hp.2 h0; omega; exact h0)).mono ?_
  rintro e w' ⟨rfl, hX⟩
  exact ⟨_, rfl, ⟨A, l, c, by rw [decide_eq_true (by omega)], by rw [hab]; exact hz.ext hX⟩, hX⟩
end Go.Proofs.Ytikhlcgnlbinfaa
