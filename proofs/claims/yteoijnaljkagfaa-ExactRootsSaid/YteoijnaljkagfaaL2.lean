/- ExactRoots: its walk, with Root of the program and of the reference. -/
import Derived.Test.YteoijnaljkagfaaL1
namespace Go.Proofs.Yteoijnaljkagfaa
open Go.RowKit

/-- A number whose square is not above n. -/
structure RootP (n t : Int) : Prop where
  le : t ≤ 3037000499
  sq : t * t ≤ n
structure IsRoot (n r : Int) : Prop where
  nonneg : 0 ≤ r
  yes : RootP n r
  no : ¬ RootP n (r + 1)
theorem RootP.mono {n s t : Int} (h : RootP n t) (h0 : 0 ≤ s) (hst : s ≤ t) : RootP n s := by
  refine ⟨by have := h.le; omega, ?_⟩
  have h1 : s * s ≤ t * t := Int.mul_le_mul hst hst h0 (by omega)
  have := h.sq; omega
theorem IsRoot.unique {n r s : Int} (h : IsRoot n r) (k : IsRoot n s) : r = s := by
  rcases Int.lt_trichotomy r s with hl | hl | hl
  · exact absurd (k.yes.mono (s := r + 1) (by have := h.nonneg; omega) (by omega)) h.no
  · exact hl
  · exact absurd (h.yes.mono (s := s + 1) (by have := k.nonneg; omega) (by omega)) k.no
theorem sq_in {t : Int} (h0 : 0 ≤ t) (h1 : t ≤ 3037000499) : 0 ≤ t * t ∧ t * t ≤ 9223372030926249001 := by
  have a := Int.mul_nonneg h0 h0
  have b := Int.mul_le_mul h1 h1 h0 (by omega)
  omega
/-- The bit that is tried when j bits are left. -/
def rbit (j : Nat) : Int := if j = 0 then 0 else 2 ^ (j - 1)
theorem pow_step (i : Nat) : (2 : Int) ^ (i + 1) = 2 * 2 ^ i := by rw [Int.pow_succ, Int.mul_comm]
theorem pow_in {i : Nat} (h : i ≤ 31) : 0 < (2 : Int) ^ i ∧ (2 : Int) ^ i ≤ 2147483648 := by
  have h1 : (0 : Int) < 2 ^ i := Int.pow_pos (by omega)
  have h2 : (2 : Int) ^ i ≤ 2 ^ 31 := pow_le (B := 2) (by omega) h
  have : (2 : Int) ^ 31 = 2147483648 := by decide
  omega
theorem rbit_half (i : Nat) : (2 : Int) ^ i / 2 = rbit i := by
  unfold rbit
  rcases i with _ | i
  · decide
  · simp only [Nat.add_one_ne_zero, if_false, Nat.add_sub_cancel]
    rw [pow_step]; omega

set_option maxRecDepth 100000 in
set_option maxHeartbeats 2000000 in
theorem root_any (n : Int) (w : World) (h0 : 0 ≤ n) (h1 : n ≤ 9223372036854775807) :
    Calls Try.prog 31 #[.int .i64 n] w fun e w' => ∃ r, e = .returned (.tuple #[.int .i64 r, .int .i64 0]) ∧ IsRoot n r ∧ w = w' := by
  go_enter Try.func31, Try.ntmps31
  go_wp2
  go_loopg [4, 5] 32 (fun g' a b wr => ∃ (j : Nat) (r : Int), j = g' ∧ j ≤ 32 ∧ a = .int .i64 r ∧ b = .int .i64 (rbit j) ∧ 0 ≤ r ∧ r ≤ 3037000499 ∧ Hid (RootP n r) ∧ Hid (¬ RootP n (r + 2 ^ j)) ∧ Hid (r % 2 ^ j = 0) ∧ Hid (w = wr))
  case atStart => exact ⟨32, 0, rfl, by omega, rfl, rfl, by omega, by omega, ⟨by omega, by omega⟩, fun h => by have h1 := h.le; revert h1; decide, by show _ = _; simp, rfl⟩
  case round =>
    obtain ⟨j, r, rfl, hj, rfl, rfl, hr0, hr1, hP, hN, hM, HW⟩ := hrel
    rcases j with _ | i
    · have hz : rbit 0 = 0 := rfl
      rw [hz]
      clear hz
      go_wp2
      go_ret2
      exact ⟨r, rfl, ⟨hr0, hP.out, by have := hN.out; simpa using this⟩, HW.out⟩
    · have hb : rbit (i + 1) = 2 ^ i := rfl
      have hh := rbit_half i
      obtain ⟨hp0, hp1⟩ := pow_in (i := i) (by omega)
      have hs := pow_step i
      have hor : bits .or .i64 r (2 ^ i) = r + 2 ^ i := ori64_add (i + 1) hr0 (by rw [hs]; omega) hM.out (by omega)
      have hM' : (r + 2 ^ i) % 2 ^ i = 0 := by
        have := hM.out
        rw [hs] at this
        have hd : (2 : Int) ^ i ∣ r := Int.dvd_trans (Int.dvd_mul_left 2 _) (Int.dvd_of_emod_eq_zero this)
        rw [Int.add_emod_right]; exact Int.emod_eq_zero_of_dvd hd
      have hM0 : r % 2 ^ i = 0 := by rw [← hM', Int.add_emod_right]
      have hN' := hN.out
      rw [hs, show r + 2 * 2 ^ i = (r + 2 ^ i) + 2 ^ i by omega] at hN'
      have HM' := Lib.hid hM'
      have HM0 := Lib.hid hM0
      have HN' := Lib.hid hN'
      rw [hb]
      generalize hq : (2 : Int) ^ i = q at hh hp0 hp1 hor HM' HM0 HN' ⊢
      have HQ := Lib.hid hq
      have HH := Lib.hid hh
      clear hb hs hM' hM0 hN' hN hM hq hh
      have hqh : q >>> 1 = q / 2 := by rw [Int.shiftRight_eq_div_pow]; rfl
      by_cases ht : r + q ≤ 3037000499
      · obtain ⟨m0, m1⟩ := sq_in (t := r + q) (by omega) ht
        by_cases hm : (r + q) * (r + q) ≤ n
        · go_wp2
          go_roundg i
          case rel => exact ⟨i, r + q, rfl, by omega, rfl, by rw [← HH.out], by omega, ht, ⟨ht, hm⟩, by rw [HQ.out]; exact HN', by rw [HQ.out]; exact HM', HW⟩
          case measure => omega
        · have hno : Hid (¬ RootP n (r + q)) := fun h => hm h.sq
          go_wp2
          go_roundg i
          case rel => exact ⟨i, r, rfl, by omega, rfl, by rw [← HH.out], hr0, hr1, hP, by rw [HQ.out]; exact hno, by rw [HQ.out]; exact HM0, HW⟩
          case measure => omega
      · have hno : Hid (¬ RootP n (r + q)) := fun h => ht h.le
        go_wp2
        go_roundg i
        case rel => exact ⟨i, r, rfl, by omega, rfl, by rw [← HH.out], hr0, hr1, hP, by rw [HQ.out]; exact hno, by rw [HQ.out]; exact HM0, HW⟩
        case measure => omega

set_option maxHeartbeats 1000000 in
theorem root_neg (n : Int) (w : World) (h0 : n < 0) : Calls Try.prog 31 #[.int .i64 n] w fun e w' => e = .returned (.tuple #[.int .i64 0, .int .i64 2]) ∧ w = w' := by
  go_enter Try.func31, Try.ntmps31
  go_wp2
  go_ret2
  exact ⟨rfl, rfl⟩

set_option maxRecDepth 100000 in
set_option maxHeartbeats 2000000 in
theorem rroot_any (n : Int) (w : World) (h0 : 0 ≤ n) (h1 : n ≤ 9223372036854775807) :
    Calls Try.prog 32 #[.int .i64 n] w fun e w' => ∃ r, e = .returned (.int .i64 r) ∧ IsRoot n r ∧ w = w' := by
  go_enter Try.func32, Try.ntmps32
  go_wp2
  go_loopg [3, 4] 4294967296 (fun g' a b wr => ∃ (lo hi : Int), (g' : Int) = hi - lo ∧ a = .int .i64 lo ∧ b = .int .i64 hi ∧ 0 ≤ lo ∧ lo < hi ∧ hi ≤ 4294967296 ∧ Hid (RootP n lo) ∧ Hid (¬ RootP n hi) ∧ Hid (w = wr))
  case atStart => exact ⟨0, 4294967296, by omega, rfl, rfl, by omega, by omega, by omega, ⟨by omega, by omega⟩, fun h => by have h1 := h.le; revert h1; decide, rfl⟩
  case round =>
    obtain ⟨lo, hi, hg, rfl, rfl, hl0, hlh, hh, hP, hN, HW⟩ := hrel
    by_cases hd : hi - lo > 1
    · have hm0 : 0 ≤ lo + hi := by omega
      obtain ⟨m, hm⟩ : ∃ m, (lo + hi).tdiv 2 = m := ⟨_, rfl⟩
      have hm' : m = (lo + hi) / 2 := by rw [← hm, Int.tdiv_eq_ediv_of_nonneg hm0]
      have hm1 : lo < m := by omega
      have hm2 : m < hi := by omega
      by_cases ht : m ≤ 3037000499
      · obtain ⟨m0, m1⟩ := sq_in (t := m) (by omega) ht
        by_cases hs : m * m ≤ n
        · clear hm'
          go_wp2
          go_roundg (hi - m).toNat
          case rel => exact ⟨m, hi, by omega, rfl, rfl, by omega, hm2, hh, ⟨ht, hs⟩, hN, HW⟩
          case measure => omega
        · have hno : Hid (¬ RootP n m) := fun h => hs h.sq
          clear hm'
          go_wp2
          go_roundg (m - lo).toNat
          case rel => exact ⟨lo, m, by omega, rfl, rfl, hl0, hm1, by omega, hP, hno, HW⟩
          case measure => omega
      · have hno : Hid (¬ RootP n m) := fun h => ht h.le
        clear hm'
        go_wp2
        go_roundg (m - lo).toNat
        case rel => exact ⟨lo, m, by omega, rfl, rfl, hl0, hm1, by omega, hP, hno, HW⟩
        case measure => omega
    · go_wp2
      go_ret
      exact ⟨lo, rfl, ⟨hl0, hP.out, by have := hN.out; rwa [show hi = lo + 1 by omega] at this⟩, HW.out⟩

set_option maxRecDepth 100000 in
set_option maxHeartbeats 2000000 in
theorem exactRoots_walk (n : Int) (w : World) (hb : -9223372036854775808 ≤ n ∧ n ≤ 9223372036854775807) :
    Calls Try.prog 6 #[.int .i64 n] w fun e w' => e = .returned (.bool true) ∧ Ext w w' := by
  obtain ⟨b0, b1⟩ := hb
  by_cases h : n < 0
  · go_enter Try.func6, Try.ntmps6
    go_wp2_with fail
    refine (root_neg n _ h).mono ?_
    rintro e w1 ⟨rfl, rfl⟩
    go_wp2_with fail
    refine (first_any _).mono ?_
    rintro e w2 ⟨rfl, hX⟩
    have HX := Lib.hid hX
    clear hX
    go_wp2
    go_ret
    exact ⟨rfl, HX.out⟩
  · go_enter Try.func6, Try.ntmps6
    go_wp2_with fail
    refine (root_any n _ (by omega) b1).mono ?_
    rintro e w1 ⟨r, rfl, hr, rfl⟩
    have HR := Lib.hid hr
    clear hr
    go_wp2_with fail
    refine (rroot_any n _ (by omega) b1).mono ?_
    rintro e w1 ⟨s, rfl, hs, rfl⟩
    obtain rfl := HR.out.unique hs
    clear hs
    go_wp2_with fail
    refine (first_any _).mono ?_
    rintro e w2 ⟨rfl, hX⟩
    have HX := Lib.hid hX
    clear hX
    go_wp2
    go_ret
    exact ⟨rfl, HX.out⟩
end Go.Proofs.Yteoijnaljkagfaa
