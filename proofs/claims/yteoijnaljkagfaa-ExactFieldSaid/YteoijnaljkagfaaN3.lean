/- Walks: mul of natural numbers (program). -/
import Derived.Test.YteoijnaljkagfaaN2
namespace Go.Proofs.Yteoijnaljkagfaa
open Go.RowKit

theorem prod_range {x y : Int} (hx : 0 ≤ x ∧ x ≤ 4294967295) (hy : 0 ≤ y ∧ y ≤ 4294967295) : 0 ≤ x * y ∧ x * y ≤ 18446744065119617025 := by
  have h1 := Int.mul_nonneg hx.1 hy.1
  have h2 : x * y ≤ 4294967295 * y := Int.mul_le_mul_of_nonneg_right hx.2 hy.1
  omega

set_option maxRecDepth 100000 in
set_option maxHeartbeats 2000000 in
theorem mul_any (va vb : Value) (n m La Lb : Nat) (w : World) (ha : W32 w va n) (hb : W32 w vb m) (hn : Fit 4294967296 n La) (hm : Fit 4294967296 m Lb) (hL : La ≤ 1099511627776) (hM : Lb ≤ 1099511627776) :
    Calls Try.prog 111 #[va, vb] w (RetN .u32 4294967296 w (n * m)) := by
  obtain ⟨A, la, ca, xs, rfl, hA, hrx, hca, hcam⟩ := ha
  obtain ⟨B, lb, cb, ys, rfl, hB, hry, hcb, hcbm⟩ := hb
  have hla := hn.len (by omega) hrx
  have hlb := hm.len (by omega) hry
  rw [hA.1] at hla
  rw [hB.1] at hlb
  have HA := Lib.hid hA
  have HB := Lib.hid hB
  have HN := Lib.hid hrx
  have HM := Lib.hid hry
  have HLA : Hid (xs.length = la) := hA.1
  have HLB : Hid (ys.length = lb) := hB.1
  clear hA hB hrx hry hn hm
  go_enter Try.func111, Try.ntmps111
  go_wp2_with (at_make; refine wpList_mk _ elW rfl rfl _ _ rfl w.heap.size _ _ _ _ (la + lb) (la + lb) rfl rfl (by omega) (by omega) (Nat.le_refl _) (by omega) (by unfold maxLen; omega) (Nat.le_refl _) ?_; intro w1 hown1 hext1 hsz1)
  have HO1 := Lib.hid (OwnS.made hown1)
  have HX1 := Lib.hid hext1
  clear hown1 hext1 hsz1
  go_loopg [20] la (fun g i wr => ∃ (k : Nat) (out : List Int), g = la - k ∧ k ≤ la ∧ i = .int .i64 k ∧ OwnS .u32 79 w.heap.size wr (some ⟨w.heap.size, 0, none⟩) (la + lb) (la + lb) out ∧ Hid (val 4294967296 (out.take (k + lb)) = val 4294967296 (xs.take k) * m) ∧ Ext w wr)
  case atStart => exact ⟨0, _, rfl, by omega, rfl, HO1.out, by simp [Hid, val, List.take_replicate, val_zeros], HX1.out⟩
  case round =>
    obtain ⟨k, out, rfl, hk, rfl, hO, hI, hX⟩ := hrel
    have HX := Lib.hid hX
    have HO := Lib.hid hO
    clear hX hO
    by_cases hlt : k < la
    · obtain ⟨b1, o1, x, hAe, hx, hwf, hcx⟩ := (HA.out.ext HX.out).get hlt
      subst hAe
      obtain ⟨hx0, hx1⟩ := u32_bounds hwf
      have HXX := Lib.hid hx
      have hk0 : (0 : Int) ≤ (k : Int) := by omega
      have hk1 : (k : Int) < (la : Int) := by omega
      clear hx hwf
      obtain ⟨wo, rfl⟩ : ∃ wo : World, wo = wr := ⟨_, rfl⟩
      go_wp2
      go_loopg [8, 27] lb (fun g cy i wr => ∃ (j : Nat) (c : Int) (out : List Int), g = lb - j ∧ j ≤ lb ∧ i = .int .i64 j ∧ cy = .int .u64 c ∧ 0 ≤ c ∧ c ≤ 4294967295 ∧ OwnS .u32 79 w.heap.size wr (some ⟨w.heap.size, 0, none⟩) (la + lb) (la + lb) out ∧ Hid (val 4294967296 (out.take (k + lb)) + c * 4294967296 ^ (k + j) = val 4294967296 (xs.take k) * m + x * val 4294967296 (ys.take j) * 4294967296 ^ k) ∧ Ext w wr)
      case atStart => exact ⟨0, 0, out, rfl, by omega, rfl, rfl, by omega, by omega, HO.out, by simp [Hid, val]; exact hI.out, HX.out⟩
      case round =>
        obtain ⟨j, c, out1, rfl, hj, rfl, rfl, hc0, hc1, hO1, hI1, hX1⟩ := hrel
        have HXr := Lib.hid hX1
        have HOr := Lib.hid hO1
        clear hX1 hO1 hcx
        by_cases hlt2 : j < lb
        · obtain ⟨b2, o2, y, hBe, hy, hwf, hcy⟩ := (HB.out.ext HXr.out).get hlt2
          subst hBe
          obtain ⟨hy0, hy1⟩ := u32_bounds hwf
          have HYY := Lib.hid hy
          obtain ⟨g, z, hg, hz, hwz, hcz, hfz, _, hst⟩ := HOr.out.store (j := k + j) (by omega)
          obtain rfl : w.heap.size = g := by injection hg with hg; injection hg
          obtain ⟨hz0, hz1⟩ := u32_bounds hwz
          have hj0 : (0 : Int) ≤ (j : Int) := by omega
          have hj1 : (j : Int) < (lb : Int) := by omega
          have hkj0 : (0 : Int) ≤ (k : Int) + (j : Int) := by omega
          have hkj1 : (k : Int) + (j : Int) < ((la + lb : Nat) : Int) := by omega
          obtain ⟨hp0, hp1⟩ := prod_range ⟨hx0, hx1⟩ ⟨hy0, hy1⟩
          have hs0 : 0 ≤ (x * y + z + c) % 4294967296 ∧ (x * y + z + c) % 4294967296 < 4294967296 := by omega
          have HS := Lib.hid (hst.out _ (wf32 hs0))
          have HI := Lib.hid (mul_step (ys := ys) (s := x * y + z + c) hI1.out (by omega) (by rw [HOr.out.len]; omega) hz (by simp [List.getD, HYY.out]))
          clear hy hwf hz hg hwz hst hs0
          go_wp2
          go_roundg (lb - (j + 1))
          case rel => exact ⟨j + 1, (x * y + z + c) / 4294967296, _, rfl, by omega, by go_num, rfl, by omega, by omega, HS.out, HI.out, HXr.out.setCell (Nat.le_refl _) _⟩
          case measure => omega
        · obtain rfl : j = lb := by omega
          obtain ⟨g, z, hg, hz, hwz, hcz, hfz, _, hst⟩ := HOr.out.store (j := k + j) (by omega)
          obtain rfl : w.heap.size = g := by injection hg with hg; injection hg
          have hkj0 : (0 : Int) ≤ (k : Int) + (j : Int) := by omega
          have hkj1 : (k : Int) + (j : Int) < ((la + j : Nat) : Int) := by omega
          have HS := Lib.hid (hst.out c (wf32 (by omega)))
          have HI := Lib.hid (mul_next (xs := xs) (V := m) (by have := hI1.out; rw [val_take_all (xs := ys) (by rw [HLB.out]; omega), HM.out.2.2] at this; exact this) rfl (by rw [HOr.out.len]; omega) (by simp [List.getD, HXX.out]))
          have hcw : IntKind.u32.wrap c = c := IntWalk.u32_in _ (by omega)
          clear hz hg hwz hst
          go_wp2
          go_roundg (la - (k + 1))
          case rel => exact ⟨k + 1, _, rfl, by omega, by go_num, HS.out, by have := HI.out; rw [show k + j + 1 = k + 1 + j by omega] at this; exact this, HXr.out.setCell (Nat.le_refl _) _⟩
          case measure => omega
    · obtain rfl : k = la := by omega
      have HV : Hid (val 4294967296 out = ((n * m : Nat) : Int)) := by
        have h2 := hI.out
        rw [val_take_all (by rw [HO.out.len]; omega), val_take_all (by rw [HLA.out]; omega), HN.out.2.2, ← Int.natCast_mul] at h2
        exact h2
      go_wp2_with fail
      refine (norm_any _ _ _ _ _ HO.out.ints (by omega) (by omega)).mono ?_
      rintro e w' ⟨q, hq, hN, hv, rfl, rfl⟩
      have HW := Lib.hid (RetNorm.natv (N := n * m) (c := k + lb) HO.out.ints hq hN hv HV.out (by omega) (by omega))
      clear hq hN hv
      go_wp2
      go_ret
      exact ⟨_, rfl, HW.out, HX.out⟩
end Go.Proofs.Yteoijnaljkagfaa
