/- Walks: norm, natOf and cmp of natural numbers (program). -/
import Derived.Test.YteoijnaljkagfaaChecked
import Derived.Test.YteoijnaljkagfaaNatV
import Derived.Test.YteoijnaljkagfaaNatP
namespace Go.Proofs.Yteoijnaljkagfaa
open Go.RowKit

theorem elW : Elem Try.prog 94 79 1 4 (.int .u32 0) := Elem.mk' (by kernel_rfl) (by kernel_rfl) rfl (by decide)

/-- A number of the program. -/
def W32 (w : World) (v : Value) (n : Nat) : Prop := NatV .u32 4294967296 w v n
theorem W32.ext {w w' : World} {v : Value} {n : Nat} (h : W32 w v n) (he : Ext w w') : W32 w' v n := NatV.ext h he
theorem dg32 {w : World} {A : Option Addr} {n : Nat} {xs : List Int} (h : Ints .u32 w A n xs) : Dg 4294967296 xs := fun x hx => by
  have := u32_bounds (h.2.1 x hx); omega
theorem wf32 {x : Int} (h : 0 ≤ x ∧ x < 4294967296) : (Lit.int .u32 x).wf = true := WalkArith.wf_u32 (by omega)

/-- What norm returns: a beginning without most significant zeros, of the same value. -/
def RetNorm (w : World) (A : Option Addr) (n c : Nat) (xs : List Int) (e : Ending) (w' : World) : Prop :=
  ∃ m, m ≤ n ∧ Nm (xs.take m) ∧ val 4294967296 (xs.take m) = val 4294967296 xs ∧ e = .returned (.slice A m c) ∧ w = w'

set_option maxHeartbeats 400000 in
theorem norm_any (A : Option Addr) (n c : Nat) (xs : List Int) (w : World) (h : Ints .u32 w A n xs) (hnc : n ≤ c) (hcm : c ≤ 9223372036854775807) :
    Calls Try.prog 118 #[.slice A n c] w (RetNorm w A n c xs) := by
  have H := Lib.hid h
  have HL : Hid (xs.length = n) := h.1
  clear h
  go_enter Try.func118, Try.ntmps118
  go_wp2
  go_loopg [0] n (fun g v wr => ∃ m, m = g ∧ m ≤ n ∧ v = .slice A m c ∧ Hid (val 4294967296 (xs.take m) = val 4294967296 xs) ∧ w = wr)
  case atStart => exact ⟨n, rfl, Nat.le_refl _, rfl, by rw [List.take_of_length_le (by rw [HL.out]; exact Nat.le_refl _)]; rfl, rfl⟩
  case round =>
    obtain ⟨m, rfl, hm, rfl, hv, rfl⟩ := hrel
    rcases Nat.eq_zero_or_pos m with h0 | h0
    · subst h0
      go_wp2
      go_ret
      exact ⟨0, by omega, by simp [Nm], hv.out, rfl, rfl⟩
    · obtain ⟨k, rfl⟩ : ∃ k, m = k + 1 := ⟨m - 1, by omega⟩
      obtain ⟨b, off, x, rfl, hx, hwf, hc⟩ := H.out.get (j := k) (by omega)
      obtain ⟨hx0, hx1⟩ := u32_bounds hwf
      have HX := Lib.hid hx
      clear hx hwf
      by_cases hz : x = 0
      · have hzb : (x == 0) = true := by simpa using hz
        have HV : Hid (val 4294967296 (xs.take k) = val 4294967296 xs) := by
          have := hv.out
          rw [val_take_succ HX.out, hz] at this
          show _ = _
          omega
        clear hz hv
        go_wp2
        go_roundg k
        case rel => exact ⟨k, rfl, by omega, rfl, HV, rfl⟩
        case measure => omega
      · have hzb : (x == 0) = false := by simpa using hz
        have HZ := Lib.hid hz
        clear hz
        go_wp2
        go_ret
        exact ⟨k + 1, hm, Nm.take HX.out HZ.out, hv.out, rfl, rfl⟩

theorem RetNorm.natv {w : World} {A : Option Addr} {n c m N : Nat} {xs : List Int} (h : Ints .u32 w A n xs) (hm : m ≤ n) (hN : Nm (xs.take m)) (hv : val 4294967296 (xs.take m) = val 4294967296 xs) (he : val 4294967296 xs = (N : Int)) (hnc : n ≤ c) (hcm : c ≤ 9223372036854775807) : W32 w (.slice A m c) N :=
  ⟨A, m, c, xs.take m, rfl, h.take hm, Rep.of_take (dg32 h) hv hN he, by omega, hcm⟩

set_option maxHeartbeats 400000 in
theorem natOf_any (n : Int) (w : World) (h0 : 0 ≤ n) (h1 : n ≤ 18446744073709551615) :
    Calls Try.prog 110 #[.int .u64 n] w (RetN .u32 4294967296 w n.toNat) := by
  go_enter Try.func110, Try.ntmps110
  go_wp2_with fail
  have hI : Ints .u32 (w.alloc (.cells #[.int .u32 (n % 4294967296), .int .u32 (n / 4294967296)] 79)) (some ⟨w.heap.size, 0, none⟩) 2 [n % 4294967296, n / 4294967296] :=
    ⟨rfl, fun x hx => by simp at hx; rcases hx with rfl | rfl <;> exact wf32 (by omega), At.new w [_, _] _⟩
  refine (norm_any _ _ _ _ _ hI (by omega) (by omega)).mono ?_
  rintro e w1 ⟨m, hm, hN, hv, rfl, rfl⟩
  have HW := Lib.hid (RetNorm.natv (N := n.toNat) (c := 2) hI hm hN hv (by simp [val]; omega) (by omega) (by omega))
  clear hI hm hN hv
  go_wp2
  go_ret
  exact ⟨_, rfl, HW.out, (Ext.refl w).alloc _⟩

/-- How two numbers compare. -/
def cmpI (n m : Nat) : Int := if n < m then -1 else if m < n then 1 else 0
theorem cmpI_lt {n m : Nat} (h : n < m) : cmpI n m = -1 := by simp [cmpI, h]
theorem cmpI_gt {n m : Nat} (h : m < n) : cmpI n m = 1 := by
  unfold cmpI; rw [if_neg (by omega), if_pos h]
theorem cmpI_eq {n m : Nat} (h : n = m) : cmpI n m = 0 := by simp [cmpI, h]

set_option maxHeartbeats 1000000 in
theorem cmp_any (va vb : Value) (n m : Nat) (w : World) (ha : W32 w va n) (hb : W32 w vb m) :
    Calls Try.prog 125 #[va, vb] w fun e w' => e = .returned (.int .i64 (cmpI n m)) ∧ Ext w w' := by
  obtain ⟨A, la, ca, xs, rfl, hA, hrx, hca, hcam⟩ := ha
  obtain ⟨B, lb, cb, ys, rfl, hB, hry, hcb, hcbm⟩ := hb
  have HA := Lib.hid hA
  have HB := Lib.hid hB
  have HRX := Lib.hid hrx
  have HRY := Lib.hid hry
  have HLA : Hid (xs.length = la) := hA.1
  have HLB : Hid (ys.length = lb) := hB.1
  clear hA hB hrx hry
  by_cases hne : la = lb
  · subst hne
    have hnb : ((la : Int) != (la : Int)) = false := by simp
    go_enter Try.func125, Try.ntmps125
    go_wp2
    go_loopg [5] (la + 1) (fun g i wr => ∃ k : Nat, g = k + 1 ∧ k ≤ la ∧ i = .int .i64 ((k : Int) - 1) ∧ Hid (xs.drop k = ys.drop k) ∧ Ext w wr)
    case atStart => exact ⟨la, rfl, Nat.le_refl _, rfl, by rw [List.drop_eq_nil_of_le (by rw [HLA.out]; exact Nat.le_refl _), List.drop_eq_nil_of_le (by rw [HLB.out]; exact Nat.le_refl _)]; rfl, Ext.refl w⟩
    case round =>
      obtain ⟨k, rfl, hk, rfl, hd, hX⟩ := hrel
      have HX := Lib.hid hX
      clear hX
      rcases Nat.eq_zero_or_pos k with h0 | h0
      · subst h0
        rw [show (((0 : Nat) : Int) - 1) = -1 by omega]
        go_wp2
        go_ret
        refine ⟨?_, HX.out⟩
        have e : xs = ys := by simpa using hd.out
        have := HRX.out.2.2
        rw [e, HRY.out.2.2] at this
        rw [cmpI_eq (by omega)]
        rfl
      · obtain ⟨i, rfl⟩ : ∃ i, k = i + 1 := ⟨k - 1, by omega⟩
        obtain ⟨b, off, x, rfl, hx, hwf, hc⟩ := (HA.out.ext HX.out).get (j := i) (by omega)
        obtain ⟨b', off', y, rfl, hy, hwf', hc'⟩ := (HB.out.ext HX.out).get (j := i) (by omega)
        obtain ⟨hx0, hx1⟩ := u32_bounds hwf
        obtain ⟨hy0, hy1⟩ := u32_bounds hwf'
        have HXX := Lib.hid hx
        have HYY := Lib.hid hy
        have hi1 : (((i + 1 : Nat) : Int) - 1) = (i : Int) := by omega
        have hi2 : (i : Int) < (la : Int) := by omega
        have hi0 : (0 : Int) ≤ (i : Int) := by omega
        rw [hi1]
        clear hx hwf hy hwf' hi1
        by_cases hxy : x = y
        · have hb1 : (x != y) = false := by simpa using hxy
          have HXY := Lib.hid hxy
          clear hxy
          go_wp2
          go_quiet (fail)
          go_wp2
          go_roundg (i + 1)
          case rel => exact ⟨i, rfl, by omega, by go_num, by
            have h1 := List.getElem?_eq_some_iff.1 HXX.out
            have h2 := List.getElem?_eq_some_iff.1 HYY.out
            show xs.drop i = ys.drop i
            rw [List.drop_eq_getElem_cons h1.1, List.drop_eq_getElem_cons h2.1, h1.2, h2.2, HXY.out, hd.out], HX.out.drewN _⟩
          case measure => omega
        · have hb1 : (x != y) = true := by simpa using hxy
          by_cases hlt : x < y
          · have HLT := Lib.hid hlt
            clear hxy
            go_wp2
            go_quiet (fail)
            go_wp2
            go_quiet (fail)
            go_wp2
            go_ret
            have := cmp_step (by omega) (by rw [HLA.out, HLB.out]) HRX.out.1 HRY.out.1 hd.out HXX.out HYY.out HLT.out
            rw [HRX.out.2.2, HRY.out.2.2] at this
            exact ⟨by rw [cmpI_lt (by omega)]; rfl, (HX.out.drewN _).drewN _⟩
          · have HLT : Hid (y < x) := by show y < x; omega
            clear hxy
            go_wp2
            go_quiet (fail)
            go_wp2
            go_quiet (fail)
            go_wp2
            go_ret
            have := cmp_step (by omega) (by rw [HLA.out, HLB.out]) HRY.out.1 HRX.out.1 hd.out.symm HYY.out HXX.out HLT.out
            rw [HRX.out.2.2, HRY.out.2.2] at this
            exact ⟨by rw [cmpI_gt (by omega)]; rfl, (HX.out.drewN _).drewN _⟩
  · have hnb : ((la : Int) != (lb : Int)) = true := by simp; omega
    by_cases hlt : la < lb
    · have := HRX.out.lt_of_len (by omega) HRY.out (by rw [HLA.out, HLB.out]; exact hlt)
      rw [cmpI_lt this]
      clear this hne
      go_enter Try.func125, Try.ntmps125
      go_wp2
      go_ret
      exact ⟨rfl, Ext.refl w⟩
    · have := HRY.out.lt_of_len (by omega) HRX.out (by rw [HLA.out, HLB.out]; omega)
      rw [cmpI_gt this]
      clear this hne
      go_enter Try.func125, Try.ntmps125
      go_wp2
      go_ret
      exact ⟨rfl, Ext.refl w⟩
end Go.Proofs.Yteoijnaljkagfaa
