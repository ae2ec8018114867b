/- Walks: add, sub and mul of natural numbers (program), with bits.Add32 and bits.Sub32. -/
import Derived.Test.YteoijnaljkagfaaN1
namespace Go.Proofs.Yteoijnaljkagfaa
open Go.RowKit

set_option maxHeartbeats 400000 in
theorem add32_any (x y c : Int) (w : World) (hx : 0 ≤ x ∧ x ≤ 4294967295) (hy : 0 ≤ y ∧ y ≤ 4294967295) (hc : 0 ≤ c ∧ c ≤ 1) :
    Calls Try.prog 136 #[.int .u32 x, .int .u32 y, .int .u32 c] w fun e w' => e = .returned (.tuple #[.int .u32 ((x + y + c) % 4294967296), .int .u32 ((x + y + c) / 4294967296)]) ∧ w = w' := by
  obtain ⟨hx0, hx1⟩ := hx
  obtain ⟨hy0, hy1⟩ := hy
  obtain ⟨hc0, hc1⟩ := hc
  go_enter Try.func136, Try.ntmps136
  go_wp2
  go_ret2
  exact ⟨rfl, rfl⟩


set_option maxHeartbeats 1000000 in
theorem add_ge (A B : Option Addr) (la ca lb cb : Nat) (xs ys : List Int) (n m : Nat) (w : World) (hA : Ints .u32 w A la xs) (hB : Ints .u32 w B lb ys) (hn : val 4294967296 xs = (n : Int)) (hm : val 4294967296 ys = (m : Int)) (hl : lb ≤ la) (hla : la ≤ 1099511627776) (_hlb : lb ≤ 1099511627776) :
    Calls Try.prog 124 #[.slice A la ca, .slice B lb cb] w (RetN .u32 4294967296 w (n + m)) := by
  have HA := Lib.hid hA
  have HB := Lib.hid hB
  have HN := Lib.hid hn
  have HM := Lib.hid hm
  have HLA : Hid (xs.length = la) := hA.1
  have HLB : Hid (ys.length = lb) := hB.1
  clear hA hB hn hm
  go_enter Try.func124, Try.ntmps124
  go_wp2_with (at_make; refine wpList_mk _ elW rfl rfl _ _ rfl w.heap.size _ _ _ _ (la + 1) (la + 1) rfl rfl (by omega) (by omega) (Nat.le_refl _) (by omega) (by unfold maxLen; omega) (Nat.le_refl _) ?_; intro w1 hown1 hext1 hsz1)
  have HO1 := Lib.hid (OwnS.made hown1)
  have HX1 := Lib.hid hext1
  clear hown1 hext1 hsz1
  go_loopg [6, 22] la (fun g cy i wr => ∃ (k : Nat) (c : Int) (out : List Int), g = la - k ∧ k ≤ la ∧ i = .int .i64 k ∧ cy = .int .u32 c ∧ 0 ≤ c ∧ c ≤ 1 ∧ OwnS .u32 79 w.heap.size wr (some ⟨w.heap.size, 0, none⟩) (la + 1) (la + 1) out ∧ Hid (val 4294967296 (out.take k) + c * 4294967296 ^ k = val 4294967296 (xs.take k) + val 4294967296 (ys.take k)) ∧ Ext w wr)
  case atStart => exact ⟨0, 0, _, rfl, by omega, rfl, rfl, by omega, by omega, HO1.out, by simp [Hid, val], HX1.out⟩
  case round =>
    obtain ⟨k, c, out, rfl, hk, rfl, rfl, hc0, hc1, hO, hI, hX⟩ := hrel
    have HX := Lib.hid hX
    have HO := Lib.hid hO
    clear hX hO
    by_cases hlt : k < la
    · obtain ⟨b1, o1, x, hAe, hx, hwf, hcx⟩ := (HA.out.ext HX.out).get hlt
      subst hAe
      obtain ⟨hx0, hx1⟩ := u32_bounds hwf
      obtain ⟨g, z, hg, hz, _, hcz, hfz, _, hst⟩ := HO.out.store (j := k) (by omega)
      obtain rfl : w.heap.size = g := by injection hg with hg; injection hg
      have hk0 : (0 : Int) ≤ (k : Int) := by omega
      have hk1 : (k : Int) < ((la + 1 : Nat) : Int) := by omega
      have HXX := Lib.hid hx
      clear hx hwf hz hg
      by_cases hlt2 : k < lb
      · obtain ⟨b2, o2, y, hBe, hy, hwf, hcy⟩ := (HB.out.ext HX.out).get hlt2
        subst hBe
        obtain ⟨hy0, hy1⟩ := u32_bounds hwf
        have HYY := Lib.hid hy
        clear hy hwf
        have hs0 : 0 ≤ (x + y + c) % 4294967296 ∧ (x + y + c) % 4294967296 < 4294967296 := by omega
        have HS := Lib.hid (hst.out _ (wf32 hs0))
        have HI := Lib.hid (add_step (xs := xs) (ys := ys) (s := x + y + c) hI.out (by rw [HO.out.len]; omega) (by simp [List.getD, HXX.out, HYY.out]))
        clear hst hs0
        go_wp2_with fail
        refine (add32_any x y c _ ⟨hx0, hx1⟩ ⟨hy0, hy1⟩ ⟨hc0, hc1⟩).mono ?_
        rintro e w' ⟨rfl, rfl⟩
        go_wp2
        go_roundg (la - (k + 1))
        case rel => exact ⟨k + 1, (x + y + c) / 4294967296, _, rfl, by omega, by go_num, rfl, by omega, by omega, HS.out, HI.out, HX.out.setCell (Nat.le_refl _) _⟩
        case measure => omega
      · have hs0 : 0 ≤ (x + 0 + c) % 4294967296 ∧ (x + 0 + c) % 4294967296 < 4294967296 := by omega
        have HS := Lib.hid (hst.out _ (wf32 hs0))
        have HI := Lib.hid (add_step (xs := xs) (ys := ys) (s := x + 0 + c) hI.out (by rw [HO.out.len]; omega) (by simp [List.getD, HXX.out, List.getElem?_eq_none (by rw [HLB.out]; omega : ys.length ≤ k)]))
        clear hst hs0
        go_wp2_with fail
        refine (add32_any x 0 c _ ⟨hx0, hx1⟩ ⟨by omega, by omega⟩ ⟨hc0, hc1⟩).mono ?_
        rintro e w' ⟨rfl, rfl⟩
        go_wp2
        go_roundg (la - (k + 1))
        case rel => exact ⟨k + 1, (x + 0 + c) / 4294967296, _, rfl, by omega, by go_num, by go_num, by omega, by omega, by simpa using HS.out, by simpa [Hid] using HI.out, HX.out.setCell (Nat.le_refl _) _⟩
        case measure => omega
    · obtain rfl : k = la := by omega
      obtain ⟨g, z, hg, hz, _, hcz, hfz, _, hst⟩ := HO.out.store (j := k) (by omega)
      obtain rfl : w.heap.size = g := by injection hg with hg; injection hg
      have hk0 : (0 : Int) ≤ (k : Int) := by omega
      have hk1 : (k : Int) < ((k + 1 : Nat) : Int) := by omega
      have HS := Lib.hid (hst.out c (wf32 (by omega)))
      have HV : Hid (val 4294967296 (out.set k c) = ((n + m : Nat) : Int)) := by
        have h1 := val_take_set (B := 4294967296) (out := out) (k := k) (by rw [HO.out.len]; omega) c
        rw [List.take_of_length_le (by rw [List.length_set, HO.out.len]; omega)] at h1
        have h2 := hI.out
        rw [List.take_of_length_le (l := xs) (by rw [HLA.out]; omega), List.take_of_length_le (l := ys) (by rw [HLB.out]; omega), HN.out, HM.out] at h2
        show _ = _
        rw [h1, Int.natCast_add]
        have e3 : (4294967296 : Int) ^ k * c = c * 4294967296 ^ k := Int.mul_comm _ _
        omega
      clear hst hz hg
      go_wp2_with fail
      refine (norm_any _ _ _ _ _ HS.out.ints (by omega) (by omega)).mono ?_
      rintro e w' ⟨q, hq, hN, hv, rfl, rfl⟩
      have HW := Lib.hid (RetNorm.natv (N := n + m) (c := k + 1) HS.out.ints hq hN hv HV.out (by omega) (by omega))
      clear hq hN hv
      go_wp2
      go_ret
      exact ⟨_, rfl, HW.out, HX.out.setCell (Nat.le_refl _) _⟩


set_option maxHeartbeats 1000000 in
theorem add_lt (A B : Option Addr) (la ca lb cb : Nat) (xs ys : List Int) (n m : Nat) (w : World) (hA : Ints .u32 w A la xs) (hB : Ints .u32 w B lb ys) (hn : val 4294967296 xs = (n : Int)) (hm : val 4294967296 ys = (m : Int)) (hl : la < lb) (_hla : la ≤ 1099511627776) (hlb : lb ≤ 1099511627776) :
    Calls Try.prog 124 #[.slice A la ca, .slice B lb cb] w (RetN .u32 4294967296 w (n + m)) := by
  have HA := Lib.hid hA
  have HB := Lib.hid hB
  have HN := Lib.hid hn
  have HM := Lib.hid hm
  have HLA : Hid (xs.length = la) := hA.1
  have HLB : Hid (ys.length = lb) := hB.1
  clear hA hB hn hm
  go_enter Try.func124, Try.ntmps124
  go_wp2_with (at_make; refine wpList_mk _ elW rfl rfl _ _ rfl w.heap.size _ _ _ _ (lb + 1) (lb + 1) rfl rfl (by omega) (by omega) (Nat.le_refl _) (by omega) (by unfold maxLen; omega) (Nat.le_refl _) ?_; intro w1 hown1 hext1 hsz1)
  have HO1 := Lib.hid (OwnS.made hown1)
  have HX1 := Lib.hid hext1
  clear hown1 hext1 hsz1
  go_loopg [6, 22] lb (fun g cy i wr => ∃ (k : Nat) (c : Int) (out : List Int), g = lb - k ∧ k ≤ lb ∧ i = .int .i64 k ∧ cy = .int .u32 c ∧ 0 ≤ c ∧ c ≤ 1 ∧ OwnS .u32 79 w.heap.size wr (some ⟨w.heap.size, 0, none⟩) (lb + 1) (lb + 1) out ∧ Hid (val 4294967296 (out.take k) + c * 4294967296 ^ k = val 4294967296 (ys.take k) + val 4294967296 (xs.take k)) ∧ Ext w wr)
  case atStart => exact ⟨0, 0, _, rfl, by omega, rfl, rfl, by omega, by omega, HO1.out, by simp [Hid, val], HX1.out⟩
  case round =>
    obtain ⟨k, c, out, rfl, hk, rfl, rfl, hc0, hc1, hO, hI, hX⟩ := hrel
    have HX := Lib.hid hX
    have HO := Lib.hid hO
    clear hX hO
    by_cases hlt : k < lb
    · obtain ⟨b1, o1, x, hAe, hx, hwf, hcx⟩ := (HB.out.ext HX.out).get hlt
      subst hAe
      obtain ⟨hx0, hx1⟩ := u32_bounds hwf
      obtain ⟨g, z, hg, hz, _, hcz, hfz, _, hst⟩ := HO.out.store (j := k) (by omega)
      obtain rfl : w.heap.size = g := by injection hg with hg; injection hg
      have hk0 : (0 : Int) ≤ (k : Int) := by omega
      have hk1 : (k : Int) < ((lb + 1 : Nat) : Int) := by omega
      have HXX := Lib.hid hx
      clear hx hwf hz hg
      by_cases hlt2 : k < la
      · obtain ⟨b2, o2, y, hBe, hy, hwf, hcy⟩ := (HA.out.ext HX.out).get hlt2
        subst hBe
        obtain ⟨hy0, hy1⟩ := u32_bounds hwf
        have HYY := Lib.hid hy
        clear hy hwf
        have hs0 : 0 ≤ (x + y + c) % 4294967296 ∧ (x + y + c) % 4294967296 < 4294967296 := by omega
        have HS := Lib.hid (hst.out _ (wf32 hs0))
        have HI := Lib.hid (add_step (xs := ys) (ys := xs) (s := x + y + c) hI.out (by rw [HO.out.len]; omega) (by simp [List.getD, HXX.out, HYY.out]))
        clear hst hs0
        go_wp2_with fail
        refine (add32_any x y c _ ⟨hx0, hx1⟩ ⟨hy0, hy1⟩ ⟨hc0, hc1⟩).mono ?_
        rintro e w' ⟨rfl, rfl⟩
        go_wp2
        go_roundg (lb - (k + 1))
        case rel => exact ⟨k + 1, (x + y + c) / 4294967296, _, rfl, by omega, by go_num, rfl, by omega, by omega, HS.out, HI.out, HX.out.setCell (Nat.le_refl _) _⟩
        case measure => omega
      · have hs0 : 0 ≤ (x + 0 + c) % 4294967296 ∧ (x + 0 + c) % 4294967296 < 4294967296 := by omega
        have HS := Lib.hid (hst.out _ (wf32 hs0))
        have HI := Lib.hid (add_step (xs := ys) (ys := xs) (s := x + 0 + c) hI.out (by rw [HO.out.len]; omega) (by simp [List.getD, HXX.out, List.getElem?_eq_none (by rw [HLA.out]; omega : xs.length ≤ k)]))
        clear hst hs0
        go_wp2_with fail
        refine (add32_any x 0 c _ ⟨hx0, hx1⟩ ⟨by omega, by omega⟩ ⟨hc0, hc1⟩).mono ?_
        rintro e w' ⟨rfl, rfl⟩
        go_wp2
        go_roundg (lb - (k + 1))
        case rel => exact ⟨k + 1, (x + 0 + c) / 4294967296, _, rfl, by omega, by go_num, by go_num, by omega, by omega, by simpa using HS.out, by simpa [Hid] using HI.out, HX.out.setCell (Nat.le_refl _) _⟩
        case measure => omega
    · obtain rfl : k = lb := by omega
      obtain ⟨g, z, hg, hz, _, hcz, hfz, _, hst⟩ := HO.out.store (j := k) (by omega)
      obtain rfl : w.heap.size = g := by injection hg with hg; injection hg
      have hk0 : (0 : Int) ≤ (k : Int) := by omega
      have hk1 : (k : Int) < ((k + 1 : Nat) : Int) := by omega
      have HS := Lib.hid (hst.out c (wf32 (by omega)))
      have HV : Hid (val 4294967296 (out.set k c) = ((n + m : Nat) : Int)) := by
        have h1 := val_take_set (B := 4294967296) (out := out) (k := k) (by rw [HO.out.len]; omega) c
        rw [List.take_of_length_le (by rw [List.length_set, HO.out.len]; omega)] at h1
        have h2 := hI.out
        rw [List.take_of_length_le (l := ys) (by rw [HLB.out]; omega), List.take_of_length_le (l := xs) (by rw [HLA.out]; omega), HN.out, HM.out] at h2
        show _ = _
        rw [h1, Int.natCast_add]
        have e3 : (4294967296 : Int) ^ k * c = c * 4294967296 ^ k := Int.mul_comm _ _
        omega
      clear hst hz hg
      go_wp2_with fail
      refine (norm_any _ _ _ _ _ HS.out.ints (by omega) (by omega)).mono ?_
      rintro e w' ⟨q, hq, hN, hv, rfl, rfl⟩
      have HW := Lib.hid (RetNorm.natv (N := n + m) (c := k + 1) HS.out.ints hq hN hv HV.out (by omega) (by omega))
      clear hq hN hv
      go_wp2
      go_ret
      exact ⟨_, rfl, HW.out, HX.out.setCell (Nat.le_refl _) _⟩


theorem add_any (va vb : Value) (n m La : Nat) (w : World) (ha : W32 w va n) (hb : W32 w vb m) (hn : Fit 4294967296 n La) (hm : Fit 4294967296 m La) (hL : La ≤ 1099511627776) :
    Calls Try.prog 124 #[va, vb] w (RetN .u32 4294967296 w (n + m)) := by
  obtain ⟨A, la, ca, xs, rfl, hA, hrx, hca, hcam⟩ := ha
  obtain ⟨B, lb, cb, ys, rfl, hB, hry, hcb, hcbm⟩ := hb
  have h1 := hn.len (by omega) hrx
  have h2 := hm.len (by omega) hry
  rw [hA.1] at h1
  rw [hB.1] at h2
  rcases Nat.lt_or_ge la lb with hl | hl
  · exact add_lt A B la ca lb cb xs ys n m w hA hB hrx.2.2 hry.2.2 hl (by omega) (by omega)
  · exact add_ge A B la ca lb cb xs ys n m w hA hB hrx.2.2 hry.2.2 hl (by omega) (by omega)

/-- What is borrowed. -/
def bor (x y c : Int) : Int := if x < y + c then 1 else 0
theorem bor_range (x y c : Int) : 0 ≤ bor x y c ∧ bor x y c ≤ 1 := by unfold bor; split <;> omega
theorem bor_eq (x y c : Int) (hx : 0 ≤ x ∧ x ≤ 4294967295) (hy : 0 ≤ y ∧ y ≤ 4294967295) (hc : 0 ≤ c ∧ c ≤ 1) : (x - y - c) % 4294967296 = x - y - c + bor x y c * 4294967296 := by
  unfold bor; split <;> omega
theorem tb31 (a : Nat) (h : a < 4294967296) : a.testBit 31 = decide (2147483648 ≤ a) := by
  rw [Nat.testBit_eq_decide_div_mod_eq]
  have e : (a / 2 ^ 31 % 2 = 1) = (2147483648 ≤ a) := by
    apply propext; constructor <;> intro h <;> omega
  simp only [e]
theorem bor_bits (x y c : Int) (hx : 0 ≤ x ∧ x ≤ 4294967295) (hy : 0 ≤ y ∧ y ≤ 4294967295) (hc : 0 ≤ c ∧ c ≤ 1) :
    bits .or .u32 (bits .and .u32 (bits .xor .u32 IntKind.u32.max x) y) (bits .and .u32 (bits .xor .u32 IntKind.u32.max (bits .xor .u32 x y)) ((x - y - c) % 4294967296)) / 2147483648 = bor x y c := by
  obtain ⟨a, rfl⟩ := Int.eq_ofNat_of_zero_le hx.1
  obtain ⟨b, rfl⟩ := Int.eq_ofNat_of_zero_le hy.1
  obtain ⟨d, hd⟩ := Int.eq_ofNat_of_zero_le (by omega : 0 ≤ ((a : Int) - b - c) % 4294967296)
  have hd1 : d < 4294967296 := by omega
  have hM : IntKind.u32.max = ((4294967295 : Nat) : Int) := by decide
  have ha1 : a < 4294967296 := by omega
  have hb1 : b < 4294967296 := by omega
  have X : ∀ p q : Nat, p < 4294967296 → q < 4294967296 → p ^^^ q < 4294967296 := fun p q hp hq => Nat.xor_lt_two_pow (n := 32) hp hq
  have Y : ∀ p q : Nat, q < 4294967296 → p &&& q < 4294967296 := fun p q hq => Nat.lt_of_le_of_lt Nat.and_le_right hq
  rw [hd, hM, u32_xor_nat _ _ (by omega) ha1, u32_xor_nat _ _ ha1 hb1, u32_xor_nat _ _ (by omega) (X _ _ ha1 hb1), u32_and_nat _ _ (X _ _ (by omega) ha1) hb1, u32_and_nat _ _ (X _ _ (by omega) (X _ _ ha1 hb1)) hd1, u32_or_nat _ _ (Y _ _ hb1) (Y _ _ hd1)]
  obtain ⟨E, hE⟩ : ∃ E, ((4294967295 ^^^ a) &&& b) ||| ((4294967295 ^^^ (a ^^^ b)) &&& d) = E := ⟨_, rfl⟩
  have hE1 : E < 4294967296 := by rw [← hE]; exact Nat.or_lt_two_pow (n := 32) (Y _ _ hb1) (Y _ _ hd1)
  have ht : E.testBit 31 = (((!(a.testBit 31)) && b.testBit 31) || ((!(a.testBit 31 != b.testBit 31)) && d.testBit 31)) := by
    rw [← hE, Nat.testBit_or, Nat.testBit_and, Nat.testBit_and, Nat.testBit_xor, Nat.testBit_xor, Nat.testBit_xor]
    have : Nat.testBit 4294967295 31 = true := by decide
    rw [this]
    cases a.testBit 31 <;> cases b.testBit 31 <;> simp
  rw [hE]
  rw [tb31 E hE1, tb31 a ha1, tb31 b hb1, tb31 d hd1] at ht
  unfold bor
  by_cases h1 : 2147483648 ≤ a <;> by_cases h2 : 2147483648 ≤ b <;> by_cases h3 : 2147483648 ≤ d <;> by_cases h4 : 2147483648 ≤ E <;> simp [h1, h2, h3, h4] at ht <;> split <;> omega

set_option maxHeartbeats 400000 in
theorem sub32_any (x y c : Int) (w : World) (hx : 0 ≤ x ∧ x ≤ 4294967295) (hy : 0 ≤ y ∧ y ≤ 4294967295) (hc : 0 ≤ c ∧ c ≤ 1) :
    Calls Try.prog 137 #[.int .u32 x, .int .u32 y, .int .u32 c] w fun e w' => e = .returned (.tuple #[.int .u32 ((x - y - c) % 4294967296), .int .u32 (bor x y c)]) ∧ w = w' := by
  have HB := Lib.hid (bor_bits x y c hx hy hc)
  obtain ⟨hx0, hx1⟩ := hx
  obtain ⟨hy0, hy1⟩ := hy
  obtain ⟨hc0, hc1⟩ := hc
  go_enter Try.func137, Try.ntmps137
  go_wp2
  go_ret2
  refine ⟨?_, rfl⟩
  rw [← HB.out]
  rfl

set_option maxHeartbeats 1000000 in
theorem sub_any (va vb : Value) (n m La : Nat) (w : World) (ha : W32 w va n) (hb : W32 w vb m) (hn : Fit 4294967296 n La) (hle : m ≤ n) (hL : La ≤ 1099511627776) :
    Calls Try.prog 126 #[va, vb] w (RetN .u32 4294967296 w (n - m)) := by
  obtain ⟨A, la, ca, xs, rfl, hA, hrx, hca, hcam⟩ := ha
  obtain ⟨B, lb, cb, ys, rfl, hB, hry, hcb, hcbm⟩ := hb
  have hla := hn.len (by omega) hrx
  have hlb := (hn.le hle).len (by omega) hry
  have hlab : lb ≤ la := by
    have := Fit.len (by omega) ((Fit.of_rep (by omega) hrx).le hle) hry
    rw [hA.1, hB.1] at this; exact this
  rw [hA.1] at hla
  rw [hB.1] at hlb
  have HA := Lib.hid hA
  have HB := Lib.hid hB
  have HN := Lib.hid hrx
  have HM := Lib.hid hry
  have HLA : Hid (xs.length = la) := hA.1
  have HLB : Hid (ys.length = lb) := hB.1
  clear hA hB hrx hry hn
  go_enter Try.func126, Try.ntmps126
  go_wp2_with (at_make; refine wpList_mk _ elW rfl rfl _ _ rfl w.heap.size _ _ _ _ la la rfl rfl (by omega) (by omega) (Nat.le_refl _) (by omega) (by unfold maxLen; omega) (Nat.le_refl _) ?_; intro w1 hown1 hext1 hsz1)
  have HO1 := Lib.hid (OwnS.made hown1)
  have HX1 := Lib.hid hext1
  clear hown1 hext1 hsz1
  go_loopg [6, 14] la (fun g cy i wr => ∃ (k : Nat) (c : Int) (out : List Int), g = la - k ∧ k ≤ la ∧ i = .int .i64 k ∧ cy = .int .u32 c ∧ 0 ≤ c ∧ c ≤ 1 ∧ OwnS .u32 79 w.heap.size wr (some ⟨w.heap.size, 0, none⟩) la la out ∧ Hid (val 4294967296 (out.take k) = val 4294967296 (xs.take k) - val 4294967296 (ys.take k) + c * 4294967296 ^ k) ∧ Ext w wr)
  case atStart => exact ⟨0, 0, _, rfl, by omega, rfl, rfl, by omega, by omega, HO1.out, by simp [Hid, val], HX1.out⟩
  case round =>
    obtain ⟨k, c, out, rfl, hk, rfl, rfl, hc0, hc1, hO, hI, hX⟩ := hrel
    have HX := Lib.hid hX
    have HO := Lib.hid hO
    clear hX hO
    by_cases hlt : k < la
    · obtain ⟨b1, o1, x, hAe, hx, hwf, hcx⟩ := (HA.out.ext HX.out).get hlt
      subst hAe
      obtain ⟨hx0, hx1⟩ := u32_bounds hwf
      obtain ⟨g, z, hg, hz, _, hcz, hfz, _, hst⟩ := HO.out.store (j := k) (by omega)
      obtain rfl : w.heap.size = g := by injection hg with hg; injection hg
      have hk0 : (0 : Int) ≤ (k : Int) := by omega
      have hk1 : (k : Int) < (la : Int) := by omega
      have HXX := Lib.hid hx
      clear hx hwf hz hg
      have hy : ∃ y, Hid (ys.getD k 0 = y) ∧ 0 ≤ y ∧ y ≤ 4294967295 ∧ ((k < lb ∧ ∃ b2 o2, B = some ⟨b2, o2, none⟩ ∧ wr.cell? ⟨b2, o2 + k, none⟩ = some (.int .u32 y)) ∨ (lb ≤ k ∧ y = 0)) := by
        rcases Nat.lt_or_ge k lb with hlt2 | hlt2
        · obtain ⟨b2, o2, y, hBe, hy, hwf, hcy⟩ := (HB.out.ext HX.out).get hlt2
          have := u32_bounds hwf
          exact ⟨y, (by simp [List.getD, hy] : ys.getD k 0 = y), by omega, by omega, .inl ⟨hlt2, b2, o2, hBe, hcy⟩⟩
        · exact ⟨0, (by simp [List.getD, List.getElem?_eq_none (by rw [HLB.out]; omega : ys.length ≤ k)] : ys.getD k 0 = 0), by omega, by omega, .inr ⟨hlt2, rfl⟩⟩
      obtain ⟨y, hyv, hy0, hy1, hyc⟩ := hy
      have hs0 : 0 ≤ (x - y - c) % 4294967296 ∧ (x - y - c) % 4294967296 < 4294967296 := by omega
      have HS := Lib.hid (hst.out _ (wf32 hs0))
      have hbe := bor_eq x y c ⟨hx0, hx1⟩ ⟨hy0, hy1⟩ ⟨hc0, hc1⟩
      have HI := Lib.hid (sub_step (xs := xs) (ys := ys) (u := (x - y - c) % 4294967296) (c' := bor x y c) hI.out (by rw [HO.out.len]; omega) (by rw [hbe, hyv.out]; simp [List.getD, HXX.out]))
      obtain ⟨hb0, hb1⟩ := bor_range x y c
      obtain ⟨bo, hbo⟩ : ∃ bo, bor x y c = bo := ⟨_, rfl⟩
      have hcall := sub32_any x y c wr ⟨hx0, hx1⟩ ⟨hy0, hy1⟩ ⟨hc0, hc1⟩
      rw [hbo] at hcall HI hb0 hb1
      have HC := Lib.hid hcall
      clear hst hs0 hbe hcall hbo
      rcases hyc with ⟨hlt2, b2, o2, hBe, hcy⟩ | ⟨hlt2, hye⟩
      · subst hBe
        go_wp2_with fail
        refine HC.out.mono ?_
        rintro e w' ⟨rfl, rfl⟩
        go_wp2
        go_roundg (la - (k + 1))
        case rel => exact ⟨k + 1, bo, _, rfl, by omega, by go_num, rfl, hb0, hb1, HS.out, HI.out, HX.out.setCell (Nat.le_refl _) _⟩
        case measure => omega
      · subst hye
        go_wp2_with fail
        refine HC.out.mono ?_
        rintro e w' ⟨rfl, rfl⟩
        go_wp2
        go_roundg (la - (k + 1))
        case rel => exact ⟨k + 1, bo, _, rfl, by omega, by go_num, rfl, hb0, hb1, by simpa using HS.out, by simpa [Hid] using HI.out, HX.out.setCell (Nat.le_refl _) _⟩
        case measure => omega
    · obtain rfl : k = la := by omega
      have HV : Hid (val 4294967296 out = ((n - m : Nat) : Int)) := by
        have h2 := hI.out
        rw [List.take_of_length_le (l := xs) (by rw [HLA.out]; omega), List.take_of_length_le (l := ys) (by rw [HLB.out]; omega), List.take_of_length_le (l := out) (by rw [HO.out.len]; omega), HN.out.2.2, HM.out.2.2] at h2
        have h3 := val_lt (B := 4294967296) (by omega) (dg32 HO.out.ints)
        rw [HO.out.len] at h3
        have hp := pow_pos' (B := 4294967296) (by omega) k
        show _ = _
        have hc : c = 0 := by
          rcases (by omega : c = 0 ∨ c = 1) with h | h
          · exact h
          · subst h; rw [Int.one_mul] at h2; omega
        subst hc
        rw [Int.zero_mul] at h2
        omega
      go_wp2_with fail
      refine (norm_any _ _ _ _ _ HO.out.ints (by omega) (by omega)).mono ?_
      rintro e w' ⟨q, hq, hN, hv, rfl, rfl⟩
      have HW := Lib.hid (RetNorm.natv (N := n - m) (c := k) HO.out.ints hq hN hv HV.out (by omega) (by omega))
      clear hq hN hv
      go_wp2
      go_ret
      exact ⟨_, rfl, HW.out, HX.out⟩

end Go.Proofs.Yteoijnaljkagfaa
