/- Lemmas of the proof that follows (Carries, part 3): walks of functions by contract, and plain lemmas. Conditions: none. -/
import Derived.Test.YtekhmfliaojabaaCarriesB
namespace Go.Proofs.Ytekhmfliaojabaa
open Go.RowKit

theorem wrap_tdiv {n : Int} (h : -9223372036854775808 ≤ n ∧ n ≤ 9223372036854775807) : -9223372036854775808 ≤ n.tdiv 8 ∧ n.tdiv 8 ≤ 9223372036854775807 := by
  rcases Int.le_total 0 n with h0 | h0
  · rw [Int.tdiv_eq_ediv_of_nonneg h0]; omega
  · have e : n.tdiv 8 = -((-n).tdiv 8) := by rw [Int.neg_tdiv, Int.neg_neg]
    rw [e, Int.tdiv_eq_ediv_of_nonneg (by omega)]; omega

set_option maxRecDepth 100000 in
set_option maxHeartbeats 2000000 in
theorem faultR_out (A : Option Addr) (n c : Nat) (kd pl num : Int) (xss : List (List Int)) (w : World) (hnc : n ≤ c) (hcm : c ≤ 9223372036854775807) (hL : Lists .u8 w A n xss) (ho : pl < 0 ∨ (n : Int) ≤ pl) :
    Calls Try.prog 71 #[.slice A n c, .agg #[.int .i64 kd, .int .i64 pl, .int .i64 num]] w (RetL w xss) := by
  have HL := Lib.hid hL
  clear hL
  rcases ho with ho | ho
  · go_enter Try.func71, Try.ntmps71
    go_wp2
    go_ret
    exact ⟨_, _, _, rfl, HL.out.ext ((Ext.refl w).alloc _), hnc, hcm, (Ext.refl w).alloc _⟩
  · by_cases ho2 : pl < 0
    · omega
    · go_enter Try.func71, Try.ntmps71
      go_wp2
      go_ret
      exact ⟨_, _, _, rfl, HL.out.ext ((Ext.refl w).alloc _), hnc, hcm, (Ext.refl w).alloc _⟩

set_option maxRecDepth 100000 in
set_option maxHeartbeats 2000000 in
theorem faultR_k1 (A : Option Addr) (n c i : Nat) (kd num : Int) (xss : List (List Int)) (xs : List Int)  (w : World) (hnc : n ≤ c) (hcm : c ≤ 9223372036854775807) (hL : Lists .u8 w A n xss) (hn : n ≤ 1000000) (hi : i < n) (hb : ∀ x ∈ xss, x.length ≤ 1000000) (hx : xss[i]? = some xs)  :
    Calls Try.prog 71 #[.slice A n c, .agg #[.int .i64 1, .int .i64 (i : Int), .int .i64 num]] w (RetL w (dele xss i)) := by
  have HL := Lib.hid hL
  have HB := Lib.hid hb
  have HXS := Lib.hid hx
  clear hL hb hx
  have hi0 : (i : Int) < (n : Int) := by omega
  have hi1 : (0 : Int) ≤ (i : Int) := by omega
  obtain ⟨b0, off, A5, n5, c5, xs', rfl, hx, hc, hI, hc1, hc2⟩ := HL.out.get hi
  obtain rfl : xs' = xs := by have := HXS.out; rw [hx] at this; exact Option.some.inj this
  have h5 : n5 ≤ 1000000 := by have := HB.out xs' (List.mem_of_getElem? hx); rw [hI.1] at this; exact this
  have HIX := Lib.hid hI
  have HC := Lib.hid hc
  clear hx hI hc
  have hXe : Ext w (w.alloc (.cells #[.int .i64 1, .int .i64 (i : Int), .int .i64 num] 114)) := ((Ext.refl w).alloc _)
  have kF : Blk (w.alloc (.cells #[.int .i64 1, .int .i64 (i : Int), .int .i64 num] 114)) w.heap.size 114 #[.int .i64 1, .int .i64 (i : Int), .int .i64 num] := Blk.at_ (by simp)
  have hc := hXe.cell HC.out
  go_enter Try.func71, Try.ntmps71
  go_wp2_with fail
  generalize (w.alloc (.cells #[.int .i64 1, .int .i64 (i : Int), .int .i64 num] 114)) = w1 at hXe hc kF ⊢
  have HX := Lib.hid hXe
  clear hXe
  have KF := Lib.hid kF
  clear kF
  have HL0 := HL
  replace HL := Lib.hid (HL.out.ext HX.out)
  replace HIX := Lib.hid (HIX.out.ext HX.out)
  have cF0 : w1.cell? ⟨w.heap.size, 0, none⟩ = some (.int .i64 1) := KF.out.cell 0
  have cF1 : w1.cell? ⟨w.heap.size, 1, none⟩ = some (.int .i64 (i : Int)) := KF.out.cell 1
  have cF2 : w1.cell? ⟨w.heap.size, 2, none⟩ = some (.int .i64 num) := KF.out.cell 2
  go_wp2_with fail
  clear cF0 cF1 cF2
  refine (without_any _ n c i xss _ HL.out hn hi).mono ?_
  rintro e w2 ⟨A9, n9, c9, rfl, hl9, hm1, hm2, hX⟩
  replace hX : Ext w1 w2 := by with_reducible exact hX
  replace HX := Lib.hid (HX.out.trans hX)
  replace HL := Lib.hid (HL.out.ext hX)
  replace HIX := Lib.hid (HIX.out.ext hX)
  replace KF := Lib.hid (KF.out.ext hX)
  clear hX
  go_wp2
  go_ret
  exact ⟨_, _, _, rfl, hl9, hm1, hm2, HX.out⟩

set_option maxRecDepth 100000 in
set_option maxHeartbeats 2000000 in
theorem faultR_k2 (A : Option Addr) (n c i : Nat) (kd num : Int) (xss : List (List Int)) (xs : List Int)  (w : World) (hnc : n ≤ c) (hcm : c ≤ 9223372036854775807) (hL : Lists .u8 w A n xss) (hn : n ≤ 1000000) (hi : i < n) (hb : ∀ x ∈ xss, x.length ≤ 1000000) (hx : xss[i]? = some xs)  :
    Calls Try.prog 71 #[.slice A n c, .agg #[.int .i64 2, .int .i64 (i : Int), .int .i64 num]] w (RetL w (inse xss (i + 1) xs)) := by
  have HL := Lib.hid hL
  have HB := Lib.hid hb
  have HXS := Lib.hid hx
  clear hL hb hx
  have hi0 : (i : Int) < (n : Int) := by omega
  have hi1 : (0 : Int) ≤ (i : Int) := by omega
  obtain ⟨b0, off, A5, n5, c5, xs', rfl, hx, hc, hI, hc1, hc2⟩ := HL.out.get hi
  obtain rfl : xs' = xs := by have := HXS.out; rw [hx] at this; exact Option.some.inj this
  have h5 : n5 ≤ 1000000 := by have := HB.out xs' (List.mem_of_getElem? hx); rw [hI.1] at this; exact this
  have HIX := Lib.hid hI
  have HC := Lib.hid hc
  clear hx hI hc
  have hXe : Ext w (w.alloc (.cells #[.int .i64 2, .int .i64 (i : Int), .int .i64 num] 114)) := ((Ext.refl w).alloc _)
  have kF : Blk (w.alloc (.cells #[.int .i64 2, .int .i64 (i : Int), .int .i64 num] 114)) w.heap.size 114 #[.int .i64 2, .int .i64 (i : Int), .int .i64 num] := Blk.at_ (by simp)
  have hc := hXe.cell HC.out
  go_enter Try.func71, Try.ntmps71
  go_wp2_with fail
  generalize (w.alloc (.cells #[.int .i64 2, .int .i64 (i : Int), .int .i64 num] 114)) = w1 at hXe hc kF ⊢
  have HX := Lib.hid hXe
  clear hXe
  have KF := Lib.hid kF
  clear kF
  have HL0 := HL
  replace HL := Lib.hid (HL.out.ext HX.out)
  replace HIX := Lib.hid (HIX.out.ext HX.out)
  have cF0 : w1.cell? ⟨w.heap.size, 0, none⟩ = some (.int .i64 2) := KF.out.cell 0
  have cF1 : w1.cell? ⟨w.heap.size, 1, none⟩ = some (.int .i64 (i : Int)) := KF.out.cell 1
  have cF2 : w1.cell? ⟨w.heap.size, 2, none⟩ = some (.int .i64 num) := KF.out.cell 2
  go_upto_region 8 with (fail)
  clear cF0 cF1 cF2
  refine fault_r8 w.heap.size (some ⟨b0, off, none⟩) n c i num xss A5 n5 c5 xs' w1 (KF.out.cell 1) (KF.out.cell 2) HL.out hn hi HIX.out hc1 hc2 h5 _ _ (by simp) rfl rfl rfl ?_
  rintro xv0 xv1 xv2 xv3 xv4 xv5 xv6 w2 rfl rfl rfl rfl rfl ⟨A7, rfl, hl7⟩ ⟨A8, n8, c8, rfl, hI8, hc8, hd8⟩ hXW
  simp only [rops, Try.f71, regOf, Option.bind_some, Nat.reduceBEq, if_true, if_false, Bool.false_eq_true, Option.getD_some, List.drop_succ_cons, List.drop_zero]
  simp only [Act.put, List.setIfInBounds_toArray, List.set_cons_succ, List.set_cons_zero]
  replace HX := Lib.hid (HX.out.trans hXW)
  replace HL := Lib.hid (HL.out.ext hXW)
  replace HIX := Lib.hid (HIX.out.ext hXW)
  replace KF := Lib.hid (KF.out.ext hXW)
  clear hXW
  have HI8 : Hid (SlV .u8 w2 (.slice A8 n8 c8) xs') := Lib.hid ⟨A8, n8, c8, rfl, hI8, hc8, hd8⟩
  clear hI8 hl7
  go_wp2_with fail
  refine (with_any _ n c (i + 1) ((i : Int) + 1) (by omega) _ xs' xss _ HL.out HI8.out hn (by omega)).mono ?_
  rintro e w3 ⟨A9, n9, c9, rfl, hl9, hm1, hm2, hX⟩
  replace hX : Ext w2 w3 := by with_reducible exact hX
  replace HX := Lib.hid (HX.out.trans hX)
  replace HL := Lib.hid (HL.out.ext hX)
  replace HIX := Lib.hid (HIX.out.ext hX)
  replace KF := Lib.hid (KF.out.ext hX)
  clear hX
  go_wp2
  go_ret
  exact ⟨_, _, _, rfl, hl9, hm1, hm2, HX.out⟩

set_option maxRecDepth 100000 in
set_option maxHeartbeats 2000000 in
theorem faultR_k3 (A : Option Addr) (n c i : Nat) (kd num : Int) (xss : List (List Int)) (xs : List Int)  (w : World) (hnc : n ≤ c) (hcm : c ≤ 9223372036854775807) (hL : Lists .u8 w A n xss) (hn : n ≤ 1000000) (hi : i < n) (hb : ∀ x ∈ xss, x.length ≤ 1000000) (hx : xss[i]? = some xs)  :
    Calls Try.prog 71 #[.slice A n c, .agg #[.int .i64 3, .int .i64 (i : Int), .int .i64 num]] w (RetL w (inse (dele xss i) (held num (n - 1)) xs)) := by
  have HL := Lib.hid hL
  have HB := Lib.hid hb
  have HXS := Lib.hid hx
  clear hL hb hx
  have hi0 : (i : Int) < (n : Int) := by omega
  have hi1 : (0 : Int) ≤ (i : Int) := by omega
  obtain ⟨b0, off, A5, n5, c5, xs', rfl, hx, hc, hI, hc1, hc2⟩ := HL.out.get hi
  obtain rfl : xs' = xs := by have := HXS.out; rw [hx] at this; exact Option.some.inj this
  have h5 : n5 ≤ 1000000 := by have := HB.out xs' (List.mem_of_getElem? hx); rw [hI.1] at this; exact this
  have HIX := Lib.hid hI
  have HC := Lib.hid hc
  clear hx hI hc
  have hXe : Ext w (w.alloc (.cells #[.int .i64 3, .int .i64 (i : Int), .int .i64 num] 114)) := ((Ext.refl w).alloc _)
  have kF : Blk (w.alloc (.cells #[.int .i64 3, .int .i64 (i : Int), .int .i64 num] 114)) w.heap.size 114 #[.int .i64 3, .int .i64 (i : Int), .int .i64 num] := Blk.at_ (by simp)
  have hc := hXe.cell HC.out
  go_enter Try.func71, Try.ntmps71
  go_wp2_with fail
  generalize (w.alloc (.cells #[.int .i64 3, .int .i64 (i : Int), .int .i64 num] 114)) = w1 at hXe hc kF ⊢
  have HX := Lib.hid hXe
  clear hXe
  have KF := Lib.hid kF
  clear kF
  have HL0 := HL
  replace HL := Lib.hid (HL.out.ext HX.out)
  replace HIX := Lib.hid (HIX.out.ext HX.out)
  have cF0 : w1.cell? ⟨w.heap.size, 0, none⟩ = some (.int .i64 3) := KF.out.cell 0
  have cF1 : w1.cell? ⟨w.heap.size, 1, none⟩ = some (.int .i64 (i : Int)) := KF.out.cell 1
  have cF2 : w1.cell? ⟨w.heap.size, 2, none⟩ = some (.int .i64 num) := KF.out.cell 2
  go_upto_region 10 with (fail)
  clear cF0 cF1 cF2
  refine fault_r10 w.heap.size (some ⟨b0, off, none⟩) n c i num xss A5 n5 c5 xs' w1 (KF.out.cell 1) (KF.out.cell 2) HL.out hn hi HIX.out hc1 hc2 h5 _ _ (by simp) rfl rfl rfl ?_
  rintro xv0 xv1 xv2 xv3 xv4 xv5 xv6 xv7 xv8 xv9 xv10 xv11 w2 rfl rfl rfl ⟨A7, n7, c7, rfl, hl7⟩ rfl rfl rfl rfl rfl rfl rfl rfl hXW
  simp only [rops, Try.f71, regOf, Option.bind_some, Nat.reduceBEq, if_true, if_false, Bool.false_eq_true, Option.getD_some, List.drop_succ_cons, List.drop_zero]
  simp only [Act.put, List.setIfInBounds_toArray, List.set_cons_succ, List.set_cons_zero]
  replace HX := Lib.hid (HX.out.trans hXW)
  replace HL := Lib.hid (HL.out.ext hXW)
  replace HIX := Lib.hid (HIX.out.ext hXW)
  replace KF := Lib.hid (KF.out.ext hXW)
  clear hXW
  have hl8 := hl7.len
  rw [dele_len (by rw [HL.out.len]; exact hi), HL.out.len] at hl8
  have HL7 := Lib.hid hl7
  have HL8 := Lib.hid hl8
  clear hl7 hl8
  go_wp2_with fail
  refine (with_any _ n7 c7 (held num (n - 1)) _ rfl _ xs' _ _ HL7.out ⟨A5, n5, c5, rfl, HIX.out, hc1, hc2⟩ (by have := HL8.out; omega) (by have := HL8.out; have := held_le num (n - 1); omega)).mono ?_
  rintro e w3 ⟨A9, n9, c9, rfl, hl9, hm1, hm2, hX⟩
  replace hX : Ext w2 w3 := by with_reducible exact hX
  replace HX := Lib.hid (HX.out.trans hX)
  replace HL := Lib.hid (HL.out.ext hX)
  replace HIX := Lib.hid (HIX.out.ext hX)
  replace KF := Lib.hid (KF.out.ext hX)
  clear hX
  go_wp2
  go_ret
  exact ⟨_, _, _, rfl, hl9, hm1, hm2, HX.out⟩

set_option maxRecDepth 100000 in
set_option maxHeartbeats 2000000 in
theorem faultR_k4n (A : Option Addr) (n c i : Nat) (num : Int) (xss : List (List Int)) (xs : List Int) (w : World) (hnc : n ≤ c) (hcm : c ≤ 9223372036854775807) (hL : Lists .u8 w A n xss) (hi : i < n) (hx : xss[i]? = some xs) (hk : num < 0 ∨ (xs.length : Int) ≤ num.tdiv 8) (hnum : -9223372036854775808 ≤ num ∧ num ≤ 9223372036854775807) :
    Calls Try.prog 71 #[.slice A n c, .agg #[.int .i64 4, .int .i64 (i : Int), .int .i64 num]] w (RetL w xss) := by
  have HL := Lib.hid hL
  have HXS := Lib.hid hx
  have hi0 : (i : Int) < (n : Int) := by omega
  have hi1 : (0 : Int) ≤ (i : Int) := by omega
  obtain ⟨b0, off, A5, n5, c5, xs', rfl, hx', hc, hI, hc1, hc2⟩ := hL.get hi
  obtain rfl : xs' = xs := by rw [hx] at hx'; exact (Option.some.inj hx').symm
  have hn5 := hI.1
  rw [hn5] at hk
  have hwr := wrap_tdiv hnum
  have hc' := ((Ext.refl w).alloc (.cells #[.int .i64 4, .int .i64 (i : Int), .int .i64 num] 114)).cell hc
  clear hL hx hx' hI hn5 hc
  rcases hk with hk | hk
  · go_enter Try.func71, Try.ntmps71
    go_wp2
    go_ret
    exact ⟨_, _, _, rfl, HL.out.ext ((Ext.refl w).alloc _), hnc, hcm, (Ext.refl w).alloc _⟩
  · by_cases hk2 : num < 0
    · go_enter Try.func71, Try.ntmps71
      go_wp2
      go_ret
      exact ⟨_, _, _, rfl, HL.out.ext ((Ext.refl w).alloc _), hnc, hcm, (Ext.refl w).alloc _⟩
    · go_enter Try.func71, Try.ntmps71
      go_wp2
      go_ret
      exact ⟨_, _, _, rfl, HL.out.ext ((Ext.refl w).alloc _), hnc, hcm, (Ext.refl w).alloc _⟩

set_option maxRecDepth 100000 in
set_option maxHeartbeats 2000000 in
theorem faultR_k4 (A : Option Addr) (n c i : Nat) (kd num : Int) (xss : List (List Int)) (xs : List Int) (q : Nat) (w : World) (hnc : n ≤ c) (hcm : c ≤ 9223372036854775807) (hL : Lists .u8 w A n xss) (hn : n ≤ 1000000) (hi : i < n) (hb : ∀ x ∈ xss, x.length ≤ 1000000) (hx : xss[i]? = some xs) (hq : q / 8 < xs.length) :
    Calls Try.prog 71 #[.slice A n c, .agg #[.int .i64 4, .int .i64 (i : Int), .int .i64 (q : Int)]] w (RetL w (inse (dele xss i) i (flipped xs q))) := by
  have HL := Lib.hid hL
  have HB := Lib.hid hb
  have HXS := Lib.hid hx
  clear hL hb hx
  have hi0 : (i : Int) < (n : Int) := by omega
  have hi1 : (0 : Int) ≤ (i : Int) := by omega
  have HQ := Lib.hid hq
  clear hq
  obtain ⟨b0, off, A5, n5, c5, xs', rfl, hx, hc, hI, hc1, hc2⟩ := HL.out.get hi
  obtain rfl : xs' = xs := by have := HXS.out; rw [hx] at this; exact Option.some.inj this
  have h5 : n5 ≤ 1000000 := by have := HB.out xs' (List.mem_of_getElem? hx); rw [hI.1] at this; exact this
  have HIX := Lib.hid hI
  have HC := Lib.hid hc
  clear hx hI hc
  have hq := HQ.out
  rw [HIX.out.1] at hq
  have hq0 : ¬ (q : Int) < 0 := by omega
  have hq9 : ¬ ((n5 : Int) ≤ (q : Int) / 8) := by omega
  have hXe : Ext w (w.alloc (.cells #[.int .i64 4, .int .i64 (i : Int), .int .i64 (q : Int)] 114)) := ((Ext.refl w).alloc _)
  have kF : Blk (w.alloc (.cells #[.int .i64 4, .int .i64 (i : Int), .int .i64 (q : Int)] 114)) w.heap.size 114 #[.int .i64 4, .int .i64 (i : Int), .int .i64 (q : Int)] := Blk.at_ (by simp)
  have hc := hXe.cell HC.out
  go_enter Try.func71, Try.ntmps71
  go_upto_region 14 with (fail)
  generalize (w.alloc (.cells #[.int .i64 4, .int .i64 (i : Int), .int .i64 (q : Int)] 114)) = w1 at hXe hc kF ⊢
  have HX := Lib.hid hXe
  clear hXe
  have KF := Lib.hid kF
  clear kF
  have HL0 := HL
  replace HL := Lib.hid (HL.out.ext HX.out)
  replace HIX := Lib.hid (HIX.out.ext HX.out)
  have cF0 : w1.cell? ⟨w.heap.size, 0, none⟩ = some (.int .i64 4) := KF.out.cell 0
  have cF1 : w1.cell? ⟨w.heap.size, 1, none⟩ = some (.int .i64 (i : Int)) := KF.out.cell 1
  have cF2 : w1.cell? ⟨w.heap.size, 2, none⟩ = some (.int .i64 (q : Int)) := KF.out.cell 2
  have z1 := KF.out.lt
  go_wp2_with fail
  clear cF0 cF1 cF2
  refine (joined_one A5 n5 c5 xs' _ HIX.out hc1 hc2 h5).mono ?_
  rintro e w2 ⟨A6, n6, c6, rfl, ho6, hX⟩
  replace hX : Ext w1 w2 := by with_reducible exact hX
  replace HX := Lib.hid (HX.out.trans hX)
  replace HL := Lib.hid (HL.out.ext hX)
  replace HIX := Lib.hid (HIX.out.ext hX)
  replace KF := Lib.hid (KF.out.ext hX)
  clear hX
  obtain rfl : n6 = n5 := by have := ho6.len; rw [HIX.out.1] at this; exact this.symm
  obtain ⟨gy, rfl, hgy, hgy2⟩ := own_block ho6.own (by omega)
  have HO6 := Lib.hid ho6
  clear ho6
  obtain ⟨q8, hq8⟩ : ∃ q8, q / 8 = q8 := ⟨_, rfl⟩
  obtain ⟨r, hr8⟩ : ∃ r, q % 8 = r := ⟨_, rfl⟩
  obtain ⟨p2, hp2⟩ : ∃ p2 : Int, ((2 ^ r : Nat) : Int) = p2 := ⟨_, rfl⟩
  have hzz := flip_val HO6.out.wf (by rw [HO6.out.len, ← hq8]; exact hq) hq8 hr8 hp2
  have hyb := getD_u8 HO6.out.wf (j := q8) (by rw [HO6.out.len, ← hq8]; exact hq)
  obtain ⟨y, hy⟩ : ∃ y, xs'.getD q8 0 = y := ⟨_, rfl⟩
  obtain ⟨zz, hz⟩ : ∃ zz, flipB xs' q = zz := ⟨_, rfl⟩
  rw [hy] at hyb hzz
  rw [hz] at hzz
  have hq5 : q8 < n6 := by omega
  have HQ8 := Lib.hid hq8
  have HR8 := Lib.hid hr8
  have HP2 := Lib.hid hp2
  have HZZ := Lib.hid hzz
  have HY := Lib.hid hy
  have HZ := Lib.hid hz
  clear hq8 hr8 hp2 hzz hy hz hq hq9
  go_upto_region 15 with (fail)
  refine fault_r15 w.heap.size gy c6 q q8 r n6 y p2 zz w2 (KF.out.cell 2) (by have := (HO6.out.cellB hq5).1; rw [HY.out] at this; exact this) hyb hq5 h5 HQ8 HR8 HP2 HZZ _ _ (by simp) rfl rfl ?_
  rintro xv0 xv1 xv2 xv3 xv4 xv5 xv6 xv7 xv8 xv9 xv10 xv11 xv12 xv13 xv14 xv15 w3 rfl rfl rfl rfl rfl rfl rfl rfl rfl rfl rfl rfl rfl rfl rfl rfl hXW
  simp only [rops, Try.f71, regOf, Option.bind_some, Nat.reduceBEq, if_true, if_false, Bool.false_eq_true, Option.getD_some, List.drop_succ_cons, List.drop_zero]
  simp only [Act.put, List.setIfInBounds_toArray, List.set_cons_succ, List.set_cons_zero]
  replace HX := Lib.hid (HX.out.trans hXW)
  replace HL := Lib.hid (HL.out.ext hXW)
  replace HIX := Lib.hid (HIX.out.ext hXW)
  replace HO6 := Lib.hid (HO6.out.ext hXW)
  replace KF := Lib.hid (KF.out.ext hXW)
  clear hXW
  have hcy : w3.cell? ⟨gy, q8, none⟩ = some (.int .u8 y) := by have := (HO6.out.cellB hq5).1; rw [HY.out] at this; exact this
  have hfy := (HO6.out.cellB hq5).2
  go_upto_region 16 with (fail)
  have hXs : Ext w (w3.setCell ⟨gy, q8, none⟩ (.int .u8 zz)) := HX.out.setCell (show w.heap.size ≤ gy by omega) _
  have hof := HO6.out.flip HQ8.out
  rw [HZ.out] at hof
  have hKF := KF.out.far (p := ⟨gy, q8, none⟩) (show w.heap.size ≠ gy by omega) (.int .u8 zz)
  clear hcy hfy
  generalize (w3.setCell ⟨gy, q8, none⟩ (.int .u8 zz)) = w9 at hXs hof hKF ⊢
  replace HX := Lib.hid hXs
  replace HL := Lib.hid (HL0.out.ext hXs)
  replace KF := Lib.hid hKF
  have HOF := Lib.hid hof
  clear hXs hKF hof HIX HO6
  go_wp2_with fail
  refine fault_r16 w.heap.size (some ⟨b0, off, none⟩) n c i (q : Int) xss A5 n6 c5 xs' (some ⟨gy, 0, none⟩) n6 c6 w9 (KF.out.cell 1) (KF.out.cell 2) HL.out hn hi _ _ (by simp) rfl rfl rfl ?_
  rintro xv0 xv1 xv2 xv3 xv4 xv5 xv6 w4 rfl rfl rfl ⟨A7, n7, c7, rfl, hl7⟩ rfl rfl rfl hXW
  simp only [rops, Try.f71, regOf, Option.bind_some, Nat.reduceBEq, if_true, if_false, Bool.false_eq_true, Option.getD_some, List.drop_succ_cons, List.drop_zero]
  simp only [Act.put, List.setIfInBounds_toArray, List.set_cons_succ, List.set_cons_zero]
  replace HX := Lib.hid (HX.out.trans hXW)
  replace HL := Lib.hid (HL.out.ext hXW)
  replace HOF := Lib.hid (HOF.out.ext hXW)
  replace KF := Lib.hid (KF.out.ext hXW)
  clear hXW
  have hl8 := hl7.len
  rw [dele_len (by rw [HL.out.len]; exact hi), HL.out.len] at hl8
  have HL7 := Lib.hid hl7
  have HL8 := Lib.hid hl8
  clear hl7 hl8
  go_wp2_with fail
  refine (with_any _ n7 c7 i _ rfl _ _ _ _ HL7.out HOF.out.slv (by have := HL8.out; omega) (by have := HL8.out; omega)).mono ?_
  rintro e w5 ⟨A9, n9, c9, rfl, hl9, hm1, hm2, hX⟩
  replace hX : Ext w4 w5 := by with_reducible exact hX
  replace HX := Lib.hid (HX.out.trans hX)
  replace HL := Lib.hid (HL.out.ext hX)
  replace HOF := Lib.hid (HOF.out.ext hX)
  replace KF := Lib.hid (KF.out.ext hX)
  clear hX
  go_wp2
  go_ret
  exact ⟨_, _, _, rfl, hl9, hm1, hm2, HX.out⟩

set_option maxRecDepth 100000 in
set_option maxHeartbeats 2000000 in
theorem faultR_k5 (A : Option Addr) (n c i : Nat) (kd num : Int) (xss : List (List Int)) (xs : List Int)  (w : World) (hnc : n ≤ c) (hcm : c ≤ 9223372036854775807) (hL : Lists .u8 w A n xss) (hn : n ≤ 1000000) (hi : i < n) (hb : ∀ x ∈ xss, x.length ≤ 1000000) (hx : xss[i]? = some xs)  :
    Calls Try.prog 71 #[.slice A n c, .agg #[.int .i64 5, .int .i64 (i : Int), .int .i64 num]] w (RetL w (inse (dele xss i) i (xs.take (held num xs.length)))) := by
  have HL := Lib.hid hL
  have HB := Lib.hid hb
  have HXS := Lib.hid hx
  clear hL hb hx
  have hi0 : (i : Int) < (n : Int) := by omega
  have hi1 : (0 : Int) ≤ (i : Int) := by omega
  obtain ⟨b0, off, A5, n5, c5, xs', rfl, hx, hc, hI, hc1, hc2⟩ := HL.out.get hi
  obtain rfl : xs' = xs := by have := HXS.out; rw [hx] at this; exact Option.some.inj this
  have h5 : n5 ≤ 1000000 := by have := HB.out xs' (List.mem_of_getElem? hx); rw [hI.1] at this; exact this
  have HIX := Lib.hid hI
  have HC := Lib.hid hc
  clear hx hI hc
  have hXe : Ext w (w.alloc (.cells #[.int .i64 5, .int .i64 (i : Int), .int .i64 num] 114)) := ((Ext.refl w).alloc _)
  have kF : Blk (w.alloc (.cells #[.int .i64 5, .int .i64 (i : Int), .int .i64 num] 114)) w.heap.size 114 #[.int .i64 5, .int .i64 (i : Int), .int .i64 num] := Blk.at_ (by simp)
  have hc := hXe.cell HC.out
  go_enter Try.func71, Try.ntmps71
  go_wp2_with fail
  generalize (w.alloc (.cells #[.int .i64 5, .int .i64 (i : Int), .int .i64 num] 114)) = w1 at hXe hc kF ⊢
  have HX := Lib.hid hXe
  clear hXe
  have KF := Lib.hid kF
  clear kF
  have HL0 := HL
  replace HL := Lib.hid (HL.out.ext HX.out)
  replace HIX := Lib.hid (HIX.out.ext HX.out)
  have cF0 : w1.cell? ⟨w.heap.size, 0, none⟩ = some (.int .i64 5) := KF.out.cell 0
  have cF1 : w1.cell? ⟨w.heap.size, 1, none⟩ = some (.int .i64 (i : Int)) := KF.out.cell 1
  have cF2 : w1.cell? ⟨w.heap.size, 2, none⟩ = some (.int .i64 num) := KF.out.cell 2
  go_upto_region 18 with (fail)
  clear cF0 cF1 cF2
  refine fault_r18 w.heap.size (some ⟨b0, off, none⟩) n c i num xss A5 n5 c5 xs' w1 (KF.out.cell 1) (KF.out.cell 2) HL.out hn hi HIX.out hc1 hc2 h5 _ _ (by simp) rfl rfl rfl ?_
  rintro xv0 xv1 xv2 xv3 xv4 xv5 xv6 xv7 xv8 xv9 xv10 xv11 xv12 xv13 xv14 xv15 w2 rfl rfl rfl ⟨A7, n7, c7, rfl, hl7⟩ rfl rfl rfl rfl rfl rfl rfl rfl rfl rfl ⟨A8, rfl, hl9⟩ ⟨A9, n9, c9, rfl, hI9, hc9, hd9⟩ hXW
  simp only [rops, Try.f71, regOf, Option.bind_some, Nat.reduceBEq, if_true, if_false, Bool.false_eq_true, Option.getD_some, List.drop_succ_cons, List.drop_zero]
  simp only [Act.put, List.setIfInBounds_toArray, List.set_cons_succ, List.set_cons_zero]
  replace HX := Lib.hid (HX.out.trans hXW)
  replace HL := Lib.hid (HL.out.ext hXW)
  replace HIX := Lib.hid (HIX.out.ext hXW)
  replace KF := Lib.hid (KF.out.ext hXW)
  clear hXW
  have HI9 : Hid (SlV .u8 w2 (.slice A9 n9 c9) (xs'.take (held num n5))) := Lib.hid ⟨A9, n9, c9, rfl, hI9, hc9, hd9⟩
  clear hI9 hl9
  have hl8 := hl7.len
  rw [dele_len (by rw [HL.out.len]; exact hi), HL.out.len] at hl8
  have HL7 := Lib.hid hl7
  have HL8 := Lib.hid hl8
  clear hl7 hl8
  go_wp2_with fail
  refine (with_any _ n7 c7 i _ rfl _ _ _ _ HL7.out HI9.out (by have := HL8.out; omega) (by have := HL8.out; omega)).mono ?_
  rintro e w3 ⟨A10, n10, c10, rfl, hl10, hm1, hm2, hX⟩
  replace hX : Ext w2 w3 := by with_reducible exact hX
  replace HX := Lib.hid (HX.out.trans hX)
  replace HL := Lib.hid (HL.out.ext hX)
  replace HIX := Lib.hid (HIX.out.ext hX)
  replace KF := Lib.hid (KF.out.ext hX)
  clear hX
  go_wp2
  go_ret
  rw [HIX.out.1]
  exact ⟨_, _, _, rfl, hl10, hm1, hm2, HX.out⟩


set_option maxRecDepth 100000 in
set_option maxHeartbeats 1000000 in
theorem faultR_else (A : Option Addr) (n c i : Nat) (kd num : Int) (xss : List (List Int)) (xs : List Int) (w : World) (hnc : n ≤ c) (hcm : c ≤ 9223372036854775807) (hL : Lists .u8 w A n xss) (hi : i < n) (hx : xss[i]? = some xs) (h1 : kd ≠ 1) (h2 : kd ≠ 2) (h3 : kd ≠ 3) (h4 : kd ≠ 4) (h5 : kd ≠ 5) :
    Calls Try.prog 71 #[.slice A n c, .agg #[.int .i64 kd, .int .i64 (i : Int), .int .i64 num]] w (RetL w xss) := by
  have HL := Lib.hid hL
  have hi0 : (i : Int) < (n : Int) := by omega
  have hi1 : (0 : Int) ≤ (i : Int) := by omega
  obtain ⟨b0, off, A5, n5, c5, xs', rfl, hx', hc, hI, hc1, hc2⟩ := hL.get hi
  have e1 : (kd == 1) = false := by simpa using h1
  have e2 : (kd == 2) = false := by simpa using h2
  have e3 : (kd == 3) = false := by simpa using h3
  have e4 : (kd == 4) = false := by simpa using h4
  have e5 : (kd == 5) = false := by simpa using h5
  have hc' := ((Ext.refl w).alloc (.cells #[.int .i64 kd, .int .i64 (i : Int), .int .i64 num] 114)).cell hc
  clear hL hx hx' hI hc h1 h2 h3 h4 h5
  go_enter Try.func71, Try.ntmps71
  go_wp2
  go_ret
  exact ⟨_, _, _, rfl, HL.out.ext ((Ext.refl w).alloc _), hnc, hcm, (Ext.refl w).alloc _⟩

theorem faultR_any (A : Option Addr) (n c : Nat) (f : Flt) (xss : List (List Int)) (w : World) (hnc : n ≤ c) (hcm : c ≤ 9223372036854775807) (hL : Lists .u8 w A n xss) (hn : n ≤ 1000000) (hb : ∀ x ∈ xss, x.length ≤ 1000000) (hf : FltIn f) :
    Calls Try.prog 71 #[.slice A n c, .agg #[.int .i64 f.kind, .int .i64 f.place, .int .i64 f.num]] w (RetL w (fault1 xss f)) := by
  obtain ⟨kd, pl, num⟩ := f
  obtain ⟨_, _, hnum⟩ := hf
  simp only at hnum ⊢
  have hlen := hL.len
  unfold fault1
  simp only
  by_cases ho : pl < 0 ∨ (xss.length : Int) ≤ pl
  · rw [if_pos ho]
    exact faultR_out A n c kd pl num xss w hnc hcm hL (by rw [hlen] at ho; exact ho)
  · rw [if_neg ho]
    obtain ⟨i, rfl⟩ := Int.eq_ofNat_of_zero_le (show 0 ≤ pl by omega)
    have hi : i < n := by omega
    have hi2 : i < xss.length := by omega
    have hx : xss[i]? = some xss[i] := List.getElem?_eq_getElem hi2
    have hd : xss.getD (Int.ofNat i).toNat [] = xss[i] := by simp [List.getD, hx]
    rw [show ((i : Int)).toNat = i from Int.toNat_natCast i]
    have hd : xss.getD i [] = xss[i] := by simp [List.getD, hx]
    rw [hd]
    generalize xss[i] = xs at hx
    unfold spoil1
    simp only
    by_cases k1 : kd = 1
    · subst k1; rw [if_pos rfl]; exact faultR_k1 A n c i 1 num xss xs w hnc hcm hL hn hi hb hx
    · rw [if_neg k1]
      by_cases k2 : kd = 2
      · subst k2; rw [if_pos rfl]; exact faultR_k2 A n c i 2 num xss xs w hnc hcm hL hn hi hb hx
      · rw [if_neg k2]
        by_cases k3 : kd = 3
        · subst k3; rw [if_pos rfl, hlen]; exact faultR_k3 A n c i 3 num xss xs w hnc hcm hL hn hi hb hx
        · rw [if_neg k3]
          by_cases k4 : kd = 4
          · subst k4
            rw [if_pos rfl]
            by_cases hk : num < 0 ∨ (xs.length : Int) ≤ num.tdiv 8
            · rw [if_pos hk]; exact faultR_k4n A n c i num xss xs w hnc hcm hL hi hx hk hnum
            · rw [if_neg hk]
              obtain ⟨q, rfl⟩ := Int.eq_ofNat_of_zero_le (show 0 ≤ num by omega)
              rw [show ((q : Int)).toNat = q from Int.toNat_natCast q, ← set_inse hi2]
              refine faultR_k4 A n c i 4 q xss xs q w hnc hcm hL hn hi hb hx ?_
              have := Int.tdiv_eq_ediv_of_nonneg (a := (q : Int)) (b := 8) (by omega)
              omega
          · rw [if_neg k4]
            by_cases k5 : kd = 5
            · subst k5; rw [if_pos rfl, ← set_inse hi2]; exact faultR_k5 A n c i 5 num xss xs w hnc hcm hL hn hi hb hx
            · rw [if_neg k5]; exact faultR_else A n c i kd num xss xs w hnc hcm hL hi hx k1 k2 k3 k4 k5

set_option maxRecDepth 100000 in
set_option maxHeartbeats 2000000 in
theorem carryR_any (A : Option Addr) (n c : Nat) (F : Option Addr) (m d : Nat) (xss : List (List Int)) (fs : List Flt) (w : World) (hL : Lists .u8 w A n xss) (hn : n ≤ 100000) (hF : Flts w F m fs) (hm : m ≤ 100000) (hG : Grams n 1000000 xss) :
    Calls Try.prog 30 #[.slice A n c, .slice F m d] w (RetL w (carry1 xss fs)) := by
  have H := Lib.hid hL
  have HF := Lib.hid hF
  have HG := Lib.hid hG
  clear hL hF hG
  go_enter Try.func30, Try.ntmps30
  go_wp2
  go_loopg [5, 10] n (fun g v i' wr => ∃ (k : Nat) (vs : List Value), g = n - k ∧ k ≤ n ∧ i' = .int .i64 k ∧ wr.ownsRow w.heap.size 22 1 v k vs ∧ F2 (BodyV w.heap.size wr) vs (xss.take k) ∧ Ext w wr)
  case atStart => exact ⟨0, [], by omega, by omega, rfl, World.ownsRow_nil _ _ _ _, F2.nil, Ext.refl w⟩
  case round =>
    obtain ⟨k, vs, rfl, hk, rfl, hown, hvs, hext⟩ := hrel
    have HX := Lib.hid hext
    have HV := Lib.hid hvs
    clear hext hvs
    by_cases hlt : k < n
    · obtain ⟨b, off, A', n', c', xs, rfl, hx, hc, hI, hc1, hc2⟩ := (H.out.ext HX.out).get hlt
      have h5 : n' ≤ 1000000 := by have := (HG.out.2 xs (List.mem_of_getElem? hx)).1; rw [hI.1] at this; exact this
      have HI := Lib.hid hI
      have HXS := Lib.hid hx
      clear hI hx
      go_wp2_with fail
      refine (joined_one A' n' c' xs _ HI.out hc1 hc2 h5).mono ?_
      rintro e w1 ⟨A6, n6, c6, rfl, ho6, hX1⟩
      have hown1 := World.ownsRow.ext' hown hX1
      have HO6 := Lib.hid ho6
      have HX1 := Lib.hid hX1
      clear hown ho6 hX1 hc
      go_wp2_with (at_builtin; refine wpList_app _ elL rfl _ _ rfl w.heap.size u5 _ _ rfl (hown1.alloc _) _ 1 1 [.slice A6 n6 c6] rfl rfl (At.new' _ [_] _ rfl) (by simp [Value.oneCell']) (by omega) (by unfold maxLen; omega) (by have := HX.out.size; have := HX1.out.size; simp; omega) ?_; intro v2 w2 hown2 hgr2 _)
      go_roundg (n - (k + 1))
      case rel =>
        have hXa : Ext w1 (w1.alloc (.cells #[.slice A6 n6 c6] 22)) := (Ext.refl w1).alloc _
        refine ⟨k + 1, vs ++ [.slice A6 n6 c6], rfl, by omega, by go_num, hown2, ?_, ?_⟩
        · rw [List.take_add_one, HXS.out]
          refine F2.snoc (HV.out.imp fun a b _ h => ((h.ext HX1.out).ext hXa).kept (hown1.alloc _) (by decide) hgr2) ?_
          exact BodyV.kept (BodyV.ext ⟨A6, n6, c6, rfl, HO6.out.mono HX.out.size⟩ hXa) (hown1.alloc _) (by decide) hgr2
        · exact (HX.out.trans HX1.out).push hown1 hgr2
      case measure => omega
    · obtain rfl : k = n := by omega
      have hl1 : xss.take k = xss := List.take_of_length_le (by have := H.out.1; omega)
      have hLs : ∃ A5 c5, u5 = .slice A5 k c5 ∧ Lists .u8 wr A5 k xss ∧ k ≤ c5 ∧ c5 ≤ 9223372036854775807 := by
        obtain ⟨A5, c5, rfl⟩ := own_slice hown
        have hv := bodies_lv HV.out
        rw [hl1] at hv
        exact ⟨A5, c5, rfl, hv.lists (by have := hown.1; omega) (At.of_own hown), (own_cap hown).1, (own_cap hown).2⟩
      have HLS := Lib.hid hLs
      clear hl1 hLs hown HV
      go_wp2
      go_loopg [5, 25] m (fun g v i' wr => ∃ (j n5 : Nat) (A5 : Option Addr) (c5 : Nat), g = m - j ∧ j ≤ m ∧ i' = .int .i64 j ∧ v = .slice A5 n5 c5 ∧ Lists .u8 wr A5 n5 (carry1 xss (fs.take j)) ∧ n5 ≤ c5 ∧ c5 ≤ 9223372036854775807 ∧ Ext w wr)
      case atStart =>
        obtain ⟨A5, c5, rfl, h1, h2, h3⟩ := HLS.out
        exact ⟨0, k, A5, c5, by omega, by omega, rfl, rfl, by simpa [carry1] using h1, h2, h3, HX.out⟩
      case round =>
        clear HLS HX
        obtain ⟨j, n5, A5, c5, rfl, hj, rfl, rfl, hL5, hn5, hc5, hext⟩ := hrel
        have HX := Lib.hid hext
        have HL5 := Lib.hid hL5
        clear hext hL5
        by_cases hlt : j < m
        · obtain ⟨b, off, f, rfl, hf, hfi, f0, f1, f2⟩ := (HF.out.ext HX.out).get hlt
          have hg := (HG.out.carry (fs.take j))
          have hl := HL5.out.len
          have h1 : (fs.take j).length = j := by rw [List.length_take, HF.out.1]; omega
          have hn6 : n5 ≤ 1000000 := by rw [← hl]; have := hg.1; rw [h1] at this; omega
          have HG2 := Lib.hid hg.2
          have HFI := Lib.hid hfi
          have HFF := Lib.hid hf
          clear hg hl h1 hf hfi
          obtain ⟨kd, pl, num⟩ := f
          simp only at f0 f1 f2
          go_wp2_with fail
          refine (faultR_any A5 n5 c5 ⟨kd, pl, num⟩ _ _ hn5 hc5 HL5.out hn6 (fun x hx => (HG2.out x hx).1) HFI.out).mono ?_
          rintro e w1 ⟨A6, n6, c6, rfl, hl6, h1, h2, hX1⟩
          have HL6 := Lib.hid hl6
          have HX1 := Lib.hid hX1
          clear hl6 hX1 f0 f1 f2
          go_wp2
          go_roundg (m - (j + 1))
          case rel => exact ⟨j + 1, n6, A6, c6, rfl, by omega, by go_num, rfl, by rw [carry_snoc HFF.out]; exact HL6.out, h1, h2, HX.out.trans HX1.out⟩
          case measure => omega
        · go_wp2
          go_ret
          refine ⟨_, _, _, rfl, ?_, hn5, hc5, HX.out⟩
          have e1 : fs.take j = fs := List.take_of_length_le (by have := HF.out.1; omega)
          have := HL5.out
          rwa [e1] at this

end Go.Proofs.Ytekhmfliaojabaa
