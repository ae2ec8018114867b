/- The walk of the statement LinkDamages: for every frame, every place and every byte it returns true. -/
import Derived.Test.YtekhmfliaojabaaLawPacks
import Derived.Test.YtekhmfliaojabaaDamage
namespace Go.Proofs.Ytekhmfliaojabaa
open Go.RowKit

set_option maxRecDepth 100000 in
set_option maxHeartbeats 2000000 in
theorem linkDamages_walk (v0 : Value) (f : Fr) (at_ x : Int) (w : World) (hF : FrV w v0 f) (_hat : -9223372036854775808 ≤ at_ ∧ at_ ≤ 9223372036854775807) (hx : 0 ≤ x ∧ x ≤ 255) :
    Calls Try.prog 11 #[v0, .int .i64 at_, .int .u8 x] w fun e w' => e = .returned (.bool true) ∧ Ext w w' := by
  obtain ⟨A, n, c, rfl, h, hnc, hcm, hbs, hbq⟩ := hF
  obtain ⟨s, q, xs⟩ := f
  simp only at h hbs hbq ⊢
  have H := Lib.hid h
  clear h
  have hX0 : Ext w (w.alloc (.cells #[.int .i64 s, .int .i64 q, .slice A n c] 38)) := (Ext.refl w).alloc _
  have hB0 := Blk.new w 38 #[.int .i64 s, .int .i64 q, .slice A n c]
  have HX0 := Lib.hid hX0
  have HB0 := Lib.hid hB0
  clear hX0 hB0
  by_cases hok : FrOk ⟨s, q, xs⟩
  · have HOK := Lib.hid hok
    obtain ⟨h1, h2, h3, h4, h5⟩ := hok
    simp only at h1 h2 h3 h4 h5
    rw [H.out.1] at h5
    have hby : Hid (∀ x ∈ xs, 0 ≤ x ∧ x ≤ 255) := fun x hx => u8_bounds (H.out.2.1 x hx)
    go_enter Try.func11, Try.ntmps11
    go_wp2_with fail
    refine (validR_yes s q A n c _ h1 h2 h3 h4 h5).mono ?_
    rintro e w1 ⟨rfl, hX1⟩
    have HX1 := Lib.hid (HX0.out.trans hX1)
    have HB1 := Lib.hid (HB0.out.ext hX1)
    clear hX1 HX0 HB0
    obtain ⟨r0, r1, r2, f0, f1, f2⟩ := HB1.out.three
    go_wp2_with fail
    refine (pack_ok s q A n c xs w1 (H.out.ext HX1.out) HOK.out).mono ?_
    rintro e w2 ⟨A2, n2, c2, rfl, hO2, hX2⟩
    obtain rfl : n2 = 12 + n := by rw [← hO2.len, pck_len]; simp only; rw [H.out.1]
    have HO2 := Lib.hid hO2
    have HX2 := Lib.hid (HX1.out.trans hX2)
    replace HB1 := Lib.hid (HB1.out.ext hX2)
    clear hX2 hO2 HX1 r0 r1 r2 f0 f1 f2
    obtain ⟨r0, r1, r2, f0, f1, f2⟩ := HB1.out.three
    have hw0 : 0 ≤ IntKind.u64.wrap at_ := by
      have : IntKind.u64.wrap at_ = at_ % 18446744073709551616 := by simp [IntKind.wrap, IntKind.bits, IntKind.signed]
      rw [this]; omega
    obtain ⟨i, hi⟩ := Int.eq_ofNat_of_zero_le (Int.emod_nonneg (IntKind.u64.wrap at_) (show (12 + (n : Int)) ≠ 0 by omega))
    have hilt : i < 12 + n := by
      have := Int.emod_lt_of_pos (IntKind.u64.wrap at_) (show 0 < 12 + (n : Int) by omega)
      omega
    obtain ⟨b2, o2, y, rfl, hy, hwy, hcy⟩ := HO2.out.ints.get hilt
    obtain ⟨hy0, hy1⟩ := u8_bounds hwy
    have HY := Lib.hid hy
    clear hy hwy
    by_cases hyx : y = x
    · have hb : (y == x) = true := by simpa using hyx
      clear hyx
      go_wp2_with fail
      refine (awake _).mono ?_
      rintro e w3 ⟨rfl, hext⟩
      have HX := Lib.hid (HX2.out.trans hext)
      clear hext
      go_wp2
      go_ret
      exact ⟨rfl, HX.out⟩
    · have hb : (y == x) = false := by simpa using hyx
      have HNE := Lib.hid hyx
      clear hyx
      go_wp2_with fail
      refine (own_any _ _ _ (pck ⟨s, q, xs⟩) w2 HO2.out.ints (by omega)).mono ?_
      rintro e w3 ⟨A3, n3, c3, rfl, hO3, hX3⟩
      obtain rfl : n3 = 12 + n := by rw [← hO3.len, ← HO2.out.len]
      have hO3' := hO3.own
      rcases hO3'.2 with ⟨_, h0⟩ | ⟨g, cap, cur, hv, hgb, hgg, _⟩
      · omega
      injection hv with hA3 _ hc3
      subst hA3 hc3
      have hgl : g < w3.heap.size := (Array.getElem?_eq_some_iff.1 hgg).1
      have hcell : ∃ u, w3.cell? ⟨g, i, none⟩ = some u := by
        rw [hO3'.cellAt i (by omega)]
        exact ⟨_, List.getElem?_eq_getElem (by rw [List.length_map, hO3.len]; omega)⟩
      obtain ⟨u, hu⟩ := hcell
      have hfr := hO3'.frozenAt i
      have hst := hO3'.stored i (.int .u8 x)
      have hXs : Ext w2 (w3.setCell ⟨g, i, none⟩ (.int .u8 x)) := hX3.setCell hgb _
      have hIz : Ints .u8 (w3.setCell ⟨g, i, none⟩ (.int .u8 x)) (some ⟨g, 0, none⟩) (12 + n) ((pck ⟨s, q, xs⟩).set i x) := ⟨by rw [List.length_set, hO3.len], fun z hz => by
        rcases List.mem_or_eq_of_mem_set hz with hz | rfl
        · exact hO3.wf z hz
        · exact WalkArith.wf_u8 hx, by rw [List.map_set]; exact At.of_own hst.1⟩
      have hcap := own_cap hO3'
      have HIz := Lib.hid hIz
      have HXs := Lib.hid hXs
      have HBz := Lib.hid (HB1.out.ext hXs)
      clear hO3 hO3' hgg hst hIz hX3 hXs
      have hdam := damaged HOK.out hby.out hx HY.out HNE.out
      obtain ⟨uf, uk, ue, hu'⟩ : ∃ uf uk ue, unp ((pck ⟨s, q, xs⟩).set i x) = (uf, uk, ue) := ⟨_, _, _, rfl⟩
      rw [hu'] at hdam
      simp only at hdam
      obtain ⟨us, uq, ub⟩ := uf
      simp only [H.out.1] at hdam
      have HU := Lib.hid hu'
      have HD := Lib.hid hdam
      clear hu' hdam
      go_wp2_with fail
      refine (unpack_any _ _ _ _ _ HIz.out hcap.1 hcap.2).mono ?_
      rw [HU.out]
      rintro e w5 ⟨A5, n5, c5, rfl, hO5, hX5⟩
      simp only at hO5 ⊢
      have hn5 : ub.length = n5 := hO5.len
      have HO5 := Lib.hid hO5
      have HX5 := Lib.hid ((HX2.out.trans HXs.out).trans hX5)
      have HB5 := Lib.hid (HBz.out.ext hX5)
      have HD5 : Hid (ue ≠ 0 ∨ n5 ≠ n) := by have := HD.out; rw [hn5] at this; exact this
      clear hO5 hX5 hn5 r0 r1 r2 f0 f1 f2
      obtain ⟨r0, r1, r2, f0, f1, f2⟩ := HB5.out.three
      have hlt := HB5.out.lt
      by_cases hue : ue = 0
      · have hb1 : (ue != 0) = false := by simpa using hue
        have hb2 : ((n5 : Int) != (n : Int)) = true := by
          have := HD5.out
          simp
          omega
        have hXb : Ext w5 (w5.alloc (.cells #[.int .i64 us, .int .i64 uq, .slice A5 n5 c5] 38)) := (Ext.refl w5).alloc _
        have HXb := Lib.hid hXb
        clear hXb hue
        go_wp2_with fail
        refine (awake _).mono ?_
        rintro e w7 ⟨rfl, hext⟩
        have HX := Lib.hid ((HX5.out.trans HXb.out).trans hext)
        clear hext
        go_wp2
        go_ret
        exact ⟨rfl, HX.out⟩
      · have hb1 : (ue != 0) = true := by simpa using hue
        have hXb : Ext w5 (w5.alloc (.cells #[.int .i64 us, .int .i64 uq, .slice A5 n5 c5] 38)) := (Ext.refl w5).alloc _
        have HXb := Lib.hid hXb
        clear hXb hue
        go_wp2_with fail
        refine (awake _).mono ?_
        rintro e w7 ⟨rfl, hext⟩
        have HX := Lib.hid ((HX5.out.trans HXb.out).trans hext)
        clear hext
        go_wp2
        go_ret
        exact ⟨rfl, HX.out⟩
  · have hno : ¬ (0 ≤ s ∧ s ≤ 255 ∧ 0 ≤ q ∧ q ≤ 4294967295 ∧ n ≤ 1024) := by
      unfold FrOk at hok
      simpa [H.out.1] using hok
    have HN := Lib.hid hno
    clear hok hno
    go_enter Try.func11, Try.ntmps11
    go_wp2_with fail
    refine (validR_no s q A n c _ HN.out).mono ?_
    rintro e w1 ⟨rfl, hX1⟩
    have HX1 := Lib.hid (HX0.out.trans hX1)
    clear hX1
    go_wp2_with fail
    refine (awake _).mono ?_
    rintro e w3 ⟨rfl, hext⟩
    have HX := Lib.hid (HX1.out.trans hext)
    clear hext
    go_wp2
    go_ret
    exact ⟨rfl, HX.out⟩
end Go.Proofs.Ytekhmfliaojabaa
