/- The walk of the statement LinkPacks: for every frame and all bytes behind it it returns true. -/
import Derived.Test.YtekhmfliaojabaaPack
import Derived.Test.YtekhmfliaojabaaPackR
import Derived.Test.YtekhmfliaojabaaUnpack
import Derived.Test.YtekhmfliaojabaaSame
namespace Go.Proofs.Ytekhmfliaojabaa
open Go.RowKit

set_option maxHeartbeats 400000 in
theorem packR_bad (s q : Int) (A : Option Addr) (n c : Nat) (w : World) (h : ¬ (0 ≤ s ∧ s ≤ 255 ∧ 0 ≤ q ∧ q ≤ 4294967295 ∧ n ≤ 1024)) :
    Calls Try.prog 50 #[.agg #[.int .i64 s, .int .i64 q, .slice A n c]] w (RetBytes w [] 20) := by
  have HN := Lib.hid h
  clear h
  go_enter Try.func50, Try.ntmps50
  go_wp2_with fail
  refine (validR_no s q A n c _ HN.out).mono ?_
  rintro e w1 ⟨rfl, hX1⟩
  have HX := Lib.hid (((Ext.refl w).alloc _).trans hX1)
  clear hX1
  go_wp2
  go_ret2
  exact ⟨none, 0, 0, rfl, ⟨World.ownsRow_nil _ _ _ _, rfl, by simp⟩, HX.out⟩
theorem packR_any (s q : Int) (A : Option Addr) (n c : Nat) (xs : List Int) (w : World) (h : Ints .u8 w A n xs) (hnc : n ≤ c) (hcm : c ≤ 9223372036854775807) :
    Calls Try.prog 50 #[.agg #[.int .i64 s, .int .i64 q, .slice A n c]] w (RetBytes w (packO ⟨s, q, xs⟩).1 (packO ⟨s, q, xs⟩).2) := by
  unfold packO
  by_cases hok : FrOk ⟨s, q, xs⟩
  · rw [if_pos hok]; exact packR_ok s q A n c xs w h hnc hcm hok
  · rw [if_neg hok]
    refine packR_bad s q A n c w ?_
    unfold FrOk at hok
    simpa [h.1] using hok

theorem packO_cases (f : Fr) : (packO f = ([], 20)) ∨ (packO f = (pck f, 0) ∧ FrOk f) := by
  unfold packO
  split
  · rename_i h; exact .inr ⟨rfl, h⟩
  · exact .inl rfl

set_option maxRecDepth 100000 in
set_option maxHeartbeats 2000000 in
theorem linkPacks_walk (v0 : Value) (f : Fr) (B : Option Addr) (k d : Nat) (ts : List Int) (w : World) (hF : FrV w v0 f) (hB' : Ints .u8 w B k ts ∧ k ≤ d ∧ d ≤ 9223372036854775807) :
    Calls Try.prog 10 #[v0, .slice B k d] w fun e w' => e = .returned (.bool true) ∧ Ext w w' := by
  obtain ⟨A, n, c, rfl, h, hnc, hcm, hbs, hbq⟩ := hF
  obtain ⟨s, q, xs⟩ := f
  simp only at h hbs hbq ⊢
  obtain ⟨hB, hkd, hd⟩ := hB'
  have H := Lib.hid h
  have HB := Lib.hid hB
  clear h hB
  by_cases hl : 2048 < n
  · go_enter Try.func10, Try.ntmps10
    go_wp2_with fail
    refine (awake _).mono ?_
    rintro e w1 ⟨rfl, hext⟩
    have HX := Lib.hid (((Ext.refl w).alloc _).trans hext)
    clear hext
    go_wp2
    go_ret
    exact ⟨rfl, HX.out⟩
  by_cases hl2 : 1024 < k
  · go_enter Try.func10, Try.ntmps10
    go_wp2_with fail
    refine (awake _).mono ?_
    rintro e w1 ⟨rfl, hext⟩
    have HX := Lib.hid (((Ext.refl w).alloc _).trans hext)
    clear hext
    go_wp2
    go_ret
    exact ⟨rfl, HX.out⟩
  obtain ⟨ys, er, hP⟩ : ∃ ys er, packO ⟨s, q, xs⟩ = (ys, er) := ⟨_, _, rfl⟩
  obtain ⟨st, hst⟩ : ∃ st, strOfNums ys = st := ⟨_, rfl⟩
  obtain ⟨cr, hcr⟩ : ∃ cr, crc ts = cr := ⟨_, rfl⟩
  have HP := Lib.hid hP
  have HST := Lib.hid hst
  have HCR := Lib.hid hcr
  clear hP hst hcr
  go_enter Try.func10, Try.ntmps10
  go_wp2_with fail
  have hX0 : Ext w (w.alloc (.cells #[.int .i64 s, .int .i64 q, .slice A n c] 38)) := (Ext.refl w).alloc _
  have hB0 := Blk.new w 38 #[.int .i64 s, .int .i64 q, .slice A n c]
  refine (pack_any s q A n c xs _ (H.out.ext hX0)).mono ?_
  rw [HP.out]
  rintro e w1 ⟨A1, n1, c1, rfl, hO1, hX1⟩
  have HO1 := Lib.hid hO1
  have HX1 := Lib.hid (hX0.trans hX1)
  have HB1 := Lib.hid (hB0.ext hX1)
  clear hO1 hX1 hX0 hB0
  obtain ⟨r0, r1, r2, f0, f1, f2⟩ := HB1.out.three
  go_wp2_with fail
  refine (packR_any s q A n c xs w1 (H.out.ext HX1.out) hnc hcm).mono ?_
  rw [HP.out]
  rintro e w2 ⟨A2, n2, c2, rfl, hO2, hX2⟩
  have HO2 := Lib.hid hO2
  have HX2 := Lib.hid (HX1.out.trans hX2)
  replace HO1 := Lib.hid (HO1.out.ext hX2)
  replace HB1 := Lib.hid (HB1.out.ext hX2)
  clear hO2 hX2 HX1 r0 r1 r2 f0 f1 f2
  obtain ⟨r0, r1, r2, f0, f1, f2⟩ := HB1.out.three
  have q1 := str_any w2 (c := c1) HO1.out.ints
  have q2 := str_any w2 (c := c2) HO2.out.ints
  rw [HST.out] at q1 q2
  go_wp2_with fail
  have hck := checksum_any B k d ts w2 (HB.out.ext HX2.out) (by omega)
  rw [HCR.out] at hck
  refine hck.mono ?_
  clear hck
  rintro e w' ⟨rfl, rfl⟩
  go_wp2_with fail
  have hck := checksumR_any B k d ts w2 (HB.out.ext HX2.out) (by omega)
  rw [HCR.out] at hck
  refine hck.mono ?_
  clear hck
  rintro e w' ⟨rfl, rfl⟩
  clear q1 q2
  rcases packO_cases ⟨s, q, xs⟩ with hz | ⟨hz, hok⟩
  · rw [HP.out] at hz
    obtain ⟨rfl, rfl⟩ := Prod.mk.inj hz
    clear hz
    go_wp2_with fail
    refine (awake _).mono ?_
    rintro e w3 ⟨rfl, hext⟩
    have HX := Lib.hid (HX2.out.trans hext)
    clear hext
    go_wp2
    go_ret
    exact ⟨rfl, HX.out⟩
  · rw [HP.out] at hz
    obtain ⟨rfl, rfl⟩ := Prod.mk.inj hz
    clear hz
    have HOK := Lib.hid hok
    have hln : n1 = 12 + n := by rw [← HO1.out.len, pck_len]; simp only; rw [H.out.1]
    have hn1024 : n ≤ 1024 := by have := hok.2.2.2.2; simp only at this; rw [H.out.1] at this; exact this
    subst hln
    clear hok
    go_wp2_with fail
    refine (own_any _ _ _ (pck ⟨s, q, xs⟩) w2 HO1.out.ints (by omega)).mono ?_
    rintro e w3 ⟨A3, n3, c3, rfl, hO3, hX3⟩
    obtain rfl : n3 = 12 + n := by rw [← hO3.len, ← HO1.out.len]
    have HO3 := Lib.hid hO3
    have HX3 := Lib.hid hX3
    clear hO3 hX3
    go_wp2_with (first | (at_builtin; refine wpList_app _ elB rfl _ _ rfl w2.heap.size (.slice A3 (12 + n) c3) (12 + n) _ rfl HO3.out.own B k d (ts.map (.int .u8)) rfl (by rw [List.length_map, HB.out.1]; omega) (HB.out.ext (HX2.out.trans HX3.out)).2.2 (ints_oneCell _ _) (by omega) (by unfold maxLen; omega) HX3.out.size ?_; intro v4 w4 hown4 hgr4 hdj; clear hdj))
    obtain ⟨A4, c4, rfl⟩ := own_slice hown4
    have hI4 : Ints .u8 w4 A4 (12 + n + k) (pck ⟨s, q, xs⟩ ++ ts) := ⟨by rw [List.length_append, HO3.out.len, HB.out.1], wf_app HO3.out.wf (fun x hx => u8_bounds (HB.out.2.1 x hx)), by rw [List.map_append]; exact At.of_own hown4⟩
    have hcap4 := own_cap hown4
    have HX4 := Lib.hid (HX3.out.app HO3.out.own hgr4)
    clear hown4 hgr4
    have hu := unpack_any _ _ c4 _ _ hI4 hcap4.1 hcap4.2
    rw [unp_pck HOK.out ts] at hu
    simp only [H.out.1] at hu
    refine hu.mono ?_
    clear hu hI4 hcap4
    rintro e w5 ⟨A5, n5, c5, rfl, hO5, hX5⟩
    simp only at hO5 ⊢
    have HO5 := Lib.hid hO5
    have HX5 := Lib.hid ((HX2.out.trans HX4.out).trans hX5)
    replace HB1 := Lib.hid (HB1.out.ext (HX4.out.trans hX5))
    clear hO5 hX5 r0 r1 r2 f0 f1 f2
    obtain ⟨r0, r1, r2, f0, f1, f2⟩ := HB1.out.three
    have hlt := HB1.out.lt
    go_wp2_with fail
    have hXb : Ext w5 (w5.alloc (.cells #[.int .i64 s, .int .i64 q, .slice A5 n5 c5] 38)) := (Ext.refl w5).alloc _
    refine (sameFrame_eq s q A5 A n5 c5 n c xs _ (HO5.out.ints.ext hXb) (H.out.ext (HX5.out.trans hXb))).mono ?_
    rintro e w6 ⟨rfl, hX6⟩
    have HX6 := Lib.hid ((HX5.out.trans hXb).trans hX6)
    clear hX6 hXb
    go_wp2_with fail
    refine (awake _).mono ?_
    rintro e w7 ⟨rfl, hext⟩
    have HX := Lib.hid (HX6.out.trans hext)
    clear hext
    go_wp2
    go_ret
    exact ⟨rfl, HX.out⟩
end Go.Proofs.Ytekhmfliaojabaa
