/- The walk of the statement LinkNumbers: for every number and all bytes in front and behind it returns true. -/
import Derived.Test.YtekhmfliaojabaaReadS
import Derived.Test.YtekhmfliaojabaaWriteS
namespace Go.Proofs.Ytekhmfliaojabaa
open Go.RowKit

theorem str_any (w : World) {A : Option Addr} {n c : Nat} {xs : List Int} (h : Ints .u8 w A n xs) :
    (convert 22 9 (.slice A n c)).run Try.prog w = .ok (.string (strOfNums xs)) w := run_str w Try.underlying22 Try.underlying5 Try.underlying9 h

theorem numO_cases (xs : List Int) (m : Int) : (numO xs m).2 ≠ 0 ∨ (numO xs m = (xs ++ enc m, 0) ∧ 0 ≤ m ∧ m ≤ 4611686018427387903) := by
  unfold numO
  split
  · rename_i h; exact .inr ⟨rfl, h⟩
  · exact .inl (by simp)
theorem sigO_cases (xs : List Int) (m : Int) : (sigO xs m).2 ≠ 0 ∨ (sigO xs m = (xs ++ enc (zig m), 0) ∧ -2305843009213693952 ≤ m ∧ m ≤ 2305843009213693951) := by
  unfold sigO
  split
  · rename_i h; exact .inr ⟨rfl, h⟩
  · exact .inl (by simp)

set_option maxRecDepth 100000 in
set_option maxHeartbeats 2000000 in
theorem linkNumbers_walk (m : Int) (A : Option Addr) (n c : Nat) (xs : List Int) (B : Option Addr) (k d : Nat) (ts : List Int) (w : World) (hm : -9223372036854775808 ≤ m ∧ m ≤ 9223372036854775807) (h' : Ints .u8 w A n xs ∧ n ≤ c ∧ c ≤ 9223372036854775807)
    (hB' : Ints .u8 w B k ts ∧ k ≤ d ∧ d ≤ 9223372036854775807) :
    Calls Try.prog 4 #[.int .i64 m, .slice A n c, .slice B k d] w fun e w' => e = .returned (.bool true) ∧ Ext w w' := by
  obtain ⟨hm0, hm1⟩ := hm
  obtain ⟨h, hnc, hc⟩ := h'
  obtain ⟨hB, hkd, hd⟩ := hB'
  have H := Lib.hid h
  have HB := Lib.hid hB
  clear h hB
  by_cases hl : 64 < n
  · go_enter Try.func4, Try.ntmps4
    go_wp2_with fail
    refine (awake _).mono ?_
    rintro e w1 ⟨rfl, hext⟩
    have HX := Lib.hid hext
    clear hext
    go_wp2
    go_ret
    exact ⟨rfl, HX.out⟩
  by_cases hl2 : 64 < k
  · go_enter Try.func4, Try.ntmps4
    go_wp2_with fail
    refine (awake _).mono ?_
    rintro e w1 ⟨rfl, hext⟩
    have HX := Lib.hid hext
    clear hext
    go_wp2
    go_ret
    exact ⟨rfl, HX.out⟩
  obtain ⟨ys, e1, hN⟩ : ∃ ys e1, numO xs m = (ys, e1) := ⟨_, _, rfl⟩
  obtain ⟨zs, e2, hS⟩ : ∃ ys e1, sigO xs m = (ys, e1) := ⟨_, _, rfl⟩
  obtain ⟨s1, hs1⟩ : ∃ s, strOfNums ys = s := ⟨_, rfl⟩
  obtain ⟨s2, hs2⟩ : ∃ s, strOfNums zs = s := ⟨_, rfl⟩
  have HN := Lib.hid hN
  have HS := Lib.hid hS
  have HS1 := Lib.hid hs1
  have HS2 := Lib.hid hs2
  clear hN hS hs1 hs2
  go_enter Try.func4, Try.ntmps4
  go_wp2_with fail
  refine (number_any A n c xs m w H.out (by omega)).mono ?_
  rw [HN.out]
  rintro e w1 ⟨A1, n1, c1, rfl, hO1, hx1⟩
  have HO1 := Lib.hid hO1
  have HX1 := Lib.hid hx1
  clear hO1 hx1
  go_wp2_with fail
  refine (numberR_any A n c xs m w1 (H.out.ext HX1.out) hnc hc (by omega)).mono ?_
  rw [HN.out]
  rintro e w2 ⟨A2, n2, c2, rfl, hO2, hx2⟩
  have HO2 := Lib.hid hO2
  have HX2 := Lib.hid (HX1.out.trans hx2)
  replace HO1 := Lib.hid (HO1.out.ext hx2)
  clear hO2 hx2
  go_wp2_with fail
  refine (signed_any A n c xs m w2 (H.out.ext HX2.out) (by omega)).mono ?_
  rw [HS.out]
  rintro e w3 ⟨A3, n3, c3, rfl, hO3, hx3⟩
  have HO3 := Lib.hid hO3
  have HX3 := Lib.hid (HX2.out.trans hx3)
  replace HO1 := Lib.hid (HO1.out.ext hx3)
  replace HO2 := Lib.hid (HO2.out.ext hx3)
  clear hO3 hx3
  go_wp2_with fail
  refine (signedR_any A n c xs m w3 (H.out.ext HX3.out) hnc hc (by omega)).mono ?_
  rw [HS.out]
  rintro e w4 ⟨A4, n4, c4, rfl, hO4, hx4⟩
  have HO4 := Lib.hid hO4
  have HX4 := Lib.hid (HX3.out.trans hx4)
  replace HO1 := Lib.hid (HO1.out.ext hx4)
  replace HO2 := Lib.hid (HO2.out.ext hx4)
  replace HO3 := Lib.hid (HO3.out.ext hx4)
  clear hO4 hx4
  have q1 := str_any w4 (c := c1) HO1.out.ints
  have q2 := str_any w4 (c := c2) HO2.out.ints
  have q3 := str_any w4 (c := c3) HO3.out.ints
  have q4 := str_any w4 (c := c4) HO4.out.ints
  rw [HS1.out] at q1 q2
  rw [HS2.out] at q3 q4
  go_upto_if 77 with (fail)
  go_cut [] (fun wx => Ext w4 wx)
  case first =>
    clear q1 q2 q3 q4
    rcases numO_cases xs m with hz | ⟨hz, hr0, hr1⟩
    · rw [HN.out] at hz
      have hb : (e1 == 0) = false := by simpa using hz
      clear hz
      go_wp2_with fail
      go_meet
      exact Ext.refl _
    · rw [HN.out] at hz
      obtain ⟨rfl, rfl⟩ := Prod.mk.inj hz
      clear hz
      have hln : n1 = n + (enc m).length := by rw [← HO1.out.len, List.length_append, H.out.1]
      have hel := enc_length m
      obtain ⟨L, hL⟩ : ∃ L, (enc m).length = L := ⟨_, rfl⟩
      rw [hL] at hln hel
      subst hln
      obtain ⟨hcap, _⟩ := HO1.out.cap
      have HL1 := Lib.hid hL
      clear hL
      go_wp2_with (first | (refine wpList_cutL (o := ⟨some 82, _, _, _, _, _⟩) _ elB rfl _ _ rfl A1 (n + L) c1 rfl _ _ n rfl rfl (by omega) hcap ?_; intro A5 hA5))
      have hat5 := hA5 w4 _ HO1.out.ints.2.2 (by rw [List.length_map, HO1.out.len]; omega)
      have hI5 : Ints .u8 w4 A5 L (enc m) := ⟨HL1.out, fun x hx => HO1.out.wf x (List.mem_append_right _ hx), by
        rw [Nat.mul_one, ← List.map_drop, List.drop_left' H.out.1] at hat5; exact hat5⟩
      have HI5 := Lib.hid hI5
      clear hI5 hat5 hA5
      refine (own_any _ _ _ (enc m) w4 HI5.out (by omega)).mono ?_
      rintro e w5 ⟨A6, n6, c6, rfl, hO6, hx6⟩
      obtain rfl : n6 = L := by rw [← hO6.len, HL1.out]
      have HO6 := Lib.hid hO6
      have HX6 := Lib.hid hx6
      clear hO6 hx6
      go_wp2_with (first | (at_builtin; refine wpList_app _ elB rfl _ _ rfl w4.heap.size (.slice A6 n6 c6) n6 _ rfl HO6.out.own B k d (ts.map (.int .u8)) rfl (by rw [List.length_map, HB.out.1]; omega) (HB.out.ext (HX4.out.trans HX6.out)).2.2 (ints_oneCell _ _) (by omega) (by unfold maxLen; omega) HX6.out.size ?_; intro v7 w7 hown7 hgr7 hdj7; clear hdj7))
      obtain ⟨A7, c7, rfl⟩ := own_slice hown7
      have hI7 : Ints .u8 w7 A7 (n6 + k) (enc m ++ ts) := ⟨by rw [List.length_append, HL1.out, HB.out.1], wf_app HO6.out.wf (fun x hx => u8_bounds (HB.out.2.1 x hx)), by rw [List.map_append]; exact At.of_own hown7⟩
      have HX7 := Lib.hid (HX6.out.app HO6.out.own hgr7)
      have HI7 := Lib.hid hI7
      clear hI7 hown7 hgr7
      refine (readNum' _ _ _ (enc m ++ ts) _ HI7.out (by omega) (by rw [rd_enc ts hr0 hr1, HL1.out])).mono ?_
      rintro e' w' ⟨rfl, rfl⟩
      have hsub : (n : Int) + (n6 : Int) - (n : Int) = (n6 : Int) := by omega
      go_wp2_with fail
      go_meet
      exact HX7.out
  case rest =>
    obtain HXc := Lib.hid (HX4.out.trans hcut)
    replace HO3 := Lib.hid (HO3.out.ext hcut)
    clear hcut q1 q2 q3 q4
    rcases sigO_cases xs m with hz | ⟨hz, hr0, hr1⟩
    · rw [HS.out] at hz
      have hb : (e2 == 0) = false := by simpa using hz
      clear hz
      go_wp2_with fail
      refine (awake _).mono ?_
      rintro e w1 ⟨rfl, hext⟩
      have HX := Lib.hid hext
      clear hext
      go_wp2
      go_ret
      exact ⟨rfl, HXc.out.trans HX.out⟩
    · rw [HS.out] at hz
      obtain ⟨rfl, rfl⟩ := Prod.mk.inj hz
      clear hz
      have hln : n3 = n + (enc (zig m)).length := by rw [← HO3.out.len, List.length_append, H.out.1]
      have hel := enc_length (zig m)
      obtain ⟨L, hL⟩ : ∃ L, (enc (zig m)).length = L := ⟨_, rfl⟩
      rw [hL] at hln hel
      subst hln
      obtain ⟨hcap, _⟩ := HO3.out.cap
      have HL1 := Lib.hid hL
      clear hL
      go_wp2_with (first | (refine wpList_cutL (o := ⟨some 112, _, _, _, _, _⟩) _ elB rfl _ _ rfl A3 (n + L) c3 rfl _ _ n rfl rfl (by omega) hcap ?_; intro A5 hA5))
      have hat5 := hA5 wc _ HO3.out.ints.2.2 (by rw [List.length_map, HO3.out.len]; omega)
      have hI5 : Ints .u8 wc A5 L (enc (zig m)) := ⟨HL1.out, fun x hx => HO3.out.wf x (List.mem_append_right _ hx), by
        rw [Nat.mul_one, ← List.map_drop, List.drop_left' H.out.1] at hat5; exact hat5⟩
      have HI5 := Lib.hid hI5
      clear hI5 hat5 hA5
      refine (own_any _ _ _ (enc (zig m)) wc HI5.out (by omega)).mono ?_
      rintro e w5 ⟨A6, n6, c6, rfl, hO6, hx6⟩
      obtain rfl : n6 = L := by rw [← hO6.len, HL1.out]
      have HO6 := Lib.hid hO6
      have HX6 := Lib.hid hx6
      clear hO6 hx6
      go_wp2_with (first | (at_builtin; refine wpList_app _ elB rfl _ _ rfl wc.heap.size (.slice A6 n6 c6) n6 _ rfl HO6.out.own B k d (ts.map (.int .u8)) rfl (by rw [List.length_map, HB.out.1]; omega) (HB.out.ext (HXc.out.trans HX6.out)).2.2 (ints_oneCell _ _) (by omega) (by unfold maxLen; omega) HX6.out.size ?_; intro v7 w7 hown7 hgr7 hdj7; clear hdj7))
      obtain ⟨A7, c7, rfl⟩ := own_slice hown7
      have hI7 : Ints .u8 w7 A7 (n6 + k) (enc (zig m) ++ ts) := ⟨by rw [List.length_append, HL1.out, HB.out.1], wf_app HO6.out.wf (fun x hx => u8_bounds (HB.out.2.1 x hx)), by rw [List.map_append]; exact At.of_own hown7⟩
      have HX7 := Lib.hid (HX6.out.app HO6.out.own hgr7)
      have HI7 := Lib.hid hI7
      clear hI7 hown7 hgr7
      refine (readSig' _ _ _ (enc (zig m) ++ ts) _ HI7.out (by omega) (by rw [rdS_enc ts hr0 hr1, HL1.out])).mono ?_
      rintro e' w' ⟨rfl, rfl⟩
      have hsub : (n : Int) + (n6 : Int) - (n : Int) = (n6 : Int) := by omega
      go_wp2_with fail
      refine (awake _).mono ?_
      rintro e w1 ⟨rfl, hext⟩
      have HX := Lib.hid hext
      clear hext
      go_wp2
      go_ret
      exact ⟨rfl, (HXc.out.trans HX7.out).trans HX.out⟩
end Go.Proofs.Ytekhmfliaojabaa
