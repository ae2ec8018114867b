/- The walk of the statement LinkScans: for every slice of bytes it returns true. -/
import Derived.Test.YtekhmfliaojabaaScan
import Derived.Test.YtekhmfliaojabaaSames
namespace Go.Proofs.Ytekhmfliaojabaa
open Go.RowKit

theorem scan_fs_len (xs : List Int) : (scan xs).1.length ≤ xs.length := by
  have : ∀ f (xs : List Int), (scn f xs).1.length ≤ f := by
    intro f
    induction f with
    | zero => intro xs; simp [scn]
    | succ f ih =>
      intro xs
      simp only [scn]
      split
      · simp
      · split
        · have := ih (xs.drop (12 + szN xs)); simp only [preS, List.length_append, List.length_cons, List.length_nil]; omega
        · have := ih (xs.drop 1); simp only [preS, List.length_append, List.length_nil]; omega
  exact this xs.length xs

set_option maxHeartbeats 1000000 in
theorem linkScans_walk (A : Option Addr) (n c : Nat) (xs : List Int) (w : World) (h' : Ints .u8 w A n xs ∧ n ≤ c ∧ c ≤ 9223372036854775807) :
    Calls Try.prog 12 #[.slice A n c] w fun e w' => e = .returned (.bool true) ∧ Ext w w' := by
  obtain ⟨h, hnc, hcm⟩ := h'
  have H := Lib.hid h
  clear h
  by_cases hl : 2048 < n
  · go_enter Try.func12, Try.ntmps12
    go_wp2_with fail
    refine (awake _).mono ?_
    rintro e w1 ⟨rfl, hext⟩
    have HX := Lib.hid hext
    clear hext
    go_wp2
    go_ret
    exact ⟨rfl, HX.out⟩
  · obtain ⟨fs, s, r, hr⟩ : ∃ fs s r, scan xs = (fs, s, r) := ⟨_, _, _, rfl⟩
    have hfl := scan_fs_len xs
    rw [hr, H.out.1] at hfl
    simp only at hfl
    have HR := Lib.hid hr
    clear hr
    go_enter Try.func12, Try.ntmps12
    go_wp2_with fail
    refine (scan_any _ _ _ xs _ H.out hnc hcm (by omega)).mono ?_
    rw [HR.out]
    rintro e w1 ⟨A1, n1, c1, vs1, rfl, hO1, hC1, hl1, hX1⟩
    simp only at hl1 hC1 ⊢
    have HF1 := Lib.hid (RetS.frs (r := (fs, s, r)) hO1 hC1 hl1)
    have HX1 := Lib.hid hX1
    clear hO1 hX1 hC1
    go_wp2_with fail
    refine (scanR_any _ _ _ xs _ (H.out.ext HX1.out) hnc hcm (by omega)).mono ?_
    rw [HR.out]
    rintro e w2 ⟨A2, n2, c2, vs2, rfl, hO2, hC2, hl2, hX2⟩
    simp only at hl2 hC2 ⊢
    obtain rfl : n2 = n1 := by omega
    have HF2 := Lib.hid (RetS.frs (r := (fs, s, r)) hO2 hC2 hl2)
    have HF1b := Lib.hid (Frs.ext HF1.out hX2)
    have HX2 := Lib.hid (HX1.out.trans hX2)
    have hn1 : n2 ≤ 2048 := by omega
    clear hO2 hC2 hX2 hl1 hl2
    go_wp2_with fail
    refine (sameFrames_eq A1 A2 n2 c1 c2 fs _ HF1b.out HF2.out (by omega)).mono ?_
    rintro e w3 ⟨rfl, hX3⟩
    have HX3 := Lib.hid (HX2.out.trans hX3)
    clear hX3
    go_wp2_with fail
    refine (awake _).mono ?_
    rintro e w4 ⟨rfl, hext⟩
    have HX := Lib.hid (HX3.out.trans hext)
    clear hext
    go_wp2
    go_ret
    exact ⟨rfl, HX.out⟩
end Go.Proofs.Ytekhmfliaojabaa
