/- The walk of the statement LinkReads: for every slice of bytes it returns true. -/
import Derived.Test.YtekhmfliaojabaaReadS
import Derived.Test.YtekhmfliaojabaaWrite
namespace Go.Proofs.Ytekhmfliaojabaa
open Go.RowKit

set_option maxHeartbeats 1000000 in
theorem linkReads_walk (A : Option Addr) (n c : Nat) (xs : List Int) (w : World) (h' : Ints .u8 w A n xs ∧ n ≤ c ∧ c ≤ 9223372036854775807) :
    Calls Try.prog 3 #[.slice A n c] w fun e w' => e = .returned (.bool true) ∧ Ext w w' := by
  obtain ⟨h, hnc, hcm⟩ := h'
  have hn : n ≤ 9223372036854775807 := by omega
  have H := Lib.hid h
  clear h
  by_cases hl : 64 < n
  · go_enter Try.func3, Try.ntmps3
    go_wp2_with fail
    refine (awake _).mono ?_
    rintro e w1 ⟨rfl, hext⟩
    have HX := Lib.hid hext
    clear hext
    go_wp2
    go_ret
    exact ⟨rfl, HX.out⟩
  · obtain ⟨a1, b1, c1, hr⟩ : ∃ u s e, rd xs = (u, s, e) := ⟨_, _, _, rfl⟩
    obtain ⟨a2, b2, c2, hq⟩ : ∃ u s e, rdS xs = (u, s, e) := ⟨_, _, _, rfl⟩
    have HR := Lib.hid hr
    have HQ := Lib.hid hq
    clear hr hq
    go_enter Try.func3, Try.ntmps3
    go_wp2_with fail
    refine (readNum _ _ _ xs _ H.out (by omega)).mono ?_; rw [HR.out]; rintro e' w' ⟨rfl, rfl⟩; simp only [v3]
    go_wp2_with fail
    refine (readNumR _ _ _ xs _ H.out (by omega)).mono ?_; rw [HR.out]; rintro e' w' ⟨rfl, rfl⟩; simp only [v3]
    go_wp2_with fail
    refine (readSig _ _ _ xs _ H.out (by omega)).mono ?_; rw [HQ.out]; rintro e' w' ⟨rfl, rfl⟩; simp only [v3]
    go_wp2_with fail
    refine (readSigR _ _ _ xs _ H.out (by omega)).mono ?_; rw [HQ.out]; rintro e' w' ⟨rfl, rfl⟩; simp only [v3]
    go_wp2_with fail
    refine (awake _).mono ?_
    rintro e w1 ⟨rfl, hext⟩
    have HX := Lib.hid hext
    clear hext
    go_wp2
    go_ret
    exact ⟨rfl, HX.out⟩
end Go.Proofs.Ytekhmfliaojabaa
