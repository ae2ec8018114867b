/- The walk of the statement LinkUnpacks: for every slice of bytes it returns true. -/
import Derived.Test.YtekhmfliaojabaaUnpack
import Derived.Test.YtekhmfliaojabaaUnpackR
import Derived.Test.YtekhmfliaojabaaSame
namespace Go.Proofs.Ytekhmfliaojabaa
open Go.RowKit

set_option maxHeartbeats 1000000 in
theorem linkUnpacks_walk (A : Option Addr) (n c : Nat) (xs : List Int) (w : World) (h' : Ints .u8 w A n xs ∧ n ≤ c ∧ c ≤ 9223372036854775807) :
    Calls Try.prog 6 #[.slice A n c] w fun e w' => e = .returned (.bool true) ∧ Ext w w' := by
  obtain ⟨h, hnc, hcm⟩ := h'
  have H := Lib.hid h
  clear h
  by_cases hl : 4096 < n
  · go_enter Try.func6, Try.ntmps6
    go_wp2_with fail
    refine (awake _).mono ?_
    rintro e w1 ⟨rfl, hext⟩
    have HX := Lib.hid hext
    clear hext
    go_wp2
    go_ret
    exact ⟨rfl, HX.out⟩
  · obtain ⟨f, k, er, hr⟩ : ∃ f k er, unp xs = (f, k, er) := ⟨_, _, _, rfl⟩
    obtain ⟨fs, fq, fb⟩ := f
    have HR := Lib.hid hr
    clear hr
    go_enter Try.func6, Try.ntmps6
    go_wp2_with fail
    refine (unpack_any _ _ _ xs _ H.out hnc hcm).mono ?_
    rw [HR.out]
    rintro e w1 ⟨A1, n1, c1, rfl, hO1, hX1⟩
    have HO1 := Lib.hid hO1
    have HX1 := Lib.hid hX1
    clear hO1 hX1
    go_wp2_with fail
    have hXa : Ext w1 (w1.alloc (.cells #[.int .i64 fs, .int .i64 fq, .slice A1 n1 c1] 38)) := (Ext.refl w1).alloc _
    have hB1 := Blk.new w1 38 #[.int .i64 fs, .int .i64 fq, .slice A1 n1 c1]
    refine (unpackR_any _ _ _ xs _ (H.out.ext (HX1.out.trans hXa)) hnc hcm).mono ?_
    rw [HR.out]
    rintro e w2 ⟨A2, n2, c2, rfl, hO2, hX2⟩
    have HO1' := Lib.hid (HO1.out.ext (hXa.trans hX2))
    have HO2 := Lib.hid hO2
    have HX2 := Lib.hid ((HX1.out.trans hXa).trans hX2)
    obtain ⟨r0, r1, r2, _, _, _⟩ := (hB1.ext hX2).three
    have hlt := (hB1.ext hX2).lt
    clear hO2 hX2 hXa hB1 HO1
    go_wp2_with fail
    have hXb : Ext w2 (w2.alloc (.cells #[.int .i64 fs, .int .i64 fq, .slice A2 n2 c2] 38)) := (Ext.refl w2).alloc _
    refine (sameFrame_eq fs fq A1 A2 n1 c1 n2 c2 fb _ (HO1'.out.ints.ext hXb) (HO2.out.ints.ext hXb)).mono ?_
    rintro e w3 ⟨rfl, hX3⟩
    have HX3 := Lib.hid ((HX2.out.trans hXb).trans hX3)
    clear hX3 hXb
    go_wp2_with fail
    refine (awake _).mono ?_
    rintro e w4 ⟨rfl, hext⟩
    have HX := Lib.hid hext
    clear hext
    go_wp2
    go_ret
    exact ⟨rfl, HX3.out.trans HX.out⟩
end Go.Proofs.Ytekhmfliaojabaa
