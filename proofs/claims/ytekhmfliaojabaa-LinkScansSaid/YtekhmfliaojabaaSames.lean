/- Walks: sameFrames of two lists of frames that read alike returns true. -/
import Derived.Test.YtekhmfliaojabaaSame
import Derived.Test.YtekhmfliaojabaaScanF
import Derived.Test.YtekhmfliaojabaaMono
namespace Go.Proofs.Ytekhmfliaojabaa
open Go.RowKit

set_option maxRecDepth 100000 in
set_option maxHeartbeats 1000000 in
theorem sameFrames_eq (A B : Option Addr) (n c d : Nat) (fs : List Fr) (w : World) (hA : Frs w A n fs) (hB : Frs w B n fs) (hn : n ≤ 1000000) :
    Calls Try.prog 40 #[.slice A n c, .slice B n d] w fun e w' => e = .returned (.bool true) ∧ Ext w w' := by
  have HA := Lib.hid hA
  have HB := Lib.hid hB
  clear hA hB
  have hnn : ((n : Int) != (n : Int)) = false := by simp
  go_enter Try.func40, Try.ntmps40
  go_wp2
  go_loopg [13] n (fun g i wr => ∃ k : Nat, g = n - k ∧ k ≤ n ∧ i = .int .i64 k ∧ Ext w wr)
  case atStart => exact ⟨0, rfl, by omega, rfl, Ext.refl w⟩
  case round =>
    obtain ⟨k, rfl, hk, rfl, hX⟩ := hrel
    have HX := Lib.hid hX
    clear hX
    by_cases hlt : k < n
    · obtain ⟨b, o, f, A1, n1, c1, rfl, hf, a0, a1, a2, hI1, hc1, hm1⟩ := (HA.out.ext HX.out).get hlt
      obtain ⟨b', o', f', A2, n2, c2, rfl, hf', b0, b1, b2, hI2, hc2, hm2⟩ := (HB.out.ext HX.out).get hlt
      obtain rfl : f' = f := by rw [hf] at hf'; exact (Option.some.inj hf').symm
      obtain ⟨fs1, fq, fb⟩ := f'
      simp only at a0 a1 a2 b0 b1 b2 hI1 hI2
      have HI1 := Lib.hid hI1
      have HI2 := Lib.hid hI2
      have hk0 : (0 : Int) ≤ (k : Int) := by omega
      have hk1 : (k : Int) < (n : Int) := by omega
      clear hf hf' hI1 hI2
      have HS : Hid (∀ W, Ext wr W → Calls Try.prog 33 #[.agg #[.int .i64 fs1, .int .i64 fq, .slice A1 n1 c1], .agg #[.int .i64 fs1, .int .i64 fq, .slice A2 n2 c2]] W fun e w' => e = .returned (.bool true) ∧ Ext wr w') := fun W hW =>
        (sameFrame_eq fs1 fq A1 A2 n1 c1 n2 c2 fb W (HI1.out.ext hW) (HI2.out.ext hW)).mono fun e w' ⟨he, hx⟩ => ⟨he, hW.trans hx⟩
      go_wp2_with fail
      go_region_held3 (fun w' => w'.cell? ⟨b, o + k * 3, none⟩ = some (.int .i64 fs1) ∧ w'.cell? ⟨b, o + k * 3 + 1, none⟩ = some (.int .i64 fq) ∧ w'.cell? ⟨b, o + k * 3 + 2, none⟩ = some (.slice A1 n1 c1) ∧ w'.cell? ⟨b', o' + k * 3, none⟩ = some (.int .i64 fs1) ∧ w'.cell? ⟨b', o' + k * 3 + 1, none⟩ = some (.int .i64 fq) ∧ w'.cell? ⟨b', o' + k * 3 + 2, none⟩ = some (.slice A2 n2 c2)) (first | go_keep | exact ⟨hE6.cell a0, hE6.cell a1, hE6.cell a2, hE6.cell b0, hE6.cell b1, hE6.cell b2⟩) (first | (go_at_call 33; refine (HS.out _ ((Ext.refl _).drew)).mono ?_; rintro e w6 ⟨rfl, hE6⟩))
      all_goals
        have HE6 := Lib.hid hE6
        clear hE6
        go_wp2
        go_roundg (n - (k + 1))
        case rel => exact ⟨k + 1, rfl, by omega, by go_num, HX.out.trans HE6.out⟩
        case measure => omega
    · go_wp2
      go_ret
      exact ⟨rfl, HX.out⟩
end Go.Proofs.Ytekhmfliaojabaa
