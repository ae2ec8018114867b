/- Walks: anyLarge of one number, floor, sign, cross of package exact (program). -/
import Derived.Test.YteoijnaljkagfaaT4
namespace Go.Proofs.Yteoijnaljkagfaa
open Go.RowKit

theorem large_is (b : Bool) (v : Value) (neg : Bool) (xs ys : List Int) (w : World) (h : RatV w v neg xs ys) (hb : b = true ↔ ¬ SmallR xs ys) :
    Calls Try.prog 116 #[v] w fun e w' => e = .returned (.bool b) ∧ Ext w w' := by
  cases b
  · have hs : SmallR xs ys := Classical.byContradiction fun h => by simpa using hb.2 h
    exact large_no v neg xs ys w h hs.1 hs.2
  · exact large_yes v neg xs ys w h (hb.1 rfl)

set_option maxHeartbeats 1000000 in
theorem anyLarge_one (b : Bool) (g : Nat) (t : TypeId) (neg : Bool) (A B : Option Addr) (l c m k : Nat) (xs ys : List Int) (w : World) (hB : Blk w g t #[.bool neg, .slice A l c, .slice B m k]) (h : RatV w (.agg #[.bool neg, .slice A l c, .slice B m k]) neg xs ys) (hb : b = true ↔ ¬ SmallR xs ys) :
    Calls Try.prog 83 #[.slice (some ⟨g, 0, none⟩) 1 1] w fun e w' => e = .returned (.bool b) ∧ Ext w w' := by
  have HB := Lib.hid hb
  have HR := Lib.hid h
  obtain ⟨z0, z1, z2, _, _, _⟩ := hB.three
  clear hb h hB
  go_enter Try.func83, Try.ntmps83
  go_wp2
  go_loopg [7] 1 (fun g' i wr => ∃ j : Nat, j = g' ∧ j ≤ 1 ∧ i = .int .i64 (1 - (j : Int)) ∧ Hid (j = 0 → b = false) ∧ Hid (Ext w wr))
  case atStart => exact ⟨1, rfl, by omega, rfl, fun h => by omega, Ext.refl _⟩
  case round =>
    obtain ⟨j, rfl, hj, rfl, hbf, HX⟩ := hrel
    rcases Nat.eq_zero_or_pos j with h0 | h0
    · subst h0
      have HBF := Lib.hid (hbf.out rfl)
      rw [show ((1 : Int) - ((0 : Nat) : Int)) = 1 by omega]
      go_wp2
      go_ret
      exact ⟨by rw [HBF.out]; rfl, HX.out⟩
    · obtain rfl : j = 1 := by omega
      rw [show ((1 : Int) - ((1 : Nat) : Int)) = 0 by omega]
      have y0 := HX.out.cell z0
      have y1 := HX.out.cell z1
      have y2 := HX.out.cell z2
      go_wp2_with fail
      refine (large_is b _ neg xs ys _ (HR.out.ext (HX.out.alloc _)) HB.out).mono ?_
      rintro e w2 ⟨rfl, hX2⟩
      have HX3 := Lib.hid (Ext.trans (HX.out.alloc _) hX2)
      clear hX2
      cases b
      · go_wp2
        go_roundg 0
        case rel => exact ⟨0, rfl, by omega, rfl, by simp [Hid], HX3⟩
        case measure => omega
      · go_wp2
        go_ret
        exact ⟨rfl, HX3.out⟩
end Go.Proofs.Yteoijnaljkagfaa
