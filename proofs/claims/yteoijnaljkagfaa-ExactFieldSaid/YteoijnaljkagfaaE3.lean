/- Walks: inside, cross and Turn of package exact (program). -/
import Derived.Test.YteoijnaljkagfaaE2
namespace Go.Proofs.Yteoijnaljkagfaa
open Go.RowKit

/-- A place is valid. -/
def okP (p : Int × Int) : Bool := decide (-268435456 ≤ p.1 ∧ p.1 ≤ 268435456 ∧ -268435456 ≤ p.2 ∧ p.2 ≤ 268435456)
def okPs (ps : List (Int × Int)) : Bool := ps.all okP
/-- The block g holds the places. -/
def Pts (w : World) (g : Nat) (ps : List (Int × Int)) : Prop := ∀ j p, ps[j]? = some p → w.cell? ⟨g, j * 2, none⟩ = some (.int .i64 p.1) ∧ w.cell? ⟨g, j * 2 + 1, none⟩ = some (.int .i64 p.2)
theorem Pts.ext {w w' : World} {g : Nat} {ps : List (Int × Int)} (h : Pts w g ps) (he : Ext w w') : Pts w' g ps := fun j p hp => ⟨he.cell (h j p hp).1, he.cell (h j p hp).2⟩

set_option maxHeartbeats 1000000 in
theorem inside_any (g l : Nat) (ps : List (Int × Int)) (w : World) (hl : ps.length = l) (hm : l ≤ 1000000) (h : Pts w g ps) :
    Calls Try.prog 72 #[.slice (some ⟨g, 0, none⟩) l l] w fun e w' => e = .returned (.bool (okPs ps)) ∧ Ext w w' := by
  have HP := Lib.hid h
  have HL := Lib.hid hl
  clear h hl
  go_enter Try.func72, Try.ntmps72
  go_wp2
  go_loopg [7] l (fun g' i wr => ∃ k : Nat, g' = l - k ∧ k ≤ l ∧ i = .int .i64 (k : Int) ∧ Hid (okPs (ps.take k) = true) ∧ Hid (Ext w wr))
  case atStart => exact ⟨0, rfl, by omega, rfl, rfl, Ext.refl _⟩
  case round =>
    obtain ⟨k, rfl, hk, rfl, hok, HX⟩ := hrel
    by_cases hkl : k < l
    · have hkI : (k : Int) < (l : Int) := by omega
      have hk0 : (0 : Int) ≤ (k : Int) := by omega
      obtain ⟨x, y, hp⟩ : ∃ x y, ps[k]? = some (x, y) := ⟨_, _, List.getElem?_eq_getElem (by rw [HL.out]; exact hkl)⟩
      obtain ⟨c1, c2⟩ := HP.out.ext HX.out k _ hp
      simp only at c1 c2
      by_cases hb : okP (x, y) = true
      · have hb' := hb
        simp only [okP, decide_eq_true_eq] at hb'
        obtain ⟨b1, b2, b3, b4⟩ := hb'
        have HOK : Hid (okPs (ps.take (k + 1)) = true) := by
          show _ = _
          rw [List.take_add_one, hp]
          have := hok.out
          simp only [okPs] at this ⊢
          simp [this, hb]
        clear hb hok hp
        go_wp2
        go_roundg (l - (k + 1))
        case rel => exact ⟨k + 1, rfl, by omega, by go_num, HOK, HX.out.alloc _⟩
        case measure => omega
      · have HF : Hid (okPs ps = false) := by
          show _ = _
          simp only [okPs, List.all_eq_false]
          exact ⟨_, List.mem_of_getElem? hp, hb⟩
        have hb' : x < -268435456 ∨ (-268435456 ≤ x ∧ 268435456 < x) ∨ (-268435456 ≤ x ∧ x ≤ 268435456 ∧ y < -268435456) ∨ (-268435456 ≤ x ∧ x ≤ 268435456 ∧ -268435456 ≤ y ∧ 268435456 < y) := by
          simp only [okP, decide_eq_true_eq] at hb; omega
        clear hb hok hp
        rcases hb' with b1 | ⟨b1, b2⟩ | ⟨b1, b2, b3⟩ | ⟨b1, b2, b3, b4⟩
        all_goals
          go_wp2
          go_ret
          exact ⟨by rw [HF.out]; rfl, HX.out.alloc _⟩
    · obtain rfl : k = l := by omega
      have HF : Hid (okPs ps = true) := by
        have := hok.out
        rw [List.take_of_length_le (by rw [HL.out]; exact Nat.le_refl _)] at this
        exact this
      clear hok
      go_wp2
      go_ret
      exact ⟨by rw [HF.out]; rfl, HX.out⟩
end Go.Proofs.Yteoijnaljkagfaa
