/- Walks: own (a copy of bytes) and the reference's joined (lists of bytes behind one another). Condition: the slices read as bytes and are not too long. -/
import Derived.Test.YtekhmfliaojabaaWrite
namespace Go.Proofs.Ytekhmfliaojabaa
open Go.RowKit

set_option maxHeartbeats 400000 in
theorem own_any (A : Option Addr) (n c : Nat) (xs : List Int) (w : World) (h : Ints .u8 w A n xs) (hn : n ≤ 1000000000) :
    Calls Try.prog 27 #[.slice A n c] w (RetB w xs) := by
  have H := Lib.hid h
  clear h
  go_enter Try.func27, Try.ntmps27
  go_wp2_with (at_builtin; refine wpList_app _ elB rfl _ _ rfl w.heap.size (.slice (some ⟨w.heap.size, 0, none⟩) 0 0) 0 [] rfl (World.ownsRow_lit w #[] 0 (Nat.le_refl _) (by unfold maxLen; omega) rfl) A n c (xs.map (.int .u8)) rfl (by rw [List.length_map]; exact H.out.1.trans (by omega)) (H.out.ext ((Ext.refl w).alloc _)).2.2 (ints_oneCell _ _) (by omega) (by unfold maxLen; omega) (by simp) ?_; intro v1 w1 hown1 hgr1 _)
  go_ret
  obtain ⟨A2, c2, rfl⟩ := own_slice hown1
  refine ⟨A2, _, c2, rfl, ⟨by simpa using hown1, by have := H.out.1; omega, H.out.2.1⟩, ((Ext.refl w).alloc _).grown hgr1 ?_⟩
  intro k hk; simp [Value.ownBlock] at hk; omega

set_option maxHeartbeats 400000 in
theorem joined_any (A : Option Addr) (n c : Nat) (xss : List (List Int)) (w : World) (h : Lists .u8 w A n xss) (hn : n ≤ 1000000) (hb : xss.flatten.length ≤ 1000000000) :
    Calls Try.prog 69 #[.slice A n c] w (RetB w xss.flatten) := by
  have H := Lib.hid h
  have HB := Lib.hid hb
  clear h hb
  go_enter Try.func69, Try.ntmps69
  go_wp2
  go_loopg [3, 7] n (fun g v i wr => ∃ k m, g = n - k ∧ k ≤ n ∧ i = .int .i64 (k : Nat) ∧ wr.ownsRow w.heap.size 5 1 v m ((xss.take k).flatten.map (.int .u8)) ∧ Ext w wr ∧ (∀ x ∈ (xss.take k).flatten, (Lit.int .u8 x).wf = true))
  case atStart => exact ⟨0, 0, by omega, by omega, rfl, World.ownsRow_nil _ _ _ _, Ext.refl w, by simp⟩
  case round =>
    obtain ⟨k, m, rfl, hk, rfl, hown, hext, hwf⟩ := hrel
    have HX := Lib.hid hext
    have HW := Lib.hid hwf
    clear hext hwf
    by_cases hlt : k < n
    · obtain ⟨b, off, A', n', c', xs, rfl, hx, hc, hI, hc1, hc2⟩ := (H.out.ext HX.out).get hlt
      have HI := Lib.hid hI
      have HXS := Lib.hid hx
      clear hI hx
      have hlen : m + n' ≤ 1000000000 := by
        have h1 := flatten_take_le xss (k + 1)
        rw [flatten_take_succ HXS.out, List.length_append, HI.out.1] at h1
        have h2 := hown.1
        rw [List.length_map] at h2
        have := HB.out
        omega
      go_wp2_with (at_builtin; refine wpList_app _ elB rfl _ _ rfl w.heap.size u3 _ _ rfl hown A' n' c' (xs.map (.int .u8)) rfl (by rw [List.length_map]; exact HI.out.1.trans (by omega)) HI.out.2.2 (ints_oneCell _ _) (by omega) (by unfold maxLen; omega) HX.out.size ?_; intro v1 w1 hown1 hgr1 _)
      go_roundg (n - (k + 1))
      case rel =>
        refine ⟨k + 1, m + n', rfl, by omega, by go_num, ?_, HX.out.app hown hgr1, ?_⟩
        · rw [flatten_take_succ HXS.out, List.map_append]; exact hown1
        · rw [flatten_take_succ HXS.out]
          intro x hx
          rcases List.mem_append.1 hx with hx | hx
          · exact HW.out x hx
          · exact HI.out.2.1 x hx
      case measure => omega
    · go_wp2
      go_ret
      obtain ⟨A2, c2, rfl⟩ := own_slice hown
      have he : xss.take k = xss := List.take_of_length_le (by have := H.out.1; omega)
      rw [he] at hown
      have hw := HW.out
      rw [he] at hw
      refine ⟨A2, _, c2, rfl, ⟨hown, by have := hown.1; rw [List.length_map] at this; omega, hw⟩, HX.out⟩
end Go.Proofs.Ytekhmfliaojabaa
