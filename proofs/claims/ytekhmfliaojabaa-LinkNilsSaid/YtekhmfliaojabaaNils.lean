/- Walks: what the methods of senders and receivers that are nil or zero return. -/
import Derived.Test.YtekhmfliaojabaaWrite
import Derived.Test.YtekhmfliaojabaaSame
import Derived.Test.YtekhmfliaojabaaFrame
namespace Go.Proofs.Ytekhmfliaojabaa
open Go.RowKit

/-- A pointer to no sender or receiver: nil, or to a struct whose window is 0. -/
def No (w : World) (p : Value) : Prop := p = .pointer none ∨ ∃ g, p = .pointer (some ⟨g, 0, none⟩) ∧ w.cell? ⟨g, 1, none⟩ = some (.int .i64 0)
theorem No.ext {w w' : World} {p : Value} (h : No w p) (he : Ext w w') : No w' p := by
  rcases h with h | ⟨g, h, hc⟩
  · exact .inl h
  · exact .inr ⟨g, h, he.cell hc⟩

theorem sNone (p : Value) (w : World) (h : No w p) : Calls Try.prog 74 #[p] w fun e w' => e = .returned (.bool true) ∧ w = w' := by
  rcases h with rfl | ⟨g, rfl, hc⟩
  · go_enter Try.func74, Try.ntmps74
    go_wp2
    go_ret
    exact ⟨rfl, rfl⟩
  · go_enter Try.func74, Try.ntmps74
    go_wp2
    go_ret
    exact ⟨rfl, rfl⟩
theorem rNone (p : Value) (w : World) (h : No w p) : Calls Try.prog 77 #[p] w fun e w' => e = .returned (.bool true) ∧ w = w' := by
  rcases h with rfl | ⟨g, rfl, hc⟩
  · go_enter Try.func77, Try.ntmps77
    go_wp2
    go_ret
    exact ⟨rfl, rfl⟩
  · go_enter Try.func77, Try.ntmps77
    go_wp2
    go_ret
    exact ⟨rfl, rfl⟩

theorem offer_no (p : Value) (A : Option Addr) (n c : Nat) (w : World) (h : No w p) :
    Calls Try.prog 36 #[p, .slice A n c] w fun e w' => e = .returned (.tuple #[.agg #[.int .i64 0, .int .i64 0, .slice none 0 0], .int .i64 2]) ∧ Ext w w' := by
  have H := Lib.hid h
  clear h
  go_enter Try.func36, Try.ntmps36
  go_wp2_with fail
  refine (sNone p _ (H.out.ext (by repeat first | exact Ext.refl _ | apply Ext.alloc))).mono ?_
  rintro e w1 ⟨rfl, rfl⟩
  go_wp2
  exact bodyPost_ret (v := .tuple #[.agg #[.int .i64 0, .int .i64 0, .slice none 0 0], .int .i64 2]) (by simp [results, Try.results36, go_sem]) rfl ⟨rfl, by repeat first | exact Ext.refl _ | apply Ext.alloc⟩
theorem ack_no (p : Value) (n : Int) (w : World) (h : No w p) :
    Calls Try.prog 38 #[p, .int .i64 n] w fun e w' => e = .returned (.int .i64 2) ∧ Ext w w' := by
  have H := Lib.hid h
  clear h
  go_enter Try.func38, Try.ntmps38
  go_wp2_with fail
  refine (sNone p _ (H.out.ext (by repeat first | exact Ext.refl _ | apply Ext.alloc))).mono ?_
  rintro e w1 ⟨rfl, rfl⟩
  go_wp2
  go_ret
  exact ⟨rfl, by repeat first | exact Ext.refl _ | apply Ext.alloc⟩
theorem pending_no (p : Value) (w : World) (h : No w p) :
    Calls Try.prog 41 #[p] w fun e w' => e = .returned (.slice none 0 0) ∧ Ext w w' := by
  have H := Lib.hid h
  clear h
  go_enter Try.func41, Try.ntmps41
  go_wp2_with fail
  refine (sNone p _ (H.out.ext (by repeat first | exact Ext.refl _ | apply Ext.alloc))).mono ?_
  rintro e w1 ⟨rfl, rfl⟩
  go_wp2
  go_ret
  exact ⟨rfl, by repeat first | exact Ext.refl _ | apply Ext.alloc⟩
theorem again_no (p : Value) (A : Option Addr) (n c : Nat) (w : World) (h : No w p) :
    Calls Try.prog 43 #[p, .slice A n c] w fun e w' => e = .returned (.slice none 0 0) ∧ Ext w w' := by
  have H := Lib.hid h
  clear h
  go_enter Try.func43, Try.ntmps43
  go_wp2_with fail
  refine (sNone p _ (H.out.ext (by repeat first | exact Ext.refl _ | apply Ext.alloc))).mono ?_
  rintro e w1 ⟨rfl, rfl⟩
  go_wp2
  go_ret
  exact ⟨rfl, by repeat first | exact Ext.refl _ | apply Ext.alloc⟩
theorem take_no (p : Value) (s q : Int) (A : Option Addr) (n c : Nat) (w : World) (h : No w p) :
    Calls Try.prog 46 #[p, .agg #[.int .i64 s, .int .i64 q, .slice A n c]] w fun e w' => e = .returned (.tuple #[.slice none 0 0, .int .i64 2]) ∧ Ext w w' := by
  have H := Lib.hid h
  clear h
  go_enter Try.func46, Try.ntmps46
  go_wp2_with fail
  refine (rNone p _ (H.out.ext (by repeat first | exact Ext.refl _ | apply Ext.alloc))).mono ?_
  rintro e w1 ⟨rfl, rfl⟩
  go_wp2
  go_ret2
  exact ⟨rfl, by repeat first | exact Ext.refl _ | apply Ext.alloc⟩
theorem giveup_no (p : Value) (n : Int) (w : World) (h : No w p) :
    Calls Try.prog 58 #[p, .int .i64 n] w fun e w' => e = .returned (.tuple #[.slice none 0 0, .int .i64 2]) ∧ Ext w w' := by
  have H := Lib.hid h
  clear h
  go_enter Try.func58, Try.ntmps58
  go_wp2_with fail
  refine (rNone p _ (H.out.ext (by repeat first | exact Ext.refl _ | apply Ext.alloc))).mono ?_
  rintro e w1 ⟨rfl, rfl⟩
  go_wp2
  go_ret2
  exact ⟨rfl, by repeat first | exact Ext.refl _ | apply Ext.alloc⟩
theorem next_no (p : Value) (w : World) (h : No w p) :
    Calls Try.prog 47 #[p] w fun e w' => e = .returned (.int .i64 0) ∧ Ext w w' := by
  have H := Lib.hid h
  clear h
  go_enter Try.func47, Try.ntmps47
  go_wp2_with fail
  refine (rNone p _ (H.out.ext (by repeat first | exact Ext.refl _ | apply Ext.alloc))).mono ?_
  rintro e w1 ⟨rfl, rfl⟩
  go_wp2
  go_ret
  exact ⟨rfl, by repeat first | exact Ext.refl _ | apply Ext.alloc⟩
theorem held_no (p : Value) (w : World) (h : No w p) :
    Calls Try.prog 60 #[p] w fun e w' => e = .returned (.int .i64 0) ∧ Ext w w' := by
  have H := Lib.hid h
  clear h
  go_enter Try.func60, Try.ntmps60
  go_wp2_with fail
  refine (rNone p _ (H.out.ext (by repeat first | exact Ext.refl _ | apply Ext.alloc))).mono ?_
  rintro e w1 ⟨rfl, rfl⟩
  go_wp2
  go_ret
  exact ⟨rfl, by repeat first | exact Ext.refl _ | apply Ext.alloc⟩
theorem missing_no (p : Value) (w : World) (h : No w p) :
    Calls Try.prog 63 #[p] w fun e w' => e = .returned (.slice none 0 0) ∧ Ext w w' := by
  have H := Lib.hid h
  clear h
  go_enter Try.func63, Try.ntmps63
  go_wp2_with fail
  refine (rNone p _ (H.out.ext (by repeat first | exact Ext.refl _ | apply Ext.alloc))).mono ?_
  rintro e w1 ⟨rfl, rfl⟩
  go_wp2
  go_ret
  exact ⟨rfl, by repeat first | exact Ext.refl _ | apply Ext.alloc⟩
theorem copy_no (p : Value) (w : World) (h : No w p) :
    Calls Try.prog 61 #[p] w fun e w' => e = .returned (.pointer none) ∧ Ext w w' := by
  have H := Lib.hid h
  clear h
  go_enter Try.func61, Try.ntmps61
  go_wp2_with fail
  refine (rNone p _ (H.out.ext (by repeat first | exact Ext.refl _ | apply Ext.alloc))).mono ?_
  rintro e w1 ⟨rfl, rfl⟩
  go_wp2
  go_ret
  exact ⟨rfl, by repeat first | exact Ext.refl _ | apply Ext.alloc⟩
end Go.Proofs.Ytekhmfliaojabaa
