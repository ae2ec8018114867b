/- Walks: what ReadSigned (program and reference) returns. Condition: the slice reads as bytes. -/
import Derived.Test.YtekhmfliaojabaaRead
namespace Go.Proofs.Ytekhmfliaojabaa
open Go.RowKit

theorem rdS_bad {xs : List Int} (h : (rd xs).2.2 ≠ 0) : rdS xs = (0, 0, (rd xs).2.2) := by simp [rdS, h]
theorem rdS_odd {xs : List Int} {u s : Int} (h : rd xs = (u, s, 0)) (h1 : u % 2 = 1) : rdS xs = (-(u / 2) - 1, s, 0) := by simp [rdS, h, h1]
theorem rdS_even {xs : List Int} {u s : Int} (h : rd xs = (u, s, 0)) (h1 : u % 2 = 0) : rdS xs = (u / 2, s, 0) := by simp [rdS, h, h1]

set_option maxHeartbeats 400000 in
theorem readSig (A : Option Addr) (n c : Nat) (xs : List Int) (w : World) (h : Ints .u8 w A n xs) (hn : n ≤ 9223372036854775807) :
    Calls Try.prog 21 #[.slice A n c] w fun e w' => e = .returned (v3 (rdS xs)) ∧ w = w' := by
  have H := Lib.hid h
  clear h
  obtain ⟨h1, h2, h3, h4, h5, h6⟩ := rd_range xs
  obtain ⟨u, s, e, hr⟩ : ∃ u s e, rd xs = (u, s, e) := ⟨_, _, _, rfl⟩
  rw [hr] at h1 h2 h3 h4 h5 h6
  have HR := Lib.hid hr
  clear hr
  simp only at h1 h2 h3 h4 h5 h6
  by_cases he : e = 0
  · subst he
    have hp : u % 2 = 0 ∨ u % 2 = 1 := by omega
    rcases hp with hp | hp
    · have HP := Lib.hid hp
      have hb : (u % 2 == 1) = false := by rw [hp]; rfl
      clear hp
      go_enter Try.func21, Try.ntmps21
      go_wp2_with (go_at_call 19; refine (readNum _ _ _ xs _ H.out (by omega)).mono ?_; rw [HR.out]; rintro e' w' ⟨rfl, rfl⟩; simp only [v3])
      go_ret3
      exact ⟨ret_v3 (rdS_even HR.out HP.out), rfl⟩
    · have HP := Lib.hid hp
      have hb : (u % 2 == 1) = true := by rw [hp]; rfl
      clear hp
      go_enter Try.func21, Try.ntmps21
      go_wp2_with (go_at_call 19; refine (readNum _ _ _ xs _ H.out (by omega)).mono ?_; rw [HR.out]; rintro e' w' ⟨rfl, rfl⟩; simp only [v3])
      go_ret3
      exact ⟨ret_v3 (rdS_odd HR.out HP.out), rfl⟩
  · have hb : (e != 0) = true := by simpa using he
    go_enter Try.func21, Try.ntmps21
    go_wp2_with (go_at_call 19; refine (readNum _ _ _ xs _ H.out (by omega)).mono ?_; rw [HR.out]; rintro e' w' ⟨rfl, rfl⟩; simp only [v3])
    go_ret3
    refine ⟨ret_v3 ?_, rfl⟩
    rw [rdS_bad (by rw [HR.out]; exact he), HR.out]

set_option maxHeartbeats 400000 in
theorem readSigR (A : Option Addr) (n c : Nat) (xs : List Int) (w : World) (h : Ints .u8 w A n xs) (hn : n ≤ 9223372036854775807) :
    Calls Try.prog 22 #[.slice A n c] w fun e w' => e = .returned (v3 (rdS xs)) ∧ w = w' := by
  have H := Lib.hid h
  clear h
  obtain ⟨h1, h2, h3, h4, h5, h6⟩ := rd_range xs
  obtain ⟨u, s, e, hr⟩ : ∃ u s e, rd xs = (u, s, e) := ⟨_, _, _, rfl⟩
  rw [hr] at h1 h2 h3 h4 h5 h6
  have HR := Lib.hid hr
  clear hr
  simp only at h1 h2 h3 h4 h5 h6
  by_cases he : e = 0
  · subst he
    have hp : u % 2 = 0 ∨ u % 2 = 1 := by omega
    rcases hp with hp | hp
    · have HP := Lib.hid hp
      have hb : (u % 2 == 0) = true := by rw [hp]; rfl
      clear hp
      go_enter Try.func22, Try.ntmps22
      go_wp2_with (go_at_call 20; refine (readNumR _ _ _ xs _ H.out (by omega)).mono ?_; rw [HR.out]; rintro e' w' ⟨rfl, rfl⟩; simp only [v3])
      go_ret3
      exact ⟨ret_v3 (rdS_even HR.out HP.out), rfl⟩
    · have HP := Lib.hid hp
      have hb : (u % 2 == 0) = false := by rw [hp]; rfl
      clear hp
      go_enter Try.func22, Try.ntmps22
      go_wp2_with (go_at_call 20; refine (readNumR _ _ _ xs _ H.out (by omega)).mono ?_; rw [HR.out]; rintro e' w' ⟨rfl, rfl⟩; simp only [v3])
      go_ret3
      refine ⟨ret_v3 ?_, rfl⟩
      rw [rdS_odd HR.out HP.out]
      have := HP.out
      simp only [Prod.mk.injEq, and_true]
      omega
  · have hb : (e != 0) = true := by simpa using he
    go_enter Try.func22, Try.ntmps22
    go_wp2_with (go_at_call 20; refine (readNumR _ _ _ xs _ H.out (by omega)).mono ?_; rw [HR.out]; rintro e' w' ⟨rfl, rfl⟩; simp only [v3])
    go_ret3
    refine ⟨ret_v3 ?_, rfl⟩
    rw [rdS_bad (by rw [HR.out]; exact he), HR.out]

theorem readNum' (A : Option Addr) (n c : Nat) (xs : List Int) (w : World) (h : Ints .u8 w A n xs) (hn : n ≤ 9223372036854775807) {a b r : Int} (hr : rd xs = (a, b, r)) :
    Calls Try.prog 19 #[.slice A n c] w fun e w' => e = .returned (.tuple #[.int .i64 a, .int .i64 b, .int .i64 r]) ∧ w = w' := by
  have := readNum A n c xs w h hn
  rw [hr] at this
  exact this
theorem readSig' (A : Option Addr) (n c : Nat) (xs : List Int) (w : World) (h : Ints .u8 w A n xs) (hn : n ≤ 9223372036854775807) {a b r : Int} (hr : rdS xs = (a, b, r)) :
    Calls Try.prog 21 #[.slice A n c] w fun e w' => e = .returned (.tuple #[.int .i64 a, .int .i64 b, .int .i64 r]) ∧ w = w' := by
  have := readSig A n c xs w h hn
  rw [hr] at this
  exact this
end Go.Proofs.Ytekhmfliaojabaa
