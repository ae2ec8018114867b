/- Walks: bits.Len32, bits.LeadingZeros32. -/
import Derived.Test.YteoijnaljkagfaaN5
import Derived.Lib.Strings
import Derived.Lib.Slices
import Derived.Lib.Small
import Derived.Lib.Walk
import Derived.Lib.BitFns
namespace Go.Proofs.Yteoijnaljkagfaa
open Go.RowKit

set_option maxHeartbeats 4000000 in
set_option maxRecDepth 100000 in
theorem len32_any (x : Int) (w : World) (h0 : 0 ≤ x) (h1 : x ≤ 4294967295) :
    Calls Try.prog 142 #[.int .u32 x] w fun e w' => e = .returned (.int .i64 (Lib.bitLen x.toNat)) ∧ w = w' := by
  rcases (by omega : x ≤ 255 ∨ (256 ≤ x ∧ x < 65536) ∨ (65536 ≤ x ∧ x / 65536 ≤ 255) ∨ (65536 ≤ x ∧ 256 ≤ x / 65536)) with hx | ⟨hx, hy⟩ | ⟨hx, hy⟩ | ⟨hx, hy⟩
  · have hi1 : x ≤ 255 := hx
    have hl8 := Lib.len8_of (x) (by omega) (by omega)
    have hle := Lib.bitLen_le8' (x) (by omega) (by omega)
    have hsp : Hid (((0 : Nat) : Int) + Lib.len8 (x) = (Lib.bitLen x.toNat : Int)) := by
      show _ = _
      rw [hl8]
      have e : (x).toNat = x.toNat / 1 := by omega
      rw [e]
      rw [Nat.div_one]; omega
    have hn0 : 0 ≤ Lib.len8 (x) := by rw [hl8]; omega
    have hn1 : Lib.len8 (x) ≤ 8 := by rw [hl8]; omega
    clear hl8 hle
    go_enter Try.func142, Try.ntmps142
    go_wp2
    go_ret
    refine ⟨congrArg Ending.returned (congrArg (Value.int IntKind.i64) ?_), rfl⟩
    have := hsp.out
    omega
  · have hi0 : 0 ≤ x / 256 := by omega
    have hi1 : x / 256 ≤ 255 := by omega
    have hl8 := Lib.len8_of (x / 256) (by omega) (by omega)
    have hle := Lib.bitLen_le8' (x / 256) (by omega) (by omega)
    have hsp : Hid (((8 : Nat) : Int) + Lib.len8 (x / 256) = (Lib.bitLen x.toNat : Int)) := by
      show _ = _
      rw [hl8]
      have e : (x / 256).toNat = x.toNat / 256 := by omega
      rw [e]
      have := Lib.bitLen_shift8 x.toNat (by omega) (by omega); omega
    have hn0 : 0 ≤ Lib.len8 (x / 256) := by rw [hl8]; omega
    have hn1 : Lib.len8 (x / 256) ≤ 8 := by rw [hl8]; omega
    clear hl8 hle
    go_enter Try.func142, Try.ntmps142
    go_wp2
    go_ret
    refine ⟨congrArg Ending.returned (congrArg (Value.int IntKind.i64) ?_), rfl⟩
    have := hsp.out
    omega
  · have hi0 : 0 ≤ x / 65536 := by omega
    have hi1 : x / 65536 ≤ 255 := by omega
    have hl8 := Lib.len8_of (x / 65536) (by omega) (by omega)
    have hle := Lib.bitLen_le8' (x / 65536) (by omega) (by omega)
    have hsp : Hid (((16 : Nat) : Int) + Lib.len8 (x / 65536) = (Lib.bitLen x.toNat : Int)) := by
      show _ = _
      rw [hl8]
      have e : (x / 65536).toNat = x.toNat / 65536 := by omega
      rw [e]
      have := Lib.bitLen_shift16 x.toNat (by omega) (by omega); omega
    have hn0 : 0 ≤ Lib.len8 (x / 65536) := by rw [hl8]; omega
    have hn1 : Lib.len8 (x / 65536) ≤ 8 := by rw [hl8]; omega
    clear hl8 hle
    go_enter Try.func142, Try.ntmps142
    go_wp2
    go_ret
    refine ⟨congrArg Ending.returned (congrArg (Value.int IntKind.i64) ?_), rfl⟩
    have := hsp.out
    omega
  · have hi0 : 0 ≤ x / 65536 / 256 := by omega
    have hi1 : x / 65536 / 256 ≤ 255 := by omega
    have hl8 := Lib.len8_of (x / 65536 / 256) (by omega) (by omega)
    have hle := Lib.bitLen_le8' (x / 65536 / 256) (by omega) (by omega)
    have hsp : Hid (((24 : Nat) : Int) + Lib.len8 (x / 65536 / 256) = (Lib.bitLen x.toNat : Int)) := by
      show _ = _
      rw [hl8]
      have e : (x / 65536 / 256).toNat = x.toNat / 16777216 := by omega
      rw [e]
      have := Lib.bitLen_shift24 x.toNat (by omega) (by omega); omega
    have hn0 : 0 ≤ Lib.len8 (x / 65536 / 256) := by rw [hl8]; omega
    have hn1 : Lib.len8 (x / 65536 / 256) ≤ 8 := by rw [hl8]; omega
    clear hl8 hle
    go_enter Try.func142, Try.ntmps142
    go_wp2
    go_ret
    refine ⟨congrArg Ending.returned (congrArg (Value.int IntKind.i64) ?_), rfl⟩
    have := hsp.out
    omega

theorem bitLen_spec : ∀ (k x : Nat), x < 2 ^ k → k ≤ 64 → 0 < x → 1 ≤ Lib.bitLen x ∧ 2 ^ (Lib.bitLen x - 1) ≤ x ∧ x < 2 ^ Lib.bitLen x := by
  intro k
  induction k with
  | zero => intro x h _ h0; simp at h; omega
  | succ k ih =>
    intro x h hk h0
    have h64 : x < 2 ^ 64 := Nat.lt_of_lt_of_le h (Nat.pow_le_pow_right (by omega) hk)
    have hh := Lib.bitLen_half x (by omega) h64
    rcases Nat.eq_zero_or_pos (x / 2) with h2 | h2
    · have : x = 1 := by omega
      subst this
      have e : Lib.bitLen 1 = 1 := by decide
      rw [e]; decide
    · have hi := ih (x / 2) (by rw [Nat.pow_succ] at h; omega) (by omega) h2
      rw [hh]
      generalize Lib.bitLen (x / 2) = b at *
      obtain ⟨c, rfl⟩ : ∃ c, b = c + 1 := ⟨b - 1, by omega⟩
      simp only [Nat.add_sub_cancel] at hi
      rw [show 1 + (c + 1) - 1 = c + 1 by omega, show 1 + (c + 1) = c + 2 by omega, Nat.pow_succ, Nat.pow_succ]
      rw [Nat.pow_succ] at hi
      omega

/-- What LeadingZeros32 returns for a word that is not 0. -/
theorem lead_any (x : Int) (h0 : 0 < x) (h1 : x ≤ 4294967295) :
    ∃ s : Nat, s ≤ 31 ∧ 2147483648 ≤ x * 2 ^ s ∧ x * 2 ^ s < 4294967296 ∧ ∀ w : World, Calls Try.prog 138 #[.int .u32 x] w fun e w' => e = .returned (.int .i64 s) ∧ w = w' := by
  have hb := bitLen_spec 32 x.toNat (by omega) (by omega) (by omega)
  have hl := Lib.bitLen_le x.toNat 32 (by omega) (by omega)
  have hcall := fun w => len32_any x w (by omega) h1
  obtain ⟨b, hbe⟩ : ∃ b, Lib.bitLen x.toNat = b := ⟨_, rfl⟩
  rw [hbe] at hb hl
  simp only [hbe] at hcall
  have e1 : (2 : Nat) ^ (b - 1) * 2 ^ (32 - b) = 2 ^ 31 := by rw [← Nat.pow_add]; congr 1; omega
  have e2 : (2 : Nat) ^ b * 2 ^ (32 - b) = 2 ^ 32 := by rw [← Nat.pow_add]; congr 1; omega
  have hp : 0 < 2 ^ (32 - b) := Nat.pow_pos (by omega)
  have g1 := Nat.mul_le_mul_right (2 ^ (32 - b)) hb.2.1
  have g2 := Nat.mul_lt_mul_of_pos_right hb.2.2 hp
  rw [e1] at g1
  rw [e2] at g2
  have e3 : ((x.toNat * 2 ^ (32 - b) : Nat) : Int) = x * 2 ^ (32 - b) := by rw [Int.natCast_mul, Int.toNat_of_nonneg (by omega)]; simp
  refine ⟨32 - b, by omega, by rw [← e3]; omega, by rw [← e3]; omega, ?_⟩
  intro w
  have HC := Lib.hid (hcall w)
  clear hcall hbe hb e1 e2 hp g1 g2 e3
  go_enter Try.func138, Try.ntmps138
  go_wp2_with fail
  refine HC.out.mono ?_
  rintro e w' ⟨rfl, rfl⟩
  go_wp2
  go_ret
  refine ⟨congrArg Ending.returned (congrArg (Value.int IntKind.i64) ?_), rfl⟩
  omega
end Go.Proofs.Yteoijnaljkagfaa
