/- Walks: what Checksum (program and reference) returns: 'crc' of the bytes. Condition: the slice reads as bytes and is not too long. -/
import Derived.Test.YtekhmfliaojabaaChecked
import Derived.Test.YtekhmfliaojabaaBase
import Derived.Test.YtekhmfliaojabaaCrc
namespace Go.Proofs.Ytekhmfliaojabaa
open Go.RowKit

theorem toI_poly : (3988292384 : Int) = toI 0xedb88320#32 := by decide
theorem toI_poly' : (79764919 : Int) = toI 0x04C11DB7#32 := by decide
theorem toI_one : (1 : Int) = toI 1#32 := by decide
theorem toI_full : (4294967295 : Int) = toI 0xffffffff#32 := by decide
theorem rnd_one {v : BitVec 32} (h : v &&& 1#32 = 1#32) : rnd v = (v >>> 1) ^^^ 0xedb88320#32 := by simp [rnd, h]
theorem rnd_zero {v : BitVec 32} (h : ¬ v &&& 1#32 = 1#32) : rnd v = v >>> 1 := by simp [rnd, h]

theorem toI_flip (v : BitVec 32) : bits .xor .u32 IntKind.u32.max (toI v) = toI (~~~ v) := by
  have h1 : IntKind.u32.max = toI 0xffffffff#32 := by decide
  rw [h1, toI_xor]
  apply congrArg
  apply BitVec.eq_of_getLsbD_eq
  intro i hi
  rw [BitVec.getLsbD_xor, BitVec.getLsbD_not]
  have : (0xffffffff#32).getLsbD i = true := by
    have := (by decide : ∀ i, i < 32 → (0xffffffff#32).getLsbD i = true)
    exact this i hi
  rw [this]; simp [hi]

set_option maxHeartbeats 400000 in
theorem checksum_any (A : Option Addr) (n c : Nat) (xs : List Int) (w : World) (h : Ints .u8 w A n xs) (hn : n ≤ 9223372036854775806) :
    Calls Try.prog 51 #[.slice A n c] w fun e w' => e = .returned (.int .u32 (crc xs)) ∧ w = w' := by
  have H := Lib.hid h
  clear h
  go_enter Try.func51, Try.ntmps51
  go_wp2
  go_loopg [3, 8] n (fun g s i wr => ∃ (k : Nat) (v : BitVec 32), g = n - k ∧ k ≤ n ∧ i = .int .i64 k ∧ s = .int .u32 (toI v) ∧ v = crcL 0xffffffff#32 (xs.take k) ∧ w = wr)
  case atStart => exact ⟨0, 0xffffffff#32, rfl, by omega, rfl, by rw [← toI_full], rfl, rfl⟩
  case round =>
    obtain ⟨k, v, rfl, hk, rfl, rfl, hv, rfl⟩ := hrel
    have HV := Lib.hid hv
    clear hv
    obtain ⟨hv0, hv1⟩ := toI_range v
    by_cases hlt : k < n
    · obtain ⟨bl, off, x, rfl, hx, hwf, hc⟩ := H.out.get hlt
      obtain ⟨hx0, hx1⟩ := u8_bounds hwf
      have HX := Lib.hid hx
      clear hx hwf
      have hxor := toI_xor_byte v hx0 hx1
      go_wp2
      go_loopg [3, 16] 8 (fun g s i wr => ∃ (q : Nat) (u : BitVec 32), g = 8 - q ∧ q ≤ 8 ∧ i = .int .i64 q ∧ s = .int .u32 (toI u) ∧ u = rnds q (v ^^^ byteV x) ∧ w = wr)
      case atStart => exact ⟨0, v ^^^ byteV x, rfl, by omega, rfl, rfl, rfl, rfl⟩
      case round =>
        obtain ⟨q, u, rfl, hq, rfl, rfl, hu, rfl⟩ := hrel
        have HU := Lib.hid hu
        clear hu hxor
        obtain ⟨hu0, hu1⟩ := toI_range u
        have hand : bits .and .u32 (toI u) 1 = toI (u &&& 1#32) := toI_and u 1#32
        by_cases hql : q < 8
        · by_cases hb : u &&& 1#32 = 1#32
          · have hbb : (toI (u &&& 1#32) == 1) = true := by rw [hb]; decide
            have HB := Lib.hid hb
            clear hb
            have hr : Hid (bits .xor .u32 (toI u / 2) 3988292384 = toI (rnd u)) := by rw [rnd_one HB.out, ← toI_xor, ← toI_half]; exact rfl
            go_wp2
            go_roundg (8 - (q + 1))
            case rel => exact ⟨q + 1, rnd u, rfl, by omega, by go_num, by rw [hr.out], by rw [rnds_snoc, HU.out], rfl⟩
            case measure => omega
          · have hbb : (toI (u &&& 1#32) == 1) = false := by
              simp only [beq_eq_false_iff_ne, ne_eq]
              intro e
              exact hb (toI_inj (e.trans toI_one))
            have HB := Lib.hid hb
            clear hb
            have hr : Hid (toI u / 2 = toI (rnd u)) := by rw [rnd_zero HB.out, toI_half]; exact rfl
            go_wp2
            go_roundg (8 - (q + 1))
            case rel => exact ⟨q + 1, rnd u, rfl, by omega, by go_num, by rw [hr.out], by rw [rnds_snoc, HU.out], rfl⟩
            case measure => omega
        · obtain rfl : q = 8 := by omega
          go_wp2
          go_roundg (n - (k + 1))
          case rel => exact ⟨k + 1, u, rfl, by omega, by go_num, rfl, by rw [crcL_take_succ _ HX.out, ← HV.out, HU.out]; rfl, rfl⟩
          case measure => omega
    · go_wp2
      go_ret
      refine ⟨?_, rfl⟩
      have ht : xs.take k = xs := List.take_of_length_le (by have := H.out.1; omega)
      have hv := HV.out
      rw [ht] at hv
      show Ending.returned (.int .u32 (bits .xor .u32 IntKind.u32.max (toI v))) = _
      rw [toI_flip, hv]
      rfl

theorem toI_dbl (a : BitVec 32) : toI a * (2 : Int) % (4294967296 : Int) = toI (a <<< 1) := by
  rw [← toI_twice, IntKind.wrap_u32]
theorem ref_in {x : Int} (h0 : 0 ≤ x) (h1 : x ≤ 255) (q : Nat) : bits .and .u32 (x / 2 ^ q % (4294967296 : Int)) 1 = if bitOf x q then 1 else 0 := by
  obtain ⟨n, rfl⟩ := Int.eq_ofNat_of_zero_le h0
  have e : ((n : Int) / 2 ^ q % (4294967296 : Int)) = ((n / 2 ^ q : Nat) : Int) := by
    have : ((n : Int) / 2 ^ q) = ((n / 2 ^ q : Nat) : Int) := by simp
    rw [this]
    have : n / 2 ^ q ≤ n := Nat.div_le_self _ _
    generalize n / 2 ^ q = m at *
    omega
  rw [e]
  have hlt : n / 2 ^ q ≤ n := Nat.div_le_self _ _
  have := u32_and_nat (n / 2 ^ q) 1 (by omega) (by omega)
  rw [show ((1 : Nat) : Int) = 1 from rfl] at this
  rw [this, nat_mask1]
  unfold bitOf
  rw [Nat.testBit_eq_decide_div_mod_eq]
  rw [Int.toNat_natCast]
  by_cases hb : n / 2 ^ q % 2 = 1
  · simp [hb]
  · have : n / 2 ^ q % 2 = 0 := by omega
    simp [this]
theorem ref_top (u : BitVec 32) : toI u / (2147483648 : Int) = if u.msb then 1 else 0 := by
  have hlt := u.isLt
  unfold toI
  rw [BitVec.msb_eq_decide]
  by_cases h : 2 ^ (32 - 1) ≤ u.toNat
  · simp only [h, decide_true, if_true]
    omega
  · simp only [h, decide_false]
    simp
    omega
theorem stp_yes {u : BitVec 32} {x : Int} {q : Nat} (h0 : 0 ≤ x) (h1 : x ≤ 255) (h : (bits .and .u32 (x / 2 ^ q % (4294967296 : Int)) 1 != toI u / (2147483648 : Int)) = true) :
    bits .xor .u32 (toI u * (2 : Int) % (4294967296 : Int)) 79764919 = toI (stp u (bitOf x q)) := by
  rw [ref_in h0 h1, ref_top] at h
  have hb : (bitOf x q != u.msb) = true := by cases h3 : bitOf x q <;> cases h4 : u.msb <;> simp [h3, h4] at h ⊢
  unfold stp
  rw [if_pos hb, toI_dbl, ← toI_xor]; rfl
theorem stp_no {u : BitVec 32} {x : Int} {q : Nat} (h0 : 0 ≤ x) (h1 : x ≤ 255) (h : (bits .and .u32 (x / 2 ^ q % (4294967296 : Int)) 1 != toI u / (2147483648 : Int)) = false) :
    toI u * (2 : Int) % (4294967296 : Int) = toI (stp u (bitOf x q)) := by
  rw [ref_in h0 h1, ref_top] at h
  have hb : ¬ (bitOf x q != u.msb) = true := by cases h3 : bitOf x q <;> cases h4 : u.msb <;> simp [h3, h4] at h ⊢
  unfold stp
  rw [if_neg hb, toI_dbl]
theorem back_or (u r : BitVec 32) : bits .or .u32 (toI u * (2 : Int) % (4294967296 : Int)) (bits .and .u32 (toI r) 1) = toI ((u <<< 1) ||| (r &&& 1#32)) := by
  rw [toI_dbl, ← toI_or, ← toI_and]; rfl
theorem val_u32 {a b : Int} (h : a = b) : Value.int .u32 a = .int .u32 b := by rw [h]

set_option maxHeartbeats 1000000 in
theorem checksumR_any (A : Option Addr) (n c : Nat) (xs : List Int) (w : World) (h : Ints .u8 w A n xs) (hn : n ≤ 9223372036854775806) :
    Calls Try.prog 52 #[.slice A n c] w fun e w' => e = .returned (.int .u32 (crc xs)) ∧ w = w' := by
  have H := Lib.hid h
  clear h
  go_enter Try.func52, Try.ntmps52
  go_wp2
  go_loopg [3, 12] n (fun g s i wr => ∃ (k : Nat) (v : BitVec 32), g = n - k ∧ k ≤ n ∧ i = .int .i64 k ∧ s = .int .u32 (toI v) ∧ v = refL 0xffffffff#32 (xs.take k) ∧ w = wr)
  case atStart => exact ⟨0, 0xffffffff#32, rfl, by omega, rfl, by rw [← toI_full], rfl, rfl⟩
  case round =>
    obtain ⟨k, v, rfl, hk, rfl, rfl, hv, rfl⟩ := hrel
    have HV := Lib.hid hv
    clear hv
    obtain ⟨hv0, hv1⟩ := toI_range v
    by_cases hlt : k < n
    · obtain ⟨bl, off, x, rfl, hx, hwf, hc⟩ := H.out.get hlt
      obtain ⟨hx0, hx1⟩ := u8_bounds hwf
      have HX := Lib.hid hx
      clear hx hwf
      go_wp2
      go_loopg [3, 5] 8 (fun g s i wr => ∃ (q : Nat) (u : BitVec 32), g = 8 - q ∧ q ≤ 8 ∧ i = .int .i64 q ∧ s = .int .u32 (toI u) ∧ u = stps v x q ∧ w = wr)
      case atStart => exact ⟨0, v, rfl, by omega, rfl, rfl, rfl, rfl⟩
      case round =>
        obtain ⟨q, u, rfl, hq, rfl, rfl, hu, rfl⟩ := hrel
        have HU := Lib.hid hu
        clear hu
        obtain ⟨hu0, hu1⟩ := toI_range u
        by_cases hql : q < 8
        · go_wp2
          · go_roundg (8 - (q + 1))
            case rel => exact ⟨q + 1, stp u (bitOf x q), rfl, by omega, by go_num, val_u32 (stp_yes hx0 hx1 (by assumption)), by rw [HU.out]; rfl, rfl⟩
            case measure => omega
          · go_roundg (8 - (q + 1))
            case rel => exact ⟨q + 1, stp u (bitOf x q), rfl, by omega, by go_num, val_u32 (stp_no hx0 hx1 (by assumption)), by rw [HU.out]; rfl, rfl⟩
            case measure => omega
        · obtain rfl : q = 8 := by omega
          go_wp2
          go_roundg (n - (k + 1))
          case rel => exact ⟨k + 1, u, rfl, by omega, by go_num, rfl, by rw [refL_take_succ _ HX.out, ← HV.out, HU.out], rfl⟩
          case measure => omega
    · go_wp2
      go_loopg [3, 8, 9] 32 (fun g s o i wr => ∃ (q : Nat) (u r : BitVec 32), g = 32 - q ∧ q ≤ 32 ∧ i = .int .i64 q ∧ s = .int .u32 (toI r) ∧ o = .int .u32 (toI u) ∧ (u, r) = back q 0#32 v ∧ w = wr)
      case atStart => exact ⟨0, 0#32, v, rfl, by omega, rfl, rfl, val_u32 (by decide), rfl, rfl⟩
      case round =>
        obtain ⟨q, u, r, rfl, hq, rfl, rfl, rfl, hu, rfl⟩ := hrel
        have HU := Lib.hid hu
        clear hu
        obtain ⟨hu0, hu1⟩ := toI_range u
        obtain ⟨hr0, hr1⟩ := toI_range r
        by_cases hql : q < 32
        · go_wp2
          go_roundg (32 - (q + 1))
          case rel => exact ⟨q + 1, _, _, rfl, by omega, by go_num, val_u32 (toI_half r), val_u32 (back_or u r), by rw [back_snoc, ← HU.out], rfl⟩
          case measure => omega
        · obtain rfl : q = 32 := by omega
          go_wp2
          go_ret
          refine ⟨?_, rfl⟩
          have ht : xs.take k = xs := List.take_of_length_le (by have := H.out.1; omega)
          have hv := HV.out
          rw [ht] at hv
          show Ending.returned (.int .u32 (bits .xor .u32 IntKind.u32.max (toI u))) = _
          have hu := congrArg Prod.fst HU.out
          simp only at hu
          rw [toI_flip, hu, hv, crc_ref (fun x hx => (u8_bounds (H.out.2.1 x hx)).2)]
end Go.Proofs.Ytekhmfliaojabaa
