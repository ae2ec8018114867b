/- Plain laws of the checksum (CRC-32): the program's way (reflected) and the reference's (not reflected) give one number; changing one byte changes it. No program in sight. Conditions: as stated. -/
import Derived.WalkKit
import Derived.Laws.BitsAllLaws
namespace Go.Proofs.Ytekhmfliaojabaa

def toI (v : BitVec 32) : Int := v.toNat
theorem toI_range (v : BitVec 32) : 0 ≤ toI v ∧ toI v ≤ 4294967295 := by
  unfold toI; have := v.isLt; omega
theorem toI_inj {a b : BitVec 32} (h : toI a = toI b) : a = b := by
  unfold toI at h; exact BitVec.eq_of_toNat_eq (by omega)

def byteV (x : Int) : BitVec 32 := BitVec.ofNat 32 x.toNat
theorem byteV_toI {x : Int} (h0 : 0 ≤ x) (h1 : x ≤ 255) : toI (byteV x) = x := by
  unfold toI byteV; rw [BitVec.toNat_ofNat, Nat.mod_eq_of_lt (by omega)]; omega

theorem toI_xor (a b : BitVec 32) : bits .xor .u32 (toI a) (toI b) = toI (a ^^^ b) := by
  unfold toI; rw [u32_xor_nat _ _ a.isLt b.isLt, BitVec.toNat_xor]
theorem toI_or (a b : BitVec 32) : bits .or .u32 (toI a) (toI b) = toI (a ||| b) := by
  unfold toI; rw [u32_or_nat _ _ a.isLt b.isLt, BitVec.toNat_or]
theorem toI_and (a b : BitVec 32) : bits .and .u32 (toI a) (toI b) = toI (a &&& b) := by
  unfold toI; rw [u32_and_nat _ _ a.isLt b.isLt, BitVec.toNat_and]
theorem toI_xor_byte (a : BitVec 32) {x : Int} (h0 : 0 ≤ x) (h1 : x ≤ 255) : bits .xor .u32 (toI a) x = toI (a ^^^ byteV x) := by
  rw [← toI_xor, byteV_toI h0 h1]
theorem toI_half (a : BitVec 32) : toI a / (2 : Int) = toI (a >>> 1) := by
  unfold toI; rw [BitVec.toNat_ushiftRight, Nat.shiftRight_eq_div_pow]; omega
theorem toI_top (a : BitVec 32) : toI a / (2147483648 : Int) = toI (a >>> 31) := by
  unfold toI; rw [BitVec.toNat_ushiftRight, Nat.shiftRight_eq_div_pow]; omega
theorem toI_twice (a : BitVec 32) : IntKind.u32.wrap (toI a * (2 : Int)) = toI (a <<< 1) := by
  unfold toI; rw [BitVec.toNat_shiftLeft, Nat.shiftLeft_eq, IntKind.wrap_u32]; omega
theorem toI_not (a : BitVec 32) : (4294967295 : Int) - toI a = toI (~~~ a) := by
  unfold toI; rw [BitVec.toNat_not]; have := a.isLt; omega

/-- One round of the program. -/
def rnd (v : BitVec 32) : BitVec 32 := if v &&& 1#32 = 1#32 then (v >>> 1) ^^^ 0xedb88320#32 else v >>> 1
def rnds : Nat → BitVec 32 → BitVec 32
  | 0, v => v
  | n + 1, v => rnds n (rnd v)
def crcByte (v : BitVec 32) (x : Int) : BitVec 32 := rnds 8 (v ^^^ byteV x)
def crcL (v : BitVec 32) (xs : List Int) : BitVec 32 := xs.foldl crcByte v
/-- The checksum. -/
def crc (xs : List Int) : Int := toI (~~~ crcL 0xffffffff#32 xs)
theorem crc_range (xs : List Int) : 0 ≤ crc xs ∧ crc xs ≤ 4294967295 := toI_range _

theorem rnds_snoc (n : Nat) (v : BitVec 32) : rnds (n + 1) v = rnd (rnds n v) := by
  induction n generalizing v with
  | zero => rfl
  | succ n ih => rw [rnds, ih]; rfl
theorem crcL_take_succ {xs : List Int} {k : Nat} {x : Int} (v : BitVec 32) (h : xs[k]? = some x) : crcL v (xs.take (k + 1)) = crcByte (crcL v (xs.take k)) x := by
  unfold crcL
  rw [List.take_add_one, h]; simp

/-- One step of the reference, for one bit. -/
def stp (v : BitVec 32) (b : Bool) : BitVec 32 := if b != v.msb then (v <<< 1) ^^^ 0x04C11DB7#32 else v <<< 1
def bitOf (x : Int) (k : Nat) : Bool := x.toNat.testBit k
def stps (v : BitVec 32) (x : Int) : Nat → BitVec 32
  | 0 => v
  | k + 1 => stp (stps v x k) (bitOf x k)
def refL (v : BitVec 32) (xs : List Int) : BitVec 32 := xs.foldl (fun v x => stps v x 8) v
theorem refL_take_succ {xs : List Int} {k : Nat} {x : Int} (v : BitVec 32) (h : xs[k]? = some x) : refL v (xs.take (k + 1)) = stps (refL v (xs.take k)) x 8 := by
  unfold refL
  rw [List.take_add_one, h]; simp

theorem and_one_iff (v : BitVec 32) : (v &&& 1#32 = 1#32) ↔ v.getLsbD 0 = true := by
  constructor
  · intro h
    have := congrArg (fun u => BitVec.getLsbD u 0) h
    simpa using this
  · intro h
    apply BitVec.eq_of_getLsbD_eq
    intro i hi
    rw [BitVec.getLsbD_and]
    by_cases h0 : i = 0
    · subst h0; simp [h]
    · simp [BitVec.getLsbD_one, h0]

theorem rnd_bit (v : BitVec 32) (i : Nat) (hi : i < 32) : (rnd v).getLsbD i = (v.getLsbD (i + 1) ^^ (v.getLsbD 0 && (0xedb88320#32).getLsbD i)) := by
  unfold rnd
  by_cases h : v.getLsbD 0 = true
  · rw [if_pos ((and_one_iff v).2 h)]
    simp [h, Nat.add_comm]
  · have h' : v.getLsbD 0 = false := by simpa using h
    rw [if_neg (fun e => h ((and_one_iff v).1 e)), h']
    simp [Nat.add_comm]

theorem stp_bit (v : BitVec 32) (b : Bool) (i : Nat) (hi : i < 32) : (stp v b).getLsbD i = ((!decide (i = 0) && v.getLsbD (i - 1)) ^^ ((b ^^ v.getLsbD 31) && (0x04C11DB7#32).getLsbD i)) := by
  unfold stp
  have hm : v.msb = v.getLsbD 31 := by simp [BitVec.msb_eq_getLsbD_last]
  have e : (v <<< 1).getLsbD i = (!decide (i = 0) && v.getLsbD (i - 1)) := by
    rw [BitVec.getLsbD_shiftLeft]
    by_cases h0 : i = 0
    · subst h0; simp
    · simp [h0, hi]
  rw [hm]
  by_cases h : (b != v.getLsbD 31) = true
  · rw [if_pos h, BitVec.getLsbD_xor, e]
    have : (b ^^ v.getLsbD 31) = true := h
    rw [this, Bool.true_and]
  · rw [if_neg h, e]
    have : (b ^^ v.getLsbD 31) = false := by simpa using h
    rw [this]; simp

/-- The polynomial backwards is the other one. -/
theorem poly_rev : ∀ i, i < 32 → (0xedb88320#32).getLsbD i = (0x04C11DB7#32).getLsbD (31 - i) := by decide

/-- 'Mir a b': b is a, backwards. -/
def Mir (a b : BitVec 32) : Prop := ∀ i, i < 32 → b.getLsbD i = a.getLsbD (31 - i)

theorem byteV_bit {x : Int} (i : Nat) (hi : i < 32) : (byteV x).getLsbD i = bitOf x i := by
  unfold byteV bitOf; rw [BitVec.getLsbD_ofNat]; simp [hi]

/-- After k of 8 steps: the program's state is the mirrored one of the reference, with the bits that are left joined to it. -/
theorem steps_mir {a v : BitVec 32} {x : Int} (hx1 : x ≤ 255) (h : Mir a v) (k : Nat) (hk : k ≤ 8) :
    ∀ i, i < 32 → (rnds k (a ^^^ byteV x)).getLsbD i = ((stps v x k).getLsbD (31 - i) ^^ bitOf x (i + k)) := by
  induction k with
  | zero =>
    intro i hi
    have := h (31 - i) (by omega)
    rw [show 31 - (31 - i) = i by omega] at this
    simp only [rnds, stps, BitVec.getLsbD_xor, byteV_bit i hi, Nat.add_zero, this]
  | succ k ih =>
    have ih := ih (by omega)
    intro i hi
    rw [rnds_snoc, rnd_bit _ i hi]
    simp only [stps]
    rw [stp_bit _ _ _ (by omega : 31 - i < 32), ih 0 (by omega), Nat.zero_add, poly_rev i hi]
    by_cases h31 : i = 31
    · subst h31
      have e1 : (rnds k (a ^^^ byteV x)).getLsbD (31 + 1) = false := BitVec.getLsbD_of_ge _ _ (by omega)
      have e2 : bitOf x (31 + (k + 1)) = false := by
        unfold bitOf
        exact Nat.testBit_lt_two_pow (Nat.lt_of_lt_of_le (by omega : x.toNat < 2 ^ 32) (Nat.pow_le_pow_right (by omega) (by omega)))
      rw [e1, e2]
      simp [Bool.xor_comm]
    · rw [ih (i + 1) (by omega)]
      have e0 : (decide (31 - i = 0)) = false := by simp; omega
      rw [e0, show 31 - (i + 1) = 31 - i - 1 by omega, show i + 1 + k = i + (k + 1) by omega]
      simp only [Bool.not_false, Bool.true_and, show 31 - 0 = 31 by omega]
      cases (stps v x k).getLsbD (31 - i - 1) <;> cases bitOf x (i + (k + 1)) <;> cases (stps v x k).getLsbD 31 <;> cases bitOf x k <;> simp

theorem byte_mir {a v : BitVec 32} {x : Int} (hx1 : x ≤ 255) (h : Mir a v) : Mir (crcByte a x) (stps v x 8) := by
  intro i hi
  have := steps_mir hx1 h 8 (by omega) (31 - i) (by omega)
  unfold crcByte
  rw [this]
  have e : bitOf x (31 - i + 8) = false := by
    unfold bitOf
    exact Nat.testBit_lt_two_pow (Nat.lt_of_lt_of_le (by omega : x.toNat < 2 ^ 8) (Nat.pow_le_pow_right (by omega) (by omega)))
  rw [e, show 31 - (31 - i) = i by omega]
  simp

theorem list_mir {xs : List Int} (hx : ∀ x ∈ xs, x ≤ 255) {a v : BitVec 32} (h : Mir a v) : Mir (crcL a xs) (refL v xs) := by
  induction xs generalizing a v with
  | nil => exact h
  | cons x xs ih => exact ih (fun y hy => hx y (List.mem_cons_of_mem _ hy)) (byte_mir (hx x (List.mem_cons_self ..)) h)

/-- Reading the rest backwards, as the reference's last loop does. -/
def back : Nat → BitVec 32 → BitVec 32 → BitVec 32 × BitVec 32
  | 0, o, r => (o, r)
  | n + 1, o, r => back n ((o <<< 1) ||| (r &&& 1#32)) (r >>> 1)
theorem back_snoc (n : Nat) (o r : BitVec 32) : back (n + 1) o r = ((back n o r).1 <<< 1 ||| ((back n o r).2 &&& 1#32), (back n o r).2 >>> 1) := by
  induction n generalizing o r with
  | zero => rfl
  | succ n ih => rw [back, ih]; rfl
theorem back_bits (n : Nat) (hn : n ≤ 32) (r : BitVec 32) : (∀ i, i < n → (back n 0#32 r).1.getLsbD i = r.getLsbD (n - 1 - i)) ∧ (∀ i, n ≤ i → (back n 0#32 r).1.getLsbD i = false) ∧ ∀ i, (back n 0#32 r).2.getLsbD i = r.getLsbD (i + n) := by
  induction n with
  | zero => simp [back]
  | succ n ih =>
    obtain ⟨h1, h2, h3⟩ := ih (by omega)
    rw [back_snoc]
    simp only
    refine ⟨fun i hi => ?_, fun i hi => ?_, fun i => ?_⟩
    · rw [BitVec.getLsbD_or, BitVec.getLsbD_shiftLeft, BitVec.getLsbD_and]
      by_cases h0 : i = 0
      · subst h0
        rw [h3 0]
        simp
      · rw [h1 (i - 1) (by omega)]
        simp [BitVec.getLsbD_one, h0, show i < 32 by omega, show n - 1 - (i - 1) = n - i by omega]
    · rw [BitVec.getLsbD_or, BitVec.getLsbD_shiftLeft, BitVec.getLsbD_and]
      by_cases h32 : i < 32
      · rw [h2 (i - 1) (by omega)]
        simp [BitVec.getLsbD_one, show i ≠ 0 by omega]
      · simp [h32, BitVec.getLsbD_of_ge _ _ (show 32 ≤ i by omega), BitVec.getLsbD_one, show i ≠ 0 by omega]
    · rw [BitVec.getLsbD_ushiftRight, h3]
      congr 1; omega

theorem crc_ref {xs : List Int} (hx : ∀ x ∈ xs, x ≤ 255) : toI (~~~ (back 32 0#32 (refL 0xffffffff#32 xs)).1) = crc xs := by
  unfold crc
  congr 2
  apply BitVec.eq_of_getLsbD_eq
  intro i hi
  rw [(back_bits 32 (by omega) _).1 i hi]
  have hm := list_mir hx (a := 0xffffffff#32) (v := 0xffffffff#32) (by unfold Mir; decide)
  have := hm (31 - i) (by omega)
  rw [show 31 - (31 - i) = i by omega] at this
  rw [← this]

/-! Changing one byte. -/
theorem rnd_inj {a b : BitVec 32} (h : rnd a = rnd b) : a = b := by
  have h0 : a.getLsbD 0 = b.getLsbD 0 := by
    have := congrArg (fun u => BitVec.getLsbD u 31) h
    simp only [rnd_bit _ 31 (by omega)] at this
    rw [BitVec.getLsbD_of_ge a 32 (by omega), BitVec.getLsbD_of_ge b 32 (by omega)] at this
    simpa using this
  apply BitVec.eq_of_getLsbD_eq
  intro i hi
  by_cases hz : i = 0
  · subst hz; exact h0
  · have := congrArg (fun u => BitVec.getLsbD u (i - 1)) h
    simp only [rnd_bit _ (i - 1) (by omega), h0, show i - 1 + 1 = i by omega] at this
    revert this
    generalize (b.getLsbD 0 && (0xedb88320#32).getLsbD (i - 1)) = q
    generalize a.getLsbD i = u
    generalize b.getLsbD i = v
    cases u <;> cases v <;> cases q <;> simp
theorem rnds_inj (n : Nat) {a b : BitVec 32} (h : rnds n a = rnds n b) : a = b := by
  induction n generalizing a b with
  | zero => exact h
  | succ n ih => exact rnd_inj (ih h)
theorem crcByte_inj {a b : BitVec 32} {x : Int} (h : crcByte a x = crcByte b x) : a = b := by
  have := rnds_inj 8 h
  simpa using congrArg (· ^^^ byteV x) this
theorem crcByte_byte {a : BitVec 32} {x y : Int} (hx0 : 0 ≤ x) (hx1 : x ≤ 255) (hy0 : 0 ≤ y) (hy1 : y ≤ 255) (h : crcByte a x = crcByte a y) : x = y := by
  have h1 := rnds_inj 8 h
  have h2 : byteV x = byteV y := by
    have := congrArg (a ^^^ ·) h1
    simpa [← BitVec.xor_assoc] using this
  rw [← byteV_toI hx0 hx1, ← byteV_toI hy0 hy1, h2]
theorem crcL_inj {a b : BitVec 32} (xs : List Int) (h : crcL a xs = crcL b xs) : a = b := by
  induction xs generalizing a b with
  | nil => exact h
  | cons x xs ih => exact crcByte_inj (ih h)
theorem crcL_append (v : BitVec 32) (xs ys : List Int) : crcL v (xs ++ ys) = crcL (crcL v xs) ys := by simp [crcL]
/-- A list in which one byte was changed has another checksum. -/
theorem crc_changed {xs zs : List Int} {x y : Int} (hx0 : 0 ≤ x) (hx1 : x ≤ 255) (hy0 : 0 ≤ y) (hy1 : y ≤ 255) (hne : x ≠ y) : crc (xs ++ x :: zs) ≠ crc (xs ++ y :: zs) := by
  intro h
  have h1 := toI_inj h
  have h2 : crcL 0xffffffff#32 (xs ++ x :: zs) = crcL 0xffffffff#32 (xs ++ y :: zs) := by simpa using congrArg (~~~ ·) h1
  rw [crcL_append, crcL_append] at h2
  have h3 := crcL_inj (a := crcByte _ x) (b := crcByte _ y) zs h2
  exact hne (crcByte_byte hx0 hx1 hy0 hy1 h3)
end Go.Proofs.Ytekhmfliaojabaa
