/- Plain laws of the encoded numbers of the link: no program in sight. 'valN' is the number that groups of seven bits denote, 'rd' what reading a number returns, 'enc' its encoding. Conditions: as stated in each lemma. -/
import Derived.WalkKit
import Derived.Laws.BitsAllLaws
namespace Go.Proofs.Ytekhmfliaojabaa

def valN : List Int → Int
  | [] => 0
  | x :: xs => x % 128 + 128 * valN xs

theorem valN_nonneg (xs : List Int) : 0 ≤ valN xs := by
  induction xs with
  | nil => simp [valN]
  | cons x xs ih => simp only [valN]; omega

theorem valN_lt (xs : List Int) : valN xs < 128 ^ xs.length := by
  induction xs with
  | nil => simp [valN]
  | cons x xs ih => simp only [valN, List.length_cons, Int.pow_succ]; omega

theorem valN_snoc (xs : List Int) (x : Int) : valN (xs ++ [x]) = valN xs + x % 128 * 128 ^ xs.length := by
  induction xs with
  | nil => simp [valN]
  | cons y ys ih => simp only [valN, List.cons_append, List.length_cons, Int.pow_succ, ih]; grind

theorem pow128 (k : Nat) : (128 : Int) ^ k = 2 ^ (7 * k) := by
  rw [Int.pow_mul]; rfl

theorem take_snoc' {xs : List Int} {k : Nat} {x : Int} (h : xs[k]? = some x) : xs.take (k + 1) = xs.take k ++ [x] := by
  rw [List.take_add_one, h]; rfl

theorem pow128_le (k : Nat) (h : k ≤ 9) : (128 : Int) ^ k ≤ 9223372036854775808 := by
  have : k = 0 ∨ k = 1 ∨ k = 2 ∨ k = 3 ∨ k = 4 ∨ k = 5 ∨ k = 6 ∨ k = 7 ∨ k = 8 ∨ k = 9 := by omega
  rcases this with rfl | rfl | rfl | rfl | rfl | rfl | rfl | rfl | rfl | rfl <;> decide

theorem length_take_some {xs : List Int} {k : Nat} {x : Int} (h : xs[k]? = some x) : (xs.take k).length = k := by
  have := (List.getElem?_eq_some_iff.1 h).1
  rw [List.length_take]; omega

theorem or_core (i m y : Nat) (hm : m < 2 ^ i) (hlt : m + y * 2 ^ i < 18446744073709551616) :
    bits .or .u64 (m : Int) (IntKind.u64.wrap ((y : Int) * 2 ^ i)) = (m : Int) + (y : Int) * 2 ^ i := by
  have hyp : ((y : Int) * 2 ^ i) = ((y * 2 ^ i : Nat) : Int) := by simp
  rw [hyp]
  have hw : IntKind.u64.wrap ((y * 2 ^ i : Nat) : Int) = ((y * 2 ^ i : Nat) : Int) := IntWalk.u64_in _ (by omega)
  rw [hw, u64_or_nat _ _ (by omega) (by omega), Nat.or_comm, nat_join i (y * 2 ^ i) m (by simp) hm]
  omega

/-- One round of reading: the group is joined to what was read. -/
theorem acc_step {xs : List Int} {k : Nat} {x : Int} (hk : k < 9) (h : xs[k]? = some x) (_h0 : 0 ≤ x) :
    bits .or .u64 (valN (xs.take k)) (IntKind.u64.wrap (x % 128 * 2 ^ (7 * k))) = valN (xs.take (k + 1)) ∧ valN (xs.take (k + 1)) < 9223372036854775808 := by
  have hl := length_take_some h
  have h1 := valN_nonneg (xs.take k)
  have h2 := valN_lt (xs.take k)
  have h3 := valN_snoc (xs.take k) x
  have h4 := valN_lt (xs.take (k + 1))
  have h5 := pow128_le (k + 1) (by omega)
  rw [take_snoc' h, h3]
  rw [take_snoc' h, h3, List.length_append, hl] at h4
  rw [hl] at h2 h3 ⊢
  have h6 : valN (xs.take k) + x % 128 * 128 ^ k < 9223372036854775808 := Int.lt_of_lt_of_le h4 h5
  refine ⟨?_, h6⟩
  rw [pow128] at *
  generalize valN (xs.take k) = m at *
  obtain ⟨mn, rfl⟩ := Int.eq_ofNat_of_zero_le h1
  obtain ⟨y, hy⟩ := Int.eq_ofNat_of_zero_le (show 0 ≤ x % 128 by omega)
  rw [hy] at h6 ⊢
  refine or_core (7 * k) mn y ?_ ?_
  · have : ((2 ^ (7 * k) : Nat) : Int) = 2 ^ (7 * k) := by simp
    omega
  · have : ((y * 2 ^ (7 * k) : Nat) : Int) = (y : Int) * 2 ^ (7 * k) := by simp
    omega

theorem valN_lt_of {xs : List Int} {k : Nat} (h : xs.length ≤ k) : valN xs < 128 ^ k := by
  have h1 := valN_lt xs
  have h2 : (128 : Int) ^ xs.length ≤ 128 ^ k := by
    have := Nat.pow_le_pow_right (n := 128) (by omega) h
    have e1 : ((128 ^ xs.length : Nat) : Int) = 128 ^ xs.length := by simp
    have e2 : ((128 ^ k : Nat) : Int) = 128 ^ k := by simp
    omega
  omega

theorem drop_cons {xs : List Int} {s j : Nat} {x : Int} (hj : j ≤ s) (hx : xs[j]? = some x) : (xs.take (s + 1)).drop j = x :: (xs.take (s + 1)).drop (j + 1) := by
  have hl := (List.getElem?_eq_some_iff.1 hx).1
  have hl' : j < (xs.take (s + 1)).length := by rw [List.length_take]; omega
  rw [List.drop_eq_getElem_cons hl']
  congr 1
  rw [List.getElem_take]
  rw [List.getElem?_eq_getElem hl] at hx
  exact Option.some.inj hx

theorem back_step {xs : List Int} {s j : Nat} {x : Int} (hj : j ≤ s) (hx : xs[j]? = some x) :
    valN ((xs.take (s + 1)).drop (j + 1)) * 128 + x % 128 = valN ((xs.take (s + 1)).drop j) := by
  rw [drop_cons hj hx]; simp only [valN]; omega

theorem back_lt {xs : List Int} {s j : Nat} (hs : s < 9) : valN ((xs.take (s + 1)).drop (j + 1)) ≤ 72057594037927935 := by
  have := valN_lt_of (xs := (xs.take (s + 1)).drop (j + 1)) (k := 8) (by rw [List.length_drop, List.length_take]; omega)
  omega

def lead : Nat → List Int → Nat
  | 0, _ => 0
  | _ + 1, [] => 0
  | f + 1, x :: xs => if 128 ≤ x then lead f xs + 1 else 0

def Lead (k : Nat) (xs : List Int) : Prop := ∀ j, j < k → ∃ x, xs[j]? = some x ∧ 128 ≤ x

theorem Lead.zero (xs : List Int) : Lead 0 xs := fun j hj => absurd hj (by omega)
theorem Lead.succ {k : Nat} {xs : List Int} {x : Int} (h : Lead k xs) (hx : xs[k]? = some x) (h1 : 128 ≤ x) : Lead (k + 1) xs := fun j hj => by
  by_cases e : j = k
  · subst e; exact ⟨x, hx, h1⟩
  · exact h j (by omega)

theorem lead_eq {f k : Nat} {xs : List Int} (h : Lead k xs) (hf : k ≤ f) (he : k = f ∨ xs[k]? = none ∨ ∃ x, xs[k]? = some x ∧ x < 128) : lead f xs = k := by
  induction f generalizing k xs with
  | zero => simp [lead]; omega
  | succ f ih =>
    cases xs with
    | nil =>
      cases k with
      | zero => simp [lead]
      | succ k => obtain ⟨x, hx, _⟩ := h 0 (by omega); simp at hx
    | cons y ys =>
      cases k with
      | zero =>
        rcases he with he | he | ⟨x, hx, hlt⟩
        · omega
        · simp at he
        · simp at hx; subst hx; simp [lead]; omega
      | succ k =>
        obtain ⟨x, hx, hge⟩ := h 0 (by omega)
        simp at hx; subst hx
        have := ih (k := k) (xs := ys) (fun j hj => by obtain ⟨x, hx, hge⟩ := h (j + 1) (by omega); exact ⟨x, by simpa using hx, hge⟩) (by omega)
          (by rcases he with he | he | ⟨x, hx, hlt⟩
              · exact .inl (by omega)
              · exact .inr (.inl (by simpa using he))
              · exact .inr (.inr ⟨x, by simpa using hx, hlt⟩))
        simp [lead, hge, this]

def rd (xs : List Int) : Int × Int × Int :=
  if lead 9 xs = 9 then (0, 0, 4)
  else match xs[lead 9 xs]? with
    | none => (0, 0, 21)
    | some x => if (0 < lead 9 xs ∧ x = 0) ∨ 4611686018427387903 < valN (xs.take (lead 9 xs + 1)) then (0, 0, 4) else (valN (xs.take (lead 9 xs + 1)), (lead 9 xs : Int) + 1, 0)

section
variable {k : Nat} {xs : List Int} {x : Int}
theorem rd_short (h : Lead k xs) (hk : k < 9) (hx : xs[k]? = none) : rd xs = (0, 0, 21) := by
  have e := lead_eq (f := 9) h (by omega) (.inr (.inl hx))
  simp [rd, e, hx]; omega
theorem rd_long (h : Lead 9 xs) : rd xs = (0, 0, 4) := by
  have e := lead_eq (f := 9) h (by omega) (.inl rfl)
  simp [rd, e]
theorem rd_zero (h : Lead k xs) (hk : k < 9) (hx : xs[k]? = some 0) (h0 : 0 < k) : rd xs = (0, 0, 4) := by
  have e := lead_eq (f := 9) h (by omega) (.inr (.inr ⟨0, hx, by omega⟩))
  simp [rd, e, hx, h0]
theorem rd_big (h : Lead k xs) (hk : k < 9) (hx : xs[k]? = some x) (hl : x < 128) (hb : 4611686018427387903 < valN (xs.take (k + 1))) : rd xs = (0, 0, 4) := by
  have e := lead_eq (f := 9) h (by omega) (.inr (.inr ⟨x, hx, hl⟩))
  simp [rd, e, hx, hb]
theorem rd_ok (h : Lead k xs) (hk : k < 9) (hx : xs[k]? = some x) (hl : x < 128) (hz : ¬ (0 < k ∧ x = 0)) (hb : valN (xs.take (k + 1)) ≤ 4611686018427387903) :
    rd xs = (valN (xs.take (k + 1)), (k : Int) + 1, 0) := by
  have e := lead_eq (f := 9) h (by omega) (.inr (.inr ⟨x, hx, hl⟩))
  unfold rd
  rw [e, if_neg (by omega), hx]
  simp only
  rw [if_neg (by rintro (h1 | h1); exact hz h1; omega)]
end

theorem rd_range (xs : List Int) : 0 ≤ (rd xs).1 ∧ (rd xs).1 ≤ 4611686018427387903 ∧ 0 ≤ (rd xs).2.1 ∧ (rd xs).2.1 ≤ 9 ∧ 0 ≤ (rd xs).2.2 ∧ (rd xs).2.2 ≤ 21 := by
  unfold rd
  have h9 : ∀ f xs, lead f xs ≤ f := by
    intro f
    induction f with
    | zero => intro xs; simp [lead]
    | succ f ih => intro xs; cases xs with
      | nil => simp [lead]
      | cons y ys => have := ih ys; simp only [lead]; split <;> omega
  have := h9 9 xs
  split
  · simp
  · split
    · simp
    · have hv := valN_nonneg (xs.take (lead 9 xs + 1))
      split
      · simp
      · rename_i h1 _ h2
        simp only
        refine ⟨hv, ?_, ?_, ?_, ?_, ?_⟩ <;> first | omega | (simp only [not_or, Int.not_lt] at h2; exact h2.2)

def rdS (xs : List Int) : Int × Int × Int :=
  if (rd xs).2.2 = 0 then (if (rd xs).1 % 2 = 1 then -((rd xs).1 / 2) - 1 else (rd xs).1 / 2, (rd xs).2.1, 0) else (0, 0, (rd xs).2.2)


/-- The encoding of a number: groups of seven bits, the least one first. -/
def encF : Nat → Int → List Int
  | 0, m => [m]
  | f + 1, m => if 128 ≤ m then (m % 128 + 128) :: encF f (m / 128) else [m]

def enc (m : Int) : List Int := encF 9 m

theorem encF_more {f : Nat} {m : Int} (h : 128 ≤ m) : encF (f + 1) m = (m % 128 + 128) :: encF f (m / 128) := by simp [encF, h]
theorem encF_last {f : Nat} {m : Int} (h : m < 128) : encF f m = [m] := by cases f <;> simp [encF]; omega
theorem encF_length (f : Nat) (m : Int) : (encF f m).length ≤ f + 1 := by
  induction f generalizing m with
  | zero => simp [encF]
  | succ f ih => simp only [encF]; split <;> simp; exact ih _
theorem encF_byte {f : Nat} {m : Int} (h0 : 0 ≤ m) (h1 : m < 128 ^ (f + 1)) : ∀ x ∈ encF f m, 0 ≤ x ∧ x ≤ 255 := by
  induction f generalizing m with
  | zero => intro x hx; simp [encF] at hx; simp at h1; omega
  | succ f ih =>
    intro x hx
    simp only [encF] at hx
    split at hx
    · rcases List.mem_cons.1 hx with rfl | hx
      · omega
      · exact ih (by omega) (by rw [Int.pow_succ] at h1; omega) x hx
    · simp at hx; omega

theorem or_128 (m : Int) (h0 : 0 ≤ m) (h1 : m < 128) : bits .or .u8 m 128 = m + 128 := by
  obtain ⟨k, rfl⟩ := Int.eq_ofNat_of_zero_le h0
  have := u8_or_nat k 128 (by omega) (by omega)
  have e : ((128 : Nat) : Int) = 128 := rfl
  rw [e] at this
  rw [this, Nat.or_comm, nat_join 7 128 k (by decide) (by omega)]
  omega

/-- Where the encoding of 'm' stands after 'pre' was written and 'm'' is left. -/
def EncAt (m : Int) (pre : List Int) (m' : Int) : Prop := ∃ f, pre ++ encF f m' = enc m ∧ pre.length + f = 9 ∧ 0 ≤ m' ∧ m' < 128 ^ (f + 1) ∧ ∀ x ∈ pre, 0 ≤ x ∧ x ≤ 255
theorem EncAt.start {m : Int} (h0 : 0 ≤ m) (h1 : m ≤ 4611686018427387903) : EncAt m [] m := ⟨9, rfl, rfl, h0, by simp; omega, by simp⟩
theorem EncAt.step {m m' : Int} {pre : List Int} (h : EncAt m pre m') (hg : 128 ≤ m') : EncAt m (pre ++ [m' % 128 + 128]) (m' / 128) := by
  obtain ⟨f, h1, h2, h3, h4, h5⟩ := h
  cases f with
  | zero => simp at h4; omega
  | succ f =>
    refine ⟨f, by rw [← h1, encF_more hg]; simp, by simp; omega, by omega, by rw [Int.pow_succ] at h4; omega, ?_⟩
    intro x hx
    rcases List.mem_append.1 hx with hx | hx
    · exact h5 x hx
    · simp at hx; omega
theorem EncAt.done {m m' : Int} {pre : List Int} (h : EncAt m pre m') (hl : m' < 128) : pre ++ [m'] = enc m := by
  obtain ⟨f, h1, _⟩ := h
  rw [← h1, encF_last hl]
theorem enc_byte {m : Int} (h0 : 0 ≤ m) (h1 : m ≤ 4611686018427387903) : ∀ x ∈ enc m, 0 ≤ x ∧ x ≤ 255 := encF_byte h0 (by simp; omega)
theorem enc_length (m : Int) : (enc m).length ≤ 10 := encF_length 9 m
theorem EncAt.len {m m' : Int} {pre : List Int} (h : EncAt m pre m') : pre.length ≤ 9 := by
  obtain ⟨f, _, h2, _⟩ := h; omega
theorem EncAt.pos {m m' : Int} {pre : List Int} (h : EncAt m pre m') : 0 ≤ m' := by
  obtain ⟨f, _, _, h3, _⟩ := h; exact h3
end Go.Proofs.Ytekhmfliaojabaa
