/- Plain: numbers as lists of digits, the least significant one first: their value, normal form, and the laws of changing one digit. -/
import Derived.WalkKit
namespace Go.Proofs.Yteoijnaljkagfaa

/-- The number that digits denote. -/
def val (B : Int) : List Int → Int
  | [] => 0
  | x :: xs => x + B * val B xs
/-- All are digits. -/
def Dg (B : Int) (xs : List Int) : Prop := ∀ x ∈ xs, 0 ≤ x ∧ x < B

section
variable {B : Int} {xs ys : List Int} {x u : Int} {k : Nat}
theorem Dg.nil : Dg B [] := by simp [Dg]
theorem Dg.take (h : Dg B xs) (k : Nat) : Dg B (xs.take k) := fun x hx => h x (List.mem_of_mem_take hx)
theorem Dg.drop (h : Dg B xs) (k : Nat) : Dg B (xs.drop k) := fun x hx => h x (List.mem_of_mem_drop hx)
theorem Dg.append (h : Dg B xs) (k : Dg B ys) : Dg B (xs ++ ys) := fun x hx => by
  rcases List.mem_append.1 hx with hx | hx
  · exact h x hx
  · exact k x hx
theorem Dg.set (h : Dg B xs) (hu : 0 ≤ u ∧ u < B) (k : Nat) : Dg B (xs.set k u) := fun x hx => by
  rcases List.mem_or_eq_of_mem_set hx with hx | hx
  · exact h x hx
  · subst hx; exact hu
theorem Dg.zeros (hB : 0 < B) (k : Nat) : Dg B (List.replicate k 0) := fun x hx => by
  have := (List.mem_replicate.1 hx).2; omega
theorem Dg.get (h : Dg B xs) (hx : xs[k]? = some x) : 0 ≤ x ∧ x < B := h x (List.mem_of_getElem? hx)
theorem Dg.one (hx : 0 ≤ x ∧ x < B) : Dg B [x] := fun y hy => by simp at hy; subst hy; exact hx
theorem Dg.cons (hx : 0 ≤ x ∧ x < B) (h : Dg B xs) : Dg B (x :: xs) := fun y hy => by
  rcases List.mem_cons.1 hy with hy | hy
  · subst hy; exact hx
  · exact h y hy

theorem val_append (xs ys : List Int) : val B (xs ++ ys) = val B xs + B ^ xs.length * val B ys := by
  induction xs with
  | nil => simp [val]
  | cons x xs ih => simp only [List.cons_append, val, ih, List.length_cons, Int.pow_succ]; grind
theorem val_one (x : Int) : val B [x] = x := by simp [val]
theorem val_snoc (xs : List Int) (x : Int) : val B (xs ++ [x]) = val B xs + B ^ xs.length * x := by rw [val_append, val_one]
theorem val_split (xs : List Int) {k : Nat} (h : k ≤ xs.length) : val B xs = val B (xs.take k) + B ^ k * val B (xs.drop k) := by
  have := val_append (B := B) (xs.take k) (xs.drop k)
  rw [List.take_append_drop, List.length_take, Nat.min_eq_left h] at this
  exact this
theorem val_take_succ (h : xs[k]? = some x) : val B (xs.take (k + 1)) = val B (xs.take k) + B ^ k * x := by
  have hk : k < xs.length := (List.getElem?_eq_some_iff.1 h).1
  rw [List.take_add_one, h]
  simp only [Option.toList_some]
  rw [val_snoc, List.length_take, Nat.min_eq_left (by omega)]
theorem val_drop (h : xs[k]? = some x) : val B (xs.drop k) = x + B * val B (xs.drop (k + 1)) := by
  have hk : k < xs.length := (List.getElem?_eq_some_iff.1 h).1
  rw [List.drop_eq_getElem_cons hk, val]
  rw [List.getElem?_eq_getElem hk] at h
  simp only [Option.some.injEq] at h
  rw [h]
theorem val_set (h : xs[k]? = some x) (u : Int) : val B (xs.set k u) = val B xs + B ^ k * (u - x) := by
  induction xs generalizing k with
  | nil => simp at h
  | cons y ys ih =>
    cases k with
    | zero => simp at h; subst h; simp only [List.set_cons_zero, val]; grind
    | succ k => simp only [List.set_cons_succ, val]; rw [ih (by simpa using h), Int.pow_succ]; grind
theorem val_zeros (k : Nat) : val B (List.replicate k 0) = 0 := by
  induction k with
  | zero => rfl
  | succ k ih => rw [List.replicate_succ, val, ih]; simp
theorem val_nonneg (hB : 0 < B) (h : Dg B xs) : 0 ≤ val B xs := by
  induction xs with
  | nil => simp [val]
  | cons x xs ih =>
    have hx := h x (List.mem_cons_self ..)
    have hi := ih fun y hy => h y (List.mem_cons_of_mem _ hy)
    have := Int.mul_nonneg (Int.le_of_lt hB) hi
    rw [val]; omega
theorem pow_pos' (hB : 0 < B) (k : Nat) : 0 < B ^ k := Int.pow_pos hB
theorem val_lt (hB : 0 < B) (h : Dg B xs) : val B xs < B ^ xs.length := by
  induction xs with
  | nil => simp [val]
  | cons x xs ih =>
    have hx := h x (List.mem_cons_self ..)
    have hi := ih fun y hy => h y (List.mem_cons_of_mem _ hy)
    rw [val, List.length_cons, Int.pow_succ]
    have h1 : B * (val B xs + 1) ≤ B * B ^ xs.length := Int.mul_le_mul_of_nonneg_left (by omega) (Int.le_of_lt hB)
    have h2 : B * (val B xs + 1) = B * val B xs + B := by grind
    have h3 : B * B ^ xs.length = B ^ xs.length * B := Int.mul_comm _ _
    omega
theorem val_zero_all (hB : 0 < B) (h : Dg B xs) (hv : val B xs = 0) : ∀ x ∈ xs, x = 0 := by
  induction xs with
  | nil => simp
  | cons x xs ih =>
    have hx := h x (List.mem_cons_self ..)
    have hd : Dg B xs := fun y hy => h y (List.mem_cons_of_mem _ hy)
    have hn := val_nonneg hB hd
    rw [val] at hv
    have h0 := Int.mul_nonneg (Int.le_of_lt hB) hn
    have h1 : x = 0 := by omega
    have h2 : B * val B xs = 0 := by omega
    have h3 : val B xs = 0 := by
      rcases Int.mul_eq_zero.1 h2 with h | h
      · omega
      · exact h
    intro y hy
    rcases List.mem_cons.1 hy with hy | hy
    · subst hy; exact h1
    · exact ih hd h3 y hy
end

/-- No most significant digit is 0. -/
def Nm (xs : List Int) : Prop := xs.getLast? ≠ some 0
/-- The normal digits of a number. -/
def Rep (B : Int) (xs : List Int) (n : Nat) : Prop := Dg B xs ∧ Nm xs ∧ val B xs = (n : Int)

section
variable {B : Int} {xs ys : List Int} {n m : Nat}
theorem Nm.nil : Nm [] := by simp [Nm]
theorem Nm.snoc {x : Int} (h : x ≠ 0) : Nm (xs ++ [x]) := by simp [Nm, h]
theorem Nm.one {x : Int} (h : x ≠ 0) : Nm [x] := by simp [Nm, h]
theorem Nm.split (h : Nm xs) (hne : xs ≠ []) : ∃ ys x, xs = ys ++ [x] ∧ x ≠ 0 := by
  refine ⟨xs.dropLast, xs.getLast hne, (List.dropLast_concat_getLast hne).symm, fun e => ?_⟩
  exact h (by rw [List.getLast?_eq_some_getLast hne, e])
theorem Nm.take {k : Nat} {x : Int} (h : xs[k]? = some x) (hx : x ≠ 0) : Nm (xs.take (k + 1)) := by
  rw [List.take_add_one, h]; exact Nm.snoc hx
theorem nm_low (hB : 1 < B) (hd : Dg B xs) (h : Nm xs) (hne : xs ≠ []) : B ^ (xs.length - 1) ≤ val B xs := by
  obtain ⟨ys, x, rfl, hx⟩ := h.split hne
  have hd1 : Dg B ys := fun y hy => hd y (List.mem_append_left _ hy)
  have hx1 := hd x (List.mem_append_right _ (List.mem_singleton.2 rfl))
  have h0 := val_nonneg (by omega) hd1
  rw [val_snoc, List.length_append, List.length_singleton, Nat.add_sub_cancel]
  have hp := pow_pos' (B := B) (by omega) ys.length
  have : B ^ ys.length * 1 ≤ B ^ ys.length * x := Int.mul_le_mul_of_nonneg_left (by omega) (Int.le_of_lt hp)
  omega
theorem pow_le {a b : Nat} (hB : 1 ≤ B) (h : a ≤ b) : B ^ a ≤ B ^ b := by
  obtain ⟨k, rfl⟩ := Nat.exists_eq_add_of_le h
  rw [Int.pow_add]
  have h1 := pow_pos' (B := B) (by omega) a
  have h2 := pow_pos' (B := B) (by omega) k
  have : B ^ a * 1 ≤ B ^ a * B ^ k := Int.mul_le_mul_of_nonneg_left (by omega) (Int.le_of_lt h1)
  omega
theorem Rep.len_le (hB : 1 < B) (h : Rep B xs n) {L : Nat} (hn : (n : Int) < B ^ L) : xs.length ≤ L := by
  rcases Nat.lt_or_ge L xs.length with hl | hl
  · have h1 := nm_low hB h.1 h.2.1 (by intro e; subst e; simp at hl)
    rw [h.2.2] at h1
    have := pow_le (B := B) (a := L) (b := xs.length - 1) (by omega) (by omega)
    omega
  · exact hl
theorem Rep.lt (hB : 1 < B) (h : Rep B xs n) : (n : Int) < B ^ xs.length := by rw [← h.2.2]; exact val_lt (by omega) h.1
theorem Rep.nil : Rep B [] 0 := ⟨Dg.nil, Nm.nil, rfl⟩
theorem Rep.zero (hB : 1 < B) (h : Rep B xs 0) : xs = [] := by
  rcases xs with _ | ⟨x, xs⟩
  · rfl
  · have h1 := nm_low hB h.1 h.2.1 (by simp)
    rw [h.2.2] at h1
    have := pow_pos' (B := B) (by omega) ((x :: xs).length - 1)
    omega
theorem Rep.pos (hB : 1 < B) (h : Rep B xs n) : n = 0 ↔ xs = [] := by
  constructor
  · rintro rfl; exact h.zero hB
  · rintro rfl; have := h.2.2; simp [val] at this; omega
theorem Rep.one (hB : 1 < B) : Rep B [1] 1 := ⟨Dg.one (by omega), Nm.one (by omega), val_one 1⟩
theorem Rep.small {x : Int} (h0 : 0 < x) (h1 : x < B) : Rep B [x] x.toNat := ⟨Dg.one (by omega), Nm.one (by omega), by rw [val_one]; omega⟩
theorem Rep.single (_hB : 1 < B) {x : Int} (h : Rep B [x] n) : x = n ∧ 0 < n := by
  have h1 := h.2.2
  rw [val_one] at h1
  refine ⟨h1, ?_⟩
  have := h.2.1
  rcases Nat.eq_zero_or_pos n with h0 | h0
  · subst h0; exact absurd (by simp [h1]) this
  · exact h0
theorem val_inj (hB : 1 < B) : ∀ {xs ys : List Int}, xs.length = ys.length → Dg B xs → Dg B ys → val B xs = val B ys → xs = ys := by
  intro xs
  induction xs with
  | nil => intro ys hl _ _ _; exact (List.eq_nil_of_length_eq_zero hl.symm).symm
  | cons x xs ih =>
    intro ys hl hx hy hv
    rcases ys with _ | ⟨y, ys⟩
    · simp at hl
    · have hx0 := hx x (List.mem_cons_self ..)
      have hy0 := hy y (List.mem_cons_self ..)
      rw [val, val] at hv
      have e1 : x = y := by
        have h1 : (x + B * val B xs) % B = x := by rw [Int.add_mul_emod_self_left]; exact Int.emod_eq_of_lt hx0.1 hx0.2
        have h2 : (y + B * val B ys) % B = y := by rw [Int.add_mul_emod_self_left]; exact Int.emod_eq_of_lt hy0.1 hy0.2
        rw [← h1, hv, h2]
      subst e1
      have e2 : val B xs = val B ys := Int.eq_of_mul_eq_mul_left (by omega : B ≠ 0) (by omega)
      rw [ih (by simpa using hl) (fun a ha => hx a (List.mem_cons_of_mem _ ha)) (fun a ha => hy a (List.mem_cons_of_mem _ ha)) e2]
theorem Rep.unique (hB : 1 < B) (h : Rep B xs n) (k : Rep B ys n) : xs = ys := by
  have h1 := h.len_le hB (k.lt hB)
  have h2 := k.len_le hB (h.lt hB)
  exact val_inj hB (by omega) h.1 k.1 (by rw [h.2.2, k.2.2])
theorem Rep.lt_of_len (hB : 1 < B) (h : Rep B xs n) (k : Rep B ys m) (hl : xs.length < ys.length) : n < m := by
  have h1 := h.lt hB
  have h2 := nm_low hB k.1 k.2.1 (by intro e; subst e; simp at hl)
  rw [k.2.2] at h2
  have := pow_le (B := B) (a := xs.length) (b := ys.length - 1) (by omega) (by omega)
  omega
theorem Rep.of_take {k : Nat} (hd : Dg B xs) (hv : val B (xs.take k) = val B xs) (hn : Nm (xs.take k)) (he : val B xs = (n : Int)) : Rep B (xs.take k) n := ⟨hd.take k, hn, by rw [hv, he]⟩
end

/-- Comparing from the most significant digit on: all digits from k on are equal. -/
theorem cmp_step {B : Int} (hB : 1 < B) {xs ys : List Int} {k : Nat} {x y : Int} (hl : xs.length = ys.length) (hx : Dg B xs) (hy : Dg B ys) (h : xs.drop (k + 1) = ys.drop (k + 1)) (h1 : xs[k]? = some x) (h2 : ys[k]? = some y) (hlt : x < y) : val B xs < val B ys := by
  have hk : k < xs.length := (List.getElem?_eq_some_iff.1 h1).1
  rw [val_split xs (Nat.le_of_lt hk), val_split (B := B) ys (k := k) (by omega), val_drop h1, val_drop h2, h]
  have a1 := val_lt (B := B) (by omega) (hx.take k)
  have a2 := val_nonneg (B := B) (by omega) (hy.take k)
  rw [List.length_take, Nat.min_eq_left (by omega)] at a1
  have hp := pow_pos' (B := B) (by omega) k
  have : B ^ k * (x + 1) ≤ B ^ k * y := Int.mul_le_mul_of_nonneg_left (by omega) (Int.le_of_lt hp)
  generalize B * val B (ys.drop (k + 1)) = r at *
  have e1 : B ^ k * (x + r) = B ^ k * (x + 1) - B ^ k + B ^ k * r := by grind
  have e2 : B ^ k * (y + r) = B ^ k * y + B ^ k * r := by grind
  omega
end Go.Proofs.Yteoijnaljkagfaa
