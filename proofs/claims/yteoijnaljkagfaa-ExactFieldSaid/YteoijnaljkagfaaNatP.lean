/- Plain: the steps of the loops over digits: adding, subtracting, multiplying, shifting, dividing by one digit. -/
import Derived.Test.YteoijnaljkagfaaDig
namespace Go.Proofs.Yteoijnaljkagfaa

section
variable {B : Int} {xs ys out : List Int} {k i j : Nat} {x y u c s : Int}
theorem val_take_getD (xs : List Int) (k : Nat) : val B (xs.take (k + 1)) = val B (xs.take k) + B ^ k * xs.getD k 0 := by
  rcases Nat.lt_or_ge k xs.length with h | h
  · rw [val_take_succ (List.getElem?_eq_getElem h)]; simp [List.getD, h]
  · rw [List.take_of_length_le (by omega), List.take_of_length_le (by omega)]; simp [List.getD, h]
theorem val_take_set (h : k < out.length) (u : Int) : val B ((out.set k u).take (k + 1)) = val B (out.take k) + B ^ k * u := by
  rw [val_take_getD, List.take_set_of_le (Nat.le_refl k)]; simp [List.getD, h]
theorem getD_digit (h : Dg B xs) (hB : 0 < B) (k : Nat) : 0 ≤ xs.getD k 0 ∧ xs.getD k 0 < B := by
  rcases Nat.lt_or_ge k xs.length with hk | hk
  · have := h.get (List.getElem?_eq_getElem hk); simpa [List.getD, hk] using this
  · simp [List.getD, hk]; exact hB
theorem val_take_all (h : xs.length ≤ k) : val B (xs.take k) = val B xs := by rw [List.take_of_length_le h]

/-- One step of an addition. -/
theorem add_step (hi : val B (out.take i) + c * B ^ i = val B (xs.take i) + val B (ys.take i)) (hl : i < out.length) (hs : s = xs.getD i 0 + ys.getD i 0 + c) :
    val B ((out.set i (s % B)).take (i + 1)) + s / B * B ^ (i + 1) = val B (xs.take (i + 1)) + val B (ys.take (i + 1)) := by
  have e := Int.emod_add_mul_ediv s B
  rw [val_take_set hl, val_take_getD, val_take_getD, Int.pow_succ]
  grind
/-- One step of a subtraction. -/
theorem sub_step (hi : val B (out.take i) = val B (xs.take i) - val B (ys.take i) + c * B ^ i) (hl : i < out.length) {c' : Int} (hs : u = xs.getD i 0 - ys.getD i 0 - c + c' * B) :
    val B ((out.set i u).take (i + 1)) = val B (xs.take (i + 1)) - val B (ys.take (i + 1)) + c' * B ^ (i + 1) := by
  rw [val_take_set hl, val_take_getD, val_take_getD, Int.pow_succ]
  grind
/-- One step of the inner loop of a multiplication: x is the digit i of the first number. -/
theorem mul_step {v : Int} {n : Nat} (hi : val B (out.take n) + c * B ^ (i + j) = v + x * val B (ys.take j) * B ^ i) (hl : i + j < n) (_hn : n ≤ out.length) {o : Int} (ho : out[i + j]? = some o) (hs : s = x * ys.getD j 0 + o + c) :
    val B ((out.set (i + j) (s % B)).take n) + s / B * B ^ (i + (j + 1)) = v + x * val B (ys.take (j + 1)) * B ^ i := by
  have e := Int.emod_add_mul_ediv s B
  have h1 : (out.set (i + j) (s % B)).take n = (out.take n).set (i + j) (s % B) := by rw [List.take_set]
  have h2 : (out.take n)[i + j]? = some o := by rw [List.getElem?_take, if_pos hl, ho]
  rw [h1, val_set h2, val_take_getD, ← Nat.add_assoc, Int.pow_succ]
  have h3 : B ^ (i + j) = B ^ i * B ^ j := Int.pow_add ..
  grind
/-- One step of the outer loop. -/
theorem mul_next {V : Int} {n : Nat} (hi : val B (out.take n) + c * B ^ (i + j) = val B (xs.take i) * V + x * V * B ^ i) (hn : n = i + j) (hl : n < out.length) (hx : xs.getD i 0 = x) :
    val B ((out.set n c).take (n + 1)) = val B (xs.take (i + 1)) * V := by
  subst hn
  rw [val_take_set hl, val_take_getD, hx]
  grind
/-- Dividing by a digit. -/
theorem word_step {d r t : Int} (hi : val B (xs.drop (i + 1)) = d * val B (out.drop (i + 1)) + r) (hl : i < out.length) (hx : xs[i]? = some x) (ht : t = r * B + x) :
    val B (xs.drop i) = d * val B ((out.set i (t / d)).drop i) + t % d := by
  have e := Int.emod_add_mul_ediv t d
  have h1 : (out.set i (t / d))[i]? = some (t / d) := by simp [hl]
  have h2 : (out.set i (t / d)).drop (i + 1) = out.drop (i + 1) := by rw [List.drop_set_of_lt (by omega)]
  rw [val_drop hx, hi, val_drop h1, h2]
  grind
/-- Shifting to the left: p is 2 to the power n. -/
theorem shl_step {p t : Int} (hi : val B (out.take (i + 1)) = val B (xs.take i) * p) (hl : i + 1 < out.length) {o : Int} (ho : out[i]? = some o) (ht : t = xs.getD i 0 * p) :
    val B (((out.set i (o + t % B)).set (i + 1) (t / B)).take (i + 2)) = val B (xs.take (i + 1)) * p := by
  have e := Int.emod_add_mul_ediv t B
  have h1 : (out.set i (o + t % B)).take (i + 1) = (out.take (i + 1)).set i (o + t % B) := by rw [List.take_set]
  have h2 : (out.take (i + 1))[i]? = some o := by rw [List.getElem?_take, if_pos (by omega), ho]
  rw [val_take_set (by simpa using hl), h1, val_set h2, hi, val_take_getD, Int.pow_succ]
  grind
/-- Shifting to the right: p is 2 to the power n and divides B. -/
theorem shr_step {p : Int} {r : Int} (hp : 0 < p) (hd : p ∣ B) (hi : p * val B (out.take i) + r = val B (xs.take i) + B ^ i * (xs.getD i 0 % p)) (hl : i < out.length) (hu : u = (xs.getD i 0 + xs.getD (i + 1) 0 * B) / p % B) (hx : Dg B xs) (hB : 0 < B) :
    p * val B ((out.set i u).take (i + 1)) + r = val B (xs.take (i + 1)) + B ^ (i + 1) * (xs.getD (i + 1) 0 % p) := by
  obtain ⟨q, rfl⟩ := hd
  have hq : 0 < q := by
    rcases Int.lt_trichotomy q 0 with h | h | h
    · have := Int.mul_neg_of_pos_of_neg hp h; omega
    · subst h; simp at hB
    · exact h
  have hx0 := getD_digit hx hB i
  have hx1 := getD_digit hx hB (i + 1)
  obtain ⟨a, ha⟩ : ∃ a, xs.getD i 0 = a := ⟨_, rfl⟩
  obtain ⟨b, hb⟩ : ∃ b, xs.getD (i + 1) 0 = b := ⟨_, rfl⟩
  rw [ha] at hi hu hx0
  rw [hb] at hu hx1
  have e1 : (a + b * (p * q)) / p = a / p + b * q := by
    rw [show b * (p * q) = p * (b * q) by grind, Int.add_mul_ediv_left _ _ (by omega)]
  have e2 : (a / p + b * q) % (p * q) = a / p + b % p * q := by
    have h1 : b * q = b % p * q + (b / p) * (p * q) := by
      have := Int.emod_add_mul_ediv b p
      grind
    rw [h1, ← Int.add_assoc, Int.add_mul_emod_self_right]
    have h2 : 0 ≤ a / p := Int.ediv_nonneg hx0.1 (by omega)
    have h3 : a / p < q := Int.ediv_lt_of_lt_mul hp (by rw [Int.mul_comm]; exact hx0.2)
    have h4 := Int.emod_nonneg b (show p ≠ 0 by omega)
    have h5 := Int.emod_lt_of_pos b hp
    have h6 : b % p * q ≤ (p - 1) * q := Int.mul_le_mul_of_nonneg_right (by omega) (by omega)
    have h7 : 0 ≤ b % p * q := Int.mul_nonneg h4 (by omega)
    have h8 : (p - 1) * q = p * q - q := by grind
    exact Int.emod_eq_of_lt (by omega) (by omega)
  rw [e1, e2] at hu
  have e3 := Int.emod_add_mul_ediv a p
  rw [val_take_set hl, val_take_getD, Int.pow_succ, ha, hb]
  grind
end
end Go.Proofs.Yteoijnaljkagfaa
