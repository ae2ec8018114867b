/- Plain: rational numbers as a sign, a numerator and a denominator; what the operations on these denote. -/
import Derived.Test.YteoijnaljkagfaaNatV
namespace Go.Proofs.Yteoijnaljkagfaa

/-- A number with a sign. -/
def sgn (s : Bool) (n : Nat) : Int := if s then -(n : Int) else n
theorem sgn_true (n : Nat) : sgn true n = -(n : Int) := rfl
theorem sgn_false (n : Nat) : sgn false n = n := rfl
theorem sgn_abs (s : Bool) (n : Nat) : (sgn s n).natAbs = n := by cases s <;> simp [sgn]
theorem sgn_int (x : Int) : sgn (decide (x < 0)) x.natAbs = x := by
  by_cases h : x < 0 <;> simp [sgn, h] <;> omega
/-- The sign that a number bears: none if it is 0. -/
def nz (s : Bool) (n : Nat) : Bool := s && decide (n ≠ 0)
theorem nz_zero (s : Bool) : nz s 0 = false := by simp [nz]
theorem nz_false (n : Nat) : nz false n = false := rfl
theorem nz_pos (s : Bool) {n : Nat} (h : n ≠ 0) : nz s n = s := by simp [nz, h]
theorem sgn_neg_iff (s : Bool) (n : Nat) : decide (sgn s n < 0) = nz s n := by
  unfold nz
  cases s
  · simp [sgn]
  · by_cases h : n = 0
    · simp [sgn, h]
    · have : -(n : Int) < 0 := by omega
      simp [sgn, h]; omega

/-- The rational number of a sign, a numerator and a denominator. -/
def ratV (s : Bool) (n d : Nat) : Rat := mkRat (sgn s n) d

theorem sgn_div (s : Bool) {n g : Nat} (h : g ∣ n) : sgn s n / (g : Int) = sgn s (n / g) := by
  obtain ⟨k, rfl⟩ := h
  rcases Nat.eq_zero_or_pos g with h0 | h0
  · subst h0; cases s <;> simp [sgn]
  · rw [Nat.mul_div_cancel_left _ h0]
    cases s
    · simp only [sgn]; rw [if_neg (by simp), if_neg (by simp), Int.natCast_mul, Int.mul_ediv_cancel_left _ (by omega)]
    · simp only [sgn]; rw [if_pos trivial, if_pos trivial, Int.natCast_mul, ← Int.mul_neg, Int.mul_ediv_cancel_left _ (by omega)]
/-- In lowest terms. -/
theorem ratV_red (s : Bool) (n d : Nat) (hd : 0 < d) : (ratV s n d).num = sgn s (n / Nat.gcd n d) ∧ (ratV s n d).den = d / Nat.gcd n d := by
  have h : ratV s n d = Rat.normalize (sgn s n) d (by omega) := (Rat.normalize_eq_mkRat _).symm
  rw [h, Rat.normalize_eq]
  simp only [sgn_abs]
  exact ⟨sgn_div s (Nat.gcd_dvd_left n d), trivial⟩
theorem ratV_neg (s : Bool) (n d : Nat) (hd : 0 < d) : decide ((ratV s n d).num < 0) = nz s n ∧ (ratV s n d).num.natAbs = n / Nat.gcd n d := by
  rw [(ratV_red s n d hd).1, sgn_abs, sgn_neg_iff]
  refine ⟨?_, rfl⟩
  unfold nz
  have hg : 0 < Nat.gcd n d := Nat.gcd_pos_of_pos_right n hd
  congr 1
  have : n / Nat.gcd n d = 0 ↔ n = 0 := by
    constructor
    · intro h
      have hk := Nat.div_mul_cancel (Nat.gcd_dvd_left n d)
      rw [h, Nat.zero_mul] at hk
      exact hk.symm
    · rintro rfl; simp
  simp only [ne_eq, this]
theorem ratV_self (q : Rat) : ratV (decide (q.num < 0)) q.num.natAbs q.den = q := by
  unfold ratV; rw [sgn_int, Rat.mkRat_self]
theorem ratV_zero (s : Bool) (n d : Nat) (hd : 0 < d) : ratV s n d = 0 ↔ n = 0 := by
  unfold ratV
  rw [Rat.mkRat_eq_zero (by omega)]
  cases s <;> simp [sgn]

section
variable {s t : Bool} {n m d e : Nat}
theorem ratV_mul : ratV s n d * ratV t m e = ratV (s != t) (n * m) (d * e) := by
  unfold ratV
  rw [Rat.mkRat_mul_mkRat]
  congr 1
  cases s <;> cases t <;> simp [sgn, Int.natCast_mul] <;> grind
theorem ratV_add (hd : 0 < d) (he : 0 < e) : ratV s n d + ratV t m e = mkRat (sgn s n * e + sgn t m * d) (d * e) := by
  unfold ratV; exact Rat.mkRat_add_mkRat _ _ (by omega) (by omega)
theorem ratV_add_same (hd : 0 < d) (he : 0 < e) (h : s = t) : ratV s n d + ratV t m e = ratV s (n * e + m * d) (d * e) := by
  rw [ratV_add hd he, ratV]
  subst h
  congr 1
  cases s <;> simp [sgn, Int.natCast_mul] <;> grind
theorem ratV_add_ge (hd : 0 < d) (he : 0 < e) (h : s ≠ t) (hl : m * d ≤ n * e) : ratV s n d + ratV t m e = ratV s (n * e - m * d) (d * e) := by
  rw [ratV_add hd he, ratV]
  congr 1
  have hc : ((n * e - m * d : Nat) : Int) = (n : Int) * e - m * d := by rw [Int.natCast_sub hl]; simp
  cases s <;> cases t <;> simp [sgn] at h ⊢ <;> rw [hc] <;> grind
theorem ratV_add_lt (hd : 0 < d) (he : 0 < e) (h : s ≠ t) (hl : n * e ≤ m * d) : ratV s n d + ratV t m e = ratV t (m * d - n * e) (d * e) := by
  rw [ratV_add hd he, ratV]
  congr 1
  have hc : ((m * d - n * e : Nat) : Int) = (m : Int) * d - n * e := by rw [Int.natCast_sub hl]; simp
  cases s <;> cases t <;> simp [sgn] at h ⊢ <;> rw [hc] <;> grind
theorem ratV_opp : -ratV s n d = ratV (nz (!s) n) n d := by
  unfold ratV nz
  rw [Rat.neg_mkRat]
  congr 1
  cases s
  · by_cases h : n = 0 <;> simp [sgn, h]
  · simp [sgn]
theorem ratV_div (hd : 0 < d) (hm : 0 < m) : ratV s n d / ratV t m e = ratV (s != t) (n * e) (d * m) := by
  have hmz : (m : Rat) ≠ 0 := by intro h; have := (Rat.natCast_inj (a := m) (b := 0)).1 h; omega
  have hdz : (d : Rat) ≠ 0 := by intro h; have := (Rat.natCast_inj (a := d) (b := 0)).1 h; omega
  unfold ratV
  rw [Rat.mkRat_eq_div, Rat.mkRat_eq_div, Rat.mkRat_eq_div]
  have c1 : ∀ (b : Bool) (k : Nat), ((sgn b k : Int) : Rat) = if b then -(k : Rat) else (k : Rat) := fun b k => by cases b <;> simp [sgn, Rat.intCast_natCast]
  rw [c1, c1, c1, Rat.natCast_mul, Rat.natCast_mul]
  by_cases hez : (e : Rat) = 0
  · rw [hez]; cases s <;> cases t <;> simp [Rat.div_def]
  · cases s <;> cases t <;> simp <;> grind
end
theorem ratV_int (x : Int) : ratV (decide (x < 0)) x.natAbs 1 = (x : Rat) := by
  unfold ratV; rw [sgn_int, Rat.mkRat_eq_div]; simp; grind

/-- How many words a rational number has. -/
def FitQ (q : Rat) (L : Nat) : Prop := Fit 4294967296 q.num.natAbs L ∧ Fit 4294967296 q.den L
theorem fit_red {s : Bool} {n d L : Nat} (hd : 0 < d) (h1 : Fit 4294967296 n L) (h2 : Fit 4294967296 d L) : FitQ (ratV s n d) L := by
  refine ⟨?_, ?_⟩
  · rw [(ratV_neg s n d hd).2]; exact h1.le (Nat.div_le_self _ _)
  · rw [(ratV_red s n d hd).2]; exact h2.le (Nat.div_le_self _ _)
/-- The sign of a number. -/
def sgnQ (q : Rat) : Int := if q.num < 0 then -1 else if q.num = 0 then 0 else 1
theorem sgnQ_zero {s : Bool} {n d : Nat} (hd : 0 < d) (h : n = 0) : sgnQ (ratV s n d) = 0 := by
  have : (ratV s n d) = 0 := (ratV_zero s n d hd).2 h
  rw [this]; rfl
theorem sgnQ_neg {n d : Nat} (hd : 0 < d) (h : 0 < n) : sgnQ (ratV true n d) = -1 := by
  have h1 := (ratV_neg true n d hd).1
  have : (ratV true n d).num < 0 := by simpa [nz, show n ≠ 0 by omega] using h1
  simp [sgnQ, this]
theorem sgnQ_pos {n d : Nat} (hd : 0 < d) (h : 0 < n) : sgnQ (ratV false n d) = 1 := by
  have h1 := (ratV_neg false n d hd).1
  have h2 : ¬ (ratV false n d).num < 0 := by simpa [nz] using h1
  have h3 : (ratV false n d).num ≠ 0 := fun e => by
    rw [Rat.num_eq_zero, ratV_zero _ _ _ hd] at e; omega
  simp [sgnQ, h2, h3]
end Go.Proofs.Yteoijnaljkagfaa
