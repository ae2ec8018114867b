/- Plain: the long division of digits: the state of its loop, one step, and its end. -/
import Derived.Test.YteoijnaljkagfaaNatP
import Derived.Test.YteoijnaljkagfaaNatV
namespace Go.Proofs.Yteoijnaljkagfaa

theorem pow2_dvd {s : Nat} (hs : s ≤ 31) : ∃ q : Int, (4294967296 : Int) = 2 ^ s * q ∧ 0 < q := ⟨2 ^ (32 - s), by rw [← Int.pow_add, show s + (32 - s) = 32 by omega]; decide, Int.pow_pos (by omega)⟩

/-- The divisor, shifted so that its first bit is 1, has as many digits as before. -/
theorem shl_len {ys vs : List Int} {m lb s : Nat} {x : Int} (hy : Rep 4294967296 ys m) (hl : ys.length = lb + 1) (hx : ys[lb]? = some x) (hs : s ≤ 31) (h1 : 2147483648 ≤ x * 2 ^ s) (h2 : x * 2 ^ s < 4294967296) (hv : Rep 4294967296 vs (m * 2 ^ s)) :
    vs.length = lb + 1 ∧ ∃ vt, vs[lb]? = some vt ∧ 2147483648 ≤ vt := by
  obtain ⟨q, hq, hq0⟩ := pow2_dvd hs
  have hp : (0 : Int) < 2 ^ s := Int.pow_pos (by omega)
  have hP := pow_pos' (B := 4294967296) (by omega) lb
  have e1 := val_take_succ (B := 4294967296) hx
  rw [val_take_all (by omega), hy.2.2] at e1
  have l0 := val_nonneg (B := 4294967296) (by omega) (hy.1.take lb)
  have l1 := val_lt (B := 4294967296) (by omega) (hy.1.take lb)
  rw [List.length_take, Nat.min_eq_left (by omega)] at l1
  generalize val 4294967296 (ys.take lb) = lo at *
  have hxq : x + 1 ≤ q := by
    rcases Int.lt_or_le x q with h | h
    · omega
    · have := Int.mul_le_mul_of_nonneg_right h (Int.le_of_lt hp)
      rw [Int.mul_comm q] at this; omega
  obtain ⟨M, hM⟩ : ∃ M : Int, ((m * 2 ^ s : Nat) : Int) = M := ⟨_, rfl⟩
  have hM' : M = (lo + 4294967296 ^ lb * x) * 2 ^ s := by rw [← hM, Int.natCast_mul, e1]; simp
  have low : 4294967296 ^ lb * 2147483648 ≤ M := by
    have a1 : 4294967296 ^ lb * 2147483648 ≤ 4294967296 ^ lb * (x * 2 ^ s) := Int.mul_le_mul_of_nonneg_left h1 (Int.le_of_lt hP)
    have a2 : 0 ≤ lo * 2 ^ s := Int.mul_nonneg l0 (Int.le_of_lt hp)
    have a3 : M = lo * 2 ^ s + 4294967296 ^ lb * (x * 2 ^ s) := by rw [hM']; grind
    omega
  have high : M < 4294967296 ^ (lb + 1) := by
    have a1 : lo * 2 ^ s < 4294967296 ^ lb * 2 ^ s := Int.mul_lt_mul_of_pos_right l1 hp
    have a2 : (4294967296 ^ lb * 2 ^ s) * (x + 1) ≤ (4294967296 ^ lb * 2 ^ s) * q := Int.mul_le_mul_of_nonneg_left hxq (Int.mul_nonneg (Int.le_of_lt hP) (Int.le_of_lt hp))
    have a3 : M = lo * 2 ^ s + (4294967296 ^ lb * 2 ^ s) * x := by rw [hM']; grind
    have a4 : (4294967296 : Int) ^ (lb + 1) = (4294967296 ^ lb * 2 ^ s) * q := by rw [Int.pow_succ]; grind
    have a5 : (4294967296 ^ lb * 2 ^ s) * (x + 1) = (4294967296 ^ lb * 2 ^ s) * x + 4294967296 ^ lb * 2 ^ s := by grind
    omega
  have hle : vs.length ≤ lb + 1 := hv.len_le (by omega) (by rw [hM]; exact high)
  have hge : lb < vs.length := by
    rcases Nat.lt_or_ge lb vs.length with h | h
    · exact h
    · have g := hv.lt (by omega)
      rw [hM] at g
      have := pow_le (B := 4294967296) (by omega) h
      omega
  refine ⟨by omega, vs[lb], List.getElem?_eq_getElem hge, ?_⟩
  have f1 := val_take_succ (B := 4294967296) (List.getElem?_eq_getElem hge)
  rw [val_take_all (by omega), hv.2.2, hM] at f1
  have g1 := val_lt (B := 4294967296) (by omega) (hv.1.take lb)
  rw [List.length_take, Nat.min_eq_left (by omega)] at g1
  generalize vs[lb] = vt at *
  rcases Int.lt_or_le vt 2147483648 with h | h
  · exfalso
    have a1 : 4294967296 ^ lb * (vt + 1) ≤ 4294967296 ^ lb * 2147483648 := Int.mul_le_mul_of_nonneg_left (by omega) (Int.le_of_lt hP)
    have a2 : 4294967296 ^ lb * (vt + 1) = 4294967296 ^ lb * vt + 4294967296 ^ lb := by grind
    omega
  · exact h

/-- The state of the loop. -/
def DivI (N V : Int) (j : Nat) (zs qs : List Int) : Prop := N = val 4294967296 zs + V * 4294967296 ^ j * val 4294967296 (qs.drop j) ∧ val 4294967296 (zs.drop j) < V

theorem div_win {zs : List Int} {i lb : Nat} {V : Int} (hd : Dg 4294967296 zs) (hi : i + lb + 1 ≤ zs.length) (h : val 4294967296 (zs.drop (i + 1)) < V) (hV : V < 4294967296 ^ lb) :
    val 4294967296 ((zs.drop i).take (lb + 1)) = val 4294967296 (zs.drop i) ∧ val 4294967296 (zs.drop i) < 4294967296 * V := by
  have hz : zs[i]? = some zs[i] := List.getElem?_eq_getElem (by omega)
  have hzd := hd.get hz
  have e := val_drop (B := 4294967296) hz
  have hlt : val 4294967296 (zs.drop i) < 4294967296 * V := by
    have : 4294967296 * (val 4294967296 (zs.drop (i + 1)) + 1) ≤ 4294967296 * V := Int.mul_le_mul_of_nonneg_left (by omega) (by omega)
    rw [e]; omega
  refine ⟨?_, hlt⟩
  have s := val_split (B := 4294967296) (zs.drop i) (k := lb + 1) (by rw [List.length_drop]; omega)
  have h0 := val_nonneg (B := 4294967296) (by omega) ((hd.drop i).take (lb + 1))
  have h1 := val_nonneg (B := 4294967296) (by omega) ((hd.drop i).drop (lb + 1))
  have hP := pow_pos' (B := 4294967296) (by omega) (lb + 1)
  rcases Int.lt_or_le 0 (val 4294967296 ((zs.drop i).drop (lb + 1))) with hp | hp
  · exfalso
    have a1 : 4294967296 ^ (lb + 1) * 1 ≤ 4294967296 ^ (lb + 1) * val 4294967296 ((zs.drop i).drop (lb + 1)) := Int.mul_le_mul_of_nonneg_left (by omega) (Int.le_of_lt hP)
    have a2 : (4294967296 : Int) ^ (lb + 1) = 4294967296 ^ lb * 4294967296 := Int.pow_succ ..
    have a3 : 4294967296 * (V + 1) ≤ 4294967296 * 4294967296 ^ lb := Int.mul_le_mul_of_nonneg_left (by omega) (by omega)
    have a4 : (4294967296 : Int) * 4294967296 ^ lb = 4294967296 ^ lb * 4294967296 := Int.mul_comm _ _
    omega
  · have : val 4294967296 ((zs.drop i).drop (lb + 1)) = 0 := by omega
    rw [this, Int.mul_zero] at s
    omega
theorem DivI.step {N V q : Int} {i lb : Nat} {zs qs zs' : List Int} (h : DivI N V (i + 1) zs qs) (hd : Dg 4294967296 zs) (hi : i + lb + 1 ≤ zs.length) (hV : V < 4294967296 ^ lb) (hl : zs'.length = zs.length) (hq : i < qs.length)
    (h1 : val 4294967296 (zs'.drop i) = val 4294967296 (zs.drop i) - q * V) (h2 : zs'.take i = zs.take i) (h3 : val 4294967296 ((zs'.drop i).take (lb + 1)) = val 4294967296 ((zs.drop i).take (lb + 1)) - q * V) (h4 : val 4294967296 ((zs'.drop i).take (lb + 1)) < V) :
    DivI N V i zs' (qs.set i q) := by
  obtain ⟨a1, a2⟩ := h
  have hw := div_win hd hi a2 hV
  refine ⟨?_, by rw [h1]; omega⟩
  have e1 := val_split (B := 4294967296) zs' (k := i) (by omega)
  have e2 := val_split (B := 4294967296) zs (k := i) (by omega)
  have e3 : (qs.set i q)[i]? = some q := by simp [hq]
  have e4 : (qs.set i q).drop (i + 1) = qs.drop (i + 1) := by rw [List.drop_set_of_lt (by omega)]
  rw [val_drop e3, e4, e1, h2, h1]
  rw [e2, Int.pow_succ] at a1
  rw [a1]
  grind
theorem DivI.start {N V : Int} {j : Nat} {zs qs : List Int} (hz : val 4294967296 zs = N) (hq : qs.length ≤ j) (h : val 4294967296 (zs.drop j) < V) : DivI N V j zs qs :=
  ⟨by rw [hz, List.drop_eq_nil_of_le hq]; simp [val], h⟩
theorem DivI.fin {n m s : Nat} {zs qs : List Int} (hm : 0 < m) (h : DivI ((n * 2 ^ s : Nat) : Int) ((m * 2 ^ s : Nat) : Int) 0 zs qs) (hz : Dg 4294967296 zs) (hq : Dg 4294967296 qs) :
    val 4294967296 qs = ((n / m : Nat) : Int) ∧ val 4294967296 zs = ((n % m * 2 ^ s : Nat) : Int) := by
  obtain ⟨a1, a2⟩ := h
  simp only [List.drop_zero, Int.pow_zero, Int.mul_one] at a1 a2
  have z0 := val_nonneg (B := 4294967296) (by omega) hz
  have q0 := val_nonneg (B := 4294967296) (by omega) hq
  obtain ⟨Z, hZ⟩ := Int.eq_ofNat_of_zero_le z0
  obtain ⟨Q, hQ⟩ := Int.eq_ofNat_of_zero_le q0
  rw [hZ] at a1 a2 ⊢
  rw [hQ] at a1 ⊢
  have b1 : n * 2 ^ s = Z + (m * 2 ^ s) * Q := by exact_mod_cast a1
  have b2 : Z < m * 2 ^ s := by exact_mod_cast a2
  have hp : 0 < 2 ^ s := Nat.pow_pos (by omega)
  have c1 : n * 2 ^ s / (m * 2 ^ s) = Q := by
    rw [b1, Nat.add_mul_div_left _ _ (Nat.mul_pos hm hp), Nat.div_eq_of_lt b2]; omega
  have c2 : n * 2 ^ s % (m * 2 ^ s) = Z := by
    rw [b1, Nat.add_mul_mod_self_left, Nat.mod_eq_of_lt b2]
  rw [Nat.mul_div_mul_right _ _ hp] at c1
  rw [Nat.mul_mod_mul_right] at c2
  rw [← c1, ← c2]
  exact ⟨rfl, rfl⟩
end Go.Proofs.Yteoijnaljkagfaa
