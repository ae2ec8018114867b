/- Plain: the estimate of a digit of a quotient from the two most significant digits, corrected by the third one, is at most one too great. -/
import Derived.Test.YteoijnaljkagfaaDig
namespace Go.Proofs.Yteoijnaljkagfaa

section
variable {B p vt v2 Vl V top u2 Ul U q r : Int}
/-- The first estimate is not too small. -/
theorem est_start (hB : 1 < B) (hp : 0 < p) (hvt : 0 < vt) (hv2 : 0 ≤ v2) (hVl : 0 ≤ Vl) (hV : V = (vt * B + v2) * p + Vl) (htop : 0 ≤ top) (hu2 : u2 < B) (hUl : Ul < p) (hU : U = (top * B + u2) * p + Ul) :
    U < (top / vt + 1) * V := by
  have h1 := Int.emod_add_mul_ediv top vt
  have h2 := Int.emod_lt_of_pos top hvt
  have hq : 0 ≤ top / vt := Int.ediv_nonneg htop (by omega)
  generalize top / vt = q at *
  generalize top % vt = r at *
  have e : (q + 1) * V - U = (vt - r - 1) * (B * p) + (q + 1) * (v2 * p + Vl) + (B - u2 - 1) * p + (p - Ul) := by grind
  have a1 : 0 ≤ (vt - r - 1) * (B * p) := Int.mul_nonneg (by omega) (Int.mul_nonneg (by omega) (by omega))
  have a2 : 0 ≤ (q + 1) * (v2 * p + Vl) := Int.mul_nonneg (by omega) (by have := Int.mul_nonneg hv2 (Int.le_of_lt hp); omega)
  have a3 : 0 ≤ (B - u2 - 1) * p := Int.mul_nonneg (by omega) (by omega)
  omega
/-- A digit that is seen to be too great. -/
theorem est_down (hp : 0 < p) (hq : 0 ≤ q) (hVl : 0 ≤ Vl) (hV : V = (vt * B + v2) * p + Vl) (hUl : Ul < p) (hU : U = (top * B + u2) * p + Ul) (hr : q * vt + r = top) (h : r * B + u2 < q * v2) : U < q * V := by
  have e : q * V - U = (q * v2 - (r * B + u2) - 1) * p + q * Vl + (p - Ul) := by grind
  have a1 : 0 ≤ (q * v2 - (r * B + u2) - 1) * p := Int.mul_nonneg (by omega) (by omega)
  have a2 : 0 ≤ q * Vl := Int.mul_nonneg hq hVl
  omega
/-- A digit that passes is at most one too great. -/
theorem est_stop (hB : 1 < B) (hp : 0 < p) (hvt : 0 < vt) (hv2 : 0 ≤ v2) (hq : 0 ≤ q) (hqB : q < B) (hVl : 0 ≤ Vl) (hVp : Vl < p) (hV : V = (vt * B + v2) * p + Vl) (hUl : 0 ≤ Ul) (hU : U = (top * B + u2) * p + Ul) (hr : q * vt + r = top) (h : q * v2 ≤ r * B + u2) : (q - 1) * V ≤ U := by
  have e : U - (q - 1) * V = (r * B + u2 - q * v2) * p + Ul + (vt - 1) * (B * p) + v2 * p + Vl + (B - q) * p + q * (p - Vl) := by grind
  have a1 : 0 ≤ (r * B + u2 - q * v2) * p := Int.mul_nonneg (by omega) (by omega)
  have a2 : 0 ≤ (vt - 1) * (B * p) := Int.mul_nonneg (by omega) (Int.mul_nonneg (by omega) (by omega))
  have a3 := Int.mul_nonneg hv2 (Int.le_of_lt hp)
  have a4 : 0 ≤ (B - q) * p := Int.mul_nonneg (by omega) (by omega)
  have a5 : 0 ≤ q * (p - Vl) := Int.mul_nonneg hq (by omega)
  omega
/-- While the digit is not below B, what is left is below B. -/
theorem est_rest {un un1 : Int} (htop : top = un * B + un1) (hle : un ≤ vt) (h1 : un1 < B) (hB : 0 < B) (hr : q * vt + r = top) (hq : B ≤ q) (hvt : 0 < vt) : r < B := by
  have e : B - r = (B - un1) + (vt - un) * B + (q - B) * vt := by grind
  have a1 : 0 ≤ (vt - un) * B := Int.mul_nonneg (by omega) (by omega)
  have a2 : 0 ≤ (q - B) * vt := Int.mul_nonneg (by omega) (by omega)
  omega
/-- The first digit of a number that is less than B times another one is at most the other's first one. -/
theorem est_top {un un1 : Int} (htop : top = un * B + un1) (hp : 0 < p) (hB : 1 < B) (h1 : 0 ≤ un1) (hu2 : 0 ≤ u2) (hv2 : v2 < B) (hVp : Vl < p) (hV : V = (vt * B + v2) * p + Vl) (hUl : 0 ≤ Ul) (hU : U = (top * B + u2) * p + Ul) (h : U < B * V) : un ≤ vt := by
  rcases Int.lt_or_le vt un with hlt | hle
  · exfalso
    have e : U - B * V = (un - vt - 1) * (B * B * p) + un1 * (B * p) + u2 * p + Ul + (B - v2 - 1) * (B * p) + B * (p - Vl) := by grind
    have a1 : 0 ≤ (un - vt - 1) * (B * B * p) := Int.mul_nonneg (by omega) (Int.mul_nonneg (Int.mul_nonneg (by omega) (by omega)) (by omega))
    have a2 : 0 ≤ un1 * (B * p) := Int.mul_nonneg h1 (Int.mul_nonneg (by omega) (by omega))
    have a3 : 0 ≤ u2 * p := Int.mul_nonneg hu2 (by omega)
    have a4 : 0 ≤ (B - v2 - 1) * (B * p) := Int.mul_nonneg (by omega) (Int.mul_nonneg (by omega) (by omega))
    have a5 : 0 ≤ B * (p - Vl) := Int.mul_nonneg (by omega) (by omega)
    omega
  · exact hle
end
end Go.Proofs.Yteoijnaljkagfaa
