/- Lemmas of the proof that follows (Places, part 9): walks of functions by contract, and plain lemmas. Conditions: none. -/
import Derived.Test.YtikhlcgnlbinfaaPlacesH
set_option maxRecDepth 100000
set_option maxHeartbeats 8000000
namespace Go.Proofs.Ytikhlcgnlbinfaa
open Lib (hid)
open Go.RowKit
theorem pg (lo yy qq rr : Nat) (w : World) (_h0 : yy ≠ 0) (_h1 : ¬ (yy : Int) = 0) (_h2 : ((yy : Int) == 0) = false) (_hw1 : IntKind.u64.wrap ((lo : Int) / (yy : Int)) = (lo : Int) / (yy : Int)) (_hw2 : IntKind.u64.wrap ((lo : Int) % (yy : Int)) = (lo : Int) % (yy : Int)) (_hwq : IntKind.u64.wrap (qq : Int) = qq) (_hwr : IntKind.u64.wrap (rr : Int) = rr) (hq : Hid ((lo : Int) / (yy : Int) = (qq : Int))) (hr : Hid ((lo : Int) % (yy : Int) = (rr : Int))) : aS Try.prog Try.f161 6 8 34 w [28, 29, 30, 31, 32, 33, 6, 7] [.c (.int .u64 (lo : Int)), .c (.int .u64 (yy : Int)), .c (.int .u64 (qq : Int)), .c (.int .u64 (lo : Int)), .c (.int .u64 (yy : Int)), .c (.int .u64 (rr : Int)), .c (.int .u64 (qq : Int)), .c (.int .u64 (rr : Int))] [(1, .int .u64 (lo : Int)), (2, .int .u64 (yy : Int))] := by
 refine aT [[], [], [0, 1], [], [], [3, 4], [2], [5]] (by kernel_rfl) (by kernel_rfl) rfl trivial ?_;simp only [ae, Try.f161, ab, Option.bind_some, Nat.reduceBEq, if_true, if_false, Bool.false_eq_true, Option.getD_some];simp only [List.take_succ_cons, List.take_zero]
 repeat' first | refine ⟨?_, ?_⟩ | fail
 all_goals first | (intro us W b hJ K hK0 hK Qz; simp only [aO, ay, aB, List.getD_cons_succ, List.getD_cons_zero]) | exact True.intro
 all_goals try (intros; go_simp; exact hK0 _ rfl)
 .
  intro e28 e29 e1 e2;have t1 : (lo : Int).tdiv (yy : Int) = (lo : Int) / (yy : Int) := Int.tdiv_eq_ediv_of_nonneg (by omega);have t2 : (lo : Int).tmod (yy : Int) = (lo : Int) % (yy : Int) := Int.tmod_eq_emod_of_nonneg (by omega);have t3 := hq.out;have t4 := hr.out;go_simp;exact hK0 _ (by first | rfl | (congr 1; omega))
 .
  intro e31 e32 e1 e2;have t1 : (lo : Int).tdiv (yy : Int) = (lo : Int) / (yy : Int) := Int.tdiv_eq_ediv_of_nonneg (by omega);have t2 : (lo : Int).tmod (yy : Int) = (lo : Int) % (yy : Int) := Int.tmod_eq_emod_of_nonneg (by omega);have t3 := hq.out;have t4 := hr.out;go_simp;exact hK0 _ (by first | rfl | (congr 1; omega))
theorem iY (lo y : Nat) (w : World) (_hl : lo < 18446744073709551616) (_hy : y < 18446744073709551616) (h0 : 0 < y) :
  Calls Try.prog 161 #[.int .u64 0, .int .u64 (lo : Int), .int .u64 (y : Int)] w (fun e w' => e = .returned (.tuple #[.int .u64 ((lo / y : Nat) : Int), .int .u64 ((lo % y : Nat) : Int)]) /\ Ext w w') := by
 have h1 : ¬ (y : Int) = 0 := by omega
 have h2 : ((y : Int) == 0) = false := by simpa using h1
 have h3 := xF ((y : Int) <= 0) (by omega);have h3b := xF (y <= 0) (by omega);have h2b : (y == 0) = false := by simp; omega
 obtain ⟨q, hq⟩ : ∃ q, lo / y = q := ⟨_, rfl⟩;obtain ⟨r, hr⟩ : ∃ r, lo % y = r := ⟨_, rfl⟩;have hql : q <= lo := by rw [<- hq]; exact Nat.div_le_self _ _
 have hrl : r < y := by rw [<- hr]; exact Nat.mod_lt _ h0
 have HQ : Hid ((lo : Int) / (y : Int) = (q : Int)) := hid (by rw [<- hq]; exact (Int.natCast_ediv lo y).symm);have HR : Hid ((lo : Int) % (y : Int) = (r : Int)) := hid (by rw [<- hr]; exact (Int.natCast_emod lo y).symm);have w1 : IntKind.u64.wrap ((lo : Int) / (y : Int)) = (lo : Int) / (y : Int) := by rw [HQ.out]; exact IntWalk.u64_in _ (by omega)
 have w2 : IntKind.u64.wrap ((lo : Int) % (y : Int)) = (lo : Int) % (y : Int) := by rw [HR.out]; exact IntWalk.u64_in _ (by omega)
 rw [hq, hr];clear hq hr;have HX := hid (Ext.refl w);go_enter Try.func161, Try.ntmps161
 go_upto_region 6 with (fail)
 refine pg lo y q r w (by omega) h1 h2 w1 w2 (IntWalk.u64_in _ (by omega)) (IntWalk.u64_in _ (by omega)) HQ HR _ _ (by simp) ⟨rfl, rfl, trivial⟩ ?_;rintro w2' hX;simp only [EndK, ae, Try.f161, ab, Option.bind_some, Nat.reduceBEq, if_true, if_false, Bool.false_eq_true, Option.getD_some, List.drop_succ_cons, List.drop_zero];simp only [Act.put, List.setIfInBounds_toArray, List.set_cons_succ, List.set_cons_zero];replace HX := xT HX hX;clear hX w1 w2;go_wp2
 go_ret2
 exact ⟨rfl, HX.out⟩
end Go.Proofs.Ytikhlcgnlbinfaa
namespace Go.Proofs.Ytikhlcgnlbinfaa
open Lib (hid)
section
variable {u u1 y1 y0 q r : Nat}
/-- The first estimate is not too small. -/
theorem me (_h1 : 2147483648 <= y1) (_hu1 : u1 < 4294967296) : (u * 4294967296 + u1) / (y1 * 4294967296 + y0) <= u / y1 := by
 rw [Nat.le_div_iff_mul_le (by omega)];have h := Nat.div_mul_le_self (u * 4294967296 + u1) (y1 * 4294967296 + y0);generalize (u * 4294967296 + u1) / (y1 * 4294967296 + y0) = k at *;rw [Nat.mul_add, <- Nat.mul_assoc] at h;have := Nat.zero_le (k * y0);omega
/-- and at most two too great. -/
theorem pi (_h1 : 2147483648 <= y1) (_h0 : y0 < 4294967296) (_hu : u < y1 * 4294967296 + y0) : u / y1 <= 4294967297 := by
 have : u / y1 < 4294967298 := by
  rw [Nat.div_lt_iff_lt_mul (by omega)];omega
 omega
theorem oM (h : q * y1 + r = u) : q * (y1 * 4294967296 + y0) + r * 4294967296 = u * 4294967296 + q * y0 := by
 rw [<- h, Nat.mul_add, Nat.add_mul, Nat.mul_assoc];omega
/-- An estimate that is seen to be too great. -/
theorem pP (_h1 : 2147483648 <= y1) (h : q * y1 + r = u) (_hc : 4294967296 * r + u1 < q * y0) : (u * 4294967296 + u1) / (y1 * 4294967296 + y0) < q := by
 rw [Nat.div_lt_iff_lt_mul (by omega)];have e := oM (y0 := y0) h;omega
/-- An estimate that passes is not too great. -/
theorem oN (_h1 : 2147483648 <= y1) (h : q * y1 + r = u) (_hc : q * y0 <= 4294967296 * r + u1) : q <= (u * 4294967296 + u1) / (y1 * 4294967296 + y0) := by
 rw [Nat.le_div_iff_mul_le (by omega)];have e := oM (y0 := y0) h;omega
theorem iZ (_h1 : 2147483648 <= y1) (_hu1 : u1 < 4294967296) (_hu : u < y1 * 4294967296 + y0) : (u * 4294967296 + u1) / (y1 * 4294967296 + y0) < 4294967296 := by
 rw [Nat.div_lt_iff_lt_mul (by omega)];omega
/-- Behind a correction after which the rest is great. -/
theorem fV (h1 : 2147483648 <= y1) (_h0 : y0 < 4294967296) (h : q * y1 + r = u) (hq : q <= 4294967296) (_hr : 4294967296 <= r) : q <= (u * 4294967296 + u1) / (y1 * 4294967296 + y0) := by
 refine oN h1 h ?_;have : q * y0 <= 4294967296 * y0 := Nat.mul_le_mul_right _ hq;omega
/-- What is kept at the head of the loop. -/
structure KnS (u u1 y1 y0 q r : Nat) : Prop where
 eq : q * y1 + r = u
 ge : (u * 4294967296 + u1) / (y1 * 4294967296 + y0) <= q
 le : q <= 4294967297
 small : r < 4294967296
theorem KnS.start (h1 : 2147483648 <= y1) (_h2 : y1 < 4294967296) (h0 : y0 < 4294967296) (hu1 : u1 < 4294967296) (hu : u < y1 * 4294967296 + y0) : KnS u u1 y1 y0 (u / y1) (u % y1) := by
 refine ⟨?_, me h1 hu1, pi h1 h0 hu, ?_⟩
 .
  rw [Nat.mul_comm]; exact Nat.div_add_mod u y1
 .
  have := Nat.mod_lt u (show 0 < y1 by omega);omega
/-- One correction. -/
theorem KnS.down (s : KnS u u1 y1 y0 q r) (h1 : 2147483648 <= y1) (hu1 : u1 < 4294967296) (hu : u < y1 * 4294967296 + y0) (hc : 4294967296 <= q \/ 4294967296 * r + u1 < q * y0) :
  1 <= q /\ (q - 1) * y1 + (r + y1) = u /\ (u * 4294967296 + u1) / (y1 * 4294967296 + y0) <= q - 1 := by
 have hlt : (u * 4294967296 + u1) / (y1 * 4294967296 + y0) < q := by
  rcases hc with hc | hc
  .
   have := iZ (y0 := y0) h1 hu1 hu;omega
  .
   exact pP h1 s.eq hc
 have hq := Nat.lt_of_le_of_lt (Nat.zero_le _) hlt;refine ⟨hq, ?_, Nat.le_sub_one_of_lt hlt⟩;have e := s.eq;rw [Nat.sub_mul, Nat.one_mul];have : y1 <= q * y1 := Nat.le_mul_of_pos_left _ hq;generalize q * y1 = z at *;omega
/-- The end of the loop by its test. -/
theorem KnS.stop (s : KnS u u1 y1 y0 q r) (h1 : 2147483648 <= y1) (hc : q * y0 <= 4294967296 * r + u1) : q = (u * 4294967296 + u1) / (y1 * 4294967296 + y0) :=
 Nat.le_antisymm (oN h1 s.eq hc) s.ge
end
theorem g7 {B m b Y : Nat} (h0 : 0 < Y) : m / Y * B + (m % Y * B + b) / Y = (m * B + b) / Y /\ (m % Y * B + b) % Y = (m * B + b) % Y := by
 have e := Nat.div_add_mod m Y;generalize m / Y = q at *;generalize m % Y = r at *;rw [<- e]
 have : (Y * q + r) * B + b = r * B + b + Y * (q * B) := by
  rw [Nat.add_mul, Nat.mul_assoc, Nat.add_comm (Y * (q * B)), Nat.add_right_comm]
 rw [this, Nat.add_mul_div_left _ _ h0, Nat.add_mul_mod_self_left];exact ⟨Nat.add_comm _ _, rfl⟩
/-- Both digits together. -/
theorem nD {u a b Y : Nat} (h0 : 0 < Y) : (u * 4294967296 + a) / Y * 4294967296 + ((u * 4294967296 + a) % Y * 4294967296 + b) / Y = ((u * 4294967296 + a) * 4294967296 + b) / Y := (g7 h0).1
theorem pj {u a b Y : Nat} (h0 : 0 < Y) : ((u * 4294967296 + a) % Y * 4294967296 + b) % Y = ((u * 4294967296 + a) * 4294967296 + b) % Y := (g7 h0).2
/-- A quotient of two numbers that were shifted alike. -/
theorem mf {n y p : Nat} (hp : 0 < p) : n * p / (y * p) = n / y /\ n * p % (y * p) / p = n % y := by
 refine ⟨Nat.mul_div_mul_right _ _ hp, ?_⟩;rw [Nat.mul_mod_mul_right, Nat.mul_div_cancel _ hp]
end Go.Proofs.Ytikhlcgnlbinfaa
namespace Go.Proofs.Ytikhlcgnlbinfaa
open Lib (hid)
open Go.Shelf
def eJ : Go.Shelf.Ren := ⟨fun | 134 => 197 | 129 => 210 | n => n, fun | 53 => 248 | 3 => 3 | 4 => 4 | 46 => 68 | 5 => 5 | 9 => 9 | n => n, fun | n => n⟩
theorem i4 : Go.Proofs.Lays.n134 Try.prog eJ := {
 mixed := by kernel_rfl
 f129 := Try.func210.trans (congrArg some (by kernel_rfl))
 f134 := Try.func197.trans (congrArg some (by kernel_rfl))
 t3 := Try.underlying3
 a3 := Try.isAgg3
 z3 := Try.sizeOf3
 v3 := Try.zeroValue3
 t4 := Try.underlying4
 a4 := Try.isAgg4
 z4 := Try.sizeOf4
 v4 := Try.zeroValue4
 t5 := Try.underlying5
 a5 := Try.isAgg5
 z5 := Try.sizeOf5
 v5 := Try.zeroValue5
 t9 := Try.underlying9
 a9 := Try.isAgg9
 z9 := Try.sizeOf9
 v9 := Try.zeroValue9
 t46 := Try.underlying68
 a46 := Try.isAgg68
 z46 := Try.sizeOf68
 v46 := Try.zeroValue68
 t53 := Try.underlying248
 a53 := Try.isAgg248
 z53 := Try.sizeOf248
 v53 := Try.zeroValue248 }
theorem cD (x : Int) (w : World) (h0 : 0 <= x) (h1 : x <= 18446744073709551615) :
  Calls Try.prog 197 #[.int .u64 x] w fun e w' => e = .returned (.int .i64 (64 - (Lib.bitLen x.toNat : Int))) /\ w' = w := Any.bits_LeadingZeros64 i4 x w h0 h1
end Go.Proofs.Ytikhlcgnlbinfaa
namespace Go.Proofs.Ytikhlcgnlbinfaa
open Lib (hid)
open Go.RowKit
/-- What LeadingZeros64 returns for a word that is not 0. -/
theorem i5 (y : Nat) (h0 : 0 < y) (_h1 : y < 18446744073709551616) :
  ∃ s : Nat, s <= 63 /\ 9223372036854775808 <= y * 2 ^ s /\ y * 2 ^ s < 18446744073709551616 /\ ∀ w : World, Calls Try.prog 197 #[.int .u64 (y : Int)] w fun e w' => e = .returned (.int .i64 (s : Int)) /\ w' = w := by
 have hb := gI 64 y (by omega) (by omega) h0;have hl := Lib.bitLen_le y 64 (by omega) (by omega);have hcall := fun w => cD (y : Int) w (by omega) (by omega)
 obtain ⟨b, hbe⟩ : ∃ b, Lib.bitLen y = b := ⟨_, rfl⟩;rw [hbe] at hb hl;simp only [Int.toNat_natCast, hbe] at hcall;have e1 : (2 : Nat) ^ (b - 1) * 2 ^ (64 - b) = 2 ^ 63 := by rw [<- Nat.pow_add]; congr 1; omega
 have e2 : (2 : Nat) ^ b * 2 ^ (64 - b) = 2 ^ 64 := by rw [<- Nat.pow_add]; congr 1; omega
 have hp : 0 < 2 ^ (64 - b) := Nat.pow_pos (by omega);have g1 := Nat.mul_le_mul_right (2 ^ (64 - b)) hb.2.1;have g2 := Nat.mul_lt_mul_of_pos_right hb.2.2 hp;rw [e1] at g1;rw [e2] at g2;refine ⟨64 - b, by omega, by omega, by omega, ?_⟩;intro w;have h := hcall w;rw [show (64 : Int) - (b : Int) = ((64 - b : Nat) : Int) by omega] at h;exact h
/-- The numbers of the long case. -/
structure qB (hi lo y s Y y1 y0 H Lq u t u1 u0 : Nat) : Prop where
 hY : y * 2 ^ s = Y
 hy1 : Y / 4294967296 = y1
 hy0 : Y % 4294967296 = y0
 hH : hi * 2 ^ s = H
 hLq : lo / 2 ^ (64 - s) = Lq
 hu : H + Lq = u
 ht : lo * 2 ^ s % 18446744073709551616 = t
 hu1 : t / 4294967296 = u1
 hu0 : t % 4294967296 = u0
theorem mg {s : Nat} (_hs : s <= 63) : (2 : Nat) ^ s * 2 ^ (64 - s) = 18446744073709551616 := by
 rw [<- Nat.pow_add, show s + (64 - s) = 64 by omega]
/-- The shifted dividend. -/
theorem mh {hi lo s : Nat} (hs : s <= 63) : (hi * 2 ^ s + lo / 2 ^ (64 - s)) * 18446744073709551616 + lo * 2 ^ s % 18446744073709551616 = (hi * 18446744073709551616 + lo) * 2 ^ s := by
 have e := mg hs;have h1 := Nat.div_add_mod lo (2 ^ (64 - s));have hp : 0 < 2 ^ (64 - s) := Nat.pow_pos (by omega);have hl := Nat.mod_lt lo hp;generalize lo / 2 ^ (64 - s) = q at *;generalize lo % 2 ^ (64 - s) = r at *
 have hm : lo * 2 ^ s % 18446744073709551616 = r * 2 ^ s := by
  rw [<- h1, Nat.add_mul, Nat.mul_right_comm, Nat.mul_comm (2 ^ (64 - s)) (2 ^ s), e, Nat.mul_add_mod];refine Nat.mod_eq_of_lt ?_;rw [<- e, Nat.mul_comm (2 ^ s)];exact Nat.mul_lt_mul_of_pos_right hl (Nat.pow_pos (by omega))
 rw [hm, <- h1, Nat.add_mul, Nat.add_mul, Nat.add_mul, Nat.mul_right_comm hi, Nat.add_assoc]
 congr 1
 rw [Nat.mul_right_comm, Nat.mul_comm (2 ^ (64 - s)) (2 ^ s), e, Nat.mul_comm]
theorem mi {hi y s Y lo : Nat} (hs : s <= 63) (hY : y * 2 ^ s = Y) (h : hi < y) (hl : lo < 18446744073709551616) : hi * 2 ^ s + lo / 2 ^ (64 - s) < Y /\ lo / 2 ^ (64 - s) < 2 ^ s := by
 have hq : lo / 2 ^ (64 - s) < 2 ^ s := by
  rw [Nat.div_lt_iff_lt_mul (Nat.pow_pos (by omega)), mg hs];exact hl
 have h1 : (hi + 1) * 2 ^ s <= y * 2 ^ s := Nat.mul_le_mul_right _ h;rw [hY, Nat.add_mul, Nat.one_mul] at h1;exact ⟨by omega, hq⟩
theorem nE {x : Int} {n : Nat} (h : ∃ k : Int, x = (n : Int) + 18446744073709551616 * k) (_hn : n < 18446744073709551616) : IntKind.u64.wrap x = (n : Int) := by
 obtain ⟨k, rfl⟩ := h;rw [IntKind.wrap_u64];omega
theorem ju {t a b : Nat} (_h : t / 4294967296 = a) (_k : t % 4294967296 = b) : a * 4294967296 + b = t := by omega
theorem nF {B C u a b t : Nat} (hC : B * B = C) (h : a * B + b = t) : (u * B + a) * B + b = u * C + t := by
 rw [<- h, <- hC, Nat.add_mul, Nat.mul_assoc, Nat.add_assoc]
theorem nG {z t : Nat} (_h : z % 18446744073709551616 = t) : t < 18446744073709551616 := by omega
/-- What is left of a digit, as the program reckons it. -/
theorem jw {u u1 q v Y : Nat} (_h : q * Y + v = u * 4294967296 + u1) (_hv : v < 18446744073709551616) :
  ∃ a b c : Nat, IntKind.u64.wrap ((u : Int) * 4294967296) = (a : Int) /\ IntKind.u64.wrap ((a : Int) + (u1 : Int)) = (b : Int) /\ IntKind.u64.wrap ((q : Int) * (Y : Int)) = (c : Int) /\ IntKind.u64.wrap ((b : Int) - (c : Int)) = (v : Int) := by
 simp only [IntKind.wrap_u64];rw [<- Int.natCast_mul];generalize q * Y = z at *;exact ⟨u * 4294967296 % 18446744073709551616, (u * 4294967296 + u1) % 18446744073709551616, z % 18446744073709551616, by omega, by omega, by omega, by omega⟩
/-- The first estimate of a digit, as the program reckons it. -/
theorem hF {u y1 : Nat} (_hu : u < 18446744073709551616) (_h1 : 2147483648 <= y1) (_h2 : y1 < 4294967296) :
  IntKind.u64.wrap ((u : Int) / (y1 : Int)) = ((u / y1 : Nat) : Int) /\ (u : Int).tdiv (y1 : Int) = (u : Int) / (y1 : Int) /\ IntKind.u64.wrap (((u / y1 : Nat) : Int) * (y1 : Int)) = ((u / y1 * y1 : Nat) : Int) /\ IntKind.u64.wrap ((u : Int) - ((u / y1 * y1 : Nat) : Int)) = ((u % y1 : Nat) : Int) := by
 have h := Nat.div_add_mod u y1;have hq : u / y1 <= u := Nat.div_le_self _ _;have e : (u : Int) / (y1 : Int) = ((u / y1 : Nat) : Int) := rfl;rw [Nat.mul_comm] at h;generalize u / y1 = q at *;generalize u % y1 = r at *;refine ⟨?_, Int.tdiv_eq_ediv_of_nonneg (by omega), ?_, ?_⟩
 .
  rw [e];exact IntWalk.u64_in _ (by omega)
 .
  rw [<- Int.natCast_mul];generalize q * y1 = z at *;exact IntWalk.u64_in _ (by omega)
 .
  generalize q * y1 = z at *;rw [show (u : Int) - (z : Int) = (r : Int) by omega];exact IntWalk.u64_in _ (by omega)
theorem nH (hi lo y s Y y1 y0 H Lq u t u1 u0 : Nat) (w : World) (hl : lo < 18446744073709551616) (_hy : y < 18446744073709551616) (_h0 : 0 < hi) (h1 : hi < y) (hs : s <= 63) (_hY1 : 9223372036854775808 <= Y) (_hY2 : Y < 18446744073709551616) (hN : qB hi lo y s Y y1 y0 H Lq u t u1 u0)
  (hcall : ∀ w : World, Calls Try.prog 197 #[.int .u64 (y : Int)] w fun e w' => e = .returned (.int .i64 (s : Int)) /\ w' = w) :
  Calls Try.prog 161 #[.int .u64 (hi : Int), .int .u64 (lo : Int), .int .u64 (y : Int)] w (fun e w' => e = .returned (.tuple #[.int .u64 (((hi * 18446744073709551616 + lo) / y : Nat) : Int), .int .u64 (((hi * 18446744073709551616 + lo) % y : Nat) : Int)]) /\ Ext w w') := by
 have HC := hid hcall;clear hcall;have HX := hid (Ext.refl w);obtain ⟨e1, e2, e3, e4, e5, e6, e7, e8, e9⟩ := hN;obtain ⟨k1, k2⟩ := mi hs e1 h1 hl;rw [e4, e5] at k1;rw [e5] at k2;have hu : u < Y := by omega
 have ht : t < 18446744073709551616 := nG (z := lo * 2 ^ s) e7;have hu1 : u1 < 4294967296 := by omega
 have hu0 : u0 < 4294967296 := by omega
 have hy1 : 2147483648 <= y1 := by omega
 have hy1b : y1 < 4294967296 := by omega
 have hy0 : y0 < 4294967296 := by omega
 have hYe : y1 * 4294967296 + y0 = Y := ju e2 e3;have hte : u1 * 4294967296 + u0 = t := ju e8 e9
 have vY : IntKind.u64.wrap ((y : Int) * 2 ^ s) = (Y : Int) := by
  have e : (y : Int) * 2 ^ s = (Y : Int) := by rw [<- e1]; simp
  rw [e];exact IntWalk.u64_in _ (by omega)
 have vH : IntKind.u64.wrap ((hi : Int) * 2 ^ s) = (H : Int) := by
  have e : (hi : Int) * 2 ^ s = (H : Int) := by rw [<- e4]; simp
  rw [e];exact IntWalk.u64_in _ (by omega)
 have vL : (lo : Int) / 2 ^ (64 - s) = (Lq : Int) := by rw [<- e5]; simp
 have vO : bits .or .u64 (H : Int) (Lq : Int) = (u : Int) := by
  have hp : (Lq : Int) < 2 ^ s := by have : ((2 ^ s : Nat) : Int) = 2 ^ s := (by simp); omega
  rw [bits_join .u64 64 (by decide) (fun n _ _ => by rw [IntKind.wrap_u64]; omega) s (H : Int) (Lq : Int) (by omega) (by rw [<- e4]; simp) (by omega) (by omega) hp (by omega)];omega
 have vT : IntKind.u64.wrap ((lo : Int) * 2 ^ s) = (t : Int) := by
  refine nE ⟨((lo * 2 ^ s / 18446744073709551616 : Nat) : Int), ?_⟩ ht;have e : (lo : Int) * 2 ^ s = ((lo * 2 ^ s : Nat) : Int) := by simp
  rw [e];generalize lo * 2 ^ s = z at *;omega
 have va : (Y : Int) / 4294967296 = (y1 : Int) := by omega
 have vb : bits .and .u64 (Y : Int) 4294967295 = (y0 : Int) := by rw [Mul64.maskN Y (by omega), e3]
 have vc : (t : Int) / 4294967296 = (u1 : Int) := by omega
 have vd : bits .and .u64 (t : Int) 4294967295 = (u0 : Int) := by rw [Mul64.maskN t (by omega), e9]
 have i1 : ((y : Int) == 0) = false := by simp; omega
 have i2 := xF ((y : Int) <= (hi : Int)) (by omega);have i2b := xF (y <= hi) (by omega);have i3 : ((hi : Int) == 0) = false := by simp; omega
 have i1n : (y == 0) = false := by simp; omega
 have i3n : (hi == 0) = false := by simp; omega
 have E1 := hid e1;have E4 := hid e4;have E5 := hid e5;have E6 := hid e6;have E7 := hid e7;have EY := hid hYe;have ET := hid hte;clear e1 e2 e3 e4 e5 e6 e7 e8 e9 hYe hte k1 k2;go_enter Try.func161, Try.ntmps161
 go_wp2_with fail
 refine (HC.out w).mono ?_;rintro e w' ⟨rfl, rfl⟩;obtain ⟨f1, f2, f3, f4⟩ := hF (u := u) (y1 := y1) (by omega) hy1 hy1b;have ks := KnS.start (u := u) (u1 := u1) hy1 hy1b hy0 hu1 (by rw [EY.out]; exact hu);obtain ⟨q, hq⟩ : ∃ q, u / y1 = q := ⟨_, rfl⟩;obtain ⟨r, hr⟩ : ∃ r, u % y1 = r := ⟨_, rfl⟩;rw [hq] at f1 f3 f4 ks;rw [hr] at f4 ks;obtain ⟨qy, hqy⟩ : ∃ qy, q * y1 = qy := ⟨_, rfl⟩;rw [hqy] at f3 f4;have HS := hid ks;clear hq hr hqy ks;have j1 : ((y1 : Int) == 0) = false := by simp; omega
 have j1n : (y1 == 0) = false := by simp; omega
 have j2 : ¬ (y1 : Int) = 0 := by omega
 have j3 : ¬ y1 = 0 := by omega
 go_upto_block 0 with (fail)
 go_cut [15, 16] (fun sq sr W => ∃ r : Int, sq = .int .u64 (((u * 4294967296 + u1) / Y : Nat) : Int) /\ sr = .int .u64 r /\ w' = W)
 case first =>
  as_aux_lemma =>
   go_wp2_with fail
   go_loopg [15, 16] q (fun fu sq sr W => ∃ q r : Nat, q = fu /\ sq = .int .u64 (q : Int) /\ sr = .int .u64 (r : Int) /\ Hid (KnS u u1 y1 y0 q r) /\ w' = W)
   case atStart => exact ⟨q, r, rfl, rfl, rfl, HS, rfl⟩
   case round =>
    clear HS;obtain ⟨q, r, rfl, rfl, rfl, HS, rfl⟩ := hrel;have hle := HS.out.le;have hsm := HS.out.small
    by_cases hbig : 4294967296 <= q
    .
     have g1 := xD ((4294967296 : Int) <= (q : Int)) (by omega);have g1b := xD (4294967296 <= q) hbig;have hD := HS.out.down hy1 hu1 (by rw [EY.out]; exact hu) (.inl hbig);obtain ⟨d1, d2, d3⟩ := hD;have v5 : IntKind.u64.wrap ((q : Int) - 1) = ((q - 1 : Nat) : Int) := by rw [show (q : Int) - 1 = ((q - 1 : Nat) : Int) by omega]; exact IntWalk.u64_in _ (by omega)
     have v6 : IntKind.u64.wrap ((r : Int) + (y1 : Int)) = ((r + y1 : Nat) : Int) := by rw [<- Int.natCast_add]; exact IntWalk.u64_in _ (by omega)
     obtain ⟨q', hq'⟩ : ∃ q', q - 1 = q' := ⟨_, rfl⟩;obtain ⟨r', hr'⟩ : ∃ r', r + y1 = r' := ⟨_, rfl⟩;rw [hq'] at d2 d3 v5;rw [hr'] at d2 v6
     by_cases hbk : 4294967296 <= r'
     .
      have g5 := xD ((4294967296 : Int) <= (r' : Int)) (by omega);have hE := Nat.le_antisymm (fV (u1 := u1) hy1 hy0 d2 (by omega) hbk) d3;rw [EY.out] at hE;have HE := hid hE;clear d1 d2 d3 hE hq' hr';go_wp2
      go_meet
      exact ⟨_, by rw [<- HE.out], rfl, rfl⟩
     .
      have g5 := xF ((4294967296 : Int) <= (r' : Int)) (by omega);have HS2 : Hid (KnS u u1 y1 y0 q' r') := hid ⟨d2, d3, by omega, by omega⟩;have hq2 : q' < q := by omega
      clear d1 d2 d3 hq' hr';go_wp2;go_roundg q'
      case rel => exact ⟨q', r', rfl, rfl, rfl, HS2, rfl⟩
      case measure => omega
    .
     have g1 := xF ((4294967296 : Int) <= (q : Int)) (by omega);have g1b := xF (4294967296 <= q) hbig;obtain ⟨m, hm⟩ : ∃ m, q * y0 = m := ⟨_, rfl⟩
     have hmb : m < 18446744073709551616 := by
      rw [<- hm];have k1 : q * y0 <= 4294967295 * y0 := Nat.mul_le_mul_right _ (by omega);omega
     have v1 : IntKind.u64.wrap ((q : Int) * (y0 : Int)) = (m : Int) := by rw [<- Int.natCast_mul, hm]; exact IntWalk.u64_in _ (by omega)
     have v2 := IntWalk.u64_in (4294967296 * (r : Int)) (by omega);have v3 := IntWalk.u64_in (4294967296 * (r : Int) + (u1 : Int)) (by omega)
     by_cases hgt : 4294967296 * r + u1 < m
     .
      have g2 := xD (4294967296 * (r : Int) + (u1 : Int) < (m : Int)) (by omega);have hD := HS.out.down hy1 hu1 (by rw [EY.out]; exact hu) (.inr (by rw [hm]; exact hgt));clear hm hgt;obtain ⟨d1, d2, d3⟩ := hD;have v5 : IntKind.u64.wrap ((q : Int) - 1) = ((q - 1 : Nat) : Int) := by rw [show (q : Int) - 1 = ((q - 1 : Nat) : Int) by omega]; exact IntWalk.u64_in _ (by omega)
      have v6 : IntKind.u64.wrap ((r : Int) + (y1 : Int)) = ((r + y1 : Nat) : Int) := by rw [<- Int.natCast_add]; exact IntWalk.u64_in _ (by omega)
      obtain ⟨q', hq'⟩ : ∃ q', q - 1 = q' := ⟨_, rfl⟩;obtain ⟨r', hr'⟩ : ∃ r', r + y1 = r' := ⟨_, rfl⟩;rw [hq'] at d2 d3 v5;rw [hr'] at d2 v6
      by_cases hbk : 4294967296 <= r'
      .
       have g5 := xD ((4294967296 : Int) <= (r' : Int)) (by omega);have hE := Nat.le_antisymm (fV (u1 := u1) hy1 hy0 d2 (by omega) hbk) d3;rw [EY.out] at hE;have HE := hid hE;clear d1 d2 d3 hE hq' hr';go_wp2
       go_meet
       exact ⟨_, by rw [<- HE.out], rfl, rfl⟩
      .
       have g5 := xF ((4294967296 : Int) <= (r' : Int)) (by omega);have HS2 : Hid (KnS u u1 y1 y0 q' r') := hid ⟨d2, d3, by omega, by omega⟩;have hq2 : q' < q := by omega
       clear d1 d2 d3 hq' hr';go_wp2;go_roundg q'
       case rel => exact ⟨q', r', rfl, rfl, rfl, HS2, rfl⟩
       case measure => omega
     .
      have g2 := xF (4294967296 * (r : Int) + (u1 : Int) < (m : Int)) (by omega);have hE := HS.out.stop hy1 (by rw [hm]; omega);rw [EY.out] at hE;have HE := hid hE;clear hE hm hgt;go_wp2
      go_meet
      exact ⟨_, by rw [<- HE.out], rfl, rfl⟩
 case rest =>
  as_aux_lemma =>
   clear HS;obtain ⟨r, rfl, rfl, rfl⟩ := hcut;obtain ⟨q1, hq1⟩ : ∃ q1, (u * 4294967296 + u1) / Y = q1 := ⟨_, rfl⟩;obtain ⟨v, hvv⟩ : ∃ v, (u * 4294967296 + u1) % Y = v := ⟨_, rfl⟩;rw [hq1];have hY0 : 0 < Y := by omega
   have hm1 := Nat.div_add_mod (u * 4294967296 + u1) Y;rw [hq1, hvv, Nat.mul_comm] at hm1;have hvY : v < Y := by rw [<- hvv]; exact Nat.mod_lt _ hY0
   have hq1b : q1 < 4294967296 := by
    rw [<- hq1, <- EY.out];exact iZ hy1 hu1 (by rw [EY.out]; exact hu)
   obtain ⟨a1, a2, a3, w1, w2, w3, w4⟩ := jw (u := u) (u1 := u1) hm1 (by omega);have HM2 := hid hvY;obtain ⟨f1, f2, f3, f4⟩ := hF (u := v) (y1 := y1) (by omega) hy1 hy1b;have ks := KnS.start (u := v) (u1 := u0) hy1 hy1b hy0 hu0 (by rw [EY.out]; exact hvY);obtain ⟨q, hq⟩ : ∃ q, v / y1 = q := ⟨_, rfl⟩;obtain ⟨r2, hr⟩ : ∃ r, v % y1 = r := ⟨_, rfl⟩;rw [hq] at f1 f3 f4 ks;rw [hr] at f4 ks;obtain ⟨qy, hqy⟩ : ∃ qy, q * y1 = qy := ⟨_, rfl⟩;rw [hqy] at f3 f4;have HS := hid ks;have HQ1 := hid hq1;have HVV := hid hvv;clear hq hr hqy ks hq1 hvv hm1
   go_upto_block 2 with (fail)
   go_cut [18, 16] (fun sq sr W => ∃ r : Int, sq = .int .u64 (((v * 4294967296 + u0) / Y : Nat) : Int) /\ sr = .int .u64 r /\ w' = W)
   case first =>
    as_aux_lemma =>
     go_wp2_with fail
     go_loopg [18, 16] q (fun fu sq sr W => ∃ q r : Nat, q = fu /\ sq = .int .u64 (q : Int) /\ sr = .int .u64 (r : Int) /\ Hid (KnS v u0 y1 y0 q r) /\ w' = W)
     case atStart => exact ⟨q, r2, rfl, rfl, rfl, HS, rfl⟩
     case round =>
      clear HS;obtain ⟨q, r, rfl, rfl, rfl, HS, rfl⟩ := hrel;have hle := HS.out.le;have hsm := HS.out.small
      by_cases hbig : 4294967296 <= q
      .
       have g1 := xD ((4294967296 : Int) <= (q : Int)) (by omega);have g1b := xD (4294967296 <= q) hbig;have hD := HS.out.down hy1 hu0 (by rw [EY.out]; exact HM2.out) (.inl hbig);obtain ⟨d1, d2, d3⟩ := hD;have v5 : IntKind.u64.wrap ((q : Int) - 1) = ((q - 1 : Nat) : Int) := by rw [show (q : Int) - 1 = ((q - 1 : Nat) : Int) by omega]; exact IntWalk.u64_in _ (by omega)
       have v6 : IntKind.u64.wrap ((r : Int) + (y1 : Int)) = ((r + y1 : Nat) : Int) := by rw [<- Int.natCast_add]; exact IntWalk.u64_in _ (by omega)
       obtain ⟨q', hq'⟩ : ∃ q', q - 1 = q' := ⟨_, rfl⟩;obtain ⟨r', hr'⟩ : ∃ r', r + y1 = r' := ⟨_, rfl⟩;rw [hq'] at d2 d3 v5;rw [hr'] at d2 v6
       by_cases hbk : 4294967296 <= r'
       .
        have g5 := xD ((4294967296 : Int) <= (r' : Int)) (by omega);have hE := Nat.le_antisymm (fV (u1 := u0) hy1 hy0 d2 (by omega) hbk) d3;rw [EY.out] at hE;have HE := hid hE;clear d1 d2 d3 hE hq' hr';go_wp2
        go_meet
        exact ⟨_, by rw [<- HE.out], rfl, rfl⟩
       .
        have g5 := xF ((4294967296 : Int) <= (r' : Int)) (by omega);have HS2 : Hid (KnS v u0 y1 y0 q' r') := hid ⟨d2, d3, by omega, by omega⟩;have hq2 : q' < q := by omega
        clear d1 d2 d3 hq' hr';go_wp2;go_roundg q'
        case rel => exact ⟨q', r', rfl, rfl, rfl, HS2, rfl⟩
        case measure => omega
      .
       have g1 := xF ((4294967296 : Int) <= (q : Int)) (by omega);have g1b := xF (4294967296 <= q) hbig;obtain ⟨m, hm⟩ : ∃ m, q * y0 = m := ⟨_, rfl⟩
       have hmb : m < 18446744073709551616 := by
        rw [<- hm];have k1 : q * y0 <= 4294967295 * y0 := Nat.mul_le_mul_right _ (by omega);omega
       have v1 : IntKind.u64.wrap ((q : Int) * (y0 : Int)) = (m : Int) := by rw [<- Int.natCast_mul, hm]; exact IntWalk.u64_in _ (by omega)
       have v2 := IntWalk.u64_in (4294967296 * (r : Int)) (by omega);have v3 := IntWalk.u64_in (4294967296 * (r : Int) + (u0 : Int)) (by omega)
       by_cases hgt : 4294967296 * r + u0 < m
       .
        have g2 := xD (4294967296 * (r : Int) + (u0 : Int) < (m : Int)) (by omega);have hD := HS.out.down hy1 hu0 (by rw [EY.out]; exact HM2.out) (.inr (by rw [hm]; exact hgt));clear hm hgt;obtain ⟨d1, d2, d3⟩ := hD;have v5 : IntKind.u64.wrap ((q : Int) - 1) = ((q - 1 : Nat) : Int) := by rw [show (q : Int) - 1 = ((q - 1 : Nat) : Int) by omega]; exact IntWalk.u64_in _ (by omega)
        have v6 : IntKind.u64.wrap ((r : Int) + (y1 : Int)) = ((r + y1 : Nat) : Int) := by rw [<- Int.natCast_add]; exact IntWalk.u64_in _ (by omega)
        obtain ⟨q', hq'⟩ : ∃ q', q - 1 = q' := ⟨_, rfl⟩;obtain ⟨r', hr'⟩ : ∃ r', r + y1 = r' := ⟨_, rfl⟩;rw [hq'] at d2 d3 v5;rw [hr'] at d2 v6
        by_cases hbk : 4294967296 <= r'
        .
         have g5 := xD ((4294967296 : Int) <= (r' : Int)) (by omega);have hE := Nat.le_antisymm (fV (u1 := u0) hy1 hy0 d2 (by omega) hbk) d3;rw [EY.out] at hE;have HE := hid hE;clear d1 d2 d3 hE hq' hr';go_wp2
         go_meet
         exact ⟨_, by rw [<- HE.out], rfl, rfl⟩
        .
         have g5 := xF ((4294967296 : Int) <= (r' : Int)) (by omega);have HS2 : Hid (KnS v u0 y1 y0 q' r') := hid ⟨d2, d3, by omega, by omega⟩;have hq2 : q' < q := by omega
         clear d1 d2 d3 hq' hr';go_wp2;go_roundg q'
         case rel => exact ⟨q', r', rfl, rfl, rfl, HS2, rfl⟩
         case measure => omega
       .
        have g2 := xF (4294967296 * (r : Int) + (u0 : Int) < (m : Int)) (by omega);have hE := HS.out.stop hy1 (by rw [hm]; omega);rw [EY.out] at hE;have HE := hid hE;clear hE hm hgt;go_wp2
        go_meet
        exact ⟨_, by rw [<- HE.out], rfl, rfl⟩
   case rest =>
    as_aux_lemma =>
     clear HS;obtain ⟨r, rfl, rfl, rfl⟩ := hcut;have hq1 := HQ1.out;have hvv := HVV.out;clear HQ1 HVV;obtain ⟨q0, hq0⟩ : ∃ q0, (v * 4294967296 + u0) / Y = q0 := ⟨_, rfl⟩;obtain ⟨v2, hv2⟩ : ∃ v2, (v * 4294967296 + u0) % Y = v2 := ⟨_, rfl⟩;rw [hq0];have hb1 := nD (u := u) (a := u1) (b := u0) (Y := Y) hY0;rw [hq1, hvv, hq0] at hb1;have hb2 := pj (u := u) (a := u1) (b := u0) (Y := Y) hY0;rw [hvv, hv2] at hb2
     have hn : (u * 4294967296 + u1) * 4294967296 + u0 = (hi * 18446744073709551616 + lo) * 2 ^ s := by
      rw [<- mh hs, E4.out, E5.out, E6.out, E7.out];exact nF (by decide) ET.out
     obtain ⟨p1, p2⟩ := mf (n := hi * 18446744073709551616 + lo) (y := y) (p := 2 ^ s) (Nat.pow_pos (by omega));rw [<- hn, E1.out, <- hb1] at p1;rw [<- hn, E1.out, <- hb2] at p2;have hm2 := Nat.div_add_mod (v * 4294967296 + u0) Y;rw [hq0, hv2, Nat.mul_comm] at hm2;have hv2Y : v2 < Y := by rw [<- hv2]; exact Nat.mod_lt _ hY0
     obtain ⟨a5, a6, a7, w5, w6, w7, w8⟩ := jw (u := v) (u1 := u0) hm2 (by omega)
     have hq0b : q0 < 4294967296 := by
      rw [<- hq0, <- EY.out];exact iZ hy1 hu0 (by rw [EY.out]; exact HM2.out)
     have w9 := IntWalk.u64_in ((q1 : Int) * 4294967296) (by omega);have w10 := IntWalk.u64_in ((q1 : Int) * 4294967296 + (q0 : Int)) (by omega);have R1 := hid p1;have R2 := hid p2;clear p1 p2 hn hb1 hb2 hm2 hv2 hq0;go_wp2
     go_ret2
     refine ⟨?_, HX.out⟩;rw [<- R1.out, <- R2.out, Int.natCast_add, Int.natCast_mul, Int.natCast_ediv];simp
theorem fG (hi lo y : Nat) (w : World) (hl : lo < 18446744073709551616) (hy : y < 18446744073709551616) (h1 : hi < y) :
  Calls Try.prog 161 #[.int .u64 (hi : Int), .int .u64 (lo : Int), .int .u64 (y : Int)] w (fun e w' => e = .returned (.tuple #[.int .u64 (((hi * 18446744073709551616 + lo) / y : Nat) : Int), .int .u64 (((hi * 18446744073709551616 + lo) % y : Nat) : Int)]) /\ Ext w w') := by
 by_cases h0 : hi = 0
 .
  subst h0;have h := iY lo y w hl hy (by omega);rw [Nat.zero_mul, Nat.zero_add];exact h
 .
  obtain ⟨s, hs, hY1, hY2, hcall⟩ := i5 y (by omega) hy;exact nH hi lo y s _ _ _ _ _ _ _ _ _ w hl hy (by omega) h1 hs hY1 hY2 ⟨rfl, rfl, rfl, rfl, rfl, rfl, rfl, rfl, rfl⟩ hcall
end Go.Proofs.Ytikhlcgnlbinfaa
namespace Go.Proofs.Ytikhlcgnlbinfaa
open Lib (hid)
theorem aL {a b c : Rat} (h : b <= c) (ha : 0 <= a) : a * b <= a * c := Rat.mul_le_mul_of_nonneg_left h ha
theorem fW {c y N M : Rat} (h0 : 0 <= c) (h1 : c <= N) (hM : 0 <= M) (hy : -M <= y) (hy2 : y <= M) : -(N * M) <= c * y /\ c * y <= N * M := by
 have k1 := aL hy2 h0;have k2 := aL hy h0;have k3 := aL h1 hM;constructor <;> grind
/-- The place at the time x: a line from p to q in the time d, and the bend of an acceleration. -/
def cE (p q ac d x : Rat) : Rat := (p * (d - x) + q * x) * d⁻¹ + ac * x * (x - d) * (2000000000000 : Rat)⁻¹
theorem kq (p q ac d x u : Rat) : cE p q ac d x - cE p q ac d u = (x - u) * ((q - p) * d⁻¹ + ac * (x + u - d) * (2000000000000 : Rat)⁻¹) := by
 unfold cE;grind
/-- A motion that is never too fast is near at near times. -/
theorem kr {p q ac d x u n sp m s : Rat} (hd : 0 < d) (_hx0 : 0 <= x) (_hxd : x <= d) (_hu0 : 0 <= u) (_hud : u <= d) (_hn : 0 <= n) (h1 : x - u <= n) (h2 : u - x <= n)
  (hm1 : q - p <= m) (hm2 : p - q <= m) (hs1 : ac <= s) (hs2 : -ac <= s) (_hs : m * 1000000 * d⁻¹ + s * d * (2000000 : Rat)⁻¹ <= sp) :
  cE p q ac d x - cE p q ac d u <= n * sp * (1000000 : Rat)⁻¹ /\ cE p q ac d u - cE p q ac d x <= n * sp * (1000000 : Rat)⁻¹ := by
 have hi : 0 < d⁻¹ := Rat.inv_pos.2 hd;have hi0 : (0 : Rat) <= d⁻¹ := Rat.le_of_lt hi;have hs0 : 0 <= s := by grind
 have hm0 : 0 <= m := by grind
 have a1 := aL hm1 hi0;have a2 := aL hm2 hi0;obtain ⟨b1, b2⟩ := fW (c := s) (y := x + u - d) (N := s) (M := d) hs0 (Rat.le_refl) (Rat.le_of_lt hd) (by grind) (by grind)
 have c1 : -(s * d) <= ac * (x + u - d) /\ ac * (x + u - d) <= s * d := by
  rcases (Rat.le_total : (0 : Rat) <= x + u - d \/ x + u - d <= 0) with h | h
  .
   have e1 := aL hs1 h;have e2 := aL hs2 h;constructor <;> grind
  .
   have e1 := aL hs1 (show 0 <= -(x + u - d) by grind);have e2 := aL hs2 (show 0 <= -(x + u - d) by grind);constructor <;> grind
 obtain ⟨c1, c2⟩ := c1;have g1 : (q - p) * d⁻¹ + ac * (x + u - d) * (2000000000000 : Rat)⁻¹ <= sp * (1000000 : Rat)⁻¹ := by grind
 have g2 : -(sp * (1000000 : Rat)⁻¹) <= (q - p) * d⁻¹ + ac * (x + u - d) * (2000000000000 : Rat)⁻¹ := by grind
 have hsp : 0 <= sp * (1000000 : Rat)⁻¹ := by grind
 have e := kq p q ac d x u;generalize (q - p) * d⁻¹ + ac * (x + u - d) * (2000000000000 : Rat)⁻¹ = y at e g1 g2
 rcases (Rat.le_total : u <= x \/ x <= u) with h | h
 .
  obtain ⟨f1, f2⟩ := fW (c := x - u) (y := y) (N := n) (by grind) h1 hsp g2 g1;constructor <;> grind
 .
  obtain ⟨f1, f2⟩ := fW (c := u - x) (y := y) (N := n) (by grind) h2 hsp g2 g1;constructor <;> grind
/-- Where it is at a time, by bounds of both ends. -/
theorem nI {p q ac d u a b e f A : Rat} (hd : 0 < d) (hu0 : 0 <= u) (_hud : u <= d) (hp1 : a - e <= p) (hp2 : p <= a + e) (hq1 : b - f <= q) (hq2 : q <= b + f) (hA1 : ac <= A) (hA2 : -ac <= A) :
  ((a - e) * (d - u) + (b - f) * u) * d⁻¹ - A * u * (d - u) * (2000000000000 : Rat)⁻¹ <= cE p q ac d u /\ cE p q ac d u <= ((a + e) * (d - u) + (b + f) * u) * d⁻¹ + A * u * (d - u) * (2000000000000 : Rat)⁻¹ := by
 have hi0 : (0 : Rat) <= d⁻¹ := Rat.le_of_lt (Rat.inv_pos.2 hd);have hv : 0 <= d - u := by grind
 have k1 := aL hp1 hv;have k2 := aL hp2 hv;have k3 := aL hq1 hu0;have k4 := aL hq2 hu0;have l1 := aL (show (a - e) * (d - u) + (b - f) * u <= p * (d - u) + q * u by grind) hi0;have l2 := aL (show p * (d - u) + q * u <= (a + e) * (d - u) + (b + f) * u by grind) hi0;have hw : 0 <= u * (d - u) := Rat.mul_nonneg hu0 hv;have m1 := aL hA1 hw;have m2 := aL hA2 hw;unfold cE;constructor <;> grind
end Go.Proofs.Ytikhlcgnlbinfaa
namespace Go.Proofs.Ytikhlcgnlbinfaa
open Lib (hid)
theorem bH {x y : Int} (h : x <= y) : (x : Rat) <= (y : Rat) := Rat.intCast_le_intCast.2 h
theorem de {x c : Int} (_hc : 1 <= c) : ((x / c : Int) : Rat) <= (x : Rat) * (c : Rat)⁻¹ := by
 have h : ((x / c * c : Int) : Rat) <= (x : Rat) := bH (Int.ediv_mul_le x (by omega));have h0 : (0 : Rat) < (c : Rat) := by have := Rat.intCast_lt_intCast.2 (show (0 : Int) < c by omega); rwa [Rat.intCast_zero] at this
 have h1 := Rat.mul_le_mul_of_nonneg_right h (Rat.le_of_lt (Rat.inv_pos.2 h0));have h2 : (c : Rat) ≠ 0 := fun e => by rw [e] at h0; exact absurd h0 (Rat.lt_irrefl)
 rw [Rat.intCast_mul, Rat.mul_assoc, Rat.mul_inv_cancel _ h2, Rat.mul_one] at h1;exact h1
theorem dK {x c : Int} (hc : 1 <= c) : (x : Rat) * (c : Rat)⁻¹ <= ((-(-x / c) : Int) : Rat) := by
 have h := de (x := -x) hc;rw [Rat.intCast_neg] at h;rw [Rat.intCast_neg];grind
/-- Rounded up. -/
def aj (x c : Int) : Int := -(-x / c)
/-- The reckoning of a place at a time. -/
def nJ (a e b f d u A N s : Int) : Int := ((a - e) * (d - u) + (b - f) * u) / d - aj (A * u * (d - u)) 2000000000000 - aj (s * N) 1000000
def nK (a e b f d u A N s : Int) : Int := aj ((a + e) * (d - u) + (b + f) * u) d + aj (A * u * (d - u)) 2000000000000 + aj (s * N) 1000000
def br (p q ac d x : Int) : Rat := ((p : Rat) * ((d - x : Int) : Rat) + (q : Rat) * (x : Rat)) / (d : Rat) + (ac : Rat) * (x : Rat) * ((x - d : Int) : Rat) / ((2000000000000 : Int) : Rat)
theorem mj (p q ac d x : Int) : br p q ac d x = cE p q ac d x := by
 unfold br cE;rw [Rat.div_def, Rat.div_def, Rat.intCast_sub, Rat.intCast_sub];rfl
def fH (p q ac d : Int) : Rat := ((max (p - q) (q - p) : Int) : Rat) * ((1000000 : Int) : Rat) / (d : Rat) + ((max ac (-ac) : Int) : Rat) * (d : Rat) / ((2000000 : Int) : Rat)
theorem ml {a e b f d u A N s p q ac x : Int} (hd : 1 <= d) (hu0 : 0 <= u) (hud : u <= d) (hx0 : 0 <= x) (hxd : x <= d) (hN : 0 <= N) (h1 : x - u <= N) (h2 : u - x <= N)
  (hp1 : a - e <= p) (hp2 : p <= a + e) (hq1 : b - f <= q) (hq2 : q <= b + f) (hA1 : ac <= A) (hA2 : -A <= ac) (hs : fH p q ac d <= (s : Rat)) :
  ((nJ a e b f d u A N s : Int) : Rat) <= br p q ac d x /\ br p q ac d x <= ((nK a e b f d u A N s : Int) : Rat) := by
 rw [mj];have z : ((0 : Int) : Rat) = 0 := Rat.intCast_zero;have rd : (0 : Rat) < (d : Rat) := by have := Rat.intCast_lt_intCast.2 (show (0 : Int) < d by omega); rwa [z] at this
 have ru0 := bH hu0;have rud := bH hud;have rx0 := bH hx0;have rxd := bH hxd;have rN := bH hN;have r1 := bH h1;have r2 := bH h2;have rp1 := bH hp1;have rp2 := bH hp2;have rq1 := bH hq1;have rq2 := bH hq2;have rA1 := bH hA1;have rA2 := bH hA2;have m1 := bH (show p - q <= max (p - q) (q - p) by omega);have m2 := bH (show q - p <= max (p - q) (q - p) by omega);have m3 := bH (show ac <= max ac (-ac) by omega);have m4 := bH (show -ac <= max ac (-ac) by omega);unfold fH at hs;generalize max (p - q) (q - p) = mm at *;generalize max ac (-ac) = ss at *;rw [z] at ru0 rx0 rN;simp only [Rat.intCast_add, Rat.intCast_sub, Rat.intCast_neg] at r1 r2 rp1 rp2 rq1 rq2 rA1 rA2 m1 m2 m3 m4;rw [Rat.div_def, Rat.div_def] at hs;have k1 : ((1000000 : Int) : Rat) = 1000000 := rfl;have k2 : ((2000000 : Int) : Rat) = 2000000 := rfl;have k3 : ((2000000000000 : Int) : Rat) = 2000000000000 := rfl;rw [k1, k2] at hs;obtain ⟨n1, n2⟩ := kr (p := p) (q := q) (ac := ac) (d := d) (x := x) (u := u) (n := N) (sp := s) (m := mm) (s := ss) rd rx0 rxd ru0 rud rN r1 r2 m2 m1 m3 m4 hs;obtain ⟨t1, t2⟩ := nI (p := p) (q := q) (ac := ac) (d := d) (u := u) (a := a) (b := b) (e := e) (f := f) (A := A) rd ru0 rud rp1 rp2 rq1 rq2 rA1 (by grind);have f1 := de (x := (a - e) * (d - u) + (b - f) * u) hd;have f2 := dK (x := (a + e) * (d - u) + (b + f) * u) hd;have f3 := dK (x := A * u * (d - u)) (c := 2000000000000) (by omega);have f4 := dK (x := s * N) (c := 1000000) (by omega);unfold nJ nK aj;rw [k3] at f3;rw [k1] at f4;generalize ((a - e) * (d - u) + (b - f) * u) / d = y1 at *;generalize -(-((a + e) * (d - u) + (b + f) * u) / d) = y2 at *;generalize -(-(A * u * (d - u)) / 2000000000000) = y3 at *;generalize -(-(s * N) / 1000000) = y4 at *;simp only [Rat.intCast_add, Rat.intCast_sub, Rat.intCast_mul] at f1 f2 f3 f4 |-;constructor <;> grind
/-- How far along an axis. -/
def fd (lo hi m : Int) : Rat := (lo : Rat) + ((hi - lo : Int) : Rat) * (m : Rat) / ((16 : Int) : Rat)
theorem pk {lo hi m : Int} (h : lo <= hi) (h0 : 0 <= m) (h1 : m <= 16) : (lo : Rat) <= fd lo hi m /\ fd lo hi m <= (hi : Rat) := by
 unfold fd;have z : ((0 : Int) : Rat) = 0 := Rat.intCast_zero;have r := bH h;have r0 := bH h0;have r1 := bH h1;rw [z] at r0;have k : ((16 : Int) : Rat) = 16 := rfl;rw [k] at *;rw [Rat.div_def, Rat.intCast_sub];have p := Rat.mul_nonneg (show (0 : Rat) <= (hi : Rat) - (lo : Rat) by grind) r0;have q := Rat.mul_nonneg (show (0 : Rat) <= (hi : Rat) - (lo : Rat) by grind) (show (0 : Rat) <= 16 - (m : Rat) by grind);constructor <;> grind
/-- The end of a range that is nearer along an axis. -/
def ao (k lo hi : Int) : Int := if k < 0 then hi else lo
theorem nL {k n lo hi m : Int} (hn : 1 <= n) (h : lo <= hi) (h0 : 0 <= m) (h1 : m <= 16) :
  ((k * ao k lo hi / n : Int) : Rat) <= fd lo hi m * (k : Rat) / (n : Rat) /\ fd lo hi m * (k : Rat) / (n : Rat) <= ((aj (k * ao k hi lo) n : Int) : Rat) := by
 obtain ⟨a1, a2⟩ := pk h h0 h1;generalize fd lo hi m = fr at *;have z : ((0 : Int) : Rat) = 0 := Rat.intCast_zero;have rn : (0 : Rat) < (n : Rat) := by have := Rat.intCast_lt_intCast.2 (show (0 : Int) < n by omega); rwa [z] at this
 have ri := Rat.le_of_lt (Rat.inv_pos.2 rn);have f1 := de (x := k * ao k lo hi) hn;have f2 := dK (x := k * ao k hi lo) hn;rw [Rat.div_def];unfold aj
 have b1 : ((k * ao k lo hi : Int) : Rat) <= fr * (k : Rat) /\ fr * (k : Rat) <= ((k * ao k hi lo : Int) : Rat) := by
  unfold ao
  by_cases hk : k < 0
  .
   rw [if_pos hk, if_pos hk, Rat.intCast_mul, Rat.intCast_mul];have rk : (k : Rat) <= 0 := by have := bH (show k <= 0 by omega); rwa [z] at this
   have p := Rat.mul_nonneg (show (0 : Rat) <= -(k : Rat) by grind) (show (0 : Rat) <= fr - (lo : Rat) by grind);have q := Rat.mul_nonneg (show (0 : Rat) <= -(k : Rat) by grind) (show (0 : Rat) <= (hi : Rat) - fr by grind);constructor <;> grind
  .
   rw [if_neg hk, if_neg hk, Rat.intCast_mul, Rat.intCast_mul];have rk : (0 : Rat) <= (k : Rat) := by have := bH (show 0 <= k by omega); rwa [z] at this
   have p := Rat.mul_nonneg rk (show (0 : Rat) <= fr - (lo : Rat) by grind);have q := Rat.mul_nonneg rk (show (0 : Rat) <= (hi : Rat) - fr by grind);constructor <;> grind
 exact ⟨Rat.le_trans f1 (Rat.mul_le_mul_of_nonneg_right b1.1 ri), Rat.le_trans (Rat.mul_le_mul_of_nonneg_right b1.2 ri) f2⟩
/-- The true place of the point lies in the box. -/
theorem nM {P0 P1 wr : Int} {pl fr : Rat} {k0 k1 : Int} (_h1 : (P0 : Rat) <= pl) (_h2 : pl <= (P1 : Rat)) (_h3 : (k0 : Rat) <= fr) (_h4 : fr <= (k1 : Rat)) (hw : 0 <= wr) :
  ((P0 + k0 - wr : Int) : Rat) <= pl + fr /\ pl + fr <= ((P1 + k1 + wr : Int) : Rat) := by
 have z : ((0 : Int) : Rat) = 0 := Rat.intCast_zero;have r := bH hw;rw [z] at r;simp only [Rat.intCast_add, Rat.intCast_sub];constructor <;> grind
end Go.Proofs.Ytikhlcgnlbinfaa
namespace Go.Proofs.Ytikhlcgnlbinfaa
open Lib (hid)
open Go.RowKit
theorem aX {a : Int} (_h0 : 0 <= a) (_h1 : a <= 9223372036854775807) : IntKind.u64.wrap a = a := IntWalk.u64_in _ (by omega)
/-- A quotient of natural numbers, rounded up, by the rest. -/
theorem nN {n c : Nat} (_hc : 1 <= c) : aj (n : Int) (c : Int) = if n % c = 0 then ((n / c : Nat) : Int) else ((n / c : Nat) : Int) + 1 := by
 unfold aj;have h := Nat.div_add_mod n c;have hr := Nat.mod_lt n (show 0 < c by omega);generalize n / c = q at *;generalize n % c = r at *;subst h
 by_cases h0 : r = 0
 .
  rw [if_pos h0, h0]
  have : -((c * q + 0 : Nat) : Int) / (c : Int) = -(q : Int) := by
   rw [Nat.add_zero, Int.natCast_mul, <- Int.mul_neg, Int.mul_ediv_cancel_left _ (by omega)]
  omega
 .
  rw [if_neg h0]
  have := (Int.ediv_emod_unique (a := -((c * q + r : Nat) : Int)) (b := (c : Int)) (r := (c : Int) - r) (q := -(q : Int) - 1) (by omega)).2 ⟨by
   rw [Int.natCast_add, Int.natCast_mul, Int.mul_sub, Int.mul_neg, Int.mul_one];omega, by omega, by omega⟩
  omega
theorem kt (a b c : Nat) (w : World) (_ha : a <= 9223372036854775807) (_hb : b <= 9223372036854775807) (hc1 : 1 <= c) (_hc : c <= 9223372036854775807) (hq : a * b / c < 4611686018427387904) :
  Calls Try.prog 98 #[.int .i64 (a : Int), .int .i64 (b : Int), .int .i64 (c : Int)] w (fun e w' => e = .returned (.int .i64 (aj ((a * b : Nat) : Int) (c : Int))) /\ Ext w w') := by
 have v1 := aX (a := (a : Int)) (by omega) (by omega);have v2 := aX (a := (b : Int)) (by omega) (by omega);have v3 := aX (a := (c : Int)) (by omega) (by omega);obtain ⟨n, hn⟩ : ∃ n, a * b = n := ⟨_, rfl⟩;have hm := fA a b (by omega) (by omega) w;rw [hn] at hq hm |-;obtain ⟨hi, hhi⟩ : ∃ x, n / 18446744073709551616 = x := ⟨_, rfl⟩;obtain ⟨lo, hlo⟩ : ∃ x, n % 18446744073709551616 = x := ⟨_, rfl⟩;rw [hhi, hlo] at hm;have hj : hi * 18446744073709551616 + lo = n := by omega
 have hll : lo < 18446744073709551616 := by omega
 have hlt : hi < c := by
  have h1 : n < 4611686018427387904 * c := by rwa [Nat.div_lt_iff_lt_mul (by omega)] at hq
  omega
 have hd := fun w => fG hi lo c w hll (by omega) hlt
 simp only [hj] at hd;have he := nN (n := n) hc1;obtain ⟨q, hqe⟩ : ∃ q, n / c = q := ⟨_, rfl⟩;obtain ⟨r, hre⟩ : ∃ r, n % c = r := ⟨_, rfl⟩;rw [hqe] at hd he hq;rw [hre] at hd he;obtain ⟨X, hX⟩ : ∃ X, aj (n : Int) (c : Int) = X := ⟨_, rfl⟩;rw [hX] at he |-;have HM := hid hm;have HD := hid hd;have HE := hid he;clear hn hhi hlo hj hd hm hX hqe hre he;have HX := hid (Ext.refl w);go_enter Try.func98, Try.ntmps98
 go_wp2_with fail
 refine HM.out.mono ?_;rintro e w1 ⟨rfl, rfl⟩
 go_wp2_with fail
 refine (HD.out _).mono ?_;rintro e w2 ⟨rfl, hX⟩;replace HX := xT HX hX;clear hX
 by_cases h0 : r = 0
 .
  subst h0;have HV : Hid (X = (q : Int)) := hid (by have := HE.out; rwa [if_pos rfl] at this);have w1 : IntKind.i64.wrap (q : Int) = (q : Int) := IntWalk.i64_in _ (by omega);clear hq;go_wp2;go_ret;exact ⟨by rw [HV.out]; rfl, HX.out⟩
 .
  have g0 := xD ((0 : Int) < (r : Int)) (by omega);have g0b := xD (0 < r) (by omega);have HV : Hid (X = (q : Int) + 1) := hid (by have := HE.out; rwa [if_neg h0] at this);have w0 := IntWalk.u64_in ((q : Int) + 1) (by omega);have w1 := IntWalk.i64_in ((q : Int) + 1) (by omega);clear hq h0;go_wp2;go_ret;exact ⟨by rw [HV.out]; rfl, HX.out⟩
theorem cw (a b c : Int) (w : World) (ha0 : 0 <= a) (_ha : a <= 9223372036854775807) (hb0 : 0 <= b) (_hb : b <= 9223372036854775807) (_hc1 : 1 <= c) (_hc : c <= 9223372036854775807) (hq : a * b < 4611686018427387904 * c) :
  Calls Try.prog 98 #[.int .i64 a, .int .i64 b, .int .i64 c] w (fun e w' => e = .returned (.int .i64 (aj (a * b) c)) /\ Ext w w') := by
 obtain ⟨x, rfl⟩ := Int.eq_ofNat_of_zero_le ha0;obtain ⟨y, rfl⟩ := Int.eq_ofNat_of_zero_le hb0;obtain ⟨z, rfl⟩ := Int.eq_ofNat_of_zero_le (show 0 <= c by omega)
 have h := kt x y z w (by omega) (by omega) (by omega) (by omega) (by
  rw [Nat.div_lt_iff_lt_mul (by omega)];rw [<- Int.natCast_mul] at hq;omega)
 rw [Int.natCast_mul] at h;exact h
theorem i6 (a b c : Nat) (w : World) (_ha : a <= 9223372036854775807) (_hb : b <= 9223372036854775807) (_hc1 : 1 <= c) (_hc : c <= 9223372036854775807) (hq : a * b / c < 4611686018427387904) :
  Calls Try.prog 106 #[.int .i64 (a : Int), .int .i64 (b : Int), .int .i64 (c : Int)] w (fun e w' => e = .returned (.int .i64 ((a * b / c : Nat) : Int)) /\ Ext w w') := by
 have v1 := aX (a := (a : Int)) (by omega) (by omega);have v2 := aX (a := (b : Int)) (by omega) (by omega);have v3 := aX (a := (c : Int)) (by omega) (by omega);have g0 := xF ((a : Int) < 0) (by omega);obtain ⟨n, hn⟩ : ∃ n, a * b = n := ⟨_, rfl⟩;have hm := fA a b (by omega) (by omega) w;rw [hn] at hq hm |-;obtain ⟨hi, hhi⟩ : ∃ x, n / 18446744073709551616 = x := ⟨_, rfl⟩;obtain ⟨lo, hlo⟩ : ∃ x, n % 18446744073709551616 = x := ⟨_, rfl⟩;rw [hhi, hlo] at hm;have hj : hi * 18446744073709551616 + lo = n := by omega
 have hll : lo < 18446744073709551616 := by omega
 have hlt : hi < c := by
  have h1 : n < 4611686018427387904 * c := by rwa [Nat.div_lt_iff_lt_mul (by omega)] at hq
  omega
 have hd := fun w => fG hi lo c w hll (by omega) hlt
 simp only [hj] at hd;obtain ⟨q, hqe⟩ : ∃ q, n / c = q := ⟨_, rfl⟩;obtain ⟨r, hre⟩ : ∃ r, n % c = r := ⟨_, rfl⟩;rw [hqe] at hd hq |-;rw [hre] at hd;have HM := hid hm;have HD := hid hd;clear hn hhi hlo hj hd hm hqe hre;have w1 : IntKind.i64.wrap (q : Int) = (q : Int) := IntWalk.i64_in _ (by omega);have HX := hid (Ext.refl w);go_enter Try.func106, Try.ntmps106
 go_wp2_with fail
 refine HM.out.mono ?_;rintro e w1 ⟨rfl, rfl⟩
 go_wp2_with fail
 refine (HD.out _).mono ?_;rintro e w2 ⟨rfl, hX⟩;replace HX := xT HX hX;clear hX hq;go_wp2;go_ret;exact ⟨rfl, HX.out⟩
theorem eK (a b c : Int) (w : World) (ha0 : 0 <= a) (_ha : a <= 9223372036854775807) (hb0 : 0 <= b) (_hb : b <= 9223372036854775807) (_hc1 : 1 <= c) (_hc : c <= 9223372036854775807) (hq : a * b < 4611686018427387904 * c) :
  Calls Try.prog 106 #[.int .i64 a, .int .i64 b, .int .i64 c] w (fun e w' => e = .returned (.int .i64 (a * b / c)) /\ Ext w w') := by
 obtain ⟨x, rfl⟩ := Int.eq_ofNat_of_zero_le ha0;obtain ⟨y, rfl⟩ := Int.eq_ofNat_of_zero_le hb0;obtain ⟨z, rfl⟩ := Int.eq_ofNat_of_zero_le (show 0 <= c by omega)
 have h := i6 x y z w (by omega) (by omega) (by omega) (by omega) (by
  rw [Nat.div_lt_iff_lt_mul (by omega)];rw [<- Int.natCast_mul] at hq;omega)
 rw [Int.natCast_ediv, Int.natCast_mul] at h;exact h
theorem eM (a b c : Int) (w : World) (ha0 : 0 <= a) (ha : a <= 9223372036854775807) (hb0 : 0 <= b) (hb : b <= 9223372036854775807) (hc1 : 1 <= c) (hc : c <= 9223372036854775807) (hq : a * b < 4611686018427387904 * c) :
  Calls Try.prog 107 #[.int .i64 a, .int .i64 b, .int .i64 c] w (fun e w' => e = .returned (.int .i64 (aj (a * b) c)) /\ Ext w w') := by
 have g0 := xF (a < 0) (by omega);have hc := fun w => cw a b c w ha0 ha hb0 hb hc1 hc hq
 have HC := hid hc;have HX := hid (Ext.refl w);clear hc hq;go_enter Try.func107, Try.ntmps107
 go_wp2_with fail
 refine (HC.out _).mono ?_;rintro e w2 ⟨rfl, hX⟩;replace HX := xT HX hX;clear hX;go_wp2;go_ret;exact ⟨rfl, HX.out⟩
theorem bB (k s n : Int) (w : World) (_hk0 : -4611686018427387904 <= k) (_hk : k <= 4611686018427387904) (hs0 : 0 <= s) (_hs : s <= 4611686018427387904) (hn1 : 1 <= n) (hn : n <= 9223372036854775807) (hq : k * s < 4611686018427387904 * n) (hq2 : -k * s < 4611686018427387904 * n) :
  Calls Try.prog 106 #[.int .i64 k, .int .i64 s, .int .i64 n] w (fun e w' => e = .returned (.int .i64 (k * s / n)) /\ Ext w w') := by
 by_cases h0 : k < 0
 .
  have g0 := xD (k < 0) h0;have v1 := IntWalk.i64_in (-k) (by omega);have hc := fun w => eM (-k) s n w (by omega) (by omega) hs0 (by omega) hn1 hn hq2
  have he : k * s / n = -aj (-k * s) n := by unfold aj; rw [Int.neg_neg, Int.neg_mul, Int.neg_neg]
  obtain ⟨X, hX⟩ : ∃ X, aj (-k * s) n = X := ⟨_, rfl⟩;rw [hX] at he;simp only [hX] at hc
  have hb : -4611686018427387904 <= X /\ X <= 4611686018427387904 := by
   subst hX;have hm : 0 <= -k * s := Int.mul_nonneg (by omega) hs0;have h1 : 0 <= -k * s / n := Int.ediv_nonneg hm (by omega);have h2 : -k * s / n < 4611686018427387904 := Int.ediv_lt_of_lt_mul (by omega) hq2;unfold aj
   have h3 : -(-k * s) / n = -(-k * s / n) \/ -(-k * s) / n = -(-k * s / n) - 1 := by
    have e1 := Int.mul_ediv_add_emod (-k * s) n;have e2 := Int.emod_nonneg (-k * s) (show n ≠ 0 by omega);have e3 := Int.emod_lt_of_pos (-k * s) (show 0 < n by omega);generalize -k * s / n = q at *;generalize -k * s % n = r at *
    rcases (show r = 0 \/ 0 < r by omega) with h | h
    .
     left
     rw [<- e1, h, Int.add_zero, <- Int.mul_neg, Int.mul_ediv_cancel_left _ (by omega)]
    .
     right
     exact ((Int.ediv_emod_unique (a := -(-k * s)) (b := n) (r := n - r) (q := -q - 1) (by omega)).2 ⟨by rw [<- e1, Int.mul_sub, Int.mul_neg, Int.mul_one]; omega, by omega, by omega⟩).1
   rcases h3 with h3 | h3 <;> omega
  have v2 := IntWalk.i64_in (-X) (by omega);rw [he];have HC := hid hc;have HX := hid (Ext.refl w);clear hc hX hq hq2 he h0;go_enter Try.func106, Try.ntmps106
  go_wp2_with fail
  refine (HC.out _).mono ?_;rintro e w2 ⟨rfl, hX⟩;replace HX := xT HX hX;clear hX;go_wp2;go_ret;exact ⟨rfl, HX.out⟩
 .
  exact eK k s n w (by omega) (by omega) hs0 (by omega) hn1 hn hq
theorem bC (k s n : Int) (w : World) (_hk0 : -4611686018427387904 <= k) (_hk : k <= 4611686018427387904) (hs0 : 0 <= s) (_hs : s <= 4611686018427387904) (hn1 : 1 <= n) (hn : n <= 9223372036854775807) (hq : k * s < 4611686018427387904 * n) (hq2 : -k * s < 4611686018427387904 * n) :
  Calls Try.prog 107 #[.int .i64 k, .int .i64 s, .int .i64 n] w (fun e w' => e = .returned (.int .i64 (aj (k * s) n)) /\ Ext w w') := by
 by_cases h0 : k < 0
 .
  have g0 := xD (k < 0) h0;have v1 := IntWalk.i64_in (-k) (by omega);have hc := fun w => eK (-k) s n w (by omega) (by omega) hs0 (by omega) hn1 hn hq2
  have he : aj (k * s) n = -(-k * s / n) := by unfold aj; rw [Int.neg_mul]
  obtain ⟨X, hX⟩ : ∃ X, -k * s / n = X := ⟨_, rfl⟩;rw [hX] at he;simp only [hX] at hc
  have hb : -4611686018427387904 <= X /\ X <= 4611686018427387904 := by
   subst hX;have hm : 0 <= -k * s := Int.mul_nonneg (by omega) hs0;have h1 : 0 <= -k * s / n := Int.ediv_nonneg hm (by omega);have h2 : -k * s / n < 4611686018427387904 := Int.ediv_lt_of_lt_mul (by omega) hq2;exact ⟨by omega, by omega⟩
  have v2 := IntWalk.i64_in (-X) (by omega);rw [he];have HC := hid hc;have HX := hid (Ext.refl w);clear hc hX hq hq2 he h0;go_enter Try.func107, Try.ntmps107
  go_wp2_with fail
  refine (HC.out _).mono ?_;rintro e w2 ⟨rfl, hX⟩;replace HX := xT HX hX;clear hX;go_wp2;go_ret;exact ⟨rfl, HX.out⟩
 .
  exact eM k s n w (by omega) (by omega) hs0 (by omega) hn1 hn hq
theorem bn {a b A B : Int} (_h1 : -A <= a) (_h2 : a <= A) (_h3 : -B <= b) (_h4 : b <= B) : -(A * B) <= a * b /\ a * b <= A * B := by
 have hA : 0 <= A := by omega
 have hB : 0 <= B := by omega
 have k1 : (A - a) * (B - b) >= 0 := Int.mul_nonneg (by omega) (by omega);have k2 : (A + a) * (B + b) >= 0 := Int.mul_nonneg (by omega) (by omega);have k3 : (A - a) * (B + b) >= 0 := Int.mul_nonneg (by omega) (by omega);have k4 : (A + a) * (B - b) >= 0 := Int.mul_nonneg (by omega) (by omega);constructor <;> grind
/-- Hamilton's product. -/
def ah (p q : Nat -> Int) : Nat -> Int
 | 0 => p 0 * q 0 - p 1 * q 1 - p 2 * q 2 - p 3 * q 3
 | 1 => p 0 * q 1 + p 1 * q 0 + p 2 * q 3 - p 3 * q 2
 | 2 => p 0 * q 2 - p 1 * q 3 + p 2 * q 0 + p 3 * q 1
 | _ => p 0 * q 3 + p 1 * q 2 - p 2 * q 1 + p 3 * q 0
theorem pm (ga : Nat) (a0 a1 a2 a3 : Int) (w : World) (c0 : w.cell? ⟨ga, 0, none⟩ = some (.int .i64 (a0))) (c1 : w.cell? ⟨ga, 1, none⟩ = some (.int .i64 (a1))) (c2 : w.cell? ⟨ga, 2, none⟩ = some (.int .i64 (a2))) (c3 : w.cell? ⟨ga, 3, none⟩ = some (.int .i64 (a3))) : aS Try.prog Try.f105 1 12 21 w [13, 14, 15, 16, 17, 18, 19, 20, 5, 6, 7, 8] [.c (.pointer (some ⟨ga, 0, none⟩)), .c (.int .i64 (a0)), .c (.pointer (some ⟨ga, 1, none⟩)), .c (.int .i64 (a1)), .c (.pointer (some ⟨ga, 2, none⟩)), .c (.int .i64 (a2)), .c (.pointer (some ⟨ga, 3, none⟩)), .c (.int .i64 (a3)), .c (.int .i64 (a0)), .c (.int .i64 (a1)), .c (.int .i64 (a2)), .c (.int .i64 (a3))] [(2, .pointer (some ⟨ga, 0, none⟩))] := by
 refine aT [[], [0], [], [2], [], [4], [], [6], [1], [3], [5], [7]] (by kernel_rfl) (by kernel_rfl) rfl trivial ?_;simp only [ae, Try.f105, ab, Option.bind_some, Nat.reduceBEq, if_true, if_false, Bool.false_eq_true, Option.getD_some];simp only [List.take_succ_cons, List.take_zero]
 repeat' first | refine ⟨?_, ?_⟩ | fail
 all_goals first | (intro us W b hJ K hK0 hK Qz; simp only [aO, ay, aB, List.getD_cons_succ, List.getD_cons_zero]) | exact True.intro
 all_goals try (intros; have q0 := Ext.cell hJ c0; have q1 := Ext.cell hJ c1; have q2 := Ext.cell hJ c2; have q3 := Ext.cell hJ c3; go_simp; exact hK0 _ rfl)
theorem pn (gb : Nat) (b0 b1 b2 b3 : Int) (w : World) (c0 : w.cell? ⟨gb, 0, none⟩ = some (.int .i64 (b0))) (c1 : w.cell? ⟨gb, 1, none⟩ = some (.int .i64 (b1))) (c2 : w.cell? ⟨gb, 2, none⟩ = some (.int .i64 (b2))) (c3 : w.cell? ⟨gb, 3, none⟩ = some (.int .i64 (b3))) : aS Try.prog Try.f105 2 12 29 w [21, 22, 23, 24, 25, 26, 27, 28, 9, 10, 11, 12] [.c (.pointer (some ⟨gb, 0, none⟩)), .c (.int .i64 (b0)), .c (.pointer (some ⟨gb, 1, none⟩)), .c (.int .i64 (b1)), .c (.pointer (some ⟨gb, 2, none⟩)), .c (.int .i64 (b2)), .c (.pointer (some ⟨gb, 3, none⟩)), .c (.int .i64 (b3)), .c (.int .i64 (b0)), .c (.int .i64 (b1)), .c (.int .i64 (b2)), .c (.int .i64 (b3))] [(3, .pointer (some ⟨gb, 0, none⟩))] := by
 refine aT [[], [0], [], [2], [], [4], [], [6], [1], [3], [5], [7]] (by kernel_rfl) (by kernel_rfl) rfl trivial ?_;simp only [ae, Try.f105, ab, Option.bind_some, Nat.reduceBEq, if_true, if_false, Bool.false_eq_true, Option.getD_some];simp only [List.take_succ_cons, List.take_zero]
 repeat' first | refine ⟨?_, ?_⟩ | fail
 all_goals first | (intro us W b hJ K hK0 hK Qz; simp only [aO, ay, aB, List.getD_cons_succ, List.getD_cons_zero]) | exact True.intro
 all_goals try (intros; have q0 := Ext.cell hJ c0; have q1 := Ext.cell hJ c1; have q2 := Ext.cell hJ c2; have q3 := Ext.cell hJ c3; go_simp; exact hK0 _ rfl)
theorem ku (a0 a1 a2 a3 b0 b1 b2 b3 : Int) (w : World) (ha0 : -1000 <= a0 /\ a0 <= 1000) (ha1 : -1000 <= a1 /\ a1 <= 1000) (ha2 : -1000 <= a2 /\ a2 <= 1000) (ha3 : -1000 <= a3 /\ a3 <= 1000) (hb0 : -1000 <= b0 /\ b0 <= 1000) (hb1 : -1000 <= b1 /\ b1 <= 1000) (hb2 : -1000 <= b2 /\ b2 <= 1000) (hb3 : -1000 <= b3 /\ b3 <= 1000) :
  Calls Try.prog 105 #[.agg #[.int .i64 (a0), .int .i64 (a1), .int .i64 (a2), .int .i64 (a3)], .agg #[.int .i64 (b0), .int .i64 (b1), .int .i64 (b2), .int .i64 (b3)]] w (fun e w' => e = .returned (.agg #[.int .i64 (a0 * b0 - a1 * b1 - a2 * b2 - a3 * b3), .int .i64 (a0 * b1 + a1 * b0 + a2 * b3 - a3 * b2), .int .i64 (a0 * b2 - a1 * b3 + a2 * b0 + a3 * b1), .int .i64 (a0 * b3 + a1 * b2 - a2 * b1 + a3 * b0)]) /\ Ext w w') := by
 have m00 := bn (A := 1000) (B := 1000) ha0.1 ha0.2 hb0.1 hb0.2;have m01 := bn (A := 1000) (B := 1000) ha0.1 ha0.2 hb1.1 hb1.2;have m02 := bn (A := 1000) (B := 1000) ha0.1 ha0.2 hb2.1 hb2.2;have m03 := bn (A := 1000) (B := 1000) ha0.1 ha0.2 hb3.1 hb3.2;have m10 := bn (A := 1000) (B := 1000) ha1.1 ha1.2 hb0.1 hb0.2;have m11 := bn (A := 1000) (B := 1000) ha1.1 ha1.2 hb1.1 hb1.2;have m12 := bn (A := 1000) (B := 1000) ha1.1 ha1.2 hb2.1 hb2.2;have m13 := bn (A := 1000) (B := 1000) ha1.1 ha1.2 hb3.1 hb3.2;have m20 := bn (A := 1000) (B := 1000) ha2.1 ha2.2 hb0.1 hb0.2;have m21 := bn (A := 1000) (B := 1000) ha2.1 ha2.2 hb1.1 hb1.2;have m22 := bn (A := 1000) (B := 1000) ha2.1 ha2.2 hb2.1 hb2.2;have m23 := bn (A := 1000) (B := 1000) ha2.1 ha2.2 hb3.1 hb3.2;have m30 := bn (A := 1000) (B := 1000) ha3.1 ha3.2 hb0.1 hb0.2;have m31 := bn (A := 1000) (B := 1000) ha3.1 ha3.2 hb1.1 hb1.2;have m32 := bn (A := 1000) (B := 1000) ha3.1 ha3.2 hb2.1 hb2.2;have m33 := bn (A := 1000) (B := 1000) ha3.1 ha3.2 hb3.1 hb3.2;have w00 := IntWalk.i64_in (a0 * b0) (by omega);have w01 := IntWalk.i64_in (a0 * b1) (by omega);have w02 := IntWalk.i64_in (a0 * b2) (by omega);have w03 := IntWalk.i64_in (a0 * b3) (by omega);have w10 := IntWalk.i64_in (a1 * b0) (by omega);have w11 := IntWalk.i64_in (a1 * b1) (by omega);have w12 := IntWalk.i64_in (a1 * b2) (by omega);have w13 := IntWalk.i64_in (a1 * b3) (by omega);have w20 := IntWalk.i64_in (a2 * b0) (by omega);have w21 := IntWalk.i64_in (a2 * b1) (by omega);have w22 := IntWalk.i64_in (a2 * b2) (by omega);have w23 := IntWalk.i64_in (a2 * b3) (by omega);have w30 := IntWalk.i64_in (a3 * b0) (by omega);have w31 := IntWalk.i64_in (a3 * b1) (by omega);have w32 := IntWalk.i64_in (a3 * b2) (by omega);have w33 := IntWalk.i64_in (a3 * b3) (by omega);have v0 := IntWalk.i64_in (a0 * b0 - a1 * b1) (by omega);have v1 := IntWalk.i64_in (a0 * b0 - a1 * b1 - a2 * b2) (by omega);have v2 := IntWalk.i64_in (a0 * b0 - a1 * b1 - a2 * b2 - a3 * b3) (by omega);have v3 := IntWalk.i64_in (a0 * b1 + a1 * b0) (by omega);have v4 := IntWalk.i64_in (a0 * b1 + a1 * b0 + a2 * b3) (by omega);have v5 := IntWalk.i64_in (a0 * b1 + a1 * b0 + a2 * b3 - a3 * b2) (by omega);have v6 := IntWalk.i64_in (a0 * b2 - a1 * b3) (by omega)
 have v7 := IntWalk.i64_in (a0 * b2 - a1 * b3 + a2 * b0) (by omega);have v8 := IntWalk.i64_in (a0 * b2 - a1 * b3 + a2 * b0 + a3 * b1) (by omega);have v9 := IntWalk.i64_in (a0 * b3 + a1 * b2) (by omega);have v10 := IntWalk.i64_in (a0 * b3 + a1 * b2 - a2 * b1) (by omega);have v11 := IntWalk.i64_in (a0 * b3 + a1 * b2 - a2 * b1 + a3 * b0) (by omega);clear m00 m01 m02 m03 m10 m11 m12 m13 m20 m21 m22 m23 m30 m31 m32 m33;have HX := hid ((((Ext.refl w).alloc (.cells #[.int .i64 (a0), .int .i64 (a1), .int .i64 (a2), .int .i64 (a3)] 23)).alloc (.cells #[.int .i64 (b0), .int .i64 (b1), .int .i64 (b2), .int .i64 (b3)] 23)).alloc (.cells #[.int .i64 (0), .int .i64 (0), .int .i64 (0), .int .i64 (0)] 23));have HA : Hid (Blk (((w.alloc (.cells #[.int .i64 (a0), .int .i64 (a1), .int .i64 (a2), .int .i64 (a3)] 23)).alloc (.cells #[.int .i64 (b0), .int .i64 (b1), .int .i64 (b2), .int .i64 (b3)] 23)).alloc (.cells #[.int .i64 (0), .int .i64 (0), .int .i64 (0), .int .i64 (0)] 23)) w.heap.size 23 #[.int .i64 (a0), .int .i64 (a1), .int .i64 (a2), .int .i64 (a3)]) := hid (Blk.alloc (Blk.alloc (Blk.new w _ _) _) _);have HB : Hid (Blk (((w.alloc (.cells #[.int .i64 (a0), .int .i64 (a1), .int .i64 (a2), .int .i64 (a3)] 23)).alloc (.cells #[.int .i64 (b0), .int .i64 (b1), .int .i64 (b2), .int .i64 (b3)] 23)).alloc (.cells #[.int .i64 (0), .int .i64 (0), .int .i64 (0), .int .i64 (0)] 23)) (w.heap.size + 1) 23 #[.int .i64 (b0), .int .i64 (b1), .int .i64 (b2), .int .i64 (b3)]) := hid (Blk.alloc (Blk.at_ (by simp)) _);have HZ : Hid (Blk (((w.alloc (.cells #[.int .i64 (a0), .int .i64 (a1), .int .i64 (a2), .int .i64 (a3)] 23)).alloc (.cells #[.int .i64 (b0), .int .i64 (b1), .int .i64 (b2), .int .i64 (b3)] 23)).alloc (.cells #[.int .i64 (0), .int .i64 (0), .int .i64 (0), .int .i64 (0)] 23)) (w.heap.size + 2) 23 #[.int .i64 (0), .int .i64 (0), .int .i64 (0), .int .i64 (0)]) := hid (Blk.at_ (by simp));go_enter Try.func105, Try.ntmps105
 go_upto_region 1 with (fail)
 generalize ((w.alloc _).alloc _).alloc _ = w1 at HX HA HB HZ |-;refine pm w.heap.size a0 a1 a2 a3 w1 (HA.out.cell 0) (HA.out.cell 1) (HA.out.cell 2) (HA.out.cell 3) _ _ (by simp) ⟨rfl, trivial⟩ ?_;rintro w2 hX;simp only [EndK, ae, Try.f105, ab, Option.bind_some, Nat.reduceBEq, if_true, if_false, Bool.false_eq_true, Option.getD_some, List.drop_succ_cons, List.drop_zero];simp only [Act.put, List.setIfInBounds_toArray, List.set_cons_succ, List.set_cons_zero];replace HX := xT HX hX;replace HB := hid (HB.out.ext hX);replace HZ := hid (HZ.out.ext hX);clear hX HA
 go_upto_region 2 with (fail)
 refine pn (w.heap.size + 1) b0 b1 b2 b3 w2 (HB.out.cell 0) (HB.out.cell 1) (HB.out.cell 2) (HB.out.cell 3) _ _ (by simp) ⟨rfl, trivial⟩ ?_;rintro w3 hX;simp only [EndK, ae, Try.f105, ab, Option.bind_some, Nat.reduceBEq, if_true, if_false, Bool.false_eq_true, Option.getD_some, List.drop_succ_cons, List.drop_zero];simp only [Act.put, List.setIfInBounds_toArray, List.set_cons_succ, List.set_cons_zero];replace HX := xT HX hX;replace HZ := hid (HZ.out.ext hX);clear hX HB;obtain ⟨z0, z1, z2, z3⟩ := HZ.out.c4;have f0 := HZ.out.free 0;have f1 := HZ.out.free 1;have f2 := HZ.out.free 2;have f3 := HZ.out.free 3;go_wp2;refine bodyPost_ret (v := .agg #[.int .i64 (a0 * b0 - a1 * b1 - a2 * b2 - a3 * b3), .int .i64 (a0 * b1 + a1 * b0 + a2 * b3 - a3 * b2), .int .i64 (a0 * b2 - a1 * b3 + a2 * b0 + a3 * b1), .int .i64 (a0 * b3 + a1 * b2 - a2 * b1 + a3 * b0)]) (by simp [results, Try.results105, go_sem, *]) rfl ?_;exact ⟨rfl, (((HX.out.setCell (by simp only; omega) _).setCell (by simp only; omega) _).setCell (by simp only; omega) _).setCell (by simp only; omega) _⟩
theorem po (ga : Nat) (a0 a1 a2 a3 : Int) (w : World) (c0 : w.cell? ⟨ga, 0, none⟩ = some (.int .i64 (a0))) (c1 : w.cell? ⟨ga, 1, none⟩ = some (.int .i64 (a1))) (c2 : w.cell? ⟨ga, 2, none⟩ = some (.int .i64 (a2))) (c3 : w.cell? ⟨ga, 3, none⟩ = some (.int .i64 (a3))) : aS Try.prog Try.f104 1 12 17 w [9, 10, 11, 12, 13, 14, 15, 16, 4, 5, 6, 7] [.c (.pointer (some ⟨ga, 0, none⟩)), .c (.int .i64 (a0)), .c (.pointer (some ⟨ga, 1, none⟩)), .c (.int .i64 (a1)), .c (.pointer (some ⟨ga, 2, none⟩)), .c (.int .i64 (a2)), .c (.pointer (some ⟨ga, 3, none⟩)), .c (.int .i64 (a3)), .c (.int .i64 (a0)), .c (.int .i64 (a1)), .c (.int .i64 (a2)), .c (.int .i64 (a3))] [(1, .pointer (some ⟨ga, 0, none⟩))] := by
 refine aT [[], [0], [], [2], [], [4], [], [6], [1], [3], [5], [7]] (by kernel_rfl) (by kernel_rfl) rfl trivial ?_;simp only [ae, Try.f104, ab, Option.bind_some, Nat.reduceBEq, if_true, if_false, Bool.false_eq_true, Option.getD_some];simp only [List.take_succ_cons, List.take_zero]
 repeat' first | refine ⟨?_, ?_⟩ | fail
 all_goals first | (intro us W b hJ K hK0 hK Qz; simp only [aO, ay, aB, List.getD_cons_succ, List.getD_cons_zero]) | exact True.intro
 all_goals try (intros; have q0 := Ext.cell hJ c0; have q1 := Ext.cell hJ c1; have q2 := Ext.cell hJ c2; have q3 := Ext.cell hJ c3; go_simp; exact hK0 _ rfl)
theorem jx (a0 a1 a2 a3 : Int) (w : World) (ha0 : -4000000 <= a0 /\ a0 <= 4000000) (ha1 : -4000000 <= a1 /\ a1 <= 4000000) (ha2 : -4000000 <= a2 /\ a2 <= 4000000) (ha3 : -4000000 <= a3 /\ a3 <= 4000000) :
  Calls Try.prog 104 #[.agg #[.int .i64 (a0), .int .i64 (a1), .int .i64 (a2), .int .i64 (a3)]] w (fun e w' => e = .returned (.tuple #[.agg #[.int .i64 (-2 * (a1 * a3 + a0 * a2)), .int .i64 (2 * (a0 * a1 - a2 * a3)), .int .i64 (a1 * a1 + a2 * a2 - a0 * a0 - a3 * a3)], .int .i64 (a0 * a0 + a1 * a1 + a2 * a2 + a3 * a3)]) /\ Ext w w') := by
 have m13 := bn (A := 4000000) (B := 4000000) ha1.1 ha1.2 ha3.1 ha3.2;have m02 := bn (A := 4000000) (B := 4000000) ha0.1 ha0.2 ha2.1 ha2.2;have m01 := bn (A := 4000000) (B := 4000000) ha0.1 ha0.2 ha1.1 ha1.2;have m23 := bn (A := 4000000) (B := 4000000) ha2.1 ha2.2 ha3.1 ha3.2;have m00 := bn (A := 4000000) (B := 4000000) ha0.1 ha0.2 ha0.1 ha0.2;have m11 := bn (A := 4000000) (B := 4000000) ha1.1 ha1.2 ha1.1 ha1.2;have m22 := bn (A := 4000000) (B := 4000000) ha2.1 ha2.2 ha2.1 ha2.2;have m33 := bn (A := 4000000) (B := 4000000) ha3.1 ha3.2 ha3.1 ha3.2;have w13 := IntWalk.i64_in (a1 * a3) (by omega);have w02 := IntWalk.i64_in (a0 * a2) (by omega);have w01 := IntWalk.i64_in (a0 * a1) (by omega);have w23 := IntWalk.i64_in (a2 * a3) (by omega);have w00 := IntWalk.i64_in (a0 * a0) (by omega);have w11 := IntWalk.i64_in (a1 * a1) (by omega);have w22 := IntWalk.i64_in (a2 * a2) (by omega);have w33 := IntWalk.i64_in (a3 * a3) (by omega);have v0 := IntWalk.i64_in (a1 * a3 + a0 * a2) (by omega);have v1 := IntWalk.i64_in (-2 * (a1 * a3 + a0 * a2)) (by omega);have v2 := IntWalk.i64_in (a0 * a1 - a2 * a3) (by omega);have v3 := IntWalk.i64_in (2 * (a0 * a1 - a2 * a3)) (by omega);have v4 := IntWalk.i64_in (a1 * a1 + a2 * a2) (by omega);have v5 := IntWalk.i64_in (a1 * a1 + a2 * a2 - a0 * a0) (by omega);have v6 := IntWalk.i64_in (a1 * a1 + a2 * a2 - a0 * a0 - a3 * a3) (by omega);have v7 := IntWalk.i64_in (a0 * a0 + a1 * a1) (by omega);have v8 := IntWalk.i64_in (a0 * a0 + a1 * a1 + a2 * a2) (by omega);have v9 := IntWalk.i64_in (a0 * a0 + a1 * a1 + a2 * a2 + a3 * a3) (by omega);clear m13 m02 m01 m23 m00 m11 m22 m33;have HX := hid (((Ext.refl w).alloc (.cells #[.int .i64 (a0), .int .i64 (a1), .int .i64 (a2), .int .i64 (a3)] 23)).alloc (.cells #[.int .i64 (0), .int .i64 (0), .int .i64 (0)] 22));have HA : Hid (Blk ((w.alloc (.cells #[.int .i64 (a0), .int .i64 (a1), .int .i64 (a2), .int .i64 (a3)] 23)).alloc (.cells #[.int .i64 (0), .int .i64 (0), .int .i64 (0)] 22)) w.heap.size 23 #[.int .i64 (a0), .int .i64 (a1), .int .i64 (a2), .int .i64 (a3)]) := hid (Blk.alloc (Blk.new w _ _) _);have HZ : Hid (Blk ((w.alloc (.cells #[.int .i64 (a0), .int .i64 (a1), .int .i64 (a2), .int .i64 (a3)] 23)).alloc (.cells #[.int .i64 (0), .int .i64 (0), .int .i64 (0)] 22)) (w.heap.size + 1) 22 #[.int .i64 (0), .int .i64 (0), .int .i64 (0)]) := hid (Blk.at_ (by simp))
 go_enter Try.func104, Try.ntmps104
 go_upto_region 1 with (fail)
 generalize (w.alloc _).alloc _ = w1 at HX HA HZ |-;refine po w.heap.size a0 a1 a2 a3 w1 (HA.out.cell 0) (HA.out.cell 1) (HA.out.cell 2) (HA.out.cell 3) _ _ (by simp) ⟨rfl, trivial⟩ ?_;rintro w2 hX;simp only [EndK, ae, Try.f104, ab, Option.bind_some, Nat.reduceBEq, if_true, if_false, Bool.false_eq_true, Option.getD_some, List.drop_succ_cons, List.drop_zero];simp only [Act.put, List.setIfInBounds_toArray, List.set_cons_succ, List.set_cons_zero];replace HX := xT HX hX;replace HZ := hid (HZ.out.ext hX);clear hX HA
 go_upto_region 3 with (fail)
 have hX : Ext w2 (w2.alloc (.cells #[.int .i64 (-2 * (a1 * a3 + a0 * a2)), .int .i64 (2 * (a0 * a1 - a2 * a3)), .int .i64 (a1 * a1 + a2 * a2 - a0 * a0 - a3 * a3)] 22)) := (Ext.refl _).alloc _;have HK := hid (Blk.new w2 22 #[.int .i64 (-2 * (a1 * a3 + a0 * a2)), .int .i64 (2 * (a0 * a1 - a2 * a3)), .int .i64 (a1 * a1 + a2 * a2 - a0 * a0 - a3 * a3)]);replace HX := xT HX hX;replace HZ := hid (HZ.out.ext hX);clear hX;generalize w2.heap.size = gk at HK |-;generalize w2.alloc _ = w3 at HX HZ HK |-;obtain ⟨k0, k1, k2⟩ := HK.out.c3;obtain ⟨z0, z1, z2⟩ := HZ.out.c3;have f0 := HZ.out.free 0;have f1 := HZ.out.free 1;have f2 := HZ.out.free 2;go_wp2;refine bodyPost_ret (v := .tuple #[.agg #[.int .i64 (-2 * (a1 * a3 + a0 * a2)), .int .i64 (2 * (a0 * a1 - a2 * a3)), .int .i64 (a1 * a1 + a2 * a2 - a0 * a0 - a3 * a3)], .int .i64 (a0 * a0 + a1 * a1 + a2 * a2 + a3 * a3)]) (by simp [results, Try.results104, go_sem, *]) rfl ?_;exact ⟨rfl, ((HX.out.setCell (by simp only; omega) _).setCell (by simp only; omega) _).setCell (by simp only; omega) _⟩
/-- The cells of a pose, as far as its places are set. -/
def fX (lo hi : Nat -> Int) (a b c d e : Int) : Nat -> Array Value
 | 0 => #[.int .i64 0, .int .i64 0, .int .i64 0, .int .i64 0, .int .i64 0, .int .i64 0, .int .i64 a, .int .i64 b, .int .i64 c, .int .i64 d, .int .i64 e]
 | 1 => #[.int .i64 (lo 0), .int .i64 (hi 0), .int .i64 0, .int .i64 0, .int .i64 0, .int .i64 0, .int .i64 a, .int .i64 b, .int .i64 c, .int .i64 d, .int .i64 e]
 | 2 => #[.int .i64 (lo 0), .int .i64 (hi 0), .int .i64 (lo 1), .int .i64 (hi 1), .int .i64 0, .int .i64 0, .int .i64 a, .int .i64 b, .int .i64 c, .int .i64 d, .int .i64 e]
 | _ => #[.int .i64 (lo 0), .int .i64 (hi 0), .int .i64 (lo 1), .int .i64 (hi 1), .int .i64 (lo 2), .int .i64 (hi 2), .int .i64 a, .int .i64 b, .int .i64 c, .int .i64 d, .int .i64 e]
/-- A pose. -/
def dZ (lo hi q : Nat -> Int) (k : Int) : Value := .agg (fX lo hi (q 0) (q 1) (q 2) (q 3) k 3)
theorem Fx.p_range {f : Fx} (h : f.ok = true) {k : Nat} (hk : k < 3) : -134217728 <= f.p k /\ f.p k <= 134217728 := by
 have h1 := au.1 (co.1 h).1
 match k, hk with
 | 0, _ => exact h1 _ (by simp)
 | 1, _ => exact h1 _ (by simp)
 | 2, _ => exact h1 _ (by simp)
theorem Fx.e_range {f : Fx} (h : f.ok = true) : 0 <= f.e /\ f.e <= 100000 := ag.1 (co.1 h).2.2.1
theorem Fx.k_range {f : Fx} (h : f.ok = true) : 0 <= f.k /\ f.k <= 1000000 := ag.1 (co.1 h).2.2.2.2
theorem Fx.q_ok {f : Fx} (h : f.ok = true) : bV 1000 f.q = true := (co.1 h).2.2.2.1
theorem hO (fa : Fx) (w : World) (hv : fa.ok = true) :
  Calls Try.prog 158 #[.agg #[.int .i64 (fa.t), .int .i64 (fa.p 0), .int .i64 (fa.p 1), .int .i64 (fa.p 2), .int .i64 (fa.e), .int .i64 (fa.q 0), .int .i64 (fa.q 1), .int .i64 (fa.q 2), .int .i64 (fa.q 3), .int .i64 (fa.k)]] w (fun e w' => e = .returned (dZ (fun i => fa.p i - fa.e) (fun i => fa.p i + fa.e) fa.q fa.k) /\ Ext w w') := by
 have he := Fx.e_range hv;have hp0 := Fx.p_range hv (k := 0) (by omega);have hp1 := Fx.p_range hv (k := 1) (by omega);have hp2 := Fx.p_range hv (k := 2) (by omega);have v0 := IntWalk.i64_in (fa.p 0 - fa.e) (by omega);have u0 := IntWalk.i64_in (fa.p 0 + fa.e) (by omega);have v1 := IntWalk.i64_in (fa.p 1 - fa.e) (by omega);have u1 := IntWalk.i64_in (fa.p 1 + fa.e) (by omega);have v2 := IntWalk.i64_in (fa.p 2 - fa.e) (by omega);have u2 := IntWalk.i64_in (fa.p 2 + fa.e) (by omega);clear he hp0 hp1 hp2 hv;obtain ⟨hXe, KF, KR⟩ := xB2 w 25 #[.int .i64 (fa.t), .int .i64 (fa.p 0), .int .i64 (fa.p 1), .int .i64 (fa.p 2), .int .i64 (fa.e), .int .i64 (fa.q 0), .int .i64 (fa.q 1), .int .i64 (fa.q 2), .int .i64 (fa.q 3), .int .i64 (fa.k)] 49 #[.int .i64 (0), .int .i64 (0), .int .i64 (0), .int .i64 (0), .int .i64 (0), .int .i64 (0), .int .i64 (0), .int .i64 (0), .int .i64 (0), .int .i64 (0), .int .i64 (0)];go_enter Try.func158, Try.ntmps158
 go_upto_region 1 with (fail)
 generalize ((w.alloc _).alloc _) = w1 at hXe KF KR |-;have HX := hid hXe;clear hXe;have cF0 : w1.cell? ⟨w.heap.size, 0, none⟩ = some (.int .i64 (fa.t)) := KF.out.cell 0;have cF1 : w1.cell? ⟨w.heap.size, 1, none⟩ = some (.int .i64 (fa.p 0)) := KF.out.cell 1;have cF2 : w1.cell? ⟨w.heap.size, 2, none⟩ = some (.int .i64 (fa.p 1)) := KF.out.cell 2;have cF3 : w1.cell? ⟨w.heap.size, 3, none⟩ = some (.int .i64 (fa.p 2)) := KF.out.cell 3;have cF4 : w1.cell? ⟨w.heap.size, 4, none⟩ = some (.int .i64 (fa.e)) := KF.out.cell 4;have cF5 : w1.cell? ⟨w.heap.size, 5, none⟩ = some (.int .i64 (fa.q 0)) := KF.out.cell 5;have cF6 : w1.cell? ⟨w.heap.size, 6, none⟩ = some (.int .i64 (fa.q 1)) := KF.out.cell 6;have cF7 : w1.cell? ⟨w.heap.size, 7, none⟩ = some (.int .i64 (fa.q 2)) := KF.out.cell 7;have cF8 : w1.cell? ⟨w.heap.size, 8, none⟩ = some (.int .i64 (fa.q 3)) := KF.out.cell 8;have cF9 : w1.cell? ⟨w.heap.size, 9, none⟩ = some (.int .i64 (fa.k)) := KF.out.cell 9
 go_upto_region 2 with (fail)
 clear cF0 cF1 cF2 cF3 cF4 cF5 cF6 cF7 cF8 cF9;obtain ⟨hXa, KL⟩ := xB1 w1 49 #[.int .i64 (0), .int .i64 (0), .int .i64 (0), .int .i64 (0), .int .i64 (0), .int .i64 (0), .int .i64 (fa.q 0), .int .i64 (fa.q 1), .int .i64 (fa.q 2), .int .i64 (fa.q 3), .int .i64 (fa.k)];have zF := KF.out.lt;have zR := KR.out.lt;have zg := HX.out.size;replace HX := xT HX hXa;replace KF := xE KF hXa;replace KR := xE KR hXa;generalize (w1.alloc _) = w2 at HX KF KR KL |-;clear hXa;have cF0 : w2.cell? ⟨w.heap.size, 0, none⟩ = some (.int .i64 (fa.t)) := KF.out.cell 0;have cF1 : w2.cell? ⟨w.heap.size, 1, none⟩ = some (.int .i64 (fa.p 0)) := KF.out.cell 1;have cF2 : w2.cell? ⟨w.heap.size, 2, none⟩ = some (.int .i64 (fa.p 1)) := KF.out.cell 2;have cF3 : w2.cell? ⟨w.heap.size, 3, none⟩ = some (.int .i64 (fa.p 2)) := KF.out.cell 3;have cF4 : w2.cell? ⟨w.heap.size, 4, none⟩ = some (.int .i64 (fa.e)) := KF.out.cell 4;have cF5 : w2.cell? ⟨w.heap.size, 5, none⟩ = some (.int .i64 (fa.q 0)) := KF.out.cell 5;have cF6 : w2.cell? ⟨w.heap.size, 6, none⟩ = some (.int .i64 (fa.q 1)) := KF.out.cell 6;have cF7 : w2.cell? ⟨w.heap.size, 7, none⟩ = some (.int .i64 (fa.q 2)) := KF.out.cell 7;have cF8 : w2.cell? ⟨w.heap.size, 8, none⟩ = some (.int .i64 (fa.q 3)) := KF.out.cell 8;have cF9 : w2.cell? ⟨w.heap.size, 9, none⟩ = some (.int .i64 (fa.k)) := KF.out.cell 9
 go_wp2_with fail
 clear cF0 cF1 cF2 cF3 cF4 cF5 cF6 cF7 cF8 cF9;obtain ⟨gl, hgl⟩ : ∃ g, w1.heap.size = g := ⟨_, rfl⟩;rw [hgl] at KL |-;have hl1 : w.heap.size + 1 < gl := by omega
 clear hgl zF zR zg
 go_loopg [13] 3 (fun fu iv W => ∃ k : Nat, fu = 3 - k /\ k <= 3 /\ iv = .int .i64 (k : Int) /\ Hid (Blk W w.heap.size 25 #[.int .i64 (fa.t), .int .i64 (fa.p 0), .int .i64 (fa.p 1), .int .i64 (fa.p 2), .int .i64 (fa.e), .int .i64 (fa.q 0), .int .i64 (fa.q 1), .int .i64 (fa.q 2), .int .i64 (fa.q 3), .int .i64 (fa.k)]) /\ Hid (Blk W (w.heap.size + 1) 49 #[.int .i64 (0), .int .i64 (0), .int .i64 (0), .int .i64 (0), .int .i64 (0), .int .i64 (0), .int .i64 (0), .int .i64 (0), .int .i64 (0), .int .i64 (0), .int .i64 (0)]) /\ Hid (Blk W gl 49 (fX (fun i => fa.p i - fa.e) (fun i => fa.p i + fa.e) (fa.q 0) (fa.q 1) (fa.q 2) (fa.q 3) fa.k k)) /\ Hid (Ext w W))
 case atStart => exact ⟨0, rfl, by omega, rfl, KF, KR, KL, HX⟩
 case round =>
  clear HX KF KR KL;obtain ⟨k, rfl, hk, rfl, KF, KR, KL, HX⟩ := hrel
  rcases (show k = 0 \/ k = 1 \/ k = 2 \/ k = 3 by omega) with rfl | rfl | rfl | rfl
  .
   replace KL : Hid (Blk wr gl 49 #[.int .i64 (0), .int .i64 (0), .int .i64 (0), .int .i64 (0), .int .i64 (0), .int .i64 (0), .int .i64 (fa.q 0), .int .i64 (fa.q 1), .int .i64 (fa.q 2), .int .i64 (fa.q 3), .int .i64 (fa.k)]) := KL;have ix : ∀ w : World, (Instr.index 22 (.agg #[.int .i64 (fa.p 0), .int .i64 (fa.p 1), .int .i64 (fa.p 2)]) (.int .i64 0)).run Try.prog w = .ok (.int .i64 (fa.p 0)) w := fun w => js fa.p (k := 0) (by decide) w
   obtain ⟨f0, f1, f2, f3, f4, f5, f6, f7, f8, f9⟩ := KF.out.c10;obtain ⟨l0, l1, l2, l3, l4, l5, l6, l7, l8, l9, l10⟩ := KL.out.c11;have lf0 := KL.out.free 0;have lf1 := KL.out.free 1
   go_upto_region 6 with (fail)
   clear f0 f1 f2 f3 f4 f5 f6 f7 f8 f9 l0 l1 l2 l3 l4 l5 l6 l7 l8 l9 l10 lf0 lf1;have hXs : Ext w ((wr.setCell ⟨gl, 0, none⟩ (.int .i64 (fa.p 0 - fa.e))).setCell ⟨gl, 1, none⟩ (.int .i64 (fa.p 0 + fa.e))) := ((HX.out.setCell (show w.heap.size <= gl by omega) _).setCell (show w.heap.size <= gl by omega) _);have hKF : Blk ((wr.setCell ⟨gl, 0, none⟩ (.int .i64 (fa.p 0 - fa.e))).setCell ⟨gl, 1, none⟩ (.int .i64 (fa.p 0 + fa.e))) w.heap.size 25 #[.int .i64 (fa.t), .int .i64 (fa.p 0), .int .i64 (fa.p 1), .int .i64 (fa.p 2), .int .i64 (fa.e), .int .i64 (fa.q 0), .int .i64 (fa.q 1), .int .i64 (fa.q 2), .int .i64 (fa.q 3), .int .i64 (fa.k)] := (Blk.far (Blk.far KF.out (show w.heap.size ≠ gl by omega) _) (show w.heap.size ≠ gl by omega) _);have hKR : Blk ((wr.setCell ⟨gl, 0, none⟩ (.int .i64 (fa.p 0 - fa.e))).setCell ⟨gl, 1, none⟩ (.int .i64 (fa.p 0 + fa.e))) (w.heap.size + 1) 49 #[.int .i64 (0), .int .i64 (0), .int .i64 (0), .int .i64 (0), .int .i64 (0), .int .i64 (0), .int .i64 (0), .int .i64 (0), .int .i64 (0), .int .i64 (0), .int .i64 (0)] := (Blk.far (Blk.far KR.out (show (w.heap.size + 1) ≠ gl by omega) _) (show (w.heap.size + 1) ≠ gl by omega) _);have hKL : Blk ((wr.setCell ⟨gl, 0, none⟩ (.int .i64 (fa.p 0 - fa.e))).setCell ⟨gl, 1, none⟩ (.int .i64 (fa.p 0 + fa.e))) gl 49 (fX (fun i => fa.p i - fa.e) (fun i => fa.p i + fa.e) (fa.q 0) (fa.q 1) (fa.q 2) (fa.q 3) fa.k 1) := (Blk.set (Blk.set KL.out 0 _) 1 _);generalize ((wr.setCell _ _).setCell _ _) = w3 at hXs hKF hKR hKL |-;clear HX KF KR KL;have HX := hid hXs;clear hXs;have KF := hid hKF;clear hKF;have KR := hid hKR;clear hKR;have KL := hid hKL;clear hKL;go_wp2;go_roundg (3 - 1)
   case rel => exact ⟨1, rfl, by omega, by go_num, KF, KR, KL, HX⟩
   case measure => omega
  .
   replace KL : Hid (Blk wr gl 49 #[.int .i64 (fa.p 0 - fa.e), .int .i64 (fa.p 0 + fa.e), .int .i64 (0), .int .i64 (0), .int .i64 (0), .int .i64 (0), .int .i64 (fa.q 0), .int .i64 (fa.q 1), .int .i64 (fa.q 2), .int .i64 (fa.q 3), .int .i64 (fa.k)]) := KL;have ix : ∀ w : World, (Instr.index 22 (.agg #[.int .i64 (fa.p 0), .int .i64 (fa.p 1), .int .i64 (fa.p 2)]) (.int .i64 1)).run Try.prog w = .ok (.int .i64 (fa.p 1)) w := fun w => js fa.p (k := 1) (by decide) w
   obtain ⟨f0, f1, f2, f3, f4, f5, f6, f7, f8, f9⟩ := KF.out.c10;obtain ⟨l0, l1, l2, l3, l4, l5, l6, l7, l8, l9, l10⟩ := KL.out.c11;have lf2 := KL.out.free 2;have lf3 := KL.out.free 3
   go_upto_region 6 with (fail)
   clear f0 f1 f2 f3 f4 f5 f6 f7 f8 f9 l0 l1 l2 l3 l4 l5 l6 l7 l8 l9 l10 lf2 lf3;have hXs : Ext w ((wr.setCell ⟨gl, 2, none⟩ (.int .i64 (fa.p 1 - fa.e))).setCell ⟨gl, 3, none⟩ (.int .i64 (fa.p 1 + fa.e))) := ((HX.out.setCell (show w.heap.size <= gl by omega) _).setCell (show w.heap.size <= gl by omega) _);have hKF : Blk ((wr.setCell ⟨gl, 2, none⟩ (.int .i64 (fa.p 1 - fa.e))).setCell ⟨gl, 3, none⟩ (.int .i64 (fa.p 1 + fa.e))) w.heap.size 25 #[.int .i64 (fa.t), .int .i64 (fa.p 0), .int .i64 (fa.p 1), .int .i64 (fa.p 2), .int .i64 (fa.e), .int .i64 (fa.q 0), .int .i64 (fa.q 1), .int .i64 (fa.q 2), .int .i64 (fa.q 3), .int .i64 (fa.k)] := (Blk.far (Blk.far KF.out (show w.heap.size ≠ gl by omega) _) (show w.heap.size ≠ gl by omega) _);have hKR : Blk ((wr.setCell ⟨gl, 2, none⟩ (.int .i64 (fa.p 1 - fa.e))).setCell ⟨gl, 3, none⟩ (.int .i64 (fa.p 1 + fa.e))) (w.heap.size + 1) 49 #[.int .i64 (0), .int .i64 (0), .int .i64 (0), .int .i64 (0), .int .i64 (0), .int .i64 (0), .int .i64 (0), .int .i64 (0), .int .i64 (0), .int .i64 (0), .int .i64 (0)] := (Blk.far (Blk.far KR.out (show (w.heap.size + 1) ≠ gl by omega) _) (show (w.heap.size + 1) ≠ gl by omega) _);have hKL : Blk ((wr.setCell ⟨gl, 2, none⟩ (.int .i64 (fa.p 1 - fa.e))).setCell ⟨gl, 3, none⟩ (.int .i64 (fa.p 1 + fa.e))) gl 49 (fX (fun i => fa.p i - fa.e) (fun i => fa.p i + fa.e) (fa.q 0) (fa.q 1) (fa.q 2) (fa.q 3) fa.k 2) := (Blk.set (Blk.set KL.out 2 _) 3 _);generalize ((wr.setCell _ _).setCell _ _) = w3 at hXs hKF hKR hKL |-;clear HX KF KR KL;have HX := hid hXs;clear hXs;have KF := hid hKF;clear hKF;have KR := hid hKR;clear hKR;have KL := hid hKL;clear hKL;go_wp2;go_roundg (3 - 2)
   case rel => exact ⟨2, rfl, by omega, by go_num, KF, KR, KL, HX⟩
   case measure => omega
  .
   replace KL : Hid (Blk wr gl 49 #[.int .i64 (fa.p 0 - fa.e), .int .i64 (fa.p 0 + fa.e), .int .i64 (fa.p 1 - fa.e), .int .i64 (fa.p 1 + fa.e), .int .i64 (0), .int .i64 (0), .int .i64 (fa.q 0), .int .i64 (fa.q 1), .int .i64 (fa.q 2), .int .i64 (fa.q 3), .int .i64 (fa.k)]) := KL;have ix : ∀ w : World, (Instr.index 22 (.agg #[.int .i64 (fa.p 0), .int .i64 (fa.p 1), .int .i64 (fa.p 2)]) (.int .i64 2)).run Try.prog w = .ok (.int .i64 (fa.p 2)) w := fun w => js fa.p (k := 2) (by decide) w
   obtain ⟨f0, f1, f2, f3, f4, f5, f6, f7, f8, f9⟩ := KF.out.c10;obtain ⟨l0, l1, l2, l3, l4, l5, l6, l7, l8, l9, l10⟩ := KL.out.c11;have lf4 := KL.out.free 4;have lf5 := KL.out.free 5
   go_upto_region 6 with (fail)
   clear f0 f1 f2 f3 f4 f5 f6 f7 f8 f9 l0 l1 l2 l3 l4 l5 l6 l7 l8 l9 l10 lf4 lf5;have hXs : Ext w ((wr.setCell ⟨gl, 4, none⟩ (.int .i64 (fa.p 2 - fa.e))).setCell ⟨gl, 5, none⟩ (.int .i64 (fa.p 2 + fa.e))) := ((HX.out.setCell (show w.heap.size <= gl by omega) _).setCell (show w.heap.size <= gl by omega) _);have hKF : Blk ((wr.setCell ⟨gl, 4, none⟩ (.int .i64 (fa.p 2 - fa.e))).setCell ⟨gl, 5, none⟩ (.int .i64 (fa.p 2 + fa.e))) w.heap.size 25 #[.int .i64 (fa.t), .int .i64 (fa.p 0), .int .i64 (fa.p 1), .int .i64 (fa.p 2), .int .i64 (fa.e), .int .i64 (fa.q 0), .int .i64 (fa.q 1), .int .i64 (fa.q 2), .int .i64 (fa.q 3), .int .i64 (fa.k)] := (Blk.far (Blk.far KF.out (show w.heap.size ≠ gl by omega) _) (show w.heap.size ≠ gl by omega) _);have hKR : Blk ((wr.setCell ⟨gl, 4, none⟩ (.int .i64 (fa.p 2 - fa.e))).setCell ⟨gl, 5, none⟩ (.int .i64 (fa.p 2 + fa.e))) (w.heap.size + 1) 49 #[.int .i64 (0), .int .i64 (0), .int .i64 (0), .int .i64 (0), .int .i64 (0), .int .i64 (0), .int .i64 (0), .int .i64 (0), .int .i64 (0), .int .i64 (0), .int .i64 (0)] := (Blk.far (Blk.far KR.out (show (w.heap.size + 1) ≠ gl by omega) _) (show (w.heap.size + 1) ≠ gl by omega) _);have hKL : Blk ((wr.setCell ⟨gl, 4, none⟩ (.int .i64 (fa.p 2 - fa.e))).setCell ⟨gl, 5, none⟩ (.int .i64 (fa.p 2 + fa.e))) gl 49 (fX (fun i => fa.p i - fa.e) (fun i => fa.p i + fa.e) (fa.q 0) (fa.q 1) (fa.q 2) (fa.q 3) fa.k 3) := (Blk.set (Blk.set KL.out 4 _) 5 _);generalize ((wr.setCell _ _).setCell _ _) = w3 at hXs hKF hKR hKL |-;clear HX KF KR KL;have HX := hid hXs;clear hXs;have KF := hid hKF;clear hKF;have KR := hid hKR;clear hKR;have KL := hid hKL;clear hKL;go_wp2;go_roundg (3 - 3)
   case rel => exact ⟨3, rfl, by omega, by go_num, KF, KR, KL, HX⟩
   case measure => omega
  .
   replace KL : Hid (Blk wr gl 49 #[.int .i64 (fa.p 0 - fa.e), .int .i64 (fa.p 0 + fa.e), .int .i64 (fa.p 1 - fa.e), .int .i64 (fa.p 1 + fa.e), .int .i64 (fa.p 2 - fa.e), .int .i64 (fa.p 2 + fa.e), .int .i64 (fa.q 0), .int .i64 (fa.q 1), .int .i64 (fa.q 2), .int .i64 (fa.q 3), .int .i64 (fa.k)]) := KL;obtain ⟨l0, l1, l2, l3, l4, l5, l6, l7, l8, l9, l10⟩ := KL.out.c11;obtain ⟨r0, r1, r2, r3, r4, r5, r6, r7, r8, r9, r10⟩ := KR.out.c11;have rf0 := KR.out.free 0;have rf1 := KR.out.free 1;have rf2 := KR.out.free 2;have rf3 := KR.out.free 3;have rf4 := KR.out.free 4;have rf5 := KR.out.free 5;have rf6 := KR.out.free 6;have rf7 := KR.out.free 7;have rf8 := KR.out.free 8;have rf9 := KR.out.free 9;have rf10 := KR.out.free 10;go_wp2;refine bodyPost_ret (v := dZ (fun i => fa.p i - fa.e) (fun i => fa.p i + fa.e) fa.q fa.k) (by simp [results, dZ, fX, Try.results158, go_sem, *]) rfl ?_;exact ⟨rfl, (Ext.setCell (Ext.setCell (Ext.setCell (Ext.setCell (Ext.setCell (Ext.setCell (Ext.setCell (Ext.setCell (Ext.setCell (Ext.setCell (Ext.setCell HX.out (by simp only; omega) _) (by simp only; omega) _) (by simp only; omega) _) (by simp only; omega) _) (by simp only; omega) _) (by simp only; omega) _) (by simp only; omega) _) (by simp only; omega) _) (by simp only; omega) _) (by simp only; omega) _) (by simp only; omega) _)⟩
end Go.Proofs.Ytikhlcgnlbinfaa
