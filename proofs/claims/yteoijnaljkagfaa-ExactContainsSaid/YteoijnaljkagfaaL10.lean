/- Walks: bits.Mul64, product, Times of package exact (program). -/
import Derived.Test.YteoijnaljkagfaaL5
import Derived.Test.YteoijnaljkagfaaWk2
import Derived.Shelf.Bits.Mul64
namespace Go.Proofs.Yteoijnaljkagfaa
open Go.RowKit

set_option maxHeartbeats 1000000 in
theorem mul64_nat (x y : Nat) (hx : x < 18446744073709551616) (hy : y < 18446744073709551616) (w : World) :
    Calls Try.prog 130 #[.int .u64 x, .int .u64 y] w fun e w' => e = .returned (.tuple #[.int .u64 ((x * y / 18446744073709551616 : Nat) : Int), .int .u64 ((x * y % 18446744073709551616 : Nat) : Int)]) ∧ w' = w := by
  obtain ⟨bd, bt, bw, hhi⟩ := Lib.mul64_hi x y hx hy
  have ba := Lib.half_mul_le (a := x / 4294967296) (b := y / 4294967296) (by omega) (by omega)
  have bb := Lib.half_mul_le (a := x / 4294967296) (b := y % 4294967296) (by omega) (by omega)
  have bc := Lib.half_mul_le (a := x % 4294967296) (b := y / 4294967296) (by omega) (by omega)
  have ba' : x / 4294967296 * (y / 4294967296) < 18446744073709551616 := by omega
  have bb' : x / 4294967296 * (y % 4294967296) < 18446744073709551616 := by omega
  have bc' : x % 4294967296 * (y / 4294967296) < 18446744073709551616 := by omega
  have bh1 : x / 4294967296 * (y / 4294967296) + (x / 4294967296 * (y % 4294967296) + x % 4294967296 * (y % 4294967296) / 4294967296) / 4294967296 < 18446744073709551616 := by omega
  have bh : x / 4294967296 * (y / 4294967296) + (x / 4294967296 * (y % 4294967296) + x % 4294967296 * (y % 4294967296) / 4294967296) / 4294967296 + ((x / 4294967296 * (y % 4294967296) + x % 4294967296 * (y % 4294967296) / 4294967296) % 4294967296 + x % 4294967296 * (y / 4294967296)) / 4294967296 < 18446744073709551616 := by omega
  go_enter Try.func130, Try.ntmps130
  go_wp2
  simp only [Mul64.maskN x hx, Mul64.maskN y hy, Mul64.divN, Mul64.mulN, Mul64.addN, Mul64.wrapN _ bd, Mul64.wrapN _ bb', Mul64.wrapN _ bt, Mul64.maskN _ bt, Mul64.wrapN _ bc', Mul64.wrapN _ bw, Mul64.wrapN _ ba', Mul64.wrapN _ bh1, Mul64.wrapN _ bh, Mul64.wrapM (x * y)]
  rw [hhi]
  go_ret2
  exact ⟨rfl, rfl⟩
theorem mul64_small (X Y : Int) (hX : 0 ≤ X ∧ X ≤ 1152921504606846976) (hY : 0 ≤ Y ∧ Y ≤ 1152921504606846976) (h : X * Y ≤ 1152921504606846976) (w : World) :
    Calls Try.prog 130 #[.int .u64 X, .int .u64 Y] w fun e w' => e = .returned (.tuple #[.int .u64 0, .int .u64 (X * Y)]) ∧ w = w' := by
  have c := mul64_nat X.toNat Y.toNat (by omega) (by omega) w
  have e1 : ((X.toNat : Nat) : Int) = X := by omega
  have e2 : ((Y.toNat : Nat) : Int) = Y := by omega
  have e3 : ((X.toNat * Y.toNat : Nat) : Int) = X * Y := by rw [Int.natCast_mul, e1, e2]
  have e4 : X.toNat * Y.toNat / 18446744073709551616 = 0 := by omega
  have e5 : X.toNat * Y.toNat % 18446744073709551616 = X.toNat * Y.toNat := by omega
  rw [e1, e2, e4, e5, e3] at c
  exact c.mono fun _ _ ⟨h1, h2⟩ => ⟨h1, h2.symm⟩
theorem mul64_big (X Y : Int) (hX : 0 ≤ X ∧ X ≤ 1152921504606846976) (hY : 0 ≤ Y ∧ Y ≤ 1152921504606846976) (h : 1152921504606846976 < X * Y) (w : World) :
    Calls Try.prog 130 #[.int .u64 X, .int .u64 Y] w fun e w' => ∃ hi lo : Int, e = .returned (.tuple #[.int .u64 hi, .int .u64 lo]) ∧ (0 < hi ∨ (hi = 0 ∧ 1152921504606846976 < lo)) ∧ w = w' := by
  have c := mul64_nat X.toNat Y.toNat (by omega) (by omega) w
  have e1 : ((X.toNat : Nat) : Int) = X := by omega
  have e2 : ((Y.toNat : Nat) : Int) = Y := by omega
  have e3 : ((X.toNat * Y.toNat : Nat) : Int) = X * Y := by rw [Int.natCast_mul, e1, e2]
  rw [e1, e2] at c
  refine c.mono fun _ _ ⟨h1, h2⟩ => ⟨_, _, h1, ?_, h2.symm⟩
  omega

/-- A number within a span's limits. -/
def inN (n : Int) : Bool := decide (-1152921504606846976 ≤ n ∧ n ≤ 1152921504606846976)
theorem inN_yes {n : Int} (h : inN n = true) : -1152921504606846976 ≤ n ∧ n ≤ 1152921504606846976 := by simpa [inN] using h
theorem inN_no {n : Int} (h : inN n = false) : n < -1152921504606846976 ∨ 1152921504606846976 < n := by
  simp only [inN, decide_eq_false_iff_not] at h; omega
theorem abs_mul {x y : Int} (hx : x < 0 ∨ 0 ≤ x) (hy : y < 0 ∨ 0 ≤ y) : max x (-x) * max y (-y) = if (x < 0) = (y < 0) then x * y else -(x * y) := by
  rcases hx with hx | hx <;> rcases hy with hy | hy
  · rw [show max x (-x) = -x by omega, show max y (-y) = -y by omega, Int.neg_mul_neg]; simp [hx, hy]
  · rw [show max x (-x) = -x by omega, show max y (-y) = y by omega, Int.neg_mul]; simp [hx, show ¬ y < 0 by omega]
  · rw [show max x (-x) = x by omega, show max y (-y) = -y by omega, Int.mul_neg]; simp [hy, show ¬ x < 0 by omega]
  · rw [show max x (-x) = x by omega, show max y (-y) = y by omega]; simp [show ¬ x < 0 by omega, show ¬ y < 0 by omega]

set_option maxHeartbeats 2000000 in
theorem product_any (x y : Int) (w : World) (x0 : -1152921504606846976 ≤ x) (x1 : x ≤ 1152921504606846976) (y0 : -1152921504606846976 ≤ y) (y1 : y ≤ 1152921504606846976) :
    Calls Try.prog 103 #[.int .i64 x, .int .i64 y] w fun e w' => e = .returned (.tuple #[.int .i64 (bif inN (x * y) then x * y else 0), .bool (inN (x * y))]) ∧ w = w' := by
  have hab := abs_mul (x := x) (y := y) (by omega) (by omega)
  have hX : 0 ≤ max x (-x) ∧ max x (-x) ≤ 1152921504606846976 := by omega
  have hY : 0 ≤ max y (-y) ∧ max y (-y) ≤ 1152921504606846976 := by omega
  have hpos : 0 ≤ max x (-x) * max y (-y) := Int.mul_nonneg hX.1 hY.1
  have HX := Lib.hid hX
  have HY := Lib.hid hY
  obtain ⟨mx0, mx1⟩ := hX
  obtain ⟨my0, my1⟩ := hY
  obtain ⟨pxy, hpxy⟩ : ∃ q, x * y = q := ⟨_, rfl⟩
  rw [hpxy] at hab ⊢
  rcases hN : inN pxy with _ | _
  · have hN' := inN_no hN
    have hbig : 1152921504606846976 < max x (-x) * max y (-y) := by rw [hab]; rw [hab] at hpos; split at hpos <;> simp_all <;> omega
    have HB := Lib.hid hbig
    clear hab hpos hN hN' hpxy hbig
    rcases (show x < 0 ∨ ¬ x < 0 by omega) with hx | hx <;> rcases (show y < 0 ∨ ¬ y < 0 by omega) with hy | hy
    all_goals
      go_enter Try.func103, Try.ntmps103
      go_wp2_with fail
      refine (mul64_big _ _ HX.out HY.out HB.out _).mono ?_
      rintro e _ ⟨hi, lo, rfl, hor, rfl⟩
      rcases hor with hor | ⟨rfl, hor⟩
      all_goals
        go_wp2
        go_ret2
        exact ⟨rfl, rfl⟩
  · have hN' := inN_yes hN
    have hsm : max x (-x) * max y (-y) ≤ 1152921504606846976 := by rw [hab]; split <;> omega
    obtain ⟨n0, n1⟩ := hN'
    have HS := Lib.hid hsm
    rcases (show x < 0 ∨ ¬ x < 0 by omega) with hx | hx <;> rcases (show y < 0 ∨ ¬ y < 0 by omega) with hy | hy
    all_goals
      simp only [hx, hy, if_true, if_false, eq_self, eq_iff_iff, false_iff, iff_false, not_true_eq_false, not_false_eq_true] at hab
      have HAB := Lib.hid hab
      have HQ := Lib.hid hab
      have hp0 : 0 ≤ max x (-x) * max y (-y) := hpos
      clear hab hpos hN hpxy hsm
      go_enter Try.func103, Try.ntmps103
      go_wp2_with fail
      refine (mul64_small _ _ HX.out HY.out HS.out _).mono ?_
      rintro e _ ⟨rfl, rfl⟩
      rw [HAB.out] at hp0 ⊢
      go_wp2
      go_ret2
      exact ⟨ret_ib (by simp) rfl, rfl⟩

/-- The products of the ends. -/
def tp (a b c d : Int) (n : Nat) : Int := if n = 0 then a * c else if n = 1 then a * d else if n = 2 then b * c else b * d
def tlo (a b c d : Int) : Nat → Int
  | 0 => 1152921504606846976
  | n + 1 => min (tlo a b c d n) (tp a b c d n)
def thi (a b c d : Int) : Nat → Int
  | 0 => -1152921504606846976
  | n + 1 => max (thi a b c d n) (tp a b c d n)
def tok (a b c d : Int) : Bool := inN (tp a b c d 0) && inN (tp a b c d 1) && inN (tp a b c d 2) && inN (tp a b c d 3)
def tokN (a b c d : Int) (n : Nat) : Prop := ∀ k, k < n → inN (tp a b c d k) = true
theorem tok_yes {a b c d : Int} (h : tokN a b c d 4) : tok a b c d = true := by
  simp [tok, h 0 (by omega), h 1 (by omega), h 2 (by omega), h 3 (by omega)]
theorem tok_no {a b c d : Int} {n : Nat} (hn : n < 4) (h : inN (tp a b c d n) = false) : tok a b c d = false := by
  rcases (show n = 0 ∨ n = 1 ∨ n = 2 ∨ n = 3 by omega) with rfl | rfl | rfl | rfl <;> simp [tok, h]
theorem tokN_succ {a b c d : Int} {n : Nat} (h : tokN a b c d n) (k : inN (tp a b c d n) = true) : tokN a b c d (n + 1) := fun j hj => by
  rcases (show j < n ∨ j = n by omega) with h1 | rfl
  · exact h j h1
  · exact k
/-- What Times returns. -/
def timesV (a b c d : Int) : Value := bif tok a b c d then .agg #[.int .i64 (tlo a b c d 4), .int .i64 (thi a b c d 4)] else .agg #[.int .i64 0, .int .i64 0]
def timesE (a b c d : Int) : Int := bif tok a b c d then 0 else 3

set_option maxRecDepth 100000 in
set_option maxHeartbeats 2000000 in
theorem times_any (a b c d : Int) (w : World) (hab : okS a b = true) (hcd : okS c d = true) :
    Calls Try.prog 56 #[.agg #[.int .i64 (a), .int .i64 (b)], .agg #[.int .i64 (c), .int .i64 (d)]] w (RetE w (timesV a b c d) (timesE a b c d)) := by
  obtain ⟨a0, a1, a2⟩ := okS_in hab
  obtain ⟨c0, c1, c2⟩ := okS_in hcd
  have HB : Hid ((okS a b && okS c d) = true) := by show _ = _; rw [hab, hcd]; rfl
  clear hab hcd
  have iab0 : ∀ w, (Instr.index 120 (.agg #[.int .i64 a, .int .i64 b]) (.int .i64 0)).run Try.prog w = .ok (.int .i64 a) w := fun _ => by kernel_rfl
  have iab1 : ∀ w, (Instr.index 120 (.agg #[.int .i64 a, .int .i64 b]) (.int .i64 1)).run Try.prog w = .ok (.int .i64 b) w := fun _ => by kernel_rfl
  have icd0 : ∀ w, (Instr.index 120 (.agg #[.int .i64 c, .int .i64 d]) (.int .i64 0)).run Try.prog w = .ok (.int .i64 c) w := fun _ => by kernel_rfl
  have icd1 : ∀ w, (Instr.index 120 (.agg #[.int .i64 c, .int .i64 d]) (.int .i64 1)).run Try.prog w = .ok (.int .i64 d) w := fun _ => by kernel_rfl
  obtain ⟨V, hV⟩ : ∃ V, timesV a b c d = V := ⟨_, rfl⟩
  obtain ⟨Er, hE⟩ : ∃ E, timesE a b c d = E := ⟨_, rfl⟩
  rw [hV, hE]
  have HV := Lib.hid hV
  have HE := Lib.hid hE
  clear hV hE
  have hXe : Ext w (((w.alloc (.cells #[.int .i64 a, .int .i64 b] 62)).alloc (.cells #[.int .i64 c, .int .i64 d] 62)).alloc (.cells #[.int .i64 0, .int .i64 0] 62)) := ((((Ext.refl w).alloc _).alloc _).alloc _)
  have kA : Blk (((w.alloc (.cells #[.int .i64 a, .int .i64 b] 62)).alloc (.cells #[.int .i64 c, .int .i64 d] 62)).alloc (.cells #[.int .i64 0, .int .i64 0] 62)) w.heap.size 62 #[.int .i64 a, .int .i64 b] := Blk.alloc (Blk.alloc (Blk.at_ (by simp)) _) _
  have kB : Blk (((w.alloc (.cells #[.int .i64 a, .int .i64 b] 62)).alloc (.cells #[.int .i64 c, .int .i64 d] 62)).alloc (.cells #[.int .i64 0, .int .i64 0] 62)) (w.heap.size + 1) 62 #[.int .i64 c, .int .i64 d] := Blk.alloc (Blk.at_ (by simp)) _
  have kR : Blk (((w.alloc (.cells #[.int .i64 a, .int .i64 b] 62)).alloc (.cells #[.int .i64 c, .int .i64 d] 62)).alloc (.cells #[.int .i64 0, .int .i64 0] 62)) (w.heap.size + 2) 62 #[.int .i64 0, .int .i64 0] := Blk.at_ (by simp)
  go_enter Try.func56, Try.ntmps56
  go_wp2_with fail
  generalize (((w.alloc (.cells #[.int .i64 a, .int .i64 b] 62)).alloc (.cells #[.int .i64 c, .int .i64 d] 62)).alloc (.cells #[.int .i64 0, .int .i64 0] 62)) = w1 at hXe kA kB kR ⊢
  have HX := Lib.hid hXe
  clear hXe
  have KA := Lib.hid kA
  clear kA
  have KB := Lib.hid kB
  clear kB
  have KR := Lib.hid kR
  clear kR
  refine (both_any a b c d _).mono ?_
  rw [HB.out]
  rintro e w2 ⟨rfl, hX⟩
  replace HX := Lib.hid (HX.out.trans hX)
  replace KA := Lib.hid (KA.out.ext hX)
  replace KB := Lib.hid (KB.out.ext hX)
  replace KR := Lib.hid (KR.out.ext hX)
  clear hX
  have cA0 : w2.cell? ⟨w.heap.size, 0, none⟩ = some (.int .i64 a) := KA.out.cell 0
  have cA1 : w2.cell? ⟨w.heap.size, 1, none⟩ = some (.int .i64 b) := KA.out.cell 1
  have cB0 : w2.cell? ⟨(w.heap.size + 1), 0, none⟩ = some (.int .i64 c) := KB.out.cell 0
  have cB1 : w2.cell? ⟨(w.heap.size + 1), 1, none⟩ = some (.int .i64 d) := KB.out.cell 1
  have cR0 : w2.cell? ⟨(w.heap.size + 2), 0, none⟩ = some (.int .i64 0) := KR.out.cell 0
  have cR1 : w2.cell? ⟨(w.heap.size + 2), 1, none⟩ = some (.int .i64 0) := KR.out.cell 1
  go_upto_region 4 with (fail)
  clear cA0 cA1 cB0 cB1 cR0 cR1
  have hXa : Ext w2 (w2.alloc (.cells #[.int .i64 1152921504606846976, .int .i64 (-1152921504606846976)] 62)) := (Ext.refl _).alloc _
  have kZ := Blk.new w2 62 #[.int .i64 1152921504606846976, .int .i64 (-1152921504606846976)]
  have zA := KA.out.lt
  have zB := KB.out.lt
  have zR := KR.out.lt
  replace HX := Lib.hid (HX.out.trans hXa)
  replace KA := Lib.hid (KA.out.ext hXa)
  replace KB := Lib.hid (KB.out.ext hXa)
  replace KR := Lib.hid (KR.out.ext hXa)
  generalize (w2.alloc (.cells #[.int .i64 1152921504606846976, .int .i64 (-1152921504606846976)] 62)) = w3 at HX KA KB KR kZ ⊢
  have KZ := Lib.hid kZ
  clear kZ hXa
  have cA0 : w3.cell? ⟨w.heap.size, 0, none⟩ = some (.int .i64 a) := KA.out.cell 0
  have cA1 : w3.cell? ⟨w.heap.size, 1, none⟩ = some (.int .i64 b) := KA.out.cell 1
  have cB0 : w3.cell? ⟨(w.heap.size + 1), 0, none⟩ = some (.int .i64 c) := KB.out.cell 0
  have cB1 : w3.cell? ⟨(w.heap.size + 1), 1, none⟩ = some (.int .i64 d) := KB.out.cell 1
  have cR0 : w3.cell? ⟨(w.heap.size + 2), 0, none⟩ = some (.int .i64 0) := KR.out.cell 0
  have cR1 : w3.cell? ⟨(w.heap.size + 2), 1, none⟩ = some (.int .i64 0) := KR.out.cell 1
  have cZ0 : w3.cell? ⟨w2.heap.size, 0, none⟩ = some (.int .i64 1152921504606846976) := KZ.out.cell 0
  have cZ1 : w3.cell? ⟨w2.heap.size, 1, none⟩ = some (.int .i64 (-1152921504606846976)) := KZ.out.cell 1
  have hgz : w.heap.size + 2 < w2.heap.size := by omega
  obtain ⟨gz, hgq⟩ : ∃ g, w2.heap.size = g := ⟨_, rfl⟩
  rw [hgq] at hgz KZ cZ0 cZ1 ⊢
  clear hgq zA zB zR
  go_wp2_with fail
  clear cA0 cA1 cB0 cB1 cR0 cR1 cZ0 cZ1
  go_loopg [24] 2 (fun g' i wr => ∃ k : Nat, g' = 2 - k ∧ k ≤ 2 ∧ i = .int .i64 (k : Int) ∧ Hid (tokN a b c d (2 * k)) ∧ Hid (Blk wr (w.heap.size + 1) 62 #[.int .i64 c, .int .i64 d]) ∧ Hid (Blk wr (w.heap.size + 2) 62 #[.int .i64 0, .int .i64 0]) ∧ Hid (Blk wr gz 62 #[.int .i64 (tlo a b c d (2 * k)), .int .i64 (thi a b c d (2 * k))]) ∧ Hid (Ext w wr))
  case atStart => exact ⟨0, rfl, by omega, rfl, fun k hk => by omega, KB.out, KR.out, KZ.out, HX.out⟩
  case round =>
    clear KA KB KR KZ HX
    obtain ⟨k, rfl, hk, rfl, hT, KB, KR, KZ, HX⟩ := hrel
    rcases (show k = 2 ∨ k = 0 ∨ k = 1 by omega) with rfl | hk01
    · have c0 : wr.cell? ⟨gz, 0, none⟩ = some (.int .i64 (tlo a b c d 4)) := KZ.out.cell 0
      have c1 : wr.cell? ⟨gz, 1, none⟩ = some (.int .i64 (thi a b c d 4)) := KZ.out.cell 1
      have r0 : wr.cell? ⟨w.heap.size + 2, 0, none⟩ = some (.int .i64 0) := KR.out.cell 0
      have r1 : wr.cell? ⟨w.heap.size + 2, 1, none⟩ = some (.int .i64 0) := KR.out.cell 1
      have f0 : wr.frozen? ⟨w.heap.size + 2, 0, none⟩ = false := KR.out.free 0
      have f1 : wr.frozen? ⟨w.heap.size + 2, 1, none⟩ = false := KR.out.free 1
      have ht := tok_yes hT.out
      have hv := HV.out
      have he := HE.out
      simp only [timesV, timesE, ht, cond_true] at hv he
      subst hv he
      clear HV HE ht hT iab0 iab1 icd0 icd1
      generalize tlo a b c d 4 = lo at *
      generalize thi a b c d 4 = hi at *
      go_wp2
      refine bodyPost_ret (v := .tuple #[.agg #[.int .i64 lo, .int .i64 hi], .int .i64 0]) (by simp [results, Try.results56, go_sem, *]) rfl ?_
      exact ⟨rfl, HX.out.two (by omega) _ _⟩
    · obtain ⟨x, hx0, hx1, hxt⟩ : ∃ x : Int, -1152921504606846976 ≤ x ∧ x ≤ 1152921504606846976 ∧ Hid ((∀ w, (Instr.index 120 (.agg #[.int .i64 a, .int .i64 b]) (.int .i64 (k : Int))).run Try.prog w = .ok (.int .i64 x) w) ∧ tp a b c d (2 * k) = x * c ∧ tp a b c d (2 * k + 1) = x * d) := by
        rcases hk01 with rfl | rfl
        · exact ⟨a, by omega, by omega, iab0, by simp [tp], by simp [tp]⟩
        · exact ⟨b, by omega, by omega, iab1, by simp [tp], by simp [tp]⟩
      have ix := hxt.out.1
      have hlt : k < 2 := by omega
      have hkb : decide ((k : Int) < 2) = true := decide_eq_true (by omega)
      have b0 : wr.cell? ⟨w.heap.size + 1, 0, none⟩ = some (.int .i64 c) := KB.out.cell 0
      have b1 : wr.cell? ⟨w.heap.size + 1, 1, none⟩ = some (.int .i64 d) := KB.out.cell 1
      clear iab0 iab1
      go_wp2_with fail
      clear b0 b1
      obtain ⟨wo, rfl⟩ : ∃ wo : World, wo = wr := ⟨_, rfl⟩
      go_loopg [32] 2 (fun g' i wr => ∃ m : Nat, g' = 2 - m ∧ m ≤ 2 ∧ i = .int .i64 (m : Int) ∧ Hid (tokN a b c d (2 * k + m)) ∧ Hid (Blk wr (w.heap.size + 1) 62 #[.int .i64 c, .int .i64 d]) ∧ Hid (Blk wr (w.heap.size + 2) 62 #[.int .i64 0, .int .i64 0]) ∧ Hid (Blk wr gz 62 #[.int .i64 (tlo a b c d (2 * k + m)), .int .i64 (thi a b c d (2 * k + m))]) ∧ Hid (Ext w wr))
      case atStart => exact ⟨0, rfl, by omega, rfl, hT, KB, KR, KZ, HX⟩
      case round =>
        clear hT KB KR KZ HX
        obtain ⟨m, rfl, hm, rfl, hT, KB, KR, KZ, HX⟩ := hrel
        rcases (show m = 2 ∨ m < 2 by omega) with rfl | hm2
        · go_wp2
          go_roundg (2 - (k + 1))
          case rel => exact ⟨k + 1, rfl, by omega, by go_num, hT, KB, KR, KZ, HX⟩
          case measure => omega
        · obtain ⟨y, hy0, hy1, hyt⟩ : ∃ y : Int, -1152921504606846976 ≤ y ∧ y ≤ 1152921504606846976 ∧ Hid ((∀ w, (Instr.index 120 (.agg #[.int .i64 c, .int .i64 d]) (.int .i64 (m : Int))).run Try.prog w = .ok (.int .i64 y) w) ∧ tp a b c d (2 * k + m) = x * y) := by
            rcases (show m = 0 ∨ m = 1 by omega) with rfl | rfl
            · exact ⟨c, by omega, by omega, icd0, hxt.out.2.1⟩
            · exact ⟨d, by omega, by omega, icd1, hxt.out.2.2⟩
          have iy := hyt.out.1
          clear icd0 icd1 ix
          go_wp2_with fail
          refine (product_any x y _ hx0 hx1 hy0 hy1).mono ?_
          rintro e _ ⟨rfl, rfl⟩
          have hp := hyt.out.2
          rw [← hp]
          rcases hN : inN (tp a b c d (2 * k + m)) with _ | _
          · have ht := tok_no (show 2 * k + m < 4 by omega) hN
            have hv := HV.out
            have he := HE.out
            simp only [timesV, timesE, ht, cond_false] at hv he
            subst hv he
            have r0 : wr.cell? ⟨w.heap.size + 2, 0, none⟩ = some (.int .i64 0) := KR.out.cell 0
            have r1 : wr.cell? ⟨w.heap.size + 2, 1, none⟩ = some (.int .i64 0) := KR.out.cell 1
            have f0 : wr.frozen? ⟨w.heap.size + 2, 0, none⟩ = false := KR.out.free 0
            have f1 : wr.frozen? ⟨w.heap.size + 2, 1, none⟩ = false := KR.out.free 1
            clear HV HE ht hp hN hT
            go_wp2
            refine bodyPost_ret (v := .tuple #[.agg #[.int .i64 0, .int .i64 0], .int .i64 3]) (by simp [results, Try.results56, go_sem, *]) rfl ?_
            exact ⟨rfl, HX.out.two (by omega) _ _⟩
          · have HT' := Lib.hid (tokN_succ hT.out hN)
            have hlo : min (tlo a b c d (2 * k + m)) (tp a b c d (2 * k + m)) = tlo a b c d (2 * k + (m + 1)) := rfl
            have hhi : max (thi a b c d (2 * k + m)) (tp a b c d (2 * k + m)) = thi a b c d (2 * k + (m + 1)) := rfl
            have HLO := Lib.hid hlo
            have HHI := Lib.hid hhi
            clear hlo hhi hp hN
            generalize tlo a b c d (2 * k + m) = lo at KZ HLO
            generalize thi a b c d (2 * k + m) = hi at KZ HHI
            generalize tp a b c d (2 * k + m) = pr at HLO HHI ⊢
            have z0 : wr.cell? ⟨gz, 0, none⟩ = some (.int .i64 lo) := KZ.out.cell 0
            have z1 : wr.cell? ⟨gz, 1, none⟩ = some (.int .i64 hi) := KZ.out.cell 1
            have f0 : wr.frozen? ⟨gz, 0, none⟩ = false := KZ.out.free 0
            have f1 : wr.frozen? ⟨gz, 1, none⟩ = false := KZ.out.free 1
            go_wp2
            go_roundg (2 - (m + 1))
            case rel => exact ⟨m + 1, rfl, by omega, by go_num, HT', (KB.out.far (show w.heap.size + 1 ≠ gz by omega) _).far (show w.heap.size + 1 ≠ gz by omega) _, (KR.out.far (show w.heap.size + 2 ≠ gz by omega) _).far (show w.heap.size + 2 ≠ gz by omega) _, by rw [← HLO.out, ← HHI.out]; exact (KZ.out.set 0 _).set 1 _, HX.out.two (by omega) _ _⟩
            case measure => omega

end Go.Proofs.Yteoijnaljkagfaa
