/- Lemmas of the proof that follows (Returns, part 6): walks of functions by contract, and plain lemmas. Conditions: none. -/
import Derived.Test.YtagcgldhhdecjaaReturnsE
namespace Go.Proofs.Ytagcgldhhdecjaa
open Go.RowKit

theorem Blk.one16 {w : World} {g : Nat} {t : TypeId} (h : Blk w g t #[.int .i64 1]) : Z16 w (.slice (some ⟨g, 0, none⟩) 1 1) 1 :=
  ⟨_, 1, 1, [1], rfl, ⟨rfl, fun x hx => by simp at hx; subst hx; exact wf16 (by omega), fun _ => ⟨g, 0, rfl, fun j v hv => by
    match j with
    | 0 => rw [h.cell]; simpa using hv
    | j + 1 => simp at hv⟩⟩, Rep.one (by omega), by omega, by omega⟩
theorem down_neg (n d : Nat) (hd : 0 < d) : (n % d = 0 → (-(n : Int)) / (d : Int) = -((n / d : Nat) : Int)) ∧ (0 < n % d → (-(n : Int)) / (d : Int) = -((n / d + 1 : Nat) : Int)) := by
  have h := Nat.div_add_mod n d
  have hm := Nat.mod_lt n hd
  have hI : ((n / d : Nat) : Int) * d + ((n % d : Nat) : Int) = n := by
    rw [← Int.natCast_mul, ← Int.natCast_add, Nat.mul_comm, h]
  generalize n / d = q at *
  generalize n % d = r at *
  constructor
  · intro h0
    have := (Int.ediv_emod_unique (a := -(n : Int)) (b := (d : Int)) (r := 0) (q := -(q : Int)) (by omega)).2 ⟨by subst h0; simp at hI ⊢; rw [← hI]; grind, by omega, by omega⟩
    exact this.1
  · intro h0
    have := (Int.ediv_emod_unique (a := -(n : Int)) (b := (d : Int)) (r := (d : Int) - r) (q := -((q + 1 : Nat) : Int)) (by omega)).2 ⟨by rw [← hI]; push_cast; grind, by omega, by omega⟩
    exact this.1

set_option maxRecDepth 100000 in
set_option maxHeartbeats 2000000 in
theorem zdown_pos (s1 : Bool) (A0 A1 : Option Addr) (l0 c0 l1 c1 n0 n1 L : Nat) (w : World) (hx : Z16 w (.slice A0 l0 c0) n0) (hy : Z16 w (.slice A1 l1 c1) n1) (fn : Fit 65536 n0 L) (hL : L ≤ 400000) (hd : 0 < n1)  :
    Calls Try.prog 120 #[.agg #[.bool false, .slice A0 l0 c0], .agg #[.bool s1, .slice A1 l1 c1]] w (RetBn w false (n0 / n1)) := by
  have HXX := Lib.hid hx
  have HYY := Lib.hid hy
  have HFN := Lib.hid fn
  have HD := Lib.hid hd
  clear hx hy fn hd
  obtain ⟨q, hq⟩ : ∃ q, n0 / n1 = q := ⟨_, rfl⟩
  obtain ⟨r, hr'⟩ : ∃ r, n0 % n1 = r := ⟨_, rfl⟩
  have HQ := Lib.hid hq
  have HRR := Lib.hid hr'
  clear hq hr'
  have hXe : Ext w (((w.alloc (.cells #[.bool false, .slice A0 l0 c0] 99)).alloc (.cells #[.bool s1, .slice A1 l1 c1] 99)).alloc (.cells #[.bool false, .slice none 0 0] 99)) := ((((Ext.refl w).alloc _).alloc _).alloc _)
  have kA : Blk (((w.alloc (.cells #[.bool false, .slice A0 l0 c0] 99)).alloc (.cells #[.bool s1, .slice A1 l1 c1] 99)).alloc (.cells #[.bool false, .slice none 0 0] 99)) w.heap.size 99 #[.bool false, .slice A0 l0 c0] := Blk.alloc (Blk.alloc (Blk.at_ (by simp)) _) _
  have kB : Blk (((w.alloc (.cells #[.bool false, .slice A0 l0 c0] 99)).alloc (.cells #[.bool s1, .slice A1 l1 c1] 99)).alloc (.cells #[.bool false, .slice none 0 0] 99)) (w.heap.size + 1) 99 #[.bool s1, .slice A1 l1 c1] := Blk.alloc (Blk.at_ (by simp)) _
  have kR : Blk (((w.alloc (.cells #[.bool false, .slice A0 l0 c0] 99)).alloc (.cells #[.bool s1, .slice A1 l1 c1] 99)).alloc (.cells #[.bool false, .slice none 0 0] 99)) (w.heap.size + 2) 99 #[.bool false, .slice none 0 0] := Blk.at_ (by simp)
  go_enter Try.func120, Try.ntmps120
  go_wp2_with fail
  generalize (((w.alloc (.cells #[.bool false, .slice A0 l0 c0] 99)).alloc (.cells #[.bool s1, .slice A1 l1 c1] 99)).alloc (.cells #[.bool false, .slice none 0 0] 99)) = w1 at hXe kA kB kR ⊢
  have HX := Lib.hid hXe
  clear hXe
  have KA := Lib.hid kA
  clear kA
  have KB := Lib.hid kB
  clear kB
  have KR := Lib.hid kR
  clear kR
  replace HXX := Lib.hid (HXX.out.ext HX.out)
  replace HYY := Lib.hid (HYY.out.ext HX.out)
  have cA0 : w1.cell? ⟨w.heap.size, 0, none⟩ = some (.bool false) := KA.out.cell 0
  have cA1 : w1.cell? ⟨w.heap.size, 1, none⟩ = some (.slice A0 l0 c0) := KA.out.cell 1
  have cB0 : w1.cell? ⟨(w.heap.size + 1), 0, none⟩ = some (.bool s1) := KB.out.cell 0
  have cB1 : w1.cell? ⟨(w.heap.size + 1), 1, none⟩ = some (.slice A1 l1 c1) := KB.out.cell 1
  go_wp2_with fail
  clear cA0 cA1 cB0 cB1
  refine (divide_any _ _ n0 n1 L _ HXX.out HYY.out HFN.out hL HD.out).mono ?_
  rw [HQ.out, HRR.out]
  rintro e w2 ⟨v7, v8, rfl, h7, h8, hX⟩
  replace hX : Ext w1 w2 := by with_reducible exact hX
  replace HX := Lib.hid (HX.out.trans hX)
  replace HXX := Lib.hid (HXX.out.ext hX)
  replace HYY := Lib.hid (HYY.out.ext hX)
  replace KA := Lib.hid (KA.out.ext hX)
  replace KB := Lib.hid (KB.out.ext hX)
  replace KR := Lib.hid (KR.out.ext hX)
  clear hX
  obtain ⟨A7, l7, c7, rfl, hv7, hz7⟩ := Z16.open h7
  obtain ⟨A8, l8, c8, rfl, hv8, hz8⟩ := Z16.open h8
  have HV := Lib.hid hv7
  clear h7 h8 hv7 hv8
  clear KB
  clear hz7 hz8
  replace HV := Lib.hid (HV.out.two (NoInts.two KR.out) false A7 l7 c7)
  have cA0 : w2.cell? ⟨w.heap.size, 0, none⟩ = some (.bool false) := KA.out.cell 0
  have cA1 : w2.cell? ⟨w.heap.size, 1, none⟩ = some (.slice A0 l0 c0) := KA.out.cell 1
  have cR0 : w2.cell? ⟨(w.heap.size + 2), 0, none⟩ = some (.bool false) := KR.out.cell 0
  have fR0 : w2.frozen? ⟨(w.heap.size + 2), 0, none⟩ = false := KR.out.free 0
  have cR1 : w2.cell? ⟨(w.heap.size + 2), 1, none⟩ = some (.slice none 0 0) := KR.out.cell 1
  have fR1 : w2.frozen? ⟨(w.heap.size + 2), 1, none⟩ = false := KR.out.free 1
  go_wp2
  refine bodyPost_ret (v := .agg #[.bool false, .slice A7 l7 c7]) (by simp [results, Try.results120, go_sem, *]) rfl ?_
  exact ⟨_, _, _, rfl, by rw [HQ.out]; exact HV.out, HX.out.two (by omega) _ _⟩

set_option maxRecDepth 100000 in
set_option maxHeartbeats 2000000 in
theorem zdown_ex (s1 : Bool) (A0 A1 : Option Addr) (l0 c0 l1 c1 n0 n1 L : Nat) (w : World) (hx : Z16 w (.slice A0 l0 c0) n0) (hy : Z16 w (.slice A1 l1 c1) n1) (fn : Fit 65536 n0 L) (hL : L ≤ 400000) (hd : 0 < n1) (hn : 0 < n0) (hr : n0 % n1 = 0) :
    Calls Try.prog 120 #[.agg #[.bool true, .slice A0 l0 c0], .agg #[.bool s1, .slice A1 l1 c1]] w (RetBn w true (n0 / n1)) := by
  have HXX := Lib.hid hx
  have HYY := Lib.hid hy
  have HFN := Lib.hid fn
  have HD := Lib.hid hd
  clear hx hy fn hd
  have hq0 : 0 < n0 / n1 := Nat.div_pos (Nat.le_of_dvd hn (Nat.dvd_of_mod_eq_zero hr)) HD.out
  clear hn
  obtain ⟨q, hq⟩ : ∃ q, n0 / n1 = q := ⟨_, rfl⟩
  obtain ⟨r, hr'⟩ : ∃ r, n0 % n1 = r := ⟨_, rfl⟩
  have HQ := Lib.hid hq
  have HRR := Lib.hid hr'
  rw [hr'] at hr
  rw [hq] at hq0
  clear hq hr'
  have hXe : Ext w (((w.alloc (.cells #[.bool true, .slice A0 l0 c0] 99)).alloc (.cells #[.bool s1, .slice A1 l1 c1] 99)).alloc (.cells #[.bool false, .slice none 0 0] 99)) := ((((Ext.refl w).alloc _).alloc _).alloc _)
  have kA : Blk (((w.alloc (.cells #[.bool true, .slice A0 l0 c0] 99)).alloc (.cells #[.bool s1, .slice A1 l1 c1] 99)).alloc (.cells #[.bool false, .slice none 0 0] 99)) w.heap.size 99 #[.bool true, .slice A0 l0 c0] := Blk.alloc (Blk.alloc (Blk.at_ (by simp)) _) _
  have kB : Blk (((w.alloc (.cells #[.bool true, .slice A0 l0 c0] 99)).alloc (.cells #[.bool s1, .slice A1 l1 c1] 99)).alloc (.cells #[.bool false, .slice none 0 0] 99)) (w.heap.size + 1) 99 #[.bool s1, .slice A1 l1 c1] := Blk.alloc (Blk.at_ (by simp)) _
  have kR : Blk (((w.alloc (.cells #[.bool true, .slice A0 l0 c0] 99)).alloc (.cells #[.bool s1, .slice A1 l1 c1] 99)).alloc (.cells #[.bool false, .slice none 0 0] 99)) (w.heap.size + 2) 99 #[.bool false, .slice none 0 0] := Blk.at_ (by simp)
  go_enter Try.func120, Try.ntmps120
  go_wp2_with fail
  generalize (((w.alloc (.cells #[.bool true, .slice A0 l0 c0] 99)).alloc (.cells #[.bool s1, .slice A1 l1 c1] 99)).alloc (.cells #[.bool false, .slice none 0 0] 99)) = w1 at hXe kA kB kR ⊢
  have HX := Lib.hid hXe
  clear hXe
  have KA := Lib.hid kA
  clear kA
  have KB := Lib.hid kB
  clear kB
  have KR := Lib.hid kR
  clear kR
  replace HXX := Lib.hid (HXX.out.ext HX.out)
  replace HYY := Lib.hid (HYY.out.ext HX.out)
  have cA0 : w1.cell? ⟨w.heap.size, 0, none⟩ = some (.bool true) := KA.out.cell 0
  have cA1 : w1.cell? ⟨w.heap.size, 1, none⟩ = some (.slice A0 l0 c0) := KA.out.cell 1
  have cB0 : w1.cell? ⟨(w.heap.size + 1), 0, none⟩ = some (.bool s1) := KB.out.cell 0
  have cB1 : w1.cell? ⟨(w.heap.size + 1), 1, none⟩ = some (.slice A1 l1 c1) := KB.out.cell 1
  go_wp2_with fail
  clear cA0 cA1 cB0 cB1
  refine (divide_any _ _ n0 n1 L _ HXX.out HYY.out HFN.out hL HD.out).mono ?_
  rw [HQ.out, HRR.out]
  rintro e w2 ⟨v7, v8, rfl, h7, h8, hX⟩
  replace hX : Ext w1 w2 := by with_reducible exact hX
  replace HX := Lib.hid (HX.out.trans hX)
  replace HXX := Lib.hid (HXX.out.ext hX)
  replace HYY := Lib.hid (HYY.out.ext hX)
  replace KA := Lib.hid (KA.out.ext hX)
  replace KB := Lib.hid (KB.out.ext hX)
  replace KR := Lib.hid (KR.out.ext hX)
  clear hX
  obtain ⟨A7, l7, c7, rfl, hv7, hz7⟩ := Z16.open h7
  obtain ⟨A8, l8, c8, rfl, hv8, hz8⟩ := Z16.open h8
  have HV := Lib.hid hv7
  clear h7 h8 hv7 hv8
  clear KB
  obtain rfl : l8 = 0 := hz8.2 hr
  have hl : (0 : Int) < (l7 : Int) := by
    rcases Nat.eq_zero_or_pos l7 with h | h
    · have := hz7.1 h; omega
    · omega
  have hl' : 0 < l7 := by omega
  clear hz7 hz8 hr
  replace HV := Lib.hid (HV.out.two (NoInts.two KR.out) true A7 l7 c7)
  have cA0 : w2.cell? ⟨w.heap.size, 0, none⟩ = some (.bool true) := KA.out.cell 0
  have cA1 : w2.cell? ⟨w.heap.size, 1, none⟩ = some (.slice A0 l0 c0) := KA.out.cell 1
  have cR0 : w2.cell? ⟨(w.heap.size + 2), 0, none⟩ = some (.bool false) := KR.out.cell 0
  have fR0 : w2.frozen? ⟨(w.heap.size + 2), 0, none⟩ = false := KR.out.free 0
  have cR1 : w2.cell? ⟨(w.heap.size + 2), 1, none⟩ = some (.slice none 0 0) := KR.out.cell 1
  have fR1 : w2.frozen? ⟨(w.heap.size + 2), 1, none⟩ = false := KR.out.free 1
  go_wp2
  refine bodyPost_ret (v := .agg #[.bool true, .slice A7 l7 c7]) (by simp [results, Try.results120, go_sem, *]) rfl ?_
  exact ⟨_, _, _, rfl, by rw [HQ.out]; exact HV.out, HX.out.two (by omega) _ _⟩

set_option maxRecDepth 100000 in
set_option maxHeartbeats 2000000 in
theorem zdown_up (s1 : Bool) (A0 A1 : Option Addr) (l0 c0 l1 c1 n0 n1 L : Nat) (w : World) (hx : Z16 w (.slice A0 l0 c0) n0) (hy : Z16 w (.slice A1 l1 c1) n1) (fn : Fit 65536 n0 L) (hL : L ≤ 400000) (hd : 0 < n1) (hr : 0 < n0 % n1) :
    Calls Try.prog 120 #[.agg #[.bool true, .slice A0 l0 c0], .agg #[.bool s1, .slice A1 l1 c1]] w (RetBn w true (n0 / n1 + 1)) := by
  have HXX := Lib.hid hx
  have HYY := Lib.hid hy
  have HFN := Lib.hid fn
  have HD := Lib.hid hd
  clear hx hy fn hd
  have HFQ : Hid (Fit 65536 (n0 / n1) L) := HFN.out.le (Nat.div_le_self _ _)
  obtain ⟨q, hq⟩ : ∃ q, n0 / n1 = q := ⟨_, rfl⟩
  obtain ⟨r, hr'⟩ : ∃ r, n0 % n1 = r := ⟨_, rfl⟩
  have HQ := Lib.hid hq
  have HRR := Lib.hid hr'
  rw [hr'] at hr
  rw [hq] at HFQ
  clear hq hr'
  have hXe : Ext w (((w.alloc (.cells #[.bool true, .slice A0 l0 c0] 99)).alloc (.cells #[.bool s1, .slice A1 l1 c1] 99)).alloc (.cells #[.bool false, .slice none 0 0] 99)) := ((((Ext.refl w).alloc _).alloc _).alloc _)
  have kA : Blk (((w.alloc (.cells #[.bool true, .slice A0 l0 c0] 99)).alloc (.cells #[.bool s1, .slice A1 l1 c1] 99)).alloc (.cells #[.bool false, .slice none 0 0] 99)) w.heap.size 99 #[.bool true, .slice A0 l0 c0] := Blk.alloc (Blk.alloc (Blk.at_ (by simp)) _) _
  have kB : Blk (((w.alloc (.cells #[.bool true, .slice A0 l0 c0] 99)).alloc (.cells #[.bool s1, .slice A1 l1 c1] 99)).alloc (.cells #[.bool false, .slice none 0 0] 99)) (w.heap.size + 1) 99 #[.bool s1, .slice A1 l1 c1] := Blk.alloc (Blk.at_ (by simp)) _
  have kR : Blk (((w.alloc (.cells #[.bool true, .slice A0 l0 c0] 99)).alloc (.cells #[.bool s1, .slice A1 l1 c1] 99)).alloc (.cells #[.bool false, .slice none 0 0] 99)) (w.heap.size + 2) 99 #[.bool false, .slice none 0 0] := Blk.at_ (by simp)
  go_enter Try.func120, Try.ntmps120
  go_wp2_with fail
  generalize (((w.alloc (.cells #[.bool true, .slice A0 l0 c0] 99)).alloc (.cells #[.bool s1, .slice A1 l1 c1] 99)).alloc (.cells #[.bool false, .slice none 0 0] 99)) = w1 at hXe kA kB kR ⊢
  have HX := Lib.hid hXe
  clear hXe
  have KA := Lib.hid kA
  clear kA
  have KB := Lib.hid kB
  clear kB
  have KR := Lib.hid kR
  clear kR
  replace HXX := Lib.hid (HXX.out.ext HX.out)
  replace HYY := Lib.hid (HYY.out.ext HX.out)
  have cA0 : w1.cell? ⟨w.heap.size, 0, none⟩ = some (.bool true) := KA.out.cell 0
  have cA1 : w1.cell? ⟨w.heap.size, 1, none⟩ = some (.slice A0 l0 c0) := KA.out.cell 1
  have cB0 : w1.cell? ⟨(w.heap.size + 1), 0, none⟩ = some (.bool s1) := KB.out.cell 0
  have cB1 : w1.cell? ⟨(w.heap.size + 1), 1, none⟩ = some (.slice A1 l1 c1) := KB.out.cell 1
  go_wp2_with fail
  clear cA0 cA1 cB0 cB1
  refine (divide_any _ _ n0 n1 L _ HXX.out HYY.out HFN.out hL HD.out).mono ?_
  rw [HQ.out, HRR.out]
  rintro e w2 ⟨v7, v8, rfl, h7, h8, hX⟩
  replace hX : Ext w1 w2 := by with_reducible exact hX
  replace HX := Lib.hid (HX.out.trans hX)
  replace HXX := Lib.hid (HXX.out.ext hX)
  replace HYY := Lib.hid (HYY.out.ext hX)
  replace KA := Lib.hid (KA.out.ext hX)
  replace KB := Lib.hid (KB.out.ext hX)
  replace KR := Lib.hid (KR.out.ext hX)
  clear hX
  obtain ⟨A7, l7, c7, rfl, hv7, hz7⟩ := Z16.open h7
  obtain ⟨A8, l8, c8, rfl, hv8, hz8⟩ := Z16.open h8
  have HV := Lib.hid hv7
  clear h7 h8 hv7 hv8
  clear KB
  have hl : (0 : Int) < (l8 : Int) := by
    rcases Nat.eq_zero_or_pos l8 with h | h
    · have := hz8.1 h; omega
    · omega
  have hl' : 0 < l8 := by omega
  clear hz7 hz8 hr
  have cA0 : w2.cell? ⟨w.heap.size, 0, none⟩ = some (.bool true) := KA.out.cell 0
  have cA1 : w2.cell? ⟨w.heap.size, 1, none⟩ = some (.slice A0 l0 c0) := KA.out.cell 1
  go_wp2_with fail
  clear cA0 cA1
  have hXa : Ext w2 (w2.alloc (.cells #[.int .i64 1] 3)) := (Ext.refl _).alloc _
  have kO := Blk.new w2 3 #[.int .i64 1]
  have zA := KA.out.lt
  have zR := KR.out.lt
  have zg := HX.out.size
  replace HX := Lib.hid (HX.out.trans hXa)
  replace HXX := Lib.hid (HXX.out.ext hXa)
  replace HYY := Lib.hid (HYY.out.ext hXa)
  replace HV := Lib.hid (HV.out.ext hXa)
  replace KA := Lib.hid (KA.out.ext hXa)
  replace KR := Lib.hid (KR.out.ext hXa)
  generalize (w2.alloc (.cells #[.int .i64 1] 3)) = w3 at HX HXX HYY HV KA KR kO ⊢
  have KO := Lib.hid kO
  clear kO hXa
  go_wp2_with fail
  refine (plus_any _ _ q 1 (L + 1) _ HV.out KO.out.one16 (HFQ.out.mono (by omega) (by omega)) (Fit.one (by omega) (by omega)) (by omega)).mono ?_
  rintro e w4 ⟨v9, rfl, h9, hX⟩
  replace hX : Ext w3 w4 := by with_reducible exact hX
  replace HX := Lib.hid (HX.out.trans hX)
  replace HXX := Lib.hid (HXX.out.ext hX)
  replace HYY := Lib.hid (HYY.out.ext hX)
  replace HV := Lib.hid (HV.out.ext hX)
  replace KA := Lib.hid (KA.out.ext hX)
  replace KR := Lib.hid (KR.out.ext hX)
  replace KO := Lib.hid (KO.out.ext hX)
  clear hX
  obtain ⟨A9, l9, c9, rfl, hv9, hz9⟩ := Z16.open h9
  have hl9 : (0 : Int) < (l9 : Int) := by
    rcases Nat.eq_zero_or_pos l9 with h | h
    · have := hz9.1 h; omega
    · omega
  have hl9' : 0 < l9 := by omega
  have HW := Lib.hid (Z16.two hv9 (NoInts.two KR.out) true A9 l9 c9)
  clear h9 hv9 hz9
  have cA0 : w4.cell? ⟨w.heap.size, 0, none⟩ = some (.bool true) := KA.out.cell 0
  have cA1 : w4.cell? ⟨w.heap.size, 1, none⟩ = some (.slice A0 l0 c0) := KA.out.cell 1
  have cR0 : w4.cell? ⟨(w.heap.size + 2), 0, none⟩ = some (.bool false) := KR.out.cell 0
  have fR0 : w4.frozen? ⟨(w.heap.size + 2), 0, none⟩ = false := KR.out.free 0
  have cR1 : w4.cell? ⟨(w.heap.size + 2), 1, none⟩ = some (.slice none 0 0) := KR.out.cell 1
  have fR1 : w4.frozen? ⟨(w.heap.size + 2), 1, none⟩ = false := KR.out.free 1
  go_wp2
  refine bodyPost_ret (v := .agg #[.bool true, .slice A9 l9 c9]) (by simp [results, Try.results120, go_sem, *]) rfl ?_
  exact ⟨_, _, _, rfl, by rw [HQ.out]; exact HW.out, HX.out.two (by omega) _ _⟩


theorem zdown_any (va : Value) (x : Int) (s : Bool) (B : Option Addr) (m k d L : Nat) (w : World) (ha : IntZ w va x) (hb : Z16 w (.slice B m k) d) (fn : Fit 65536 x.natAbs L) (hL : L ≤ 400000) (hd : 0 < d) :
    Calls Try.prog 120 #[va, .agg #[.bool s, .slice B m k]] w (RetZ w (x / (d : Int))) := by
  obtain ⟨A0, l0, c0, rfl, hx⟩ := ha
  have fin : ∀ (b : Bool) (n : Nat), b = decide (x / (d : Int) < 0) → n = (x / (d : Int)).natAbs → ∀ e w', RetBn w b n e w' → RetZ w (x / (d : Int)) e w' := by
    rintro b n rfl rfl e w' ⟨A, l, c, rfl, hz, hX⟩
    exact ⟨_, rfl, ⟨A, l, c, rfl, hz⟩, hX⟩
  by_cases h : x < 0
  · obtain ⟨e1, e2⟩ := down_neg x.natAbs d hd
    have hn : (-(x.natAbs : Int)) = x := by omega
    rw [hn] at e1 e2
    rw [decide_eq_true h]
    rcases Nat.eq_zero_or_pos (x.natAbs % d) with hr | hr
    · have hq0 : 0 < x.natAbs / d := Nat.div_pos (Nat.le_of_dvd (by omega) (Nat.dvd_of_mod_eq_zero hr)) hd
      refine (zdown_ex s A0 B l0 c0 m k _ d L w hx hb fn hL hd (by omega) hr).mono (fin _ _ ?_ ?_)
      · rw [e1 hr]; clear e1 e2; generalize x.natAbs / d = q at hq0 ⊢; symm; rw [decide_eq_true_iff]; omega
      · rw [e1 hr]; clear e1 e2; generalize x.natAbs / d = q; omega
    · refine (zdown_up s A0 B l0 c0 m k _ d L w hx hb fn hL hd hr).mono (fin _ _ ?_ ?_)
      · rw [e2 hr]; clear e1 e2; generalize x.natAbs / d = q; symm; rw [decide_eq_true_iff]; omega
      · rw [e2 hr]; clear e1 e2; generalize x.natAbs / d = q; omega
  · rw [decide_eq_false h]
    have hn : (x.natAbs : Int) = x := by omega
    have e1 : x / (d : Int) = ((x.natAbs / d : Nat) : Int) := by rw [Int.natCast_ediv, hn]
    refine (zdown_pos s A0 B l0 c0 m k _ d L w hx hb fn hL hd).mono (fin _ _ ?_ ?_)
    · rw [e1]; clear e1; generalize x.natAbs / d = q; symm; rw [decide_eq_false_iff_not]; omega
    · rw [e1]; clear e1; generalize x.natAbs / d = q; omega


theorem val16_drop_le {xs : List Int} (h : Dg 65536 xs) (k : Nat) : val 65536 (xs.drop k) ≤ val 65536 xs := by
  by_cases hk : k ≤ xs.length
  · have h1 := val_split (B := 65536) xs hk
    have h2 := val_nonneg (B := 65536) (by omega) (h.take k)
    have h3 := val_nonneg (B := 65536) (by omega) (h.drop k)
    have h4 : 1 ≤ (65536 : Int) ^ k := by have := pow_pos' (B := 65536) (by omega) k; omega
    have h5 : 1 * val 65536 (xs.drop k) ≤ (65536 : Int) ^ k * val 65536 (xs.drop k) := Int.mul_le_mul_of_nonneg_right h4 h3
    omega
  · rw [List.drop_eq_nil_of_le (by omega)]
    exact val_nonneg (by omega) h
theorem fits_len {xs : List Int} {n : Nat} (h : Rep 65536 xs n) (hl : 4 < xs.length) : 4611686018427387904 < n := by
  apply Nat.lt_of_not_le
  intro hn
  have := h.len_le (L := 4) (by omega) (by rw [show (65536 : Int) ^ 4 = 18446744073709551616 by decide]; omega)
  omega
theorem fits_top {xs : List Int} {n : Nat} {x : Int} (h : Rep 65536 xs n) (hl : xs.length = 4) (hx : xs[3]? = some x) : (16384 < x → 4611686018427387904 < n) ∧ (x ≤ 16384 → n < 4611967493404098560) := by
  obtain ⟨h1, h2⟩ := val_top (k := 3) h.1 hl hx
  rw [h.2.2, show (65536 : Int) ^ 3 = 281474976710656 by decide] at h1 h2
  constructor <;> intro hh <;> omega
theorem fits_short {xs : List Int} {n : Nat} (h : Rep 65536 xs n) (hl : xs.length < 4) : n < 281474976710656 := by
  have h1 := h.lt (by omega)
  have h2 : (65536 : Int) ^ xs.length ≤ 65536 ^ 3 := by
    have : ∀ m : Nat, m ≤ 3 → (65536 : Int) ^ m ≤ 65536 ^ 3 := by decide
    exact this _ (by omega)
  rw [show (65536 : Int) ^ 3 = 281474976710656 by decide] at h2
  omega

set_option maxRecDepth 100000 in
set_option maxHeartbeats 2000000 in
theorem zfits_long (s : Bool) (A : Option Addr) (l c n : Nat) (xs : List Int) (w : World) (hx : Ints .i64 w A l xs) (hr : Rep 65536 xs n) (hlm : l ≤ 9223372036854775807) (hl : 4 < l) :
    Calls Try.prog 119 #[.agg #[.bool s, .slice A l c]] w (fun e w' => e = .returned (.tuple #[.int .i64 0, .bool false]) ∧ Ext w w') := by
  have HA := Lib.hid hx
  have HLX : Hid (xs.length = l) := hx.1
  have HR := Lib.hid hr
  clear hx hr
  have hXe : Ext w (w.alloc (.cells #[.bool s, .slice A l c] 99)) := ((Ext.refl w).alloc _)
  have kA : Blk (w.alloc (.cells #[.bool s, .slice A l c] 99)) w.heap.size 99 #[.bool s, .slice A l c] := Blk.at_ (by simp)
  go_enter Try.func119, Try.ntmps119
  go_wp2_with fail
  generalize (w.alloc (.cells #[.bool s, .slice A l c] 99)) = w1 at hXe kA ⊢
  have HX := Lib.hid hXe
  clear hXe
  have KA := Lib.hid kA
  clear kA
  have cA0 : w1.cell? ⟨w.heap.size, 0, none⟩ = some (.bool s) := KA.out.cell 0
  have cA1 : w1.cell? ⟨w.heap.size, 1, none⟩ = some (.slice A l c) := KA.out.cell 1
  go_wp2
  go_ret2
  exact ⟨rfl, HX.out⟩

set_option maxRecDepth 100000 in
set_option maxHeartbeats 2000000 in
theorem zfits_top (s : Bool) (A : Option Addr) (l c n : Nat) (xs : List Int) (w : World) (hx : Ints .i64 w A l xs) (hr : Rep 65536 xs n) (hlm : l ≤ 9223372036854775807) (hl : l = 4) (x3 : Int) (h3 : xs[3]? = some x3) (hx3 : 16384 < x3) :
    Calls Try.prog 119 #[.agg #[.bool s, .slice A l c]] w (fun e w' => e = .returned (.tuple #[.int .i64 0, .bool false]) ∧ Ext w w') := by
  have HA := Lib.hid hx
  have HLX : Hid (xs.length = l) := hx.1
  have HR := Lib.hid hr
  clear hx hr
  have hl4 := HLX.out
  rw [hl] at hl4
  have HF := Lib.hid (fits_top HR.out hl4 h3)
  clear hl4
  subst hl
  obtain ⟨b3, o3, y3, hAA, hy3, _, hc3⟩ := HA.out.get (show 3 < 4 by omega)
  obtain rfl : x3 = y3 := by rw [h3] at hy3; injection hy3
  clear h3 hy3
  subst hAA
  have hXe : Ext w (w.alloc (.cells #[.bool s, .slice (some ⟨b3, o3, none⟩) 4 c] 99)) := ((Ext.refl w).alloc _)
  have kA : Blk (w.alloc (.cells #[.bool s, .slice (some ⟨b3, o3, none⟩) 4 c] 99)) w.heap.size 99 #[.bool s, .slice (some ⟨b3, o3, none⟩) 4 c] := Blk.at_ (by simp)
  have hc4 := hXe.cell hc3
  go_enter Try.func119, Try.ntmps119
  go_wp2_with fail
  generalize (w.alloc (.cells #[.bool s, .slice (some ⟨b3, o3, none⟩) 4 c] 99)) = w1 at hXe hc4 kA ⊢
  have HX := Lib.hid hXe
  clear hXe
  have KA := Lib.hid kA
  clear kA
  have cA0 : w1.cell? ⟨w.heap.size, 0, none⟩ = some (.bool s) := KA.out.cell 0
  have cA1 : w1.cell? ⟨w.heap.size, 1, none⟩ = some (.slice (some ⟨b3, o3, none⟩) 4 c) := KA.out.cell 1
  go_wp2
  go_ret2
  exact ⟨rfl, HX.out⟩

set_option maxRecDepth 100000 in
set_option maxHeartbeats 2000000 in
theorem zfits_bb (s : Bool) (A : Option Addr) (l c n : Nat) (xs : List Int) (w : World) (hx : Ints .i64 w A l xs) (hr : Rep 65536 xs n) (hlm : l ≤ 9223372036854775807) (hl : l = 4) (x3 : Int) (h3 : xs[3]? = some x3) (hx3 : x3 ≤ 16384) (hn : 4611686018427387904 < n) :
    Calls Try.prog 119 #[.agg #[.bool s, .slice A l c]] w (fun e w' => e = .returned (.tuple #[.int .i64 0, .bool false]) ∧ Ext w w') := by
  have HA := Lib.hid hx
  have HLX : Hid (xs.length = l) := hx.1
  have HR := Lib.hid hr
  clear hx hr
  have hl4 := HLX.out
  rw [hl] at hl4
  have HF := Lib.hid (fits_top HR.out hl4 h3)
  clear hl4
  subst hl
  obtain ⟨b3, o3, y3, hAA, hy3, _, hc3⟩ := HA.out.get (show 3 < 4 by omega)
  obtain rfl : x3 = y3 := by rw [h3] at hy3; injection hy3
  clear h3 hy3
  subst hAA
  have HN : Hid (n ≤ 9223372036854775807) := by have := HF.out.2 hx3; show _ ≤ _; omega
  have hXe : Ext w (w.alloc (.cells #[.bool s, .slice (some ⟨b3, o3, none⟩) 4 c] 99)) := ((Ext.refl w).alloc _)
  have kA : Blk (w.alloc (.cells #[.bool s, .slice (some ⟨b3, o3, none⟩) 4 c] 99)) w.heap.size 99 #[.bool s, .slice (some ⟨b3, o3, none⟩) 4 c] := Blk.at_ (by simp)
  have hc4 := hXe.cell hc3
  go_enter Try.func119, Try.ntmps119
  go_wp2_with fail
  generalize (w.alloc (.cells #[.bool s, .slice (some ⟨b3, o3, none⟩) 4 c] 99)) = w1 at hXe hc4 kA ⊢
  have HX := Lib.hid hXe
  clear hXe
  have KA := Lib.hid kA
  clear kA
  have cA0 : w1.cell? ⟨w.heap.size, 0, none⟩ = some (.bool s) := KA.out.cell 0
  have cA1 : w1.cell? ⟨w.heap.size, 1, none⟩ = some (.slice (some ⟨b3, o3, none⟩) 4 c) := KA.out.cell 1
  go_wp2
  clear cA0 cA1
  go_loopg [4, 5] 4 (fun g s4 s5 wr => ∃ (k : Nat) (u : Int), k = g ∧ k ≤ 4 ∧ s5 = .int .i64 ((k : Int) - 1) ∧ s4 = .int .i64 u ∧ Hid (u = val 65536 (xs.drop k)) ∧ Hid (Blk wr w.heap.size 99 #[.bool s, .slice (some ⟨b3, o3, none⟩) 4 c]) ∧ Hid (Ext w wr))
  case atStart => exact ⟨4, 0, rfl, by omega, rfl, rfl, by rw [List.drop_eq_nil_of_le (by rw [HLX.out]; exact Nat.le_refl _)]; rfl, KA.out, HX.out⟩
  case round =>
    clear KA HX
    obtain ⟨k, u, rfl, hk, rfl, rfl, HU, KA, HX⟩ := hrel
    have cA0 : wr.cell? ⟨w.heap.size, 0, none⟩ = some (.bool s) := KA.out.cell 0
    have cA1 : wr.cell? ⟨w.heap.size, 1, none⟩ = some (.slice (some ⟨b3, o3, none⟩) 4 c) := KA.out.cell 1
    rcases Nat.eq_zero_or_pos k with h0 | h0
    · subst h0
      have hu : u = (n : Int) := by have := HU.out; rw [List.drop_zero, HR.out.2.2] at this; exact this
      clear HU
      subst hu
      rw [show (((0 : Nat) : Int) - 1) = -1 by omega]
      go_wp2
      go_ret2
      exact ⟨rfl, HX.out⟩
    · obtain ⟨j, rfl⟩ : ∃ j, k = j + 1 := ⟨k - 1, by omega⟩
      rw [show ((j + 1 : Nat) : Int) - 1 = (j : Int) by omega]
      have hj0 : (0 : Int) ≤ (j : Int) := by omega
      have hjl : (j : Int) < 4 := by omega
      obtain ⟨b1, o1, x, hAA, hx, _, hcx⟩ := (HA.out.ext HX.out).get (show j < 4 by omega)
      obtain ⟨hx0, hx1⟩ := HR.out.1.get hx
      have hv := val_drop (B := 65536) hx
      rw [← HU.out] at hv
      have hv1 := val16_drop_le HR.out.1 j
      have hv0 := val_nonneg (B := 65536) (by omega) (HR.out.1.drop (j + 1))
      rw [← HU.out] at hv0
      rw [HR.out.2.2] at hv1
      have HV : Hid (u * 65536 + x = val 65536 (xs.drop j)) := by show _ = _; rw [hv]; omega
      have hs0 : 0 ≤ u * 65536 + x := by omega
      have hs1 : u * 65536 + x ≤ 9223372036854775807 := by have := HV.out; have := HN.out; omega
      have hs2 : u * 65536 ≤ 9223372036854775807 := by omega
      clear hx hv hv1
      injection hAA with hAA
      injection hAA with e1 e2
      subst e1 e2
      go_wp2
      go_roundg j
      case rel => exact ⟨j, _, rfl, by omega, by go_num, rfl, HV.out, KA.out, HX.out⟩
      case measure => omega

set_option maxRecDepth 100000 in
set_option maxHeartbeats 2000000 in
theorem zfits_bt (A : Option Addr) (l c n : Nat) (xs : List Int) (w : World) (hx : Ints .i64 w A l xs) (hr : Rep 65536 xs n) (hlm : l ≤ 9223372036854775807) (hl : l = 4) (x3 : Int) (h3 : xs[3]? = some x3) (hx3 : x3 ≤ 16384) (hn : n ≤ 4611686018427387904) :
    Calls Try.prog 119 #[.agg #[.bool true, .slice A l c]] w (fun e w' => e = .returned (.tuple #[.int .i64 (-(n : Int)), .bool true]) ∧ Ext w w') := by
  have HA := Lib.hid hx
  have HLX : Hid (xs.length = l) := hx.1
  have HR := Lib.hid hr
  clear hx hr
  have hl4 := HLX.out
  rw [hl] at hl4
  have HF := Lib.hid (fits_top HR.out hl4 h3)
  clear hl4
  subst hl
  obtain ⟨b3, o3, y3, hAA, hy3, _, hc3⟩ := HA.out.get (show 3 < 4 by omega)
  obtain rfl : x3 = y3 := by rw [h3] at hy3; injection hy3
  clear h3 hy3
  subst hAA
  have HN : Hid (n ≤ 9223372036854775807) := by have := HF.out.2 hx3; show _ ≤ _; omega
  have hXe : Ext w (w.alloc (.cells #[.bool true, .slice (some ⟨b3, o3, none⟩) 4 c] 99)) := ((Ext.refl w).alloc _)
  have kA : Blk (w.alloc (.cells #[.bool true, .slice (some ⟨b3, o3, none⟩) 4 c] 99)) w.heap.size 99 #[.bool true, .slice (some ⟨b3, o3, none⟩) 4 c] := Blk.at_ (by simp)
  have hc4 := hXe.cell hc3
  go_enter Try.func119, Try.ntmps119
  go_wp2_with fail
  generalize (w.alloc (.cells #[.bool true, .slice (some ⟨b3, o3, none⟩) 4 c] 99)) = w1 at hXe hc4 kA ⊢
  have HX := Lib.hid hXe
  clear hXe
  have KA := Lib.hid kA
  clear kA
  have cA0 : w1.cell? ⟨w.heap.size, 0, none⟩ = some (.bool true) := KA.out.cell 0
  have cA1 : w1.cell? ⟨w.heap.size, 1, none⟩ = some (.slice (some ⟨b3, o3, none⟩) 4 c) := KA.out.cell 1
  go_wp2
  clear cA0 cA1
  go_loopg [4, 5] 4 (fun g s4 s5 wr => ∃ (k : Nat) (u : Int), k = g ∧ k ≤ 4 ∧ s5 = .int .i64 ((k : Int) - 1) ∧ s4 = .int .i64 u ∧ Hid (u = val 65536 (xs.drop k)) ∧ Hid (Blk wr w.heap.size 99 #[.bool true, .slice (some ⟨b3, o3, none⟩) 4 c]) ∧ Hid (Ext w wr))
  case atStart => exact ⟨4, 0, rfl, by omega, rfl, rfl, by rw [List.drop_eq_nil_of_le (by rw [HLX.out]; exact Nat.le_refl _)]; rfl, KA.out, HX.out⟩
  case round =>
    clear KA HX
    obtain ⟨k, u, rfl, hk, rfl, rfl, HU, KA, HX⟩ := hrel
    have cA0 : wr.cell? ⟨w.heap.size, 0, none⟩ = some (.bool true) := KA.out.cell 0
    have cA1 : wr.cell? ⟨w.heap.size, 1, none⟩ = some (.slice (some ⟨b3, o3, none⟩) 4 c) := KA.out.cell 1
    rcases Nat.eq_zero_or_pos k with h0 | h0
    · subst h0
      have hu : u = (n : Int) := by have := HU.out; rw [List.drop_zero, HR.out.2.2] at this; exact this
      clear HU
      subst hu
      rw [show (((0 : Nat) : Int) - 1) = -1 by omega]
      go_wp2
      go_ret2
      exact ⟨rfl, HX.out⟩
    · obtain ⟨j, rfl⟩ : ∃ j, k = j + 1 := ⟨k - 1, by omega⟩
      rw [show ((j + 1 : Nat) : Int) - 1 = (j : Int) by omega]
      have hj0 : (0 : Int) ≤ (j : Int) := by omega
      have hjl : (j : Int) < 4 := by omega
      obtain ⟨b1, o1, x, hAA, hx, _, hcx⟩ := (HA.out.ext HX.out).get (show j < 4 by omega)
      obtain ⟨hx0, hx1⟩ := HR.out.1.get hx
      have hv := val_drop (B := 65536) hx
      rw [← HU.out] at hv
      have hv1 := val16_drop_le HR.out.1 j
      have hv0 := val_nonneg (B := 65536) (by omega) (HR.out.1.drop (j + 1))
      rw [← HU.out] at hv0
      rw [HR.out.2.2] at hv1
      have HV : Hid (u * 65536 + x = val 65536 (xs.drop j)) := by show _ = _; rw [hv]; omega
      have hs0 : 0 ≤ u * 65536 + x := by omega
      have hs1 : u * 65536 + x ≤ 9223372036854775807 := by have := HV.out; have := HN.out; omega
      have hs2 : u * 65536 ≤ 9223372036854775807 := by omega
      clear hx hv hv1
      injection hAA with hAA
      injection hAA with e1 e2
      subst e1 e2
      go_wp2
      go_roundg j
      case rel => exact ⟨j, _, rfl, by omega, by go_num, rfl, HV.out, KA.out, HX.out⟩
      case measure => omega

set_option maxRecDepth 100000 in
set_option maxHeartbeats 2000000 in
theorem zfits_bf (A : Option Addr) (l c n : Nat) (xs : List Int) (w : World) (hx : Ints .i64 w A l xs) (hr : Rep 65536 xs n) (hlm : l ≤ 9223372036854775807) (hl : l = 4) (x3 : Int) (h3 : xs[3]? = some x3) (hx3 : x3 ≤ 16384) (hn : n ≤ 4611686018427387904) :
    Calls Try.prog 119 #[.agg #[.bool false, .slice A l c]] w (fun e w' => e = .returned (.tuple #[.int .i64 (n : Int), .bool true]) ∧ Ext w w') := by
  have HA := Lib.hid hx
  have HLX : Hid (xs.length = l) := hx.1
  have HR := Lib.hid hr
  clear hx hr
  have hl4 := HLX.out
  rw [hl] at hl4
  have HF := Lib.hid (fits_top HR.out hl4 h3)
  clear hl4
  subst hl
  obtain ⟨b3, o3, y3, hAA, hy3, _, hc3⟩ := HA.out.get (show 3 < 4 by omega)
  obtain rfl : x3 = y3 := by rw [h3] at hy3; injection hy3
  clear h3 hy3
  subst hAA
  have HN : Hid (n ≤ 9223372036854775807) := by have := HF.out.2 hx3; show _ ≤ _; omega
  have hXe : Ext w (w.alloc (.cells #[.bool false, .slice (some ⟨b3, o3, none⟩) 4 c] 99)) := ((Ext.refl w).alloc _)
  have kA : Blk (w.alloc (.cells #[.bool false, .slice (some ⟨b3, o3, none⟩) 4 c] 99)) w.heap.size 99 #[.bool false, .slice (some ⟨b3, o3, none⟩) 4 c] := Blk.at_ (by simp)
  have hc4 := hXe.cell hc3
  go_enter Try.func119, Try.ntmps119
  go_wp2_with fail
  generalize (w.alloc (.cells #[.bool false, .slice (some ⟨b3, o3, none⟩) 4 c] 99)) = w1 at hXe hc4 kA ⊢
  have HX := Lib.hid hXe
  clear hXe
  have KA := Lib.hid kA
  clear kA
  have cA0 : w1.cell? ⟨w.heap.size, 0, none⟩ = some (.bool false) := KA.out.cell 0
  have cA1 : w1.cell? ⟨w.heap.size, 1, none⟩ = some (.slice (some ⟨b3, o3, none⟩) 4 c) := KA.out.cell 1
  go_wp2
  clear cA0 cA1
  go_loopg [4, 5] 4 (fun g s4 s5 wr => ∃ (k : Nat) (u : Int), k = g ∧ k ≤ 4 ∧ s5 = .int .i64 ((k : Int) - 1) ∧ s4 = .int .i64 u ∧ Hid (u = val 65536 (xs.drop k)) ∧ Hid (Blk wr w.heap.size 99 #[.bool false, .slice (some ⟨b3, o3, none⟩) 4 c]) ∧ Hid (Ext w wr))
  case atStart => exact ⟨4, 0, rfl, by omega, rfl, rfl, by rw [List.drop_eq_nil_of_le (by rw [HLX.out]; exact Nat.le_refl _)]; rfl, KA.out, HX.out⟩
  case round =>
    clear KA HX
    obtain ⟨k, u, rfl, hk, rfl, rfl, HU, KA, HX⟩ := hrel
    have cA0 : wr.cell? ⟨w.heap.size, 0, none⟩ = some (.bool false) := KA.out.cell 0
    have cA1 : wr.cell? ⟨w.heap.size, 1, none⟩ = some (.slice (some ⟨b3, o3, none⟩) 4 c) := KA.out.cell 1
    rcases Nat.eq_zero_or_pos k with h0 | h0
    · subst h0
      have hu : u = (n : Int) := by have := HU.out; rw [List.drop_zero, HR.out.2.2] at this; exact this
      clear HU
      subst hu
      rw [show (((0 : Nat) : Int) - 1) = -1 by omega]
      go_wp2
      go_ret2
      exact ⟨rfl, HX.out⟩
    · obtain ⟨j, rfl⟩ : ∃ j, k = j + 1 := ⟨k - 1, by omega⟩
      rw [show ((j + 1 : Nat) : Int) - 1 = (j : Int) by omega]
      have hj0 : (0 : Int) ≤ (j : Int) := by omega
      have hjl : (j : Int) < 4 := by omega
      obtain ⟨b1, o1, x, hAA, hx, _, hcx⟩ := (HA.out.ext HX.out).get (show j < 4 by omega)
      obtain ⟨hx0, hx1⟩ := HR.out.1.get hx
      have hv := val_drop (B := 65536) hx
      rw [← HU.out] at hv
      have hv1 := val16_drop_le HR.out.1 j
      have hv0 := val_nonneg (B := 65536) (by omega) (HR.out.1.drop (j + 1))
      rw [← HU.out] at hv0
      rw [HR.out.2.2] at hv1
      have HV : Hid (u * 65536 + x = val 65536 (xs.drop j)) := by show _ = _; rw [hv]; omega
      have hs0 : 0 ≤ u * 65536 + x := by omega
      have hs1 : u * 65536 + x ≤ 9223372036854775807 := by have := HV.out; have := HN.out; omega
      have hs2 : u * 65536 ≤ 9223372036854775807 := by omega
      clear hx hv hv1
      injection hAA with hAA
      injection hAA with e1 e2
      subst e1 e2
      go_wp2
      go_roundg j
      case rel => exact ⟨j, _, rfl, by omega, by go_num, rfl, HV.out, KA.out, HX.out⟩
      case measure => omega

set_option maxRecDepth 100000 in
set_option maxHeartbeats 2000000 in
theorem zfits_st (A : Option Addr) (l c n : Nat) (xs : List Int) (w : World) (hx : Ints .i64 w A l xs) (hr : Rep 65536 xs n) (hlm : l ≤ 9223372036854775807) (hl : l < 4) :
    Calls Try.prog 119 #[.agg #[.bool true, .slice A l c]] w (fun e w' => e = .returned (.tuple #[.int .i64 (-(n : Int)), .bool true]) ∧ Ext w w') := by
  have HA := Lib.hid hx
  have HLX : Hid (xs.length = l) := hx.1
  have HR := Lib.hid hr
  clear hx hr
  have hn : n < 281474976710656 := fits_short HR.out (by rw [HLX.out]; exact hl)
  have hl4 : ((l : Int) == 4) = false := by simp; omega
  have HN : Hid (n ≤ 9223372036854775807) := by show _ ≤ _; omega
  have hXe : Ext w (w.alloc (.cells #[.bool true, .slice A l c] 99)) := ((Ext.refl w).alloc _)
  have kA : Blk (w.alloc (.cells #[.bool true, .slice A l c] 99)) w.heap.size 99 #[.bool true, .slice A l c] := Blk.at_ (by simp)
  go_enter Try.func119, Try.ntmps119
  go_wp2_with fail
  generalize (w.alloc (.cells #[.bool true, .slice A l c] 99)) = w1 at hXe kA ⊢
  have HX := Lib.hid hXe
  clear hXe
  have KA := Lib.hid kA
  clear kA
  have cA0 : w1.cell? ⟨w.heap.size, 0, none⟩ = some (.bool true) := KA.out.cell 0
  have cA1 : w1.cell? ⟨w.heap.size, 1, none⟩ = some (.slice A l c) := KA.out.cell 1
  go_wp2
  clear cA0 cA1
  go_loopg [4, 5] l (fun g s4 s5 wr => ∃ (k : Nat) (u : Int), k = g ∧ k ≤ l ∧ s5 = .int .i64 ((k : Int) - 1) ∧ s4 = .int .i64 u ∧ Hid (u = val 65536 (xs.drop k)) ∧ Hid (Blk wr w.heap.size 99 #[.bool true, .slice A l c]) ∧ Hid (Ext w wr))
  case atStart => exact ⟨l, 0, rfl, by omega, rfl, rfl, by rw [List.drop_eq_nil_of_le (by rw [HLX.out]; exact Nat.le_refl _)]; rfl, KA.out, HX.out⟩
  case round =>
    clear KA HX
    obtain ⟨k, u, rfl, hk, rfl, rfl, HU, KA, HX⟩ := hrel
    have cA0 : wr.cell? ⟨w.heap.size, 0, none⟩ = some (.bool true) := KA.out.cell 0
    have cA1 : wr.cell? ⟨w.heap.size, 1, none⟩ = some (.slice A l c) := KA.out.cell 1
    rcases Nat.eq_zero_or_pos k with h0 | h0
    · subst h0
      have hu : u = (n : Int) := by have := HU.out; rw [List.drop_zero, HR.out.2.2] at this; exact this
      clear HU
      subst hu
      rw [show (((0 : Nat) : Int) - 1) = -1 by omega]
      go_wp2
      go_ret2
      exact ⟨rfl, HX.out⟩
    · obtain ⟨j, rfl⟩ : ∃ j, k = j + 1 := ⟨k - 1, by omega⟩
      rw [show ((j + 1 : Nat) : Int) - 1 = (j : Int) by omega]
      have hj0 : (0 : Int) ≤ (j : Int) := by omega
      have hjl : (j : Int) < (l : Int) := by omega
      obtain ⟨b1, o1, x, hAA, hx, _, hcx⟩ := (HA.out.ext HX.out).get (show j < l by omega)
      obtain ⟨hx0, hx1⟩ := HR.out.1.get hx
      have hv := val_drop (B := 65536) hx
      rw [← HU.out] at hv
      have hv1 := val16_drop_le HR.out.1 j
      have hv0 := val_nonneg (B := 65536) (by omega) (HR.out.1.drop (j + 1))
      rw [← HU.out] at hv0
      rw [HR.out.2.2] at hv1
      have HV : Hid (u * 65536 + x = val 65536 (xs.drop j)) := by show _ = _; rw [hv]; omega
      have hs0 : 0 ≤ u * 65536 + x := by omega
      have hs1 : u * 65536 + x ≤ 9223372036854775807 := by have := HV.out; have := HN.out; omega
      have hs2 : u * 65536 ≤ 9223372036854775807 := by omega
      clear hx hv hv1
      obtain rfl := hAA
      go_wp2
      go_roundg j
      case rel => exact ⟨j, _, rfl, by omega, by go_num, rfl, HV.out, KA.out, HX.out⟩
      case measure => omega

set_option maxRecDepth 100000 in
set_option maxHeartbeats 2000000 in
theorem zfits_sf (A : Option Addr) (l c n : Nat) (xs : List Int) (w : World) (hx : Ints .i64 w A l xs) (hr : Rep 65536 xs n) (hlm : l ≤ 9223372036854775807) (hl : l < 4) :
    Calls Try.prog 119 #[.agg #[.bool false, .slice A l c]] w (fun e w' => e = .returned (.tuple #[.int .i64 (n : Int), .bool true]) ∧ Ext w w') := by
  have HA := Lib.hid hx
  have HLX : Hid (xs.length = l) := hx.1
  have HR := Lib.hid hr
  clear hx hr
  have hn : n < 281474976710656 := fits_short HR.out (by rw [HLX.out]; exact hl)
  have hl4 : ((l : Int) == 4) = false := by simp; omega
  have HN : Hid (n ≤ 9223372036854775807) := by show _ ≤ _; omega
  have hXe : Ext w (w.alloc (.cells #[.bool false, .slice A l c] 99)) := ((Ext.refl w).alloc _)
  have kA : Blk (w.alloc (.cells #[.bool false, .slice A l c] 99)) w.heap.size 99 #[.bool false, .slice A l c] := Blk.at_ (by simp)
  go_enter Try.func119, Try.ntmps119
  go_wp2_with fail
  generalize (w.alloc (.cells #[.bool false, .slice A l c] 99)) = w1 at hXe kA ⊢
  have HX := Lib.hid hXe
  clear hXe
  have KA := Lib.hid kA
  clear kA
  have cA0 : w1.cell? ⟨w.heap.size, 0, none⟩ = some (.bool false) := KA.out.cell 0
  have cA1 : w1.cell? ⟨w.heap.size, 1, none⟩ = some (.slice A l c) := KA.out.cell 1
  go_wp2
  clear cA0 cA1
  go_loopg [4, 5] l (fun g s4 s5 wr => ∃ (k : Nat) (u : Int), k = g ∧ k ≤ l ∧ s5 = .int .i64 ((k : Int) - 1) ∧ s4 = .int .i64 u ∧ Hid (u = val 65536 (xs.drop k)) ∧ Hid (Blk wr w.heap.size 99 #[.bool false, .slice A l c]) ∧ Hid (Ext w wr))
  case atStart => exact ⟨l, 0, rfl, by omega, rfl, rfl, by rw [List.drop_eq_nil_of_le (by rw [HLX.out]; exact Nat.le_refl _)]; rfl, KA.out, HX.out⟩
  case round =>
    clear KA HX
    obtain ⟨k, u, rfl, hk, rfl, rfl, HU, KA, HX⟩ := hrel
    have cA0 : wr.cell? ⟨w.heap.size, 0, none⟩ = some (.bool false) := KA.out.cell 0
    have cA1 : wr.cell? ⟨w.heap.size, 1, none⟩ = some (.slice A l c) := KA.out.cell 1
    rcases Nat.eq_zero_or_pos k with h0 | h0
    · subst h0
      have hu : u = (n : Int) := by have := HU.out; rw [List.drop_zero, HR.out.2.2] at this; exact this
      clear HU
      subst hu
      rw [show (((0 : Nat) : Int) - 1) = -1 by omega]
      go_wp2
      go_ret2
      exact ⟨rfl, HX.out⟩
    · obtain ⟨j, rfl⟩ : ∃ j, k = j + 1 := ⟨k - 1, by omega⟩
      rw [show ((j + 1 : Nat) : Int) - 1 = (j : Int) by omega]
      have hj0 : (0 : Int) ≤ (j : Int) := by omega
      have hjl : (j : Int) < (l : Int) := by omega
      obtain ⟨b1, o1, x, hAA, hx, _, hcx⟩ := (HA.out.ext HX.out).get (show j < l by omega)
      obtain ⟨hx0, hx1⟩ := HR.out.1.get hx
      have hv := val_drop (B := 65536) hx
      rw [← HU.out] at hv
      have hv1 := val16_drop_le HR.out.1 j
      have hv0 := val_nonneg (B := 65536) (by omega) (HR.out.1.drop (j + 1))
      rw [← HU.out] at hv0
      rw [HR.out.2.2] at hv1
      have HV : Hid (u * 65536 + x = val 65536 (xs.drop j)) := by show _ = _; rw [hv]; omega
      have hs0 : 0 ≤ u * 65536 + x := by omega
      have hs1 : u * 65536 + x ≤ 9223372036854775807 := by have := HV.out; have := HN.out; omega
      have hs2 : u * 65536 ≤ 9223372036854775807 := by omega
      clear hx hv hv1
      obtain rfl := hAA
      go_wp2
      go_roundg j
      case rel => exact ⟨j, _, rfl, by omega, by go_num, rfl, HV.out, KA.out, HX.out⟩
      case measure => omega


def fitI (z : Int) : Int := if -4611686018427387904 ≤ z ∧ z ≤ 4611686018427387904 then z else 0
def fitB (z : Int) : Bool := decide (-4611686018427387904 ≤ z ∧ z ≤ 4611686018427387904)
theorem zfits_any (v : Value) (z : Int) (w : World) (h : IntZ w v z) : Calls Try.prog 119 #[v] w fun e w' => e = .returned (.tuple #[.int .i64 (fitI z), .bool (fitB z)]) ∧ Ext w w' := by
  obtain ⟨A, l, c, rfl, A', l', c', xs, e, hI, hr, hc1, hc2⟩ := h
  injection e with e1 e2 e3
  subst e1 e2 e3
  have yes : ∀ {z : Int}, -4611686018427387904 ≤ z ∧ z ≤ 4611686018427387904 → fitI z = z ∧ fitB z = true := fun h => ⟨by rw [fitI, if_pos h], decide_eq_true h⟩
  have no : ∀ {z : Int}, ¬ (-4611686018427387904 ≤ z ∧ z ≤ 4611686018427387904) → fitI z = 0 ∧ fitB z = false := fun h => ⟨by rw [fitI, if_neg h], decide_eq_false h⟩
  rcases (show 4 < l ∨ l = 4 ∨ l < 4 by omega) with hl | hl | hl
  · have hb := fits_len hr (by rw [hI.1]; exact hl)
    obtain ⟨e1, e2⟩ := no (z := z) (by omega)
    rw [e1, e2]
    exact zfits_long _ A l c _ xs w hI hr (by omega) hl
  · have h3 : xs[3]? = some (xs[3]'(by rw [hI.1]; omega)) := List.getElem?_eq_getElem _
    generalize xs[3]'(by rw [hI.1]; omega) = x3 at h3
    obtain ⟨f1, f2⟩ := fits_top hr (by rw [hI.1]; exact hl) h3
    by_cases hx : 16384 < x3
    · have hb := f1 hx
      obtain ⟨e1, e2⟩ := no (z := z) (by omega)
      rw [e1, e2]
      exact zfits_top _ A l c _ xs w hI hr (by omega) hl x3 h3 hx
    · by_cases hn : 4611686018427387904 < z.natAbs
      · obtain ⟨e1, e2⟩ := no (z := z) (by omega)
        rw [e1, e2]
        exact zfits_bb _ A l c _ xs w hI hr (by omega) hl x3 h3 (by omega) hn
      · obtain ⟨e1, e2⟩ := yes (z := z) (by omega)
        rw [e1, e2]
        by_cases hz : z < 0
        · rw [decide_eq_true hz]
          have := zfits_bt A l c _ xs w hI hr (by omega) hl x3 h3 (by omega) (by omega)
          rw [show (-(z.natAbs : Int)) = z by omega] at this
          exact this
        · rw [decide_eq_false hz]
          have := zfits_bf A l c _ xs w hI hr (by omega) hl x3 h3 (by omega) (by omega)
          rw [show (z.natAbs : Int) = z by omega] at this
          exact this
  · have hb := fits_short hr (by rw [hI.1]; exact hl)
    obtain ⟨e1, e2⟩ := yes (z := z) (by omega)
    rw [e1, e2]
    by_cases hz : z < 0
    · rw [decide_eq_true hz]
      have := zfits_st A l c _ xs w hI hr (by omega) hl
      rw [show (-(z.natAbs : Int)) = z by omega] at this
      exact this
    · rw [decide_eq_false hz]
      have := zfits_sf A l c _ xs w hI hr (by omega) hl
      rw [show (z.natAbs : Int) = z by omega] at this
      exact this

end Go.Proofs.Ytagcgldhhdecjaa
namespace Go.Proofs.Ytagcgldhhdecjaa
open Go.RowKit

/-- A rational number of the reference. -/
def QZ (w : World) (v : Value) (q : Rat) : Prop := ∃ b A l c B m k, v = .agg #[.bool b, .slice A l c, .slice B m k] ∧ b = decide (q.num < 0) ∧ Z16 w (.slice A l c) q.num.natAbs ∧ Z16 w (.slice B m k) q.den
theorem QZ.ext {w w' : World} {v : Value} {q : Rat} (h : QZ w v q) (he : Ext w w') : QZ w' v q := by
  obtain ⟨b, A, l, c, B, m, k, h0, h1, h2, h3⟩ := h
  exact ⟨b, A, l, c, B, m, k, h0, h1, h2.ext he, h3.ext he⟩
theorem QZ.open {w : World} {v : Value} {q : Rat} (h : QZ w v q) : ∃ b A l c B m k, v = .agg #[.bool b, .slice A l c, .slice B m k] := by
  obtain ⟨b, A, l, c, B, m, k, h0, _⟩ := h
  exact ⟨b, A, l, c, B, m, k, h0⟩
section
variable {w : World} {b : Bool} {A B : Option Addr} {l c m k : Nat} {q : Rat}
theorem QZ.num (h : QZ w (.agg #[.bool b, .slice A l c, .slice B m k]) q) : IntZ w (.agg #[.bool b, .slice A l c]) q.num := by
  obtain ⟨b', A', l', c', B', m', k', e, h1, h2, h3⟩ := h
  simp only [Value.agg.injEq, Array.mk.injEq, List.cons.injEq, Value.bool.injEq, Value.slice.injEq, and_true] at e
  obtain ⟨rfl, ⟨rfl, rfl, rfl⟩, rfl, rfl, rfl⟩ := e
  exact ⟨_, _, _, by rw [h1], h2⟩
theorem QZ.sgn (h : QZ w (.agg #[.bool b, .slice A l c, .slice B m k]) q) : b = decide (q.num < 0) := by
  obtain ⟨b', A', l', c', B', m', k', e, h1, h2, h3⟩ := h
  simp only [Value.agg.injEq, Array.mk.injEq, List.cons.injEq, Value.bool.injEq, Value.slice.injEq, and_true] at e
  rw [e.1, h1]
theorem QZ.nat (h : QZ w (.agg #[.bool b, .slice A l c, .slice B m k]) q) : Z16 w (.slice A l c) q.num.natAbs := by
  obtain ⟨b', A', l', c', B', m', k', e, h1, h2, h3⟩ := h
  simp only [Value.agg.injEq, Array.mk.injEq, List.cons.injEq, Value.bool.injEq, Value.slice.injEq, and_true] at e
  obtain ⟨rfl, ⟨rfl, rfl, rfl⟩, rfl, rfl, rfl⟩ := e
  exact h2
theorem QZ.den (h : QZ w (.agg #[.bool b, .slice A l c, .slice B m k]) q) : Z16 w (.slice B m k) q.den := by
  obtain ⟨b', A', l', c', B', m', k', e, h1, h2, h3⟩ := h
  simp only [Value.agg.injEq, Array.mk.injEq, List.cons.injEq, Value.bool.injEq, Value.slice.injEq, and_true] at e
  obtain ⟨rfl, ⟨rfl, rfl, rfl⟩, rfl, rfl, rfl⟩ := e
  exact h3
theorem QZ.past (h : QZ w (.agg #[.bool b, .slice A l c, .slice B m k]) q) {g : Nat} (hN : NoInts w g) : QZ (((w.setCell ⟨g, 0, none⟩ (.bool b)).setCell ⟨g, 1, none⟩ (.slice A l c)).setCell ⟨g, 2, none⟩ (.slice B m k)) (.agg #[.bool b, .slice A l c, .slice B m k]) q :=
  ⟨_, _, _, _, _, _, _, rfl, h.sgn, h.nat.box3 hN _ _ _ _ _ _ _, h.den.box3 hN _ _ _ _ _ _ _⟩
end
/-- What a call returns that makes a rational number. -/
def RetQz (w : World) (q : Rat) (e : Ending) (w' : World) : Prop := ∃ v, e = .returned v ∧ QZ w' v q ∧ Ext w w'
/-- How many limbs a rational number has. -/
def FitR (q : Rat) (L : Nat) : Prop := Fit 65536 q.num.natAbs L ∧ Fit 65536 q.den L
theorem FitR.mono {q : Rat} {L M : Nat} (h : FitR q L) (k : L ≤ M) : FitR q M := ⟨h.1.mono (by omega) k, h.2.mono (by omega) k⟩
theorem fitR_red {s : Bool} {n d L : Nat} (hd : 0 < d) (h1 : Fit 65536 n L) (h2 : Fit 65536 d L) : FitR (ratV s n d) L := by
  refine ⟨?_, ?_⟩
  · rw [(ratV_neg s n d hd).2]; exact h1.le (Nat.div_le_self _ _)
  · rw [(ratV_red s n d hd).2]; exact h2.le (Nat.div_le_self _ _)
theorem RetQz.of {w : World} {q r : Rat} (h : q = r) : ∀ e w', RetQz w q e w' → RetQz w r e w' := by rintro e w' ⟨v, h1, h2, h3⟩; exact ⟨v, h1, h ▸ h2, h3⟩
theorem q_add (q r : Rat) : ratV (decide (q.num * (r.den : Int) + r.num * (q.den : Int) < 0)) (q.num * (r.den : Int) + r.num * (q.den : Int)).natAbs (q.den * r.den) = q + r := by
  unfold ratV; rw [sgn_int]; exact (Rat.add_def' q r).symm
theorem fit_mul {n m a b L : Nat} (h : Fit 65536 n a) (k : Fit 65536 m b) (hL : a + b ≤ L) : Fit 65536 (n * m) L := (h.mul (by omega) k).mono (by omega) hL
theorem fit_mulI {x y : Int} {a b L : Nat} (h : Fit 65536 x.natAbs a) (k : Fit 65536 y.natAbs b) (hL : a + b ≤ L) : Fit 65536 (x * y).natAbs L := by
  rw [Int.natAbs_mul]; exact fit_mul h k hL
theorem fit_addI {x y : Int} {a L : Nat} (h : Fit 65536 x.natAbs a) (k : Fit 65536 y.natAbs a) (hL : a + 1 ≤ L) : Fit 65536 (x + y).natAbs L :=
  ((h.add (by omega) k).le (Int.natAbs_add_le x y)).mono (by omega) hL
theorem fitR_neg {q : Rat} {L : Nat} (h : FitR q L) : FitR (-q) L := ⟨by rw [Rat.neg_num, Int.natAbs_neg]; exact h.1, by rw [Rat.neg_den]; exact h.2⟩
set_option maxRecDepth 100000 in
set_option maxHeartbeats 2000000 in
theorem frac_pos (s1 : Bool) (A0 A1 : Option Addr) (l0 c0 l1 c1 n0 n1 L : Nat) (w : World) (hx : Z16 w (.slice A0 l0 c0) n0) (hy : Z16 w (.slice A1 l1 c1) n1) (fn : Fit 65536 n0 L) (fm : Fit 65536 n1 L) (hL : L ≤ 400000) (hd : 0 < n1)  :
    Calls Try.prog 89 #[.agg #[.bool false, .slice A0 l0 c0], .agg #[.bool s1, .slice A1 l1 c1]] w (RetQz w (ratV false n0 n1)) := by
  have HXX := Lib.hid hx
  have HYY := Lib.hid hy
  have HFN := Lib.hid fn
  have HFM := Lib.hid fm
  have HD := Lib.hid hd
  have hg : 0 < Nat.gcd n0 n1 := Nat.gcd_pos_of_pos_right n0 hd
  have hneg : Hid (decide ((ratV false n0 n1).num < 0) = false) := by
    show _ = _
    rw [(ratV_neg false n0 n1 hd).1]
    rfl
  have HAB := Lib.hid (ratV_neg false n0 n1 hd).2
  have HDN := Lib.hid (ratV_red false n0 n1 hd).2
  obtain ⟨g, hge⟩ : ∃ g, Nat.gcd n0 n1 = g := ⟨_, rfl⟩
  obtain ⟨q, hq⟩ : ∃ q, n0 / Nat.gcd n0 n1 = q := ⟨_, rfl⟩
  obtain ⟨r, hr⟩ : ∃ r, n1 / Nat.gcd n0 n1 = r := ⟨_, rfl⟩
  rw [hq] at HAB
  rw [hr] at HDN
  rw [hge] at hq hr hg
  have HGE := Lib.hid hge
  have HQ := Lib.hid hq
  have HR := Lib.hid hr
  have HGP := Lib.hid hg
  clear hx hy fn fm hd hge hq hr hg
  have hXe : Ext w (((w.alloc (.cells #[.bool false, .slice A0 l0 c0] 99)).alloc (.cells #[.bool s1, .slice A1 l1 c1] 99)).alloc (.cells #[.bool false, .slice none 0 0, .slice none 0 0] 101)) := ((((Ext.refl w).alloc _).alloc _).alloc _)
  have kA : Blk (((w.alloc (.cells #[.bool false, .slice A0 l0 c0] 99)).alloc (.cells #[.bool s1, .slice A1 l1 c1] 99)).alloc (.cells #[.bool false, .slice none 0 0, .slice none 0 0] 101)) w.heap.size 99 #[.bool false, .slice A0 l0 c0] := Blk.alloc (Blk.alloc (Blk.at_ (by simp)) _) _
  have kB : Blk (((w.alloc (.cells #[.bool false, .slice A0 l0 c0] 99)).alloc (.cells #[.bool s1, .slice A1 l1 c1] 99)).alloc (.cells #[.bool false, .slice none 0 0, .slice none 0 0] 101)) (w.heap.size + 1) 99 #[.bool s1, .slice A1 l1 c1] := Blk.alloc (Blk.at_ (by simp)) _
  have kR : Blk (((w.alloc (.cells #[.bool false, .slice A0 l0 c0] 99)).alloc (.cells #[.bool s1, .slice A1 l1 c1] 99)).alloc (.cells #[.bool false, .slice none 0 0, .slice none 0 0] 101)) (w.heap.size + 2) 101 #[.bool false, .slice none 0 0, .slice none 0 0] := Blk.at_ (by simp)
  go_enter Try.func89, Try.ntmps89
  go_wp2_with fail
  generalize (((w.alloc (.cells #[.bool false, .slice A0 l0 c0] 99)).alloc (.cells #[.bool s1, .slice A1 l1 c1] 99)).alloc (.cells #[.bool false, .slice none 0 0, .slice none 0 0] 101)) = w1 at hXe kA kB kR ⊢
  have HX := Lib.hid hXe
  clear hXe
  have KA := Lib.hid kA
  clear kA
  have KB := Lib.hid kB
  clear kB
  have KR := Lib.hid kR
  clear kR
  replace HXX := Lib.hid (HXX.out.ext HX.out)
  replace HYY := Lib.hid (HYY.out.ext HX.out)
  have cA0 : w1.cell? ⟨w.heap.size, 0, none⟩ = some (.bool false) := KA.out.cell 0
  have cA1 : w1.cell? ⟨w.heap.size, 1, none⟩ = some (.slice A0 l0 c0) := KA.out.cell 1
  have cB0 : w1.cell? ⟨(w.heap.size + 1), 0, none⟩ = some (.bool s1) := KB.out.cell 0
  have cB1 : w1.cell? ⟨(w.heap.size + 1), 1, none⟩ = some (.slice A1 l1 c1) := KB.out.cell 1
  go_wp2_with fail
  clear cA0 cA1 cB0 cB1
  refine (gcd16_any _ _ n0 n1 L _ HXX.out HYY.out HFN.out HFM.out hL).mono ?_
  rw [HGE.out]
  rintro e w2 ⟨v6, rfl, h6, hX⟩
  replace hX : Ext w1 w2 := by with_reducible exact hX
  replace HX := Lib.hid (HX.out.trans hX)
  replace HXX := Lib.hid (HXX.out.ext hX)
  replace HYY := Lib.hid (HYY.out.ext hX)
  replace KA := Lib.hid (KA.out.ext hX)
  replace KB := Lib.hid (KB.out.ext hX)
  replace KR := Lib.hid (KR.out.ext hX)
  clear hX
  have HG := Lib.hid h6
  clear h6
  have cA0 : w2.cell? ⟨w.heap.size, 0, none⟩ = some (.bool false) := KA.out.cell 0
  have cA1 : w2.cell? ⟨w.heap.size, 1, none⟩ = some (.slice A0 l0 c0) := KA.out.cell 1
  have cB0 : w2.cell? ⟨(w.heap.size + 1), 0, none⟩ = some (.bool s1) := KB.out.cell 0
  have cB1 : w2.cell? ⟨(w.heap.size + 1), 1, none⟩ = some (.slice A1 l1 c1) := KB.out.cell 1
  go_wp2_with fail
  clear cA0 cA1 cB0 cB1
  refine (divide_any _ _ n0 g L _ HXX.out HG.out HFN.out hL HGP.out).mono ?_
  rw [HQ.out]
  rintro e w3 ⟨v7, v7', rfl, h7, h7', hX⟩
  replace hX : Ext w2 w3 := by with_reducible exact hX
  replace HX := Lib.hid (HX.out.trans hX)
  replace HXX := Lib.hid (HXX.out.ext hX)
  replace HYY := Lib.hid (HYY.out.ext hX)
  replace HG := Lib.hid (HG.out.ext hX)
  replace KA := Lib.hid (KA.out.ext hX)
  replace KB := Lib.hid (KB.out.ext hX)
  replace KR := Lib.hid (KR.out.ext hX)
  clear hX
  obtain ⟨A7, l7, c7, rfl, hv7, hz7⟩ := Z16.open h7
  have HV := Lib.hid hv7
  clear h7 h7' hv7
  clear hz7
  have cA0 : w3.cell? ⟨w.heap.size, 0, none⟩ = some (.bool false) := KA.out.cell 0
  have cA1 : w3.cell? ⟨w.heap.size, 1, none⟩ = some (.slice A0 l0 c0) := KA.out.cell 1
  have cB0 : w3.cell? ⟨(w.heap.size + 1), 0, none⟩ = some (.bool s1) := KB.out.cell 0
  have cB1 : w3.cell? ⟨(w.heap.size + 1), 1, none⟩ = some (.slice A1 l1 c1) := KB.out.cell 1
  go_wp2_with fail
  clear cA0 cA1 cB0 cB1
  refine (divide_any _ _ n1 g L _ HYY.out HG.out HFM.out hL HGP.out).mono ?_
  rw [HR.out]
  rintro e w4 ⟨v8, v8', rfl, h8, h8', hX⟩
  replace hX : Ext w3 w4 := by with_reducible exact hX
  replace HX := Lib.hid (HX.out.trans hX)
  replace HXX := Lib.hid (HXX.out.ext hX)
  replace HYY := Lib.hid (HYY.out.ext hX)
  replace HG := Lib.hid (HG.out.ext hX)
  replace HV := Lib.hid (HV.out.ext hX)
  replace KA := Lib.hid (KA.out.ext hX)
  replace KB := Lib.hid (KB.out.ext hX)
  replace KR := Lib.hid (KR.out.ext hX)
  clear hX
  obtain ⟨A8, l8, c8, rfl, hv8, _⟩ := Z16.open h8
  have HW := Lib.hid hv8
  clear h8 h8' hv8
  have HNI := Lib.hid (NoInts.three KR.out)
  have cA0 : w4.cell? ⟨w.heap.size, 0, none⟩ = some (.bool false) := KA.out.cell 0
  have cA1 : w4.cell? ⟨w.heap.size, 1, none⟩ = some (.slice A0 l0 c0) := KA.out.cell 1
  have cR0 : w4.cell? ⟨(w.heap.size + 2), 0, none⟩ = some (.bool false) := KR.out.cell 0
  have fR0 : w4.frozen? ⟨(w.heap.size + 2), 0, none⟩ = false := KR.out.free 0
  have cR1 : w4.cell? ⟨(w.heap.size + 2), 1, none⟩ = some (.slice none 0 0) := KR.out.cell 1
  have fR1 : w4.frozen? ⟨(w.heap.size + 2), 1, none⟩ = false := KR.out.free 1
  have cR2 : w4.cell? ⟨(w.heap.size + 2), 2, none⟩ = some (.slice none 0 0) := KR.out.cell 2
  have fR2 : w4.frozen? ⟨(w.heap.size + 2), 2, none⟩ = false := KR.out.free 2
  go_wp2
  refine bodyPost_ret (v := .agg #[.bool false, .slice A7 l7 c7, .slice A8 l8 c8]) (by simp [results, Try.results89, go_sem, *]) rfl ?_
  exact ⟨_, rfl, ⟨_, _, _, _, _, _, _, rfl, hneg.out.symm, by rw [HAB.out]; exact HV.out.box3 HNI.out _ _ _ _ _ _ _, by rw [HDN.out]; exact HW.out.box3 HNI.out _ _ _ _ _ _ _⟩, Ext.boxed HX.out (by omega) _ _ _⟩

set_option maxRecDepth 100000 in
set_option maxHeartbeats 2000000 in
theorem frac_neg (s1 : Bool) (A0 A1 : Option Addr) (l0 c0 l1 c1 n0 n1 L : Nat) (w : World) (hx : Z16 w (.slice A0 l0 c0) n0) (hy : Z16 w (.slice A1 l1 c1) n1) (fn : Fit 65536 n0 L) (fm : Fit 65536 n1 L) (hL : L ≤ 400000) (hd : 0 < n1) (hn : 0 < n0) :
    Calls Try.prog 89 #[.agg #[.bool true, .slice A0 l0 c0], .agg #[.bool s1, .slice A1 l1 c1]] w (RetQz w (ratV true n0 n1)) := by
  have HXX := Lib.hid hx
  have HYY := Lib.hid hy
  have HFN := Lib.hid fn
  have HFM := Lib.hid fm
  have HD := Lib.hid hd
  have hg : 0 < Nat.gcd n0 n1 := Nat.gcd_pos_of_pos_right n0 hd
  have hneg : Hid (decide ((ratV true n0 n1).num < 0) = true) := by
    show _ = _
    rw [(ratV_neg true n0 n1 hd).1]
    exact nz_pos _ (by omega)
  have HAB := Lib.hid (ratV_neg true n0 n1 hd).2
  have HDN := Lib.hid (ratV_red true n0 n1 hd).2
  have hq0 : 0 < n0 / Nat.gcd n0 n1 := Nat.div_pos (Nat.le_of_dvd hn (Nat.gcd_dvd_left _ _)) hg
  obtain ⟨g, hge⟩ : ∃ g, Nat.gcd n0 n1 = g := ⟨_, rfl⟩
  obtain ⟨q, hq⟩ : ∃ q, n0 / Nat.gcd n0 n1 = q := ⟨_, rfl⟩
  obtain ⟨r, hr⟩ : ∃ r, n1 / Nat.gcd n0 n1 = r := ⟨_, rfl⟩
  rw [hq] at HAB
  rw [hq] at hq0
  rw [hr] at HDN
  rw [hge] at hq hr hg
  have HGE := Lib.hid hge
  have HQ := Lib.hid hq
  have HR := Lib.hid hr
  have HGP := Lib.hid hg
  clear hx hy fn fm hd hge hq hr hg
  clear hn
  have hXe : Ext w (((w.alloc (.cells #[.bool true, .slice A0 l0 c0] 99)).alloc (.cells #[.bool s1, .slice A1 l1 c1] 99)).alloc (.cells #[.bool false, .slice none 0 0, .slice none 0 0] 101)) := ((((Ext.refl w).alloc _).alloc _).alloc _)
  have kA : Blk (((w.alloc (.cells #[.bool true, .slice A0 l0 c0] 99)).alloc (.cells #[.bool s1, .slice A1 l1 c1] 99)).alloc (.cells #[.bool false, .slice none 0 0, .slice none 0 0] 101)) w.heap.size 99 #[.bool true, .slice A0 l0 c0] := Blk.alloc (Blk.alloc (Blk.at_ (by simp)) _) _
  have kB : Blk (((w.alloc (.cells #[.bool true, .slice A0 l0 c0] 99)).alloc (.cells #[.bool s1, .slice A1 l1 c1] 99)).alloc (.cells #[.bool false, .slice none 0 0, .slice none 0 0] 101)) (w.heap.size + 1) 99 #[.bool s1, .slice A1 l1 c1] := Blk.alloc (Blk.at_ (by simp)) _
  have kR : Blk (((w.alloc (.cells #[.bool true, .slice A0 l0 c0] 99)).alloc (.cells #[.bool s1, .slice A1 l1 c1] 99)).alloc (.cells #[.bool false, .slice none 0 0, .slice none 0 0] 101)) (w.heap.size + 2) 101 #[.bool false, .slice none 0 0, .slice none 0 0] := Blk.at_ (by simp)
  go_enter Try.func89, Try.ntmps89
  go_wp2_with fail
  generalize (((w.alloc (.cells #[.bool true, .slice A0 l0 c0] 99)).alloc (.cells #[.bool s1, .slice A1 l1 c1] 99)).alloc (.cells #[.bool false, .slice none 0 0, .slice none 0 0] 101)) = w1 at hXe kA kB kR ⊢
  have HX := Lib.hid hXe
  clear hXe
  have KA := Lib.hid kA
  clear kA
  have KB := Lib.hid kB
  clear kB
  have KR := Lib.hid kR
  clear kR
  replace HXX := Lib.hid (HXX.out.ext HX.out)
  replace HYY := Lib.hid (HYY.out.ext HX.out)
  have cA0 : w1.cell? ⟨w.heap.size, 0, none⟩ = some (.bool true) := KA.out.cell 0
  have cA1 : w1.cell? ⟨w.heap.size, 1, none⟩ = some (.slice A0 l0 c0) := KA.out.cell 1
  have cB0 : w1.cell? ⟨(w.heap.size + 1), 0, none⟩ = some (.bool s1) := KB.out.cell 0
  have cB1 : w1.cell? ⟨(w.heap.size + 1), 1, none⟩ = some (.slice A1 l1 c1) := KB.out.cell 1
  go_wp2_with fail
  clear cA0 cA1 cB0 cB1
  refine (gcd16_any _ _ n0 n1 L _ HXX.out HYY.out HFN.out HFM.out hL).mono ?_
  rw [HGE.out]
  rintro e w2 ⟨v6, rfl, h6, hX⟩
  replace hX : Ext w1 w2 := by with_reducible exact hX
  replace HX := Lib.hid (HX.out.trans hX)
  replace HXX := Lib.hid (HXX.out.ext hX)
  replace HYY := Lib.hid (HYY.out.ext hX)
  replace KA := Lib.hid (KA.out.ext hX)
  replace KB := Lib.hid (KB.out.ext hX)
  replace KR := Lib.hid (KR.out.ext hX)
  clear hX
  have HG := Lib.hid h6
  clear h6
  have cA0 : w2.cell? ⟨w.heap.size, 0, none⟩ = some (.bool true) := KA.out.cell 0
  have cA1 : w2.cell? ⟨w.heap.size, 1, none⟩ = some (.slice A0 l0 c0) := KA.out.cell 1
  have cB0 : w2.cell? ⟨(w.heap.size + 1), 0, none⟩ = some (.bool s1) := KB.out.cell 0
  have cB1 : w2.cell? ⟨(w.heap.size + 1), 1, none⟩ = some (.slice A1 l1 c1) := KB.out.cell 1
  go_wp2_with fail
  clear cA0 cA1 cB0 cB1
  refine (divide_any _ _ n0 g L _ HXX.out HG.out HFN.out hL HGP.out).mono ?_
  rw [HQ.out]
  rintro e w3 ⟨v7, v7', rfl, h7, h7', hX⟩
  replace hX : Ext w2 w3 := by with_reducible exact hX
  replace HX := Lib.hid (HX.out.trans hX)
  replace HXX := Lib.hid (HXX.out.ext hX)
  replace HYY := Lib.hid (HYY.out.ext hX)
  replace HG := Lib.hid (HG.out.ext hX)
  replace KA := Lib.hid (KA.out.ext hX)
  replace KB := Lib.hid (KB.out.ext hX)
  replace KR := Lib.hid (KR.out.ext hX)
  clear hX
  obtain ⟨A7, l7, c7, rfl, hv7, hz7⟩ := Z16.open h7
  have HV := Lib.hid hv7
  clear h7 h7' hv7
  have hl7 : (0 : Int) < (l7 : Int) := by
    rcases Nat.eq_zero_or_pos l7 with h | h
    · have := hz7.1 h; omega
    · omega
  have hl7' : 0 < l7 := by omega
  clear hz7
  have cA0 : w3.cell? ⟨w.heap.size, 0, none⟩ = some (.bool true) := KA.out.cell 0
  have cA1 : w3.cell? ⟨w.heap.size, 1, none⟩ = some (.slice A0 l0 c0) := KA.out.cell 1
  have cB0 : w3.cell? ⟨(w.heap.size + 1), 0, none⟩ = some (.bool s1) := KB.out.cell 0
  have cB1 : w3.cell? ⟨(w.heap.size + 1), 1, none⟩ = some (.slice A1 l1 c1) := KB.out.cell 1
  go_wp2_with fail
  clear cA0 cA1 cB0 cB1
  refine (divide_any _ _ n1 g L _ HYY.out HG.out HFM.out hL HGP.out).mono ?_
  rw [HR.out]
  rintro e w4 ⟨v8, v8', rfl, h8, h8', hX⟩
  replace hX : Ext w3 w4 := by with_reducible exact hX
  replace HX := Lib.hid (HX.out.trans hX)
  replace HXX := Lib.hid (HXX.out.ext hX)
  replace HYY := Lib.hid (HYY.out.ext hX)
  replace HG := Lib.hid (HG.out.ext hX)
  replace HV := Lib.hid (HV.out.ext hX)
  replace KA := Lib.hid (KA.out.ext hX)
  replace KB := Lib.hid (KB.out.ext hX)
  replace KR := Lib.hid (KR.out.ext hX)
  clear hX
  obtain ⟨A8, l8, c8, rfl, hv8, _⟩ := Z16.open h8
  have HW := Lib.hid hv8
  clear h8 h8' hv8
  have HNI := Lib.hid (NoInts.three KR.out)
  have cA0 : w4.cell? ⟨w.heap.size, 0, none⟩ = some (.bool true) := KA.out.cell 0
  have cA1 : w4.cell? ⟨w.heap.size, 1, none⟩ = some (.slice A0 l0 c0) := KA.out.cell 1
  have cR0 : w4.cell? ⟨(w.heap.size + 2), 0, none⟩ = some (.bool false) := KR.out.cell 0
  have fR0 : w4.frozen? ⟨(w.heap.size + 2), 0, none⟩ = false := KR.out.free 0
  have cR1 : w4.cell? ⟨(w.heap.size + 2), 1, none⟩ = some (.slice none 0 0) := KR.out.cell 1
  have fR1 : w4.frozen? ⟨(w.heap.size + 2), 1, none⟩ = false := KR.out.free 1
  have cR2 : w4.cell? ⟨(w.heap.size + 2), 2, none⟩ = some (.slice none 0 0) := KR.out.cell 2
  have fR2 : w4.frozen? ⟨(w.heap.size + 2), 2, none⟩ = false := KR.out.free 2
  go_wp2
  refine bodyPost_ret (v := .agg #[.bool true, .slice A7 l7 c7, .slice A8 l8 c8]) (by simp [results, Try.results89, go_sem, *]) rfl ?_
  exact ⟨_, rfl, ⟨_, _, _, _, _, _, _, rfl, hneg.out.symm, by rw [HAB.out]; exact HV.out.box3 HNI.out _ _ _ _ _ _ _, by rw [HDN.out]; exact HW.out.box3 HNI.out _ _ _ _ _ _ _⟩, Ext.boxed HX.out (by omega) _ _ _⟩

set_option maxRecDepth 100000 in
set_option maxHeartbeats 2000000 in
theorem frac_zero (s1 : Bool) (A0 A1 : Option Addr) (l0 c0 l1 c1 n0 n1 L : Nat) (w : World) (hx : Z16 w (.slice A0 l0 c0) n0) (hy : Z16 w (.slice A1 l1 c1) n1) (fn : Fit 65536 n0 L) (fm : Fit 65536 n1 L) (hL : L ≤ 400000) (hd : 0 < n1) (hn : n0 = 0) :
    Calls Try.prog 89 #[.agg #[.bool true, .slice A0 l0 c0], .agg #[.bool s1, .slice A1 l1 c1]] w (RetQz w (ratV true n0 n1)) := by
  have HXX := Lib.hid hx
  have HYY := Lib.hid hy
  have HFN := Lib.hid fn
  have HFM := Lib.hid fm
  have HD := Lib.hid hd
  have hg : 0 < Nat.gcd n0 n1 := Nat.gcd_pos_of_pos_right n0 hd
  have hneg : Hid (decide ((ratV true n0 n1).num < 0) = false) := by
    show _ = _
    rw [(ratV_neg true n0 n1 hd).1]
    rw [hn]; rfl
  have HAB := Lib.hid (ratV_neg true n0 n1 hd).2
  have HDN := Lib.hid (ratV_red true n0 n1 hd).2
  have hq0 : n0 / Nat.gcd n0 n1 = 0 := by rw [hn]; simp
  obtain ⟨g, hge⟩ : ∃ g, Nat.gcd n0 n1 = g := ⟨_, rfl⟩
  obtain ⟨q, hq⟩ : ∃ q, n0 / Nat.gcd n0 n1 = q := ⟨_, rfl⟩
  obtain ⟨r, hr⟩ : ∃ r, n1 / Nat.gcd n0 n1 = r := ⟨_, rfl⟩
  rw [hq] at HAB
  rw [hq] at hq0
  rw [hr] at HDN
  rw [hge] at hq hr hg
  have HGE := Lib.hid hge
  have HQ := Lib.hid hq
  have HR := Lib.hid hr
  have HGP := Lib.hid hg
  clear hx hy fn fm hd hge hq hr hg
  clear hn
  have hXe : Ext w (((w.alloc (.cells #[.bool true, .slice A0 l0 c0] 99)).alloc (.cells #[.bool s1, .slice A1 l1 c1] 99)).alloc (.cells #[.bool false, .slice none 0 0, .slice none 0 0] 101)) := ((((Ext.refl w).alloc _).alloc _).alloc _)
  have kA : Blk (((w.alloc (.cells #[.bool true, .slice A0 l0 c0] 99)).alloc (.cells #[.bool s1, .slice A1 l1 c1] 99)).alloc (.cells #[.bool false, .slice none 0 0, .slice none 0 0] 101)) w.heap.size 99 #[.bool true, .slice A0 l0 c0] := Blk.alloc (Blk.alloc (Blk.at_ (by simp)) _) _
  have kB : Blk (((w.alloc (.cells #[.bool true, .slice A0 l0 c0] 99)).alloc (.cells #[.bool s1, .slice A1 l1 c1] 99)).alloc (.cells #[.bool false, .slice none 0 0, .slice none 0 0] 101)) (w.heap.size + 1) 99 #[.bool s1, .slice A1 l1 c1] := Blk.alloc (Blk.at_ (by simp)) _
  have kR : Blk (((w.alloc (.cells #[.bool true, .slice A0 l0 c0] 99)).alloc (.cells #[.bool s1, .slice A1 l1 c1] 99)).alloc (.cells #[.bool false, .slice none 0 0, .slice none 0 0] 101)) (w.heap.size + 2) 101 #[.bool false, .slice none 0 0, .slice none 0 0] := Blk.at_ (by simp)
  go_enter Try.func89, Try.ntmps89
  go_wp2_with fail
  generalize (((w.alloc (.cells #[.bool true, .slice A0 l0 c0] 99)).alloc (.cells #[.bool s1, .slice A1 l1 c1] 99)).alloc (.cells #[.bool false, .slice none 0 0, .slice none 0 0] 101)) = w1 at hXe kA kB kR ⊢
  have HX := Lib.hid hXe
  clear hXe
  have KA := Lib.hid kA
  clear kA
  have KB := Lib.hid kB
  clear kB
  have KR := Lib.hid kR
  clear kR
  replace HXX := Lib.hid (HXX.out.ext HX.out)
  replace HYY := Lib.hid (HYY.out.ext HX.out)
  have cA0 : w1.cell? ⟨w.heap.size, 0, none⟩ = some (.bool true) := KA.out.cell 0
  have cA1 : w1.cell? ⟨w.heap.size, 1, none⟩ = some (.slice A0 l0 c0) := KA.out.cell 1
  have cB0 : w1.cell? ⟨(w.heap.size + 1), 0, none⟩ = some (.bool s1) := KB.out.cell 0
  have cB1 : w1.cell? ⟨(w.heap.size + 1), 1, none⟩ = some (.slice A1 l1 c1) := KB.out.cell 1
  go_wp2_with fail
  clear cA0 cA1 cB0 cB1
  refine (gcd16_any _ _ n0 n1 L _ HXX.out HYY.out HFN.out HFM.out hL).mono ?_
  rw [HGE.out]
  rintro e w2 ⟨v6, rfl, h6, hX⟩
  replace hX : Ext w1 w2 := by with_reducible exact hX
  replace HX := Lib.hid (HX.out.trans hX)
  replace HXX := Lib.hid (HXX.out.ext hX)
  replace HYY := Lib.hid (HYY.out.ext hX)
  replace KA := Lib.hid (KA.out.ext hX)
  replace KB := Lib.hid (KB.out.ext hX)
  replace KR := Lib.hid (KR.out.ext hX)
  clear hX
  have HG := Lib.hid h6
  clear h6
  have cA0 : w2.cell? ⟨w.heap.size, 0, none⟩ = some (.bool true) := KA.out.cell 0
  have cA1 : w2.cell? ⟨w.heap.size, 1, none⟩ = some (.slice A0 l0 c0) := KA.out.cell 1
  have cB0 : w2.cell? ⟨(w.heap.size + 1), 0, none⟩ = some (.bool s1) := KB.out.cell 0
  have cB1 : w2.cell? ⟨(w.heap.size + 1), 1, none⟩ = some (.slice A1 l1 c1) := KB.out.cell 1
  go_wp2_with fail
  clear cA0 cA1 cB0 cB1
  refine (divide_any _ _ n0 g L _ HXX.out HG.out HFN.out hL HGP.out).mono ?_
  rw [HQ.out]
  rintro e w3 ⟨v7, v7', rfl, h7, h7', hX⟩
  replace hX : Ext w2 w3 := by with_reducible exact hX
  replace HX := Lib.hid (HX.out.trans hX)
  replace HXX := Lib.hid (HXX.out.ext hX)
  replace HYY := Lib.hid (HYY.out.ext hX)
  replace HG := Lib.hid (HG.out.ext hX)
  replace KA := Lib.hid (KA.out.ext hX)
  replace KB := Lib.hid (KB.out.ext hX)
  replace KR := Lib.hid (KR.out.ext hX)
  clear hX
  obtain ⟨A7, l7, c7, rfl, hv7, hz7⟩ := Z16.open h7
  have HV := Lib.hid hv7
  clear h7 h7' hv7
  obtain rfl : l7 = 0 := hz7.2 hq0
  clear hz7
  have cA0 : w3.cell? ⟨w.heap.size, 0, none⟩ = some (.bool true) := KA.out.cell 0
  have cA1 : w3.cell? ⟨w.heap.size, 1, none⟩ = some (.slice A0 l0 c0) := KA.out.cell 1
  have cB0 : w3.cell? ⟨(w.heap.size + 1), 0, none⟩ = some (.bool s1) := KB.out.cell 0
  have cB1 : w3.cell? ⟨(w.heap.size + 1), 1, none⟩ = some (.slice A1 l1 c1) := KB.out.cell 1
  go_wp2_with fail
  clear cA0 cA1 cB0 cB1
  refine (divide_any _ _ n1 g L _ HYY.out HG.out HFM.out hL HGP.out).mono ?_
  rw [HR.out]
  rintro e w4 ⟨v8, v8', rfl, h8, h8', hX⟩
  replace hX : Ext w3 w4 := by with_reducible exact hX
  replace HX := Lib.hid (HX.out.trans hX)
  replace HXX := Lib.hid (HXX.out.ext hX)
  replace HYY := Lib.hid (HYY.out.ext hX)
  replace HG := Lib.hid (HG.out.ext hX)
  replace HV := Lib.hid (HV.out.ext hX)
  replace KA := Lib.hid (KA.out.ext hX)
  replace KB := Lib.hid (KB.out.ext hX)
  replace KR := Lib.hid (KR.out.ext hX)
  clear hX
  obtain ⟨A8, l8, c8, rfl, hv8, _⟩ := Z16.open h8
  have HW := Lib.hid hv8
  clear h8 h8' hv8
  have HNI := Lib.hid (NoInts.three KR.out)
  have cA0 : w4.cell? ⟨w.heap.size, 0, none⟩ = some (.bool true) := KA.out.cell 0
  have cA1 : w4.cell? ⟨w.heap.size, 1, none⟩ = some (.slice A0 l0 c0) := KA.out.cell 1
  have cR0 : w4.cell? ⟨(w.heap.size + 2), 0, none⟩ = some (.bool false) := KR.out.cell 0
  have fR0 : w4.frozen? ⟨(w.heap.size + 2), 0, none⟩ = false := KR.out.free 0
  have cR1 : w4.cell? ⟨(w.heap.size + 2), 1, none⟩ = some (.slice none 0 0) := KR.out.cell 1
  have fR1 : w4.frozen? ⟨(w.heap.size + 2), 1, none⟩ = false := KR.out.free 1
  have cR2 : w4.cell? ⟨(w.heap.size + 2), 2, none⟩ = some (.slice none 0 0) := KR.out.cell 2
  have fR2 : w4.frozen? ⟨(w.heap.size + 2), 2, none⟩ = false := KR.out.free 2
  go_wp2
  refine bodyPost_ret (v := .agg #[.bool false, .slice A7 0 c7, .slice A8 l8 c8]) (by simp [results, Try.results89, go_sem, *]) rfl ?_
  exact ⟨_, rfl, ⟨_, _, _, _, _, _, _, rfl, hneg.out.symm, by rw [HAB.out]; exact HV.out.box3 HNI.out _ _ _ _ _ _ _, by rw [HDN.out]; exact HW.out.box3 HNI.out _ _ _ _ _ _ _⟩, Ext.boxed HX.out (by omega) _ _ _⟩


theorem frac_any (s s1 : Bool) (A0 A1 : Option Addr) (l0 c0 l1 c1 n d L : Nat) (w : World) (hx : Z16 w (.slice A0 l0 c0) n) (hy : Z16 w (.slice A1 l1 c1) d) (fn : Fit 65536 n L) (fm : Fit 65536 d L) (hL : L ≤ 400000) (hd : 0 < d) :
    Calls Try.prog 89 #[.agg #[.bool s, .slice A0 l0 c0], .agg #[.bool s1, .slice A1 l1 c1]] w (RetQz w (ratV s n d)) := by
  cases s
  · exact frac_pos s1 A0 A1 l0 c0 l1 c1 n d L w hx hy fn fm hL hd
  · rcases Nat.eq_zero_or_pos n with h | h
    · exact frac_zero s1 A0 A1 l0 c0 l1 c1 n d L w hx hy fn fm hL hd h
    · exact frac_neg s1 A0 A1 l0 c0 l1 c1 n d L w hx hy fn fm hL hd h
theorem fracI (va : Value) (x : Int) (s1 : Bool) (A1 : Option Addr) (l1 c1 d L : Nat) (w : World) (ha : IntZ w va x) (hy : Z16 w (.slice A1 l1 c1) d) (fn : Fit 65536 x.natAbs L) (fm : Fit 65536 d L) (hL : L ≤ 400000) (hd : 0 < d) :
    Calls Try.prog 89 #[va, .agg #[.bool s1, .slice A1 l1 c1]] w (RetQz w (ratV (decide (x < 0)) x.natAbs d)) := by
  obtain ⟨A0, l0, c0, rfl, hx⟩ := ha
  exact frac_any _ s1 A0 A1 l0 c0 l1 c1 _ d L w hx hy fn fm hL hd

set_option maxRecDepth 100000 in
set_option maxHeartbeats 2000000 in
theorem whole_any (n : Int) (w : World) (h0 : -9223372036854775808 ≤ n) (h1 : n ≤ 9223372036854775807) :
    Calls Try.prog 87 #[.int .i64 n] w (RetQz w (n : Rat)) := by
  have hXe : Ext w (w.alloc (.cells #[.bool false, .slice none 0 0, .slice none 0 0] 101)) := ((Ext.refl w).alloc _)
  have kR : Blk (w.alloc (.cells #[.bool false, .slice none 0 0, .slice none 0 0] 101)) w.heap.size 101 #[.bool false, .slice none 0 0, .slice none 0 0] := Blk.at_ (by simp)
  go_enter Try.func87, Try.ntmps87
  go_wp2_with fail
  generalize (w.alloc (.cells #[.bool false, .slice none 0 0, .slice none 0 0] 101)) = w1 at hXe kR ⊢
  have HX := Lib.hid hXe
  clear hXe
  have KR := Lib.hid kR
  clear kR
  refine (small_any n _ h0 h1).mono ?_
  rintro e w2 ⟨v7, rfl, h7, hX⟩
  replace hX : Ext w1 w2 := by with_reducible exact hX
  replace HX := Lib.hid (HX.out.trans hX)
  replace KR := Lib.hid (KR.out.ext hX)
  clear hX
  obtain ⟨A7, l7, c7, rfl, hv7⟩ := h7
  have HV := Lib.hid hv7
  clear hv7
  have HNI := Lib.hid (NoInts.three KR.out)
  have HS : Hid (decide (n < 0) = decide ((n : Rat).num < 0)) := by rw [Rat.num_intCast]; rfl
  have rl := KR.out.lt
  have cR0 : w2.cell? ⟨w.heap.size, 0, none⟩ = some (.bool false) := KR.out.cell 0
  have fR0 : w2.frozen? ⟨w.heap.size, 0, none⟩ = false := KR.out.free 0
  have cR1 : w2.cell? ⟨w.heap.size, 1, none⟩ = some (.slice none 0 0) := KR.out.cell 1
  have fR1 : w2.frozen? ⟨w.heap.size, 1, none⟩ = false := KR.out.free 1
  have cR2 : w2.cell? ⟨w.heap.size, 2, none⟩ = some (.slice none 0 0) := KR.out.cell 2
  have fR2 : w2.frozen? ⟨w.heap.size, 2, none⟩ = false := KR.out.free 2
  go_wp2
  refine bodyPost_ret (v := .agg #[.bool (decide (n < 0)), .slice A7 l7 c7, .slice (some ⟨w2.heap.size, 0, none⟩) 1 1]) (by simp [results, Try.results87, go_sem, *]) rfl ?_
  exact ⟨_, rfl, ⟨_, _, _, _, _, _, _, rfl, HS.out, by rw [Rat.num_intCast]; exact (HV.out.box3 HNI.out _ _ _ _ _ _ _).ext ((Ext.refl _).alloc _), by rw [Rat.den_intCast]; exact (Blk.at_ (by simp)).one16⟩, (Ext.boxed HX.out (by omega) _ _ _).alloc _⟩

end Go.Proofs.Ytagcgldhhdecjaa
