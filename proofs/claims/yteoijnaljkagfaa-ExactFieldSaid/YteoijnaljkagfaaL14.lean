/- How long results are; short and equal of the statements of layer 1. -/
import Derived.Test.YteoijnaljkagfaaE9
import Derived.Test.YteoijnaljkagfaaL1
namespace Go.Proofs.Yteoijnaljkagfaa
open Go.RowKit

theorem fitQ_add {q r : Rat} {L M : Nat} (h : FitQ q L) (k : FitQ r M) : FitQ (q + r) (L + M + 1) := by
  obtain ⟨h4, h5⟩ := h
  obtain ⟨g4, g5⟩ := k
  have h2 := q.den_pos
  have g2 := r.den_pos
  have fx := h4.mul (by omega) g5
  have fy := g4.mul (by omega) h5
  rw [Nat.add_comm M L] at fy
  have fd := (h5.mul (by omega) g5).mono (b := L + M + 1) (by omega) (by omega)
  have hp := Nat.mul_pos h2 g2
  rw [← ratV_self q, ← ratV_self r]
  generalize decide (q.num < 0) = s
  generalize decide (r.num < 0) = t
  generalize q.num.natAbs = n at *
  generalize r.num.natAbs = m at *
  generalize q.den = d at *
  generalize r.den = e at *
  by_cases hst : s = t
  · rw [ratV_add_same h2 g2 hst]; exact fit_red hp (fx.add (by omega) fy) fd
  · rcases Nat.lt_or_ge (n * e) (m * d) with hl | hl
    · rw [ratV_add_lt h2 g2 hst (Nat.le_of_lt hl)]; exact fit_red hp ((fy.le (Nat.sub_le _ _)).mono (by omega) (by omega)) fd
    · rw [ratV_add_ge h2 g2 hst hl]; exact fit_red hp ((fx.le (Nat.sub_le _ _)).mono (by omega) (by omega)) fd
theorem fitQ_sub {q r : Rat} {L M : Nat} (h : FitQ q L) (k : FitQ r M) : FitQ (q - r) (L + M + 1) := by
  rw [Rat.sub_eq_add_neg]; exact fitQ_add h (fitQ_neg k)
theorem fitQ_mul {q r : Rat} {L M : Nat} (h : FitQ q L) (k : FitQ r M) : FitQ (q * r) (L + M) := by
  have hp := Nat.mul_pos q.den_pos r.den_pos
  have fx := h.1.mul (by omega) k.1
  have fd := h.2.mul (by omega) k.2
  rw [← ratV_self q, ← ratV_self r, ratV_mul]
  exact fit_red hp fx fd
theorem fitQ_int {n : Int} {L : Nat} (h : Fit 4294967296 n.natAbs L) (hL : 0 < L) : FitQ ((n : Int) : Rat) L := by
  refine ⟨by rw [Rat.num_intCast]; exact h, ?_⟩
  rw [Rat.den_intCast]
  exact Fit.one (by omega) hL
theorem fitQ_small {n : Int} (h0 : -9223372036854775808 ≤ n) (h1 : n ≤ 9223372036854775807) : FitQ ((n : Int) : Rat) 2 := by
  refine fitQ_int ?_ (by omega)
  unfold Fit
  have : (4294967296 : Int) ^ 2 = 18446744073709551616 := by decide
  omega
theorem fit_ints {w : World} {A : Option Addr} {l : Nat} {xs : List Int} (h : Ints .u32 w A l xs) : Fit 4294967296 (wN xs) l := by
  have := val_lt (B := 4294967296) (by omega) (dg32 h)
  rw [h.1, wN_val h] at this
  exact this
/-- A value of few words: what it denotes. -/
theorem ratG_short {w : World} {v : Value} {neg : Bool} {xs ys : List Int} (h : RatV w v neg xs ys) {L : Nat} (hL : L ≤ 256) (h0 : 0 < L) (hx : xs.length ≤ L) (hy : ys.length ≤ L) : RatG w v (ratOf neg xs ys) ∧ FitQ (ratOf neg xs ys) L := by
  have h' := h
  obtain ⟨A, l, c, B, m, k, rfl, hA, _, _, hB, _, _⟩ := h
  have e1 := hA.1
  have e2 := hB.1
  have f1 := (fit_ints hA).mono (b := L) (by omega) (by omega)
  have f2 := (fit_ints hB).mono (b := L) (by omega) (by omega)
  have f3 : Fit 4294967296 (wD ys) L := by
    unfold wD
    split
    · exact Fit.one (by omega) h0
    · exact f2
  refine ⟨⟨neg, xs, ys, h', ⟨⟨f1.mono (by omega) hL⟩, ⟨f2.mono (by omega) hL⟩⟩, rfl⟩, fit_red (wD_pos ys) f1 f3⟩

set_option maxRecDepth 100000 in
set_option maxHeartbeats 2000000 in
theorem short_yes (s0 : Bool) (A0 B0 : Option Addr) (l0 c0 m0 k0 : Nat) (w : World) (h0 : l0 ≤ 60) (h1 : m0 ≤ 60) :
    Calls Try.prog 49 #[.agg #[.bool s0, .slice A0 l0 c0, .slice B0 m0 k0]] w (fun e w' => e = .returned (.bool true) ∧ Ext w w') := by
  have HX := Lib.hid ((Ext.refl w).alloc (.cells #[.bool s0, .slice A0 l0 c0, .slice B0 m0 k0] 33))
  go_enter Try.func49, Try.ntmps49
  go_wp2
  go_ret
  refine ⟨?_, HX.out⟩
  first
  | rfl
  | (refine ret_b ?_; simp; omega)

set_option maxRecDepth 100000 in
set_option maxHeartbeats 2000000 in
theorem short_no0 (s0 : Bool) (A0 B0 : Option Addr) (l0 c0 m0 k0 : Nat) (w : World) (h0 : 60 < l0) (hl : l0 ≤ 9223372036854775807) :
    Calls Try.prog 49 #[.agg #[.bool s0, .slice A0 l0 c0, .slice B0 m0 k0]] w (fun e w' => e = .returned (.bool false) ∧ Ext w w') := by
  have HX := Lib.hid ((Ext.refl w).alloc (.cells #[.bool s0, .slice A0 l0 c0, .slice B0 m0 k0] 33))
  go_enter Try.func49, Try.ntmps49
  go_wp2
  go_ret
  refine ⟨?_, HX.out⟩
  first
  | rfl
  | (refine ret_b ?_; simp; omega)

set_option maxRecDepth 100000 in
set_option maxHeartbeats 2000000 in
theorem short_no1 (s0 : Bool) (A0 B0 : Option Addr) (l0 c0 m0 k0 : Nat) (w : World) (h0 : l0 ≤ 60) (h1 : 60 < m0) (hm : m0 ≤ 9223372036854775807) :
    Calls Try.prog 49 #[.agg #[.bool s0, .slice A0 l0 c0, .slice B0 m0 k0]] w (fun e w' => e = .returned (.bool false) ∧ Ext w w') := by
  have HX := Lib.hid ((Ext.refl w).alloc (.cells #[.bool s0, .slice A0 l0 c0, .slice B0 m0 k0] 33))
  go_enter Try.func49, Try.ntmps49
  go_wp2
  go_ret
  refine ⟨?_, HX.out⟩
  first
  | rfl
  | (refine ret_b ?_; simp; omega)

set_option maxRecDepth 100000 in
set_option maxHeartbeats 2000000 in
theorem equal_same (s : Bool) (A0 B0 A1 B1 : Option Addr) (l m c0 k0 c1 k1 : Nat) (xs ys : List Int) (w : World) (hx0 : Ints .u32 w A0 l xs) (hx1 : Ints .u32 w A1 l xs) (hy0 : Ints .u32 w B0 m ys) (hy1 : Ints .u32 w B1 m ys) (hc0 : l ≤ c0 ∧ c0 ≤ 9223372036854775807) (hc1 : l ≤ c1 ∧ c1 ≤ 9223372036854775807) (hk0 : m ≤ k0 ∧ k0 ≤ 9223372036854775807) (hk1 : m ≤ k1 ∧ k1 ≤ 9223372036854775807) :
    Calls Try.prog 66 #[.agg #[.bool s, .slice A0 l c0, .slice B0 m k0], .agg #[.bool s, .slice A1 l c1, .slice B1 m k1]] w (fun e w' => e = .returned (.bool true) ∧ Ext w w') := by
  obtain ⟨hlc0, hcm0⟩ := hc0
  obtain ⟨hlc1, hcm1⟩ := hc1
  obtain ⟨hmk0, hkm0⟩ := hk0
  obtain ⟨hmk1, hkm1⟩ := hk1
  have X0 := Lib.hid hx0
  have X1 := Lib.hid hx1
  have Y0 := Lib.hid hy0
  have Y1 := Lib.hid hy1
  clear hx0 hx1 hy0 hy1
  have hXe : Ext w ((w.alloc (.cells #[.bool s, .slice A0 l c0, .slice B0 m k0] 33)).alloc (.cells #[.bool s, .slice A1 l c1, .slice B1 m k1] 33)) := (((Ext.refl w).alloc _).alloc _)
  have kA : Blk ((w.alloc (.cells #[.bool s, .slice A0 l c0, .slice B0 m k0] 33)).alloc (.cells #[.bool s, .slice A1 l c1, .slice B1 m k1] 33)) w.heap.size 33 #[.bool s, .slice A0 l c0, .slice B0 m k0] := Blk.alloc (Blk.at_ (by simp)) _
  have kB : Blk ((w.alloc (.cells #[.bool s, .slice A0 l c0, .slice B0 m k0] 33)).alloc (.cells #[.bool s, .slice A1 l c1, .slice B1 m k1] 33)) (w.heap.size + 1) 33 #[.bool s, .slice A1 l c1, .slice B1 m k1] := Blk.at_ (by simp)
  go_enter Try.func66, Try.ntmps66
  go_wp2_with fail
  generalize ((w.alloc (.cells #[.bool s, .slice A0 l c0, .slice B0 m k0] 33)).alloc (.cells #[.bool s, .slice A1 l c1, .slice B1 m k1] 33)) = w1 at hXe kA kB ⊢
  have HX := Lib.hid hXe
  clear hXe
  have KA := Lib.hid kA
  clear kA
  have KB := Lib.hid kB
  clear kB
  have cA0 : w1.cell? ⟨w.heap.size, 0, none⟩ = some (.bool s) := KA.out.cell 0
  have cA1 : w1.cell? ⟨w.heap.size, 1, none⟩ = some (.slice A0 l c0) := KA.out.cell 1
  have cA2 : w1.cell? ⟨w.heap.size, 2, none⟩ = some (.slice B0 m k0) := KA.out.cell 2
  have cB0 : w1.cell? ⟨(w.heap.size + 1), 0, none⟩ = some (.bool s) := KB.out.cell 0
  have cB1 : w1.cell? ⟨(w.heap.size + 1), 1, none⟩ = some (.slice A1 l c1) := KB.out.cell 1
  have cB2 : w1.cell? ⟨(w.heap.size + 1), 2, none⟩ = some (.slice B1 m k1) := KB.out.cell 2
  go_wp2_with fail
  clear cA0 cA1 cA2 cB0 cB1 cB2
  go_loopg [5] l (fun g' i wr => ∃ k : Nat, g' = l - k ∧ k ≤ l ∧ i = .int .i64 (k : Int) ∧ Hid (Blk wr w.heap.size 33 #[.bool s, .slice A0 l c0, .slice B0 m k0]) ∧ Hid (Blk wr (w.heap.size + 1) 33 #[.bool s, .slice A1 l c1, .slice B1 m k1]) ∧ Hid (Ext w wr))
  case atStart => exact ⟨0, rfl, by omega, rfl, KA.out, KB.out, HX.out⟩
  case round =>
    clear KA KB HX
    obtain ⟨k, rfl, hk, rfl, KA, KB, HX⟩ := hrel
    have cA0 : wr.cell? ⟨w.heap.size, 1, none⟩ = some (.slice A0 l c0) := KA.out.cell 1
    have cA1 : wr.cell? ⟨w.heap.size, 2, none⟩ = some (.slice B0 m k0) := KA.out.cell 2
    have cB0 : wr.cell? ⟨w.heap.size + 1, 1, none⟩ = some (.slice A1 l c1) := KB.out.cell 1
    have cB1 : wr.cell? ⟨w.heap.size + 1, 2, none⟩ = some (.slice B1 m k1) := KB.out.cell 2
    by_cases hlt : k < l
    · have hI : (k : Int) < (l : Int) := by omega
      have h0 : (0 : Int) ≤ (k : Int) := by omega
      obtain ⟨b0, o0, x0, hA0, hx0, hw0, hc0⟩ := X0.out.get hlt
      obtain ⟨b1, o1, x1, hA1, hx1, hw1, hc1⟩ := X1.out.get hlt
      have hxx : x1 = x0 := by rw [hx0] at hx1; injection hx1 with h; exact h.symm
      subst hxx
      subst hA0 hA1
      have d0 := HX.out.cell hc0
      have d1 := HX.out.cell hc1
      obtain ⟨u0, u1⟩ := u32_bounds hw0
      clear hx0 hx1 hw0 hw1 hc0 hc1
      go_wp2
      go_quiet (fail)
      go_wp2
      go_roundg (l - (k + 1))
      case rel => exact ⟨k + 1, rfl, by omega, by go_num, KA.out.drewN _, KB.out.drewN _, HX.out.drewN _⟩
      case measure => omega
    · obtain rfl : l = k := by omega
      go_wp2_with fail
      obtain ⟨wo, rfl⟩ : ∃ wo : World, wo = wr := ⟨_, rfl⟩
      clear cA0 cA1 cB0 cB1
      go_loopg [6] m (fun g' i wr => ∃ k : Nat, g' = m - k ∧ k ≤ m ∧ i = .int .i64 (k : Int) ∧ Hid (Blk wr w.heap.size 33 #[.bool s, .slice A0 l c0, .slice B0 m k0]) ∧ Hid (Blk wr (w.heap.size + 1) 33 #[.bool s, .slice A1 l c1, .slice B1 m k1]) ∧ Hid (Ext w wr))
      case atStart => exact ⟨0, rfl, by omega, rfl, KA.out, KB.out, HX.out⟩
      case round =>
        clear KA KB HX
        obtain ⟨k, rfl, hk, rfl, KA, KB, HX⟩ := hrel
        have cA0 : wr.cell? ⟨w.heap.size, 1, none⟩ = some (.slice A0 l c0) := KA.out.cell 1
        have cA1 : wr.cell? ⟨w.heap.size, 2, none⟩ = some (.slice B0 m k0) := KA.out.cell 2
        have cB0 : wr.cell? ⟨w.heap.size + 1, 1, none⟩ = some (.slice A1 l c1) := KB.out.cell 1
        have cB1 : wr.cell? ⟨w.heap.size + 1, 2, none⟩ = some (.slice B1 m k1) := KB.out.cell 2
        by_cases hlt : k < m
        · have hI : (k : Int) < (m : Int) := by omega
          have h0 : (0 : Int) ≤ (k : Int) := by omega
          obtain ⟨b0, o0, x0, hA0, hx0, hw0, hc0⟩ := Y0.out.get hlt
          obtain ⟨b1, o1, x1, hA1, hx1, hw1, hc1⟩ := Y1.out.get hlt
          have hxx : x1 = x0 := by rw [hx0] at hx1; injection hx1 with h; exact h.symm
          subst hxx
          subst hA0 hA1
          have d0 := HX.out.cell hc0
          have d1 := HX.out.cell hc1
          obtain ⟨u0, u1⟩ := u32_bounds hw0
          clear hx0 hx1 hw0 hw1 hc0 hc1
          go_wp2
          go_quiet (fail)
          go_wp2
          go_roundg (m - (k + 1))
          case rel => exact ⟨k + 1, rfl, by omega, by go_num, KA.out.drewN _, KB.out.drewN _, HX.out.drewN _⟩
          case measure => omega
        · obtain rfl : m = k := by omega
          go_wp2
          go_ret
          exact ⟨rfl, HX.out⟩

theorem equalC {w : World} {va vb : Value} {q r : Rat} (h : RatC w va q) (k : RatC w vb r) (e : q = r) : Calls Try.prog 66 #[va, vb] w fun e w' => e = .returned (.bool true) ∧ Ext w w' := by
  subst e
  obtain ⟨xs, ys, ⟨A, l, c, B, m, d, rfl, h1, h2, h3, h4, h5, h6⟩, hx, hy⟩ := h
  obtain ⟨xs', ys', ⟨A', l', c', B', m', d', rfl, k1, k2, k3, k4, k5, k6⟩, hx', hy'⟩ := k
  obtain rfl := hx.unique (by omega) hx'
  have hyy : ys = ys' := by
    rcases hy with ⟨a, b⟩ | ⟨a, b⟩ <;> rcases hy' with ⟨a', b'⟩ | ⟨a', b'⟩
    · rw [b, b']
    · exact absurd a a'
    · exact absurd a' a
    · exact b.unique (by omega) b'
  subst hyy
  have e1 := h1.1
  have e2 := k1.1
  have e3 := h4.1
  have e4 := k4.1
  obtain rfl : l = l' := by omega
  obtain rfl : m = m' := by omega
  exact equal_same _ A B A' B' l m c d c' d' xs ys w h1 k1 h4 k4 ⟨h2, h3⟩ ⟨k2, k3⟩ ⟨h5, h6⟩ ⟨k5, k6⟩
end Go.Proofs.Yteoijnaljkagfaa
