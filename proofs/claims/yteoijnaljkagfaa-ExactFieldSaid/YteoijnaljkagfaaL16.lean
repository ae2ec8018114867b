/- ExactField: its walk. -/
import Derived.Test.YteoijnaljkagfaaL15
namespace Go.Proofs.Yteoijnaljkagfaa
open Go.RowKit

section
variable {w : World} {va vb : Value} {q r : Rat}
theorem addG (h : RatG w va q) (k : RatG w vb r) (hf : FitQW (q + r)) : Calls Try.prog 58 #[va, vb] w (RetC w (q + r)) := by
  obtain ⟨s0, A0, l0, c0, B0, m0, k0, rfl⟩ := h.open
  obtain ⟨s1, A1, l1, c1, B1, m1, k1, rfl⟩ := k.open
  exact eadd_ok s0 s1 A0 B0 A1 B1 l0 c0 m0 k0 l1 c1 m1 k1 q r w h k hf
theorem subG (h : RatG w va q) (k : RatG w vb r) (hf : FitQW (q - r)) : Calls Try.prog 51 #[va, vb] w (RetC w (q - r)) := by
  obtain ⟨s0, A0, l0, c0, B0, m0, k0, rfl⟩ := h.open
  obtain ⟨s1, A1, l1, c1, B1, m1, k1, rfl⟩ := k.open
  exact esub_ok s0 s1 A0 B0 A1 B1 l0 c0 m0 k0 l1 c1 m1 k1 q r w h k hf
theorem mulG (h : RatG w va q) (k : RatG w vb r) (hf : FitQW (q * r)) : Calls Try.prog 59 #[va, vb] w (RetC w (q * r)) := by
  obtain ⟨s0, A0, l0, c0, B0, m0, k0, rfl⟩ := h.open
  obtain ⟨s1, A1, l1, c1, B1, m1, k1, rfl⟩ := k.open
  exact emul_ok s0 s1 A0 B0 A1 B1 l0 c0 m0 k0 l1 c1 m1 k1 q r w h k hf
theorem divG (h : RatG w va q) (k : RatG w vb r) (hz : r ≠ 0) (hf : FitQW (q / r)) : Calls Try.prog 60 #[va, vb] w (RetC w (q / r)) := by
  obtain ⟨s0, A0, l0, c0, B0, m0, k0, rfl⟩ := h.open
  obtain ⟨s1, A1, l1, c1, B1, m1, k1, rfl⟩ := k.open
  exact ediv_ok s0 s1 A0 B0 A1 B1 l0 c0 m0 k0 l1 c1 m1 k1 q r w h k hz hf
theorem divG0 (h : RatG w va q) (k : RatG w vb r) (hz : r = 0) : Calls Try.prog 60 #[va, vb] w (RetE w zeroR 10) := by
  obtain ⟨s0, A0, l0, c0, B0, m0, k0, rfl⟩ := h.open
  obtain ⟨s1, A1, l1, c1, B1, m1, k1, rfl⟩ := k.open
  exact ediv_zero s0 s1 A0 B0 A1 B1 l0 c0 m0 k0 l1 c1 m1 k1 q r w h k hz
end
theorem qfield (q r t : Rat) : q + r = r + q ∧ q + r + t = q + (r + t) ∧ q * (r + t) = q * r + q * t ∧ q + r - r = q ∧ (r ≠ 0 → q * r / r = q) := by
  refine ⟨by grind, by grind, by grind, by grind, fun h => by grind⟩

set_option maxRecDepth 100000 in
set_option maxHeartbeats 2000000 in
theorem field_a0 (s0 : Bool) (A0 B0 : Option Addr) (l0 c0 m0 k0 : Nat) (s1 : Bool) (A1 B1 : Option Addr) (l1 c1 m1 k1 : Nat) (s2 : Bool) (A2 B2 : Option Addr) (l2 c2 m2 k2 : Nat) (w : World)  (h0 : 60 < l0) (hl : l0 ≤ 9223372036854775807) :
    Calls Try.prog 16 #[.agg #[.bool s0, .slice A0 l0 c0, .slice B0 m0 k0], .agg #[.bool s1, .slice A1 l1 c1, .slice B1 m1 k1], .agg #[.bool s2, .slice A2 l2 c2, .slice B2 m2 k2]] w (fun e w' => e = .returned (.bool true) ∧ Ext w w') := by
  have hXe : Ext w (((w.alloc (.cells #[.bool s0, .slice A0 l0 c0, .slice B0 m0 k0] 33)).alloc (.cells #[.bool s1, .slice A1 l1 c1, .slice B1 m1 k1] 33)).alloc (.cells #[.bool s2, .slice A2 l2 c2, .slice B2 m2 k2] 33)) := ((((Ext.refl w).alloc _).alloc _).alloc _)
  have kA : Blk (((w.alloc (.cells #[.bool s0, .slice A0 l0 c0, .slice B0 m0 k0] 33)).alloc (.cells #[.bool s1, .slice A1 l1 c1, .slice B1 m1 k1] 33)).alloc (.cells #[.bool s2, .slice A2 l2 c2, .slice B2 m2 k2] 33)) w.heap.size 33 #[.bool s0, .slice A0 l0 c0, .slice B0 m0 k0] := Blk.alloc (Blk.alloc (Blk.at_ (by simp)) _) _
  have kB : Blk (((w.alloc (.cells #[.bool s0, .slice A0 l0 c0, .slice B0 m0 k0] 33)).alloc (.cells #[.bool s1, .slice A1 l1 c1, .slice B1 m1 k1] 33)).alloc (.cells #[.bool s2, .slice A2 l2 c2, .slice B2 m2 k2] 33)) (w.heap.size + 1) 33 #[.bool s1, .slice A1 l1 c1, .slice B1 m1 k1] := Blk.alloc (Blk.at_ (by simp)) _
  have kC : Blk (((w.alloc (.cells #[.bool s0, .slice A0 l0 c0, .slice B0 m0 k0] 33)).alloc (.cells #[.bool s1, .slice A1 l1 c1, .slice B1 m1 k1] 33)).alloc (.cells #[.bool s2, .slice A2 l2 c2, .slice B2 m2 k2] 33)) (w.heap.size + 2) 33 #[.bool s2, .slice A2 l2 c2, .slice B2 m2 k2] := Blk.at_ (by simp)
  go_enter Try.func16, Try.ntmps16
  go_wp2_with fail
  generalize (((w.alloc (.cells #[.bool s0, .slice A0 l0 c0, .slice B0 m0 k0] 33)).alloc (.cells #[.bool s1, .slice A1 l1 c1, .slice B1 m1 k1] 33)).alloc (.cells #[.bool s2, .slice A2 l2 c2, .slice B2 m2 k2] 33)) = w1 at hXe kA kB kC ⊢
  have HX := Lib.hid hXe
  clear hXe
  have KA := Lib.hid kA
  clear kA
  have KB := Lib.hid kB
  clear kB
  have KC := Lib.hid kC
  clear kC
  refine (short_no0 _ _ _ _ _ _ _ _ h0 hl).mono ?_
  rintro e w2 ⟨rfl, hX⟩
  replace HX := Lib.hid (HX.out.trans hX)
  replace KA := Lib.hid (KA.out.ext hX)
  replace KB := Lib.hid (KB.out.ext hX)
  replace KC := Lib.hid (KC.out.ext hX)
  clear hX
  have cA0 : w2.cell? ⟨w.heap.size, 0, none⟩ = some (.bool s0) := KA.out.cell 0
  have cA1 : w2.cell? ⟨w.heap.size, 1, none⟩ = some (.slice A0 l0 c0) := KA.out.cell 1
  have cA2 : w2.cell? ⟨w.heap.size, 2, none⟩ = some (.slice B0 m0 k0) := KA.out.cell 2
  have cB0 : w2.cell? ⟨(w.heap.size + 1), 0, none⟩ = some (.bool s1) := KB.out.cell 0
  have cB1 : w2.cell? ⟨(w.heap.size + 1), 1, none⟩ = some (.slice A1 l1 c1) := KB.out.cell 1
  have cB2 : w2.cell? ⟨(w.heap.size + 1), 2, none⟩ = some (.slice B1 m1 k1) := KB.out.cell 2
  have cC0 : w2.cell? ⟨(w.heap.size + 2), 0, none⟩ = some (.bool s2) := KC.out.cell 0
  have cC1 : w2.cell? ⟨(w.heap.size + 2), 1, none⟩ = some (.slice A2 l2 c2) := KC.out.cell 1
  have cC2 : w2.cell? ⟨(w.heap.size + 2), 2, none⟩ = some (.slice B2 m2 k2) := KC.out.cell 2
  go_wp2_with fail
  clear cA0 cA1 cA2 cB0 cB1 cB2 cC0 cC1 cC2
  refine (first_any _).mono ?_
  rintro e w3 ⟨rfl, hX⟩
  replace HX := Lib.hid (HX.out.trans hX)
  replace KA := Lib.hid (KA.out.ext hX)
  replace KB := Lib.hid (KB.out.ext hX)
  replace KC := Lib.hid (KC.out.ext hX)
  clear hX
  go_wp2
  go_ret
  exact ⟨rfl, HX.out⟩

set_option maxRecDepth 100000 in
set_option maxHeartbeats 2000000 in
theorem field_a1 (s0 : Bool) (A0 B0 : Option Addr) (l0 c0 m0 k0 : Nat) (s1 : Bool) (A1 B1 : Option Addr) (l1 c1 m1 k1 : Nat) (s2 : Bool) (A2 B2 : Option Addr) (l2 c2 m2 k2 : Nat) (w : World)  (h0 : l0 ≤ 60) (h1 : 60 < m0) (hm : m0 ≤ 9223372036854775807) :
    Calls Try.prog 16 #[.agg #[.bool s0, .slice A0 l0 c0, .slice B0 m0 k0], .agg #[.bool s1, .slice A1 l1 c1, .slice B1 m1 k1], .agg #[.bool s2, .slice A2 l2 c2, .slice B2 m2 k2]] w (fun e w' => e = .returned (.bool true) ∧ Ext w w') := by
  have hXe : Ext w (((w.alloc (.cells #[.bool s0, .slice A0 l0 c0, .slice B0 m0 k0] 33)).alloc (.cells #[.bool s1, .slice A1 l1 c1, .slice B1 m1 k1] 33)).alloc (.cells #[.bool s2, .slice A2 l2 c2, .slice B2 m2 k2] 33)) := ((((Ext.refl w).alloc _).alloc _).alloc _)
  have kA : Blk (((w.alloc (.cells #[.bool s0, .slice A0 l0 c0, .slice B0 m0 k0] 33)).alloc (.cells #[.bool s1, .slice A1 l1 c1, .slice B1 m1 k1] 33)).alloc (.cells #[.bool s2, .slice A2 l2 c2, .slice B2 m2 k2] 33)) w.heap.size 33 #[.bool s0, .slice A0 l0 c0, .slice B0 m0 k0] := Blk.alloc (Blk.alloc (Blk.at_ (by simp)) _) _
  have kB : Blk (((w.alloc (.cells #[.bool s0, .slice A0 l0 c0, .slice B0 m0 k0] 33)).alloc (.cells #[.bool s1, .slice A1 l1 c1, .slice B1 m1 k1] 33)).alloc (.cells #[.bool s2, .slice A2 l2 c2, .slice B2 m2 k2] 33)) (w.heap.size + 1) 33 #[.bool s1, .slice A1 l1 c1, .slice B1 m1 k1] := Blk.alloc (Blk.at_ (by simp)) _
  have kC : Blk (((w.alloc (.cells #[.bool s0, .slice A0 l0 c0, .slice B0 m0 k0] 33)).alloc (.cells #[.bool s1, .slice A1 l1 c1, .slice B1 m1 k1] 33)).alloc (.cells #[.bool s2, .slice A2 l2 c2, .slice B2 m2 k2] 33)) (w.heap.size + 2) 33 #[.bool s2, .slice A2 l2 c2, .slice B2 m2 k2] := Blk.at_ (by simp)
  go_enter Try.func16, Try.ntmps16
  go_wp2_with fail
  generalize (((w.alloc (.cells #[.bool s0, .slice A0 l0 c0, .slice B0 m0 k0] 33)).alloc (.cells #[.bool s1, .slice A1 l1 c1, .slice B1 m1 k1] 33)).alloc (.cells #[.bool s2, .slice A2 l2 c2, .slice B2 m2 k2] 33)) = w1 at hXe kA kB kC ⊢
  have HX := Lib.hid hXe
  clear hXe
  have KA := Lib.hid kA
  clear kA
  have KB := Lib.hid kB
  clear kB
  have KC := Lib.hid kC
  clear kC
  refine (short_no1 _ _ _ _ _ _ _ _ h0 h1 hm).mono ?_
  rintro e w2 ⟨rfl, hX⟩
  replace HX := Lib.hid (HX.out.trans hX)
  replace KA := Lib.hid (KA.out.ext hX)
  replace KB := Lib.hid (KB.out.ext hX)
  replace KC := Lib.hid (KC.out.ext hX)
  clear hX
  have cA0 : w2.cell? ⟨w.heap.size, 0, none⟩ = some (.bool s0) := KA.out.cell 0
  have cA1 : w2.cell? ⟨w.heap.size, 1, none⟩ = some (.slice A0 l0 c0) := KA.out.cell 1
  have cA2 : w2.cell? ⟨w.heap.size, 2, none⟩ = some (.slice B0 m0 k0) := KA.out.cell 2
  have cB0 : w2.cell? ⟨(w.heap.size + 1), 0, none⟩ = some (.bool s1) := KB.out.cell 0
  have cB1 : w2.cell? ⟨(w.heap.size + 1), 1, none⟩ = some (.slice A1 l1 c1) := KB.out.cell 1
  have cB2 : w2.cell? ⟨(w.heap.size + 1), 2, none⟩ = some (.slice B1 m1 k1) := KB.out.cell 2
  have cC0 : w2.cell? ⟨(w.heap.size + 2), 0, none⟩ = some (.bool s2) := KC.out.cell 0
  have cC1 : w2.cell? ⟨(w.heap.size + 2), 1, none⟩ = some (.slice A2 l2 c2) := KC.out.cell 1
  have cC2 : w2.cell? ⟨(w.heap.size + 2), 2, none⟩ = some (.slice B2 m2 k2) := KC.out.cell 2
  go_wp2_with fail
  clear cA0 cA1 cA2 cB0 cB1 cB2 cC0 cC1 cC2
  refine (first_any _).mono ?_
  rintro e w3 ⟨rfl, hX⟩
  replace HX := Lib.hid (HX.out.trans hX)
  replace KA := Lib.hid (KA.out.ext hX)
  replace KB := Lib.hid (KB.out.ext hX)
  replace KC := Lib.hid (KC.out.ext hX)
  clear hX
  go_wp2
  go_ret
  exact ⟨rfl, HX.out⟩

set_option maxRecDepth 100000 in
set_option maxHeartbeats 2000000 in
theorem field_b0 (s0 : Bool) (A0 B0 : Option Addr) (l0 c0 m0 k0 : Nat) (s1 : Bool) (A1 B1 : Option Addr) (l1 c1 m1 k1 : Nat) (s2 : Bool) (A2 B2 : Option Addr) (l2 c2 m2 k2 : Nat) (w : World) (g0 : l0 ≤ 60) (g0' : m0 ≤ 60) (h0 : 60 < l1) (hl : l1 ≤ 9223372036854775807) :
    Calls Try.prog 16 #[.agg #[.bool s0, .slice A0 l0 c0, .slice B0 m0 k0], .agg #[.bool s1, .slice A1 l1 c1, .slice B1 m1 k1], .agg #[.bool s2, .slice A2 l2 c2, .slice B2 m2 k2]] w (fun e w' => e = .returned (.bool true) ∧ Ext w w') := by
  have hXe : Ext w (((w.alloc (.cells #[.bool s0, .slice A0 l0 c0, .slice B0 m0 k0] 33)).alloc (.cells #[.bool s1, .slice A1 l1 c1, .slice B1 m1 k1] 33)).alloc (.cells #[.bool s2, .slice A2 l2 c2, .slice B2 m2 k2] 33)) := ((((Ext.refl w).alloc _).alloc _).alloc _)
  have kA : Blk (((w.alloc (.cells #[.bool s0, .slice A0 l0 c0, .slice B0 m0 k0] 33)).alloc (.cells #[.bool s1, .slice A1 l1 c1, .slice B1 m1 k1] 33)).alloc (.cells #[.bool s2, .slice A2 l2 c2, .slice B2 m2 k2] 33)) w.heap.size 33 #[.bool s0, .slice A0 l0 c0, .slice B0 m0 k0] := Blk.alloc (Blk.alloc (Blk.at_ (by simp)) _) _
  have kB : Blk (((w.alloc (.cells #[.bool s0, .slice A0 l0 c0, .slice B0 m0 k0] 33)).alloc (.cells #[.bool s1, .slice A1 l1 c1, .slice B1 m1 k1] 33)).alloc (.cells #[.bool s2, .slice A2 l2 c2, .slice B2 m2 k2] 33)) (w.heap.size + 1) 33 #[.bool s1, .slice A1 l1 c1, .slice B1 m1 k1] := Blk.alloc (Blk.at_ (by simp)) _
  have kC : Blk (((w.alloc (.cells #[.bool s0, .slice A0 l0 c0, .slice B0 m0 k0] 33)).alloc (.cells #[.bool s1, .slice A1 l1 c1, .slice B1 m1 k1] 33)).alloc (.cells #[.bool s2, .slice A2 l2 c2, .slice B2 m2 k2] 33)) (w.heap.size + 2) 33 #[.bool s2, .slice A2 l2 c2, .slice B2 m2 k2] := Blk.at_ (by simp)
  go_enter Try.func16, Try.ntmps16
  go_wp2_with fail
  generalize (((w.alloc (.cells #[.bool s0, .slice A0 l0 c0, .slice B0 m0 k0] 33)).alloc (.cells #[.bool s1, .slice A1 l1 c1, .slice B1 m1 k1] 33)).alloc (.cells #[.bool s2, .slice A2 l2 c2, .slice B2 m2 k2] 33)) = w1 at hXe kA kB kC ⊢
  have HX := Lib.hid hXe
  clear hXe
  have KA := Lib.hid kA
  clear kA
  have KB := Lib.hid kB
  clear kB
  have KC := Lib.hid kC
  clear kC
  refine (short_yes _ _ _ _ _ _ _ _ g0 g0').mono ?_
  rintro e w2 ⟨rfl, hX⟩
  replace HX := Lib.hid (HX.out.trans hX)
  replace KA := Lib.hid (KA.out.ext hX)
  replace KB := Lib.hid (KB.out.ext hX)
  replace KC := Lib.hid (KC.out.ext hX)
  clear hX
  have cA0 : w2.cell? ⟨w.heap.size, 0, none⟩ = some (.bool s0) := KA.out.cell 0
  have cA1 : w2.cell? ⟨w.heap.size, 1, none⟩ = some (.slice A0 l0 c0) := KA.out.cell 1
  have cA2 : w2.cell? ⟨w.heap.size, 2, none⟩ = some (.slice B0 m0 k0) := KA.out.cell 2
  have cB0 : w2.cell? ⟨(w.heap.size + 1), 0, none⟩ = some (.bool s1) := KB.out.cell 0
  have cB1 : w2.cell? ⟨(w.heap.size + 1), 1, none⟩ = some (.slice A1 l1 c1) := KB.out.cell 1
  have cB2 : w2.cell? ⟨(w.heap.size + 1), 2, none⟩ = some (.slice B1 m1 k1) := KB.out.cell 2
  have cC0 : w2.cell? ⟨(w.heap.size + 2), 0, none⟩ = some (.bool s2) := KC.out.cell 0
  have cC1 : w2.cell? ⟨(w.heap.size + 2), 1, none⟩ = some (.slice A2 l2 c2) := KC.out.cell 1
  have cC2 : w2.cell? ⟨(w.heap.size + 2), 2, none⟩ = some (.slice B2 m2 k2) := KC.out.cell 2
  go_wp2_with fail
  clear cA0 cA1 cA2 cB0 cB1 cB2 cC0 cC1 cC2
  refine (short_no0 _ _ _ _ _ _ _ _ h0 hl).mono ?_
  rintro e w3 ⟨rfl, hX⟩
  replace HX := Lib.hid (HX.out.trans hX)
  replace KA := Lib.hid (KA.out.ext hX)
  replace KB := Lib.hid (KB.out.ext hX)
  replace KC := Lib.hid (KC.out.ext hX)
  clear hX
  have cA0 : w3.cell? ⟨w.heap.size, 0, none⟩ = some (.bool s0) := KA.out.cell 0
  have cA1 : w3.cell? ⟨w.heap.size, 1, none⟩ = some (.slice A0 l0 c0) := KA.out.cell 1
  have cA2 : w3.cell? ⟨w.heap.size, 2, none⟩ = some (.slice B0 m0 k0) := KA.out.cell 2
  have cB0 : w3.cell? ⟨(w.heap.size + 1), 0, none⟩ = some (.bool s1) := KB.out.cell 0
  have cB1 : w3.cell? ⟨(w.heap.size + 1), 1, none⟩ = some (.slice A1 l1 c1) := KB.out.cell 1
  have cB2 : w3.cell? ⟨(w.heap.size + 1), 2, none⟩ = some (.slice B1 m1 k1) := KB.out.cell 2
  have cC0 : w3.cell? ⟨(w.heap.size + 2), 0, none⟩ = some (.bool s2) := KC.out.cell 0
  have cC1 : w3.cell? ⟨(w.heap.size + 2), 1, none⟩ = some (.slice A2 l2 c2) := KC.out.cell 1
  have cC2 : w3.cell? ⟨(w.heap.size + 2), 2, none⟩ = some (.slice B2 m2 k2) := KC.out.cell 2
  go_wp2_with fail
  clear cA0 cA1 cA2 cB0 cB1 cB2 cC0 cC1 cC2
  refine (first_any _).mono ?_
  rintro e w4 ⟨rfl, hX⟩
  replace HX := Lib.hid (HX.out.trans hX)
  replace KA := Lib.hid (KA.out.ext hX)
  replace KB := Lib.hid (KB.out.ext hX)
  replace KC := Lib.hid (KC.out.ext hX)
  clear hX
  go_wp2
  go_ret
  exact ⟨rfl, HX.out⟩

set_option maxRecDepth 100000 in
set_option maxHeartbeats 2000000 in
theorem field_b1 (s0 : Bool) (A0 B0 : Option Addr) (l0 c0 m0 k0 : Nat) (s1 : Bool) (A1 B1 : Option Addr) (l1 c1 m1 k1 : Nat) (s2 : Bool) (A2 B2 : Option Addr) (l2 c2 m2 k2 : Nat) (w : World) (g0 : l0 ≤ 60) (g0' : m0 ≤ 60) (h0 : l1 ≤ 60) (h1 : 60 < m1) (hm : m1 ≤ 9223372036854775807) :
    Calls Try.prog 16 #[.agg #[.bool s0, .slice A0 l0 c0, .slice B0 m0 k0], .agg #[.bool s1, .slice A1 l1 c1, .slice B1 m1 k1], .agg #[.bool s2, .slice A2 l2 c2, .slice B2 m2 k2]] w (fun e w' => e = .returned (.bool true) ∧ Ext w w') := by
  have hXe : Ext w (((w.alloc (.cells #[.bool s0, .slice A0 l0 c0, .slice B0 m0 k0] 33)).alloc (.cells #[.bool s1, .slice A1 l1 c1, .slice B1 m1 k1] 33)).alloc (.cells #[.bool s2, .slice A2 l2 c2, .slice B2 m2 k2] 33)) := ((((Ext.refl w).alloc _).alloc _).alloc _)
  have kA : Blk (((w.alloc (.cells #[.bool s0, .slice A0 l0 c0, .slice B0 m0 k0] 33)).alloc (.cells #[.bool s1, .slice A1 l1 c1, .slice B1 m1 k1] 33)).alloc (.cells #[.bool s2, .slice A2 l2 c2, .slice B2 m2 k2] 33)) w.heap.size 33 #[.bool s0, .slice A0 l0 c0, .slice B0 m0 k0] := Blk.alloc (Blk.alloc (Blk.at_ (by simp)) _) _
  have kB : Blk (((w.alloc (.cells #[.bool s0, .slice A0 l0 c0, .slice B0 m0 k0] 33)).alloc (.cells #[.bool s1, .slice A1 l1 c1, .slice B1 m1 k1] 33)).alloc (.cells #[.bool s2, .slice A2 l2 c2, .slice B2 m2 k2] 33)) (w.heap.size + 1) 33 #[.bool s1, .slice A1 l1 c1, .slice B1 m1 k1] := Blk.alloc (Blk.at_ (by simp)) _
  have kC : Blk (((w.alloc (.cells #[.bool s0, .slice A0 l0 c0, .slice B0 m0 k0] 33)).alloc (.cells #[.bool s1, .slice A1 l1 c1, .slice B1 m1 k1] 33)).alloc (.cells #[.bool s2, .slice A2 l2 c2, .slice B2 m2 k2] 33)) (w.heap.size + 2) 33 #[.bool s2, .slice A2 l2 c2, .slice B2 m2 k2] := Blk.at_ (by simp)
  go_enter Try.func16, Try.ntmps16
  go_wp2_with fail
  generalize (((w.alloc (.cells #[.bool s0, .slice A0 l0 c0, .slice B0 m0 k0] 33)).alloc (.cells #[.bool s1, .slice A1 l1 c1, .slice B1 m1 k1] 33)).alloc (.cells #[.bool s2, .slice A2 l2 c2, .slice B2 m2 k2] 33)) = w1 at hXe kA kB kC ⊢
  have HX := Lib.hid hXe
  clear hXe
  have KA := Lib.hid kA
  clear kA
  have KB := Lib.hid kB
  clear kB
  have KC := Lib.hid kC
  clear kC
  refine (short_yes _ _ _ _ _ _ _ _ g0 g0').mono ?_
  rintro e w2 ⟨rfl, hX⟩
  replace HX := Lib.hid (HX.out.trans hX)
  replace KA := Lib.hid (KA.out.ext hX)
  replace KB := Lib.hid (KB.out.ext hX)
  replace KC := Lib.hid (KC.out.ext hX)
  clear hX
  have cA0 : w2.cell? ⟨w.heap.size, 0, none⟩ = some (.bool s0) := KA.out.cell 0
  have cA1 : w2.cell? ⟨w.heap.size, 1, none⟩ = some (.slice A0 l0 c0) := KA.out.cell 1
  have cA2 : w2.cell? ⟨w.heap.size, 2, none⟩ = some (.slice B0 m0 k0) := KA.out.cell 2
  have cB0 : w2.cell? ⟨(w.heap.size + 1), 0, none⟩ = some (.bool s1) := KB.out.cell 0
  have cB1 : w2.cell? ⟨(w.heap.size + 1), 1, none⟩ = some (.slice A1 l1 c1) := KB.out.cell 1
  have cB2 : w2.cell? ⟨(w.heap.size + 1), 2, none⟩ = some (.slice B1 m1 k1) := KB.out.cell 2
  have cC0 : w2.cell? ⟨(w.heap.size + 2), 0, none⟩ = some (.bool s2) := KC.out.cell 0
  have cC1 : w2.cell? ⟨(w.heap.size + 2), 1, none⟩ = some (.slice A2 l2 c2) := KC.out.cell 1
  have cC2 : w2.cell? ⟨(w.heap.size + 2), 2, none⟩ = some (.slice B2 m2 k2) := KC.out.cell 2
  go_wp2_with fail
  clear cA0 cA1 cA2 cB0 cB1 cB2 cC0 cC1 cC2
  refine (short_no1 _ _ _ _ _ _ _ _ h0 h1 hm).mono ?_
  rintro e w3 ⟨rfl, hX⟩
  replace HX := Lib.hid (HX.out.trans hX)
  replace KA := Lib.hid (KA.out.ext hX)
  replace KB := Lib.hid (KB.out.ext hX)
  replace KC := Lib.hid (KC.out.ext hX)
  clear hX
  have cA0 : w3.cell? ⟨w.heap.size, 0, none⟩ = some (.bool s0) := KA.out.cell 0
  have cA1 : w3.cell? ⟨w.heap.size, 1, none⟩ = some (.slice A0 l0 c0) := KA.out.cell 1
  have cA2 : w3.cell? ⟨w.heap.size, 2, none⟩ = some (.slice B0 m0 k0) := KA.out.cell 2
  have cB0 : w3.cell? ⟨(w.heap.size + 1), 0, none⟩ = some (.bool s1) := KB.out.cell 0
  have cB1 : w3.cell? ⟨(w.heap.size + 1), 1, none⟩ = some (.slice A1 l1 c1) := KB.out.cell 1
  have cB2 : w3.cell? ⟨(w.heap.size + 1), 2, none⟩ = some (.slice B1 m1 k1) := KB.out.cell 2
  have cC0 : w3.cell? ⟨(w.heap.size + 2), 0, none⟩ = some (.bool s2) := KC.out.cell 0
  have cC1 : w3.cell? ⟨(w.heap.size + 2), 1, none⟩ = some (.slice A2 l2 c2) := KC.out.cell 1
  have cC2 : w3.cell? ⟨(w.heap.size + 2), 2, none⟩ = some (.slice B2 m2 k2) := KC.out.cell 2
  go_wp2_with fail
  clear cA0 cA1 cA2 cB0 cB1 cB2 cC0 cC1 cC2
  refine (first_any _).mono ?_
  rintro e w4 ⟨rfl, hX⟩
  replace HX := Lib.hid (HX.out.trans hX)
  replace KA := Lib.hid (KA.out.ext hX)
  replace KB := Lib.hid (KB.out.ext hX)
  replace KC := Lib.hid (KC.out.ext hX)
  clear hX
  go_wp2
  go_ret
  exact ⟨rfl, HX.out⟩

set_option maxRecDepth 100000 in
set_option maxHeartbeats 2000000 in
theorem field_c0 (s0 : Bool) (A0 B0 : Option Addr) (l0 c0 m0 k0 : Nat) (s1 : Bool) (A1 B1 : Option Addr) (l1 c1 m1 k1 : Nat) (s2 : Bool) (A2 B2 : Option Addr) (l2 c2 m2 k2 : Nat) (w : World) (g0 : l0 ≤ 60) (g0' : m0 ≤ 60) (g1 : l1 ≤ 60) (g1' : m1 ≤ 60) (h0 : 60 < l2) (hl : l2 ≤ 9223372036854775807) :
    Calls Try.prog 16 #[.agg #[.bool s0, .slice A0 l0 c0, .slice B0 m0 k0], .agg #[.bool s1, .slice A1 l1 c1, .slice B1 m1 k1], .agg #[.bool s2, .slice A2 l2 c2, .slice B2 m2 k2]] w (fun e w' => e = .returned (.bool true) ∧ Ext w w') := by
  have hXe : Ext w (((w.alloc (.cells #[.bool s0, .slice A0 l0 c0, .slice B0 m0 k0] 33)).alloc (.cells #[.bool s1, .slice A1 l1 c1, .slice B1 m1 k1] 33)).alloc (.cells #[.bool s2, .slice A2 l2 c2, .slice B2 m2 k2] 33)) := ((((Ext.refl w).alloc _).alloc _).alloc _)
  have kA : Blk (((w.alloc (.cells #[.bool s0, .slice A0 l0 c0, .slice B0 m0 k0] 33)).alloc (.cells #[.bool s1, .slice A1 l1 c1, .slice B1 m1 k1] 33)).alloc (.cells #[.bool s2, .slice A2 l2 c2, .slice B2 m2 k2] 33)) w.heap.size 33 #[.bool s0, .slice A0 l0 c0, .slice B0 m0 k0] := Blk.alloc (Blk.alloc (Blk.at_ (by simp)) _) _
  have kB : Blk (((w.alloc (.cells #[.bool s0, .slice A0 l0 c0, .slice B0 m0 k0] 33)).alloc (.cells #[.bool s1, .slice A1 l1 c1, .slice B1 m1 k1] 33)).alloc (.cells #[.bool s2, .slice A2 l2 c2, .slice B2 m2 k2] 33)) (w.heap.size + 1) 33 #[.bool s1, .slice A1 l1 c1, .slice B1 m1 k1] := Blk.alloc (Blk.at_ (by simp)) _
  have kC : Blk (((w.alloc (.cells #[.bool s0, .slice A0 l0 c0, .slice B0 m0 k0] 33)).alloc (.cells #[.bool s1, .slice A1 l1 c1, .slice B1 m1 k1] 33)).alloc (.cells #[.bool s2, .slice A2 l2 c2, .slice B2 m2 k2] 33)) (w.heap.size + 2) 33 #[.bool s2, .slice A2 l2 c2, .slice B2 m2 k2] := Blk.at_ (by simp)
  go_enter Try.func16, Try.ntmps16
  go_wp2_with fail
  generalize (((w.alloc (.cells #[.bool s0, .slice A0 l0 c0, .slice B0 m0 k0] 33)).alloc (.cells #[.bool s1, .slice A1 l1 c1, .slice B1 m1 k1] 33)).alloc (.cells #[.bool s2, .slice A2 l2 c2, .slice B2 m2 k2] 33)) = w1 at hXe kA kB kC ⊢
  have HX := Lib.hid hXe
  clear hXe
  have KA := Lib.hid kA
  clear kA
  have KB := Lib.hid kB
  clear kB
  have KC := Lib.hid kC
  clear kC
  refine (short_yes _ _ _ _ _ _ _ _ g0 g0').mono ?_
  rintro e w2 ⟨rfl, hX⟩
  replace HX := Lib.hid (HX.out.trans hX)
  replace KA := Lib.hid (KA.out.ext hX)
  replace KB := Lib.hid (KB.out.ext hX)
  replace KC := Lib.hid (KC.out.ext hX)
  clear hX
  have cA0 : w2.cell? ⟨w.heap.size, 0, none⟩ = some (.bool s0) := KA.out.cell 0
  have cA1 : w2.cell? ⟨w.heap.size, 1, none⟩ = some (.slice A0 l0 c0) := KA.out.cell 1
  have cA2 : w2.cell? ⟨w.heap.size, 2, none⟩ = some (.slice B0 m0 k0) := KA.out.cell 2
  have cB0 : w2.cell? ⟨(w.heap.size + 1), 0, none⟩ = some (.bool s1) := KB.out.cell 0
  have cB1 : w2.cell? ⟨(w.heap.size + 1), 1, none⟩ = some (.slice A1 l1 c1) := KB.out.cell 1
  have cB2 : w2.cell? ⟨(w.heap.size + 1), 2, none⟩ = some (.slice B1 m1 k1) := KB.out.cell 2
  have cC0 : w2.cell? ⟨(w.heap.size + 2), 0, none⟩ = some (.bool s2) := KC.out.cell 0
  have cC1 : w2.cell? ⟨(w.heap.size + 2), 1, none⟩ = some (.slice A2 l2 c2) := KC.out.cell 1
  have cC2 : w2.cell? ⟨(w.heap.size + 2), 2, none⟩ = some (.slice B2 m2 k2) := KC.out.cell 2
  go_wp2_with fail
  clear cA0 cA1 cA2 cB0 cB1 cB2 cC0 cC1 cC2
  refine (short_yes _ _ _ _ _ _ _ _ g1 g1').mono ?_
  rintro e w3 ⟨rfl, hX⟩
  replace HX := Lib.hid (HX.out.trans hX)
  replace KA := Lib.hid (KA.out.ext hX)
  replace KB := Lib.hid (KB.out.ext hX)
  replace KC := Lib.hid (KC.out.ext hX)
  clear hX
  have cA0 : w3.cell? ⟨w.heap.size, 0, none⟩ = some (.bool s0) := KA.out.cell 0
  have cA1 : w3.cell? ⟨w.heap.size, 1, none⟩ = some (.slice A0 l0 c0) := KA.out.cell 1
  have cA2 : w3.cell? ⟨w.heap.size, 2, none⟩ = some (.slice B0 m0 k0) := KA.out.cell 2
  have cB0 : w3.cell? ⟨(w.heap.size + 1), 0, none⟩ = some (.bool s1) := KB.out.cell 0
  have cB1 : w3.cell? ⟨(w.heap.size + 1), 1, none⟩ = some (.slice A1 l1 c1) := KB.out.cell 1
  have cB2 : w3.cell? ⟨(w.heap.size + 1), 2, none⟩ = some (.slice B1 m1 k1) := KB.out.cell 2
  have cC0 : w3.cell? ⟨(w.heap.size + 2), 0, none⟩ = some (.bool s2) := KC.out.cell 0
  have cC1 : w3.cell? ⟨(w.heap.size + 2), 1, none⟩ = some (.slice A2 l2 c2) := KC.out.cell 1
  have cC2 : w3.cell? ⟨(w.heap.size + 2), 2, none⟩ = some (.slice B2 m2 k2) := KC.out.cell 2
  go_wp2_with fail
  clear cA0 cA1 cA2 cB0 cB1 cB2 cC0 cC1 cC2
  refine (short_no0 _ _ _ _ _ _ _ _ h0 hl).mono ?_
  rintro e w4 ⟨rfl, hX⟩
  replace HX := Lib.hid (HX.out.trans hX)
  replace KA := Lib.hid (KA.out.ext hX)
  replace KB := Lib.hid (KB.out.ext hX)
  replace KC := Lib.hid (KC.out.ext hX)
  clear hX
  have cA0 : w4.cell? ⟨w.heap.size, 0, none⟩ = some (.bool s0) := KA.out.cell 0
  have cA1 : w4.cell? ⟨w.heap.size, 1, none⟩ = some (.slice A0 l0 c0) := KA.out.cell 1
  have cA2 : w4.cell? ⟨w.heap.size, 2, none⟩ = some (.slice B0 m0 k0) := KA.out.cell 2
  have cB0 : w4.cell? ⟨(w.heap.size + 1), 0, none⟩ = some (.bool s1) := KB.out.cell 0
  have cB1 : w4.cell? ⟨(w.heap.size + 1), 1, none⟩ = some (.slice A1 l1 c1) := KB.out.cell 1
  have cB2 : w4.cell? ⟨(w.heap.size + 1), 2, none⟩ = some (.slice B1 m1 k1) := KB.out.cell 2
  have cC0 : w4.cell? ⟨(w.heap.size + 2), 0, none⟩ = some (.bool s2) := KC.out.cell 0
  have cC1 : w4.cell? ⟨(w.heap.size + 2), 1, none⟩ = some (.slice A2 l2 c2) := KC.out.cell 1
  have cC2 : w4.cell? ⟨(w.heap.size + 2), 2, none⟩ = some (.slice B2 m2 k2) := KC.out.cell 2
  go_wp2_with fail
  clear cA0 cA1 cA2 cB0 cB1 cB2 cC0 cC1 cC2
  refine (first_any _).mono ?_
  rintro e w5 ⟨rfl, hX⟩
  replace HX := Lib.hid (HX.out.trans hX)
  replace KA := Lib.hid (KA.out.ext hX)
  replace KB := Lib.hid (KB.out.ext hX)
  replace KC := Lib.hid (KC.out.ext hX)
  clear hX
  go_wp2
  go_ret
  exact ⟨rfl, HX.out⟩

set_option maxRecDepth 100000 in
set_option maxHeartbeats 2000000 in
theorem field_c1 (s0 : Bool) (A0 B0 : Option Addr) (l0 c0 m0 k0 : Nat) (s1 : Bool) (A1 B1 : Option Addr) (l1 c1 m1 k1 : Nat) (s2 : Bool) (A2 B2 : Option Addr) (l2 c2 m2 k2 : Nat) (w : World) (g0 : l0 ≤ 60) (g0' : m0 ≤ 60) (g1 : l1 ≤ 60) (g1' : m1 ≤ 60) (h0 : l2 ≤ 60) (h1 : 60 < m2) (hm : m2 ≤ 9223372036854775807) :
    Calls Try.prog 16 #[.agg #[.bool s0, .slice A0 l0 c0, .slice B0 m0 k0], .agg #[.bool s1, .slice A1 l1 c1, .slice B1 m1 k1], .agg #[.bool s2, .slice A2 l2 c2, .slice B2 m2 k2]] w (fun e w' => e = .returned (.bool true) ∧ Ext w w') := by
  have hXe : Ext w (((w.alloc (.cells #[.bool s0, .slice A0 l0 c0, .slice B0 m0 k0] 33)).alloc (.cells #[.bool s1, .slice A1 l1 c1, .slice B1 m1 k1] 33)).alloc (.cells #[.bool s2, .slice A2 l2 c2, .slice B2 m2 k2] 33)) := ((((Ext.refl w).alloc _).alloc _).alloc _)
  have kA : Blk (((w.alloc (.cells #[.bool s0, .slice A0 l0 c0, .slice B0 m0 k0] 33)).alloc (.cells #[.bool s1, .slice A1 l1 c1, .slice B1 m1 k1] 33)).alloc (.cells #[.bool s2, .slice A2 l2 c2, .slice B2 m2 k2] 33)) w.heap.size 33 #[.bool s0, .slice A0 l0 c0, .slice B0 m0 k0] := Blk.alloc (Blk.alloc (Blk.at_ (by simp)) _) _
  have kB : Blk (((w.alloc (.cells #[.bool s0, .slice A0 l0 c0, .slice B0 m0 k0] 33)).alloc (.cells #[.bool s1, .slice A1 l1 c1, .slice B1 m1 k1] 33)).alloc (.cells #[.bool s2, .slice A2 l2 c2, .slice B2 m2 k2] 33)) (w.heap.size + 1) 33 #[.bool s1, .slice A1 l1 c1, .slice B1 m1 k1] := Blk.alloc (Blk.at_ (by simp)) _
  have kC : Blk (((w.alloc (.cells #[.bool s0, .slice A0 l0 c0, .slice B0 m0 k0] 33)).alloc (.cells #[.bool s1, .slice A1 l1 c1, .slice B1 m1 k1] 33)).alloc (.cells #[.bool s2, .slice A2 l2 c2, .slice B2 m2 k2] 33)) (w.heap.size + 2) 33 #[.bool s2, .slice A2 l2 c2, .slice B2 m2 k2] := Blk.at_ (by simp)
  go_enter Try.func16, Try.ntmps16
  go_wp2_with fail
  generalize (((w.alloc (.cells #[.bool s0, .slice A0 l0 c0, .slice B0 m0 k0] 33)).alloc (.cells #[.bool s1, .slice A1 l1 c1, .slice B1 m1 k1] 33)).alloc (.cells #[.bool s2, .slice A2 l2 c2, .slice B2 m2 k2] 33)) = w1 at hXe kA kB kC ⊢
  have HX := Lib.hid hXe
  clear hXe
  have KA := Lib.hid kA
  clear kA
  have KB := Lib.hid kB
  clear kB
  have KC := Lib.hid kC
  clear kC
  refine (short_yes _ _ _ _ _ _ _ _ g0 g0').mono ?_
  rintro e w2 ⟨rfl, hX⟩
  replace HX := Lib.hid (HX.out.trans hX)
  replace KA := Lib.hid (KA.out.ext hX)
  replace KB := Lib.hid (KB.out.ext hX)
  replace KC := Lib.hid (KC.out.ext hX)
  clear hX
  have cA0 : w2.cell? ⟨w.heap.size, 0, none⟩ = some (.bool s0) := KA.out.cell 0
  have cA1 : w2.cell? ⟨w.heap.size, 1, none⟩ = some (.slice A0 l0 c0) := KA.out.cell 1
  have cA2 : w2.cell? ⟨w.heap.size, 2, none⟩ = some (.slice B0 m0 k0) := KA.out.cell 2
  have cB0 : w2.cell? ⟨(w.heap.size + 1), 0, none⟩ = some (.bool s1) := KB.out.cell 0
  have cB1 : w2.cell? ⟨(w.heap.size + 1), 1, none⟩ = some (.slice A1 l1 c1) := KB.out.cell 1
  have cB2 : w2.cell? ⟨(w.heap.size + 1), 2, none⟩ = some (.slice B1 m1 k1) := KB.out.cell 2
  have cC0 : w2.cell? ⟨(w.heap.size + 2), 0, none⟩ = some (.bool s2) := KC.out.cell 0
  have cC1 : w2.cell? ⟨(w.heap.size + 2), 1, none⟩ = some (.slice A2 l2 c2) := KC.out.cell 1
  have cC2 : w2.cell? ⟨(w.heap.size + 2), 2, none⟩ = some (.slice B2 m2 k2) := KC.out.cell 2
  go_wp2_with fail
  clear cA0 cA1 cA2 cB0 cB1 cB2 cC0 cC1 cC2
  refine (short_yes _ _ _ _ _ _ _ _ g1 g1').mono ?_
  rintro e w3 ⟨rfl, hX⟩
  replace HX := Lib.hid (HX.out.trans hX)
  replace KA := Lib.hid (KA.out.ext hX)
  replace KB := Lib.hid (KB.out.ext hX)
  replace KC := Lib.hid (KC.out.ext hX)
  clear hX
  have cA0 : w3.cell? ⟨w.heap.size, 0, none⟩ = some (.bool s0) := KA.out.cell 0
  have cA1 : w3.cell? ⟨w.heap.size, 1, none⟩ = some (.slice A0 l0 c0) := KA.out.cell 1
  have cA2 : w3.cell? ⟨w.heap.size, 2, none⟩ = some (.slice B0 m0 k0) := KA.out.cell 2
  have cB0 : w3.cell? ⟨(w.heap.size + 1), 0, none⟩ = some (.bool s1) := KB.out.cell 0
  have cB1 : w3.cell? ⟨(w.heap.size + 1), 1, none⟩ = some (.slice A1 l1 c1) := KB.out.cell 1
  have cB2 : w3.cell? ⟨(w.heap.size + 1), 2, none⟩ = some (.slice B1 m1 k1) := KB.out.cell 2
  have cC0 : w3.cell? ⟨(w.heap.size + 2), 0, none⟩ = some (.bool s2) := KC.out.cell 0
  have cC1 : w3.cell? ⟨(w.heap.size + 2), 1, none⟩ = some (.slice A2 l2 c2) := KC.out.cell 1
  have cC2 : w3.cell? ⟨(w.heap.size + 2), 2, none⟩ = some (.slice B2 m2 k2) := KC.out.cell 2
  go_wp2_with fail
  clear cA0 cA1 cA2 cB0 cB1 cB2 cC0 cC1 cC2
  refine (short_no1 _ _ _ _ _ _ _ _ h0 h1 hm).mono ?_
  rintro e w4 ⟨rfl, hX⟩
  replace HX := Lib.hid (HX.out.trans hX)
  replace KA := Lib.hid (KA.out.ext hX)
  replace KB := Lib.hid (KB.out.ext hX)
  replace KC := Lib.hid (KC.out.ext hX)
  clear hX
  have cA0 : w4.cell? ⟨w.heap.size, 0, none⟩ = some (.bool s0) := KA.out.cell 0
  have cA1 : w4.cell? ⟨w.heap.size, 1, none⟩ = some (.slice A0 l0 c0) := KA.out.cell 1
  have cA2 : w4.cell? ⟨w.heap.size, 2, none⟩ = some (.slice B0 m0 k0) := KA.out.cell 2
  have cB0 : w4.cell? ⟨(w.heap.size + 1), 0, none⟩ = some (.bool s1) := KB.out.cell 0
  have cB1 : w4.cell? ⟨(w.heap.size + 1), 1, none⟩ = some (.slice A1 l1 c1) := KB.out.cell 1
  have cB2 : w4.cell? ⟨(w.heap.size + 1), 2, none⟩ = some (.slice B1 m1 k1) := KB.out.cell 2
  have cC0 : w4.cell? ⟨(w.heap.size + 2), 0, none⟩ = some (.bool s2) := KC.out.cell 0
  have cC1 : w4.cell? ⟨(w.heap.size + 2), 1, none⟩ = some (.slice A2 l2 c2) := KC.out.cell 1
  have cC2 : w4.cell? ⟨(w.heap.size + 2), 2, none⟩ = some (.slice B2 m2 k2) := KC.out.cell 2
  go_wp2_with fail
  clear cA0 cA1 cA2 cB0 cB1 cB2 cC0 cC1 cC2
  refine (first_any _).mono ?_
  rintro e w5 ⟨rfl, hX⟩
  replace HX := Lib.hid (HX.out.trans hX)
  replace KA := Lib.hid (KA.out.ext hX)
  replace KB := Lib.hid (KB.out.ext hX)
  replace KC := Lib.hid (KC.out.ext hX)
  clear hX
  go_wp2
  go_ret
  exact ⟨rfl, HX.out⟩

set_option maxRecDepth 100000 in
set_option maxHeartbeats 2000000 in
theorem field_s (s0 : Bool) (A0 B0 : Option Addr) (l0 c0 m0 k0 : Nat) (s1 : Bool) (A1 B1 : Option Addr) (l1 c1 m1 k1 : Nat) (s2 : Bool) (A2 B2 : Option Addr) (l2 c2 m2 k2 : Nat) (w : World) (g0 : l0 ≤ 60) (g0' : m0 ≤ 60) (g1 : l1 ≤ 60) (g1' : m1 ≤ 60) (g2 : l2 ≤ 60) (g2' : m2 ≤ 60) (h : 40 < l0 + l1 + l2 + m0 + m1 + m2) :
    Calls Try.prog 16 #[.agg #[.bool s0, .slice A0 l0 c0, .slice B0 m0 k0], .agg #[.bool s1, .slice A1 l1 c1, .slice B1 m1 k1], .agg #[.bool s2, .slice A2 l2 c2, .slice B2 m2 k2]] w (fun e w' => e = .returned (.bool true) ∧ Ext w w') := by
  have hXe : Ext w (((w.alloc (.cells #[.bool s0, .slice A0 l0 c0, .slice B0 m0 k0] 33)).alloc (.cells #[.bool s1, .slice A1 l1 c1, .slice B1 m1 k1] 33)).alloc (.cells #[.bool s2, .slice A2 l2 c2, .slice B2 m2 k2] 33)) := ((((Ext.refl w).alloc _).alloc _).alloc _)
  have kA : Blk (((w.alloc (.cells #[.bool s0, .slice A0 l0 c0, .slice B0 m0 k0] 33)).alloc (.cells #[.bool s1, .slice A1 l1 c1, .slice B1 m1 k1] 33)).alloc (.cells #[.bool s2, .slice A2 l2 c2, .slice B2 m2 k2] 33)) w.heap.size 33 #[.bool s0, .slice A0 l0 c0, .slice B0 m0 k0] := Blk.alloc (Blk.alloc (Blk.at_ (by simp)) _) _
  have kB : Blk (((w.alloc (.cells #[.bool s0, .slice A0 l0 c0, .slice B0 m0 k0] 33)).alloc (.cells #[.bool s1, .slice A1 l1 c1, .slice B1 m1 k1] 33)).alloc (.cells #[.bool s2, .slice A2 l2 c2, .slice B2 m2 k2] 33)) (w.heap.size + 1) 33 #[.bool s1, .slice A1 l1 c1, .slice B1 m1 k1] := Blk.alloc (Blk.at_ (by simp)) _
  have kC : Blk (((w.alloc (.cells #[.bool s0, .slice A0 l0 c0, .slice B0 m0 k0] 33)).alloc (.cells #[.bool s1, .slice A1 l1 c1, .slice B1 m1 k1] 33)).alloc (.cells #[.bool s2, .slice A2 l2 c2, .slice B2 m2 k2] 33)) (w.heap.size + 2) 33 #[.bool s2, .slice A2 l2 c2, .slice B2 m2 k2] := Blk.at_ (by simp)
  go_enter Try.func16, Try.ntmps16
  go_wp2_with fail
  generalize (((w.alloc (.cells #[.bool s0, .slice A0 l0 c0, .slice B0 m0 k0] 33)).alloc (.cells #[.bool s1, .slice A1 l1 c1, .slice B1 m1 k1] 33)).alloc (.cells #[.bool s2, .slice A2 l2 c2, .slice B2 m2 k2] 33)) = w1 at hXe kA kB kC ⊢
  have HX := Lib.hid hXe
  clear hXe
  have KA := Lib.hid kA
  clear kA
  have KB := Lib.hid kB
  clear kB
  have KC := Lib.hid kC
  clear kC
  refine (short_yes _ _ _ _ _ _ _ _ g0 g0').mono ?_
  rintro e w2 ⟨rfl, hX⟩
  replace HX := Lib.hid (HX.out.trans hX)
  replace KA := Lib.hid (KA.out.ext hX)
  replace KB := Lib.hid (KB.out.ext hX)
  replace KC := Lib.hid (KC.out.ext hX)
  clear hX
  have cA0 : w2.cell? ⟨w.heap.size, 0, none⟩ = some (.bool s0) := KA.out.cell 0
  have cA1 : w2.cell? ⟨w.heap.size, 1, none⟩ = some (.slice A0 l0 c0) := KA.out.cell 1
  have cA2 : w2.cell? ⟨w.heap.size, 2, none⟩ = some (.slice B0 m0 k0) := KA.out.cell 2
  have cB0 : w2.cell? ⟨(w.heap.size + 1), 0, none⟩ = some (.bool s1) := KB.out.cell 0
  have cB1 : w2.cell? ⟨(w.heap.size + 1), 1, none⟩ = some (.slice A1 l1 c1) := KB.out.cell 1
  have cB2 : w2.cell? ⟨(w.heap.size + 1), 2, none⟩ = some (.slice B1 m1 k1) := KB.out.cell 2
  have cC0 : w2.cell? ⟨(w.heap.size + 2), 0, none⟩ = some (.bool s2) := KC.out.cell 0
  have cC1 : w2.cell? ⟨(w.heap.size + 2), 1, none⟩ = some (.slice A2 l2 c2) := KC.out.cell 1
  have cC2 : w2.cell? ⟨(w.heap.size + 2), 2, none⟩ = some (.slice B2 m2 k2) := KC.out.cell 2
  go_wp2_with fail
  clear cA0 cA1 cA2 cB0 cB1 cB2 cC0 cC1 cC2
  refine (short_yes _ _ _ _ _ _ _ _ g1 g1').mono ?_
  rintro e w3 ⟨rfl, hX⟩
  replace HX := Lib.hid (HX.out.trans hX)
  replace KA := Lib.hid (KA.out.ext hX)
  replace KB := Lib.hid (KB.out.ext hX)
  replace KC := Lib.hid (KC.out.ext hX)
  clear hX
  have cA0 : w3.cell? ⟨w.heap.size, 0, none⟩ = some (.bool s0) := KA.out.cell 0
  have cA1 : w3.cell? ⟨w.heap.size, 1, none⟩ = some (.slice A0 l0 c0) := KA.out.cell 1
  have cA2 : w3.cell? ⟨w.heap.size, 2, none⟩ = some (.slice B0 m0 k0) := KA.out.cell 2
  have cB0 : w3.cell? ⟨(w.heap.size + 1), 0, none⟩ = some (.bool s1) := KB.out.cell 0
  have cB1 : w3.cell? ⟨(w.heap.size + 1), 1, none⟩ = some (.slice A1 l1 c1) := KB.out.cell 1
  have cB2 : w3.cell? ⟨(w.heap.size + 1), 2, none⟩ = some (.slice B1 m1 k1) := KB.out.cell 2
  have cC0 : w3.cell? ⟨(w.heap.size + 2), 0, none⟩ = some (.bool s2) := KC.out.cell 0
  have cC1 : w3.cell? ⟨(w.heap.size + 2), 1, none⟩ = some (.slice A2 l2 c2) := KC.out.cell 1
  have cC2 : w3.cell? ⟨(w.heap.size + 2), 2, none⟩ = some (.slice B2 m2 k2) := KC.out.cell 2
  go_wp2_with fail
  clear cA0 cA1 cA2 cB0 cB1 cB2 cC0 cC1 cC2
  refine (short_yes _ _ _ _ _ _ _ _ g2 g2').mono ?_
  rintro e w4 ⟨rfl, hX⟩
  replace HX := Lib.hid (HX.out.trans hX)
  replace KA := Lib.hid (KA.out.ext hX)
  replace KB := Lib.hid (KB.out.ext hX)
  replace KC := Lib.hid (KC.out.ext hX)
  clear hX
  have cA0 : w4.cell? ⟨w.heap.size, 0, none⟩ = some (.bool s0) := KA.out.cell 0
  have cA1 : w4.cell? ⟨w.heap.size, 1, none⟩ = some (.slice A0 l0 c0) := KA.out.cell 1
  have cA2 : w4.cell? ⟨w.heap.size, 2, none⟩ = some (.slice B0 m0 k0) := KA.out.cell 2
  have cB0 : w4.cell? ⟨(w.heap.size + 1), 0, none⟩ = some (.bool s1) := KB.out.cell 0
  have cB1 : w4.cell? ⟨(w.heap.size + 1), 1, none⟩ = some (.slice A1 l1 c1) := KB.out.cell 1
  have cB2 : w4.cell? ⟨(w.heap.size + 1), 2, none⟩ = some (.slice B1 m1 k1) := KB.out.cell 2
  have cC0 : w4.cell? ⟨(w.heap.size + 2), 0, none⟩ = some (.bool s2) := KC.out.cell 0
  have cC1 : w4.cell? ⟨(w.heap.size + 2), 1, none⟩ = some (.slice A2 l2 c2) := KC.out.cell 1
  have cC2 : w4.cell? ⟨(w.heap.size + 2), 2, none⟩ = some (.slice B2 m2 k2) := KC.out.cell 2
  go_wp2_with fail
  clear cA0 cA1 cA2 cB0 cB1 cB2 cC0 cC1 cC2
  refine (first_any _).mono ?_
  rintro e w5 ⟨rfl, hX⟩
  replace HX := Lib.hid (HX.out.trans hX)
  replace KA := Lib.hid (KA.out.ext hX)
  replace KB := Lib.hid (KB.out.ext hX)
  replace KC := Lib.hid (KC.out.ext hX)
  clear hX
  go_wp2
  go_ret
  exact ⟨rfl, HX.out⟩

end Go.Proofs.Yteoijnaljkagfaa
