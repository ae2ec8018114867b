/- Lemmas of the proof that follows (Operates, part 12): walks of functions by contract, and plain lemmas. Conditions: none. -/
import Derived.Test.YteoijnaljkagfaaOperatesK
namespace Go.Proofs.Yteoijnaljkagfaa
open Go.RowKit

theorem ratC_two {w : World} {s s' : Bool} {A B A' B' : Option Addr} {l c m k l' c' m' k' : Nat} {q : Rat} (h : RatC w (.agg #[.bool s, .slice A l c, .slice B m k]) q) (h' : RatC w (.agg #[.bool s', .slice A' l' c', .slice B' m' k']) q) :
    s' = s ∧ l' = l ∧ m' = m ∧ ∃ xs ys, Ints .u32 w A l xs ∧ Ints .u32 w A' l xs ∧ Ints .u32 w B m ys ∧ Ints .u32 w B' m ys ∧ l ≤ 9223372036854775807 ∧ m ≤ 9223372036854775807 := by
  obtain ⟨xs, ys, ⟨A1, l1, c1, B1, m1, k1, e, h1, h2, h3, h4, h5, h6⟩, hx, hy⟩ := h
  obtain ⟨xs', ys', ⟨A2, l2, c2, B2, m2, k2, e', g1, g2, g3, g4, g5, g6⟩, hx', hy'⟩ := h'
  simp only [Value.agg.injEq, Array.mk.injEq, List.cons.injEq, Value.bool.injEq, Value.slice.injEq, and_true] at e e'
  obtain ⟨rfl, ⟨rfl, rfl, rfl⟩, rfl, rfl, rfl⟩ := e
  obtain ⟨rfl, ⟨rfl, rfl, rfl⟩, rfl, rfl, rfl⟩ := e'
  obtain rfl := hx.unique (by omega) hx'
  have hyy : ys = ys' := by
    rcases hy with ⟨a, b⟩ | ⟨a, b⟩ <;> rcases hy' with ⟨a', b'⟩ | ⟨a', b'⟩
    · rw [b, b']
    · exact absurd a a'
    · exact absurd a' a
    · exact b.unique (by omega) b'
  subst hyy
  have e1 := h1.1
  have e2 := g1.1
  have e3 := h4.1
  have e4 := g4.1
  have z1 : l' = l := by omega
  have z2 : m' = m := by omega
  subst z1 z2
  exact ⟨rfl, rfl, rfl, xs, ys, h1, g1, h4, g4, by omega, by omega⟩

set_option maxRecDepth 100000 in
set_option maxHeartbeats 2000000 in
theorem same_v (s0 s1 : Bool) (A0 B0 A1 B1 : Option Addr) (l0 c0 m0 k0 l1 c1 m1 k1 : Nat) (q : Rat) (w : World) (hx : RatC w (.agg #[.bool s0, .slice A0 l0 c0, .slice B0 m0 k0]) q) (hy : QZ w (.agg #[.bool s1, .slice A1 l1 c1, .slice B1 m1 k1]) q) (hf : FitQW q) :
    Calls Try.prog 78 #[.agg #[.bool s0, .slice A0 l0 c0, .slice B0 m0 k0], .agg #[.bool s1, .slice A1 l1 c1, .slice B1 m1 k1]] w (fun e w' => e = .returned (.bool true) ∧ Ext w w') := by
  have HXX := Lib.hid hx
  have HYY := Lib.hid hy
  have HF := Lib.hid hf
  clear hx hy hf
  have hXe : Ext w ((w.alloc (.cells #[.bool s0, .slice A0 l0 c0, .slice B0 m0 k0] 33)).alloc (.cells #[.bool s1, .slice A1 l1 c1, .slice B1 m1 k1] 42)) := (((Ext.refl w).alloc _).alloc _)
  have kA : Blk ((w.alloc (.cells #[.bool s0, .slice A0 l0 c0, .slice B0 m0 k0] 33)).alloc (.cells #[.bool s1, .slice A1 l1 c1, .slice B1 m1 k1] 42)) w.heap.size 33 #[.bool s0, .slice A0 l0 c0, .slice B0 m0 k0] := Blk.alloc (Blk.at_ (by simp)) _
  have kB : Blk ((w.alloc (.cells #[.bool s0, .slice A0 l0 c0, .slice B0 m0 k0] 33)).alloc (.cells #[.bool s1, .slice A1 l1 c1, .slice B1 m1 k1] 42)) (w.heap.size + 1) 42 #[.bool s1, .slice A1 l1 c1, .slice B1 m1 k1] := Blk.at_ (by simp)
  go_enter Try.func78, Try.ntmps78
  go_wp2_with fail
  generalize ((w.alloc (.cells #[.bool s0, .slice A0 l0 c0, .slice B0 m0 k0] 33)).alloc (.cells #[.bool s1, .slice A1 l1 c1, .slice B1 m1 k1] 42)) = w1 at hXe kA kB ⊢
  have HX := Lib.hid hXe
  clear hXe
  have KA := Lib.hid kA
  clear kA
  have KB := Lib.hid kB
  clear kB
  replace HXX := Lib.hid (HXX.out.ext HX.out)
  replace HYY := Lib.hid (HYY.out.ext HX.out)
  have cB0 : w1.cell? ⟨(w.heap.size + 1), 0, none⟩ = some (.bool s1) := KB.out.cell 0
  have cB1 : w1.cell? ⟨(w.heap.size + 1), 1, none⟩ = some (.slice A1 l1 c1) := KB.out.cell 1
  have cB2 : w1.cell? ⟨(w.heap.size + 1), 2, none⟩ = some (.slice B1 m1 k1) := KB.out.cell 2
  go_wp2_with fail
  clear cB0 cB1 cB2
  refine (rout_yes HYY.out HF.out).mono ?_
  rintro e w2 ⟨v9, rfl, h9, hX⟩
  replace hX : Ext w1 w2 := by with_reducible exact hX
  replace HX := Lib.hid (HX.out.trans hX)
  replace HXX := Lib.hid (HXX.out.ext hX)
  replace HYY := Lib.hid (HYY.out.ext hX)
  replace KA := Lib.hid (KA.out.ext hX)
  replace KB := Lib.hid (KB.out.ext hX)
  clear hX
  obtain ⟨s9, A9, l9, c9, B9, m9, k9, rfl⟩ := h9.open
  obtain ⟨rfl, rfl, rfl, xs, ys, x0, x9, y0, y9, hl0, hm0⟩ := ratC_two HXX.out h9
  have X0 := Lib.hid x0
  have X1 := Lib.hid x9
  have Y0 := Lib.hid y0
  have Y1 := Lib.hid y9
  clear x0 x9 y0 y9 h9
  clear HXX
  clear HYY
  clear KB
  go_upto_region 2 with (fail)
  have hXa : Ext w2 (w2.alloc (.cells #[.bool s9, .slice A9 l9 c9, .slice B9 m9 k9] 33)) := (Ext.refl _).alloc _
  have kY := Blk.new w2 33 #[.bool s9, .slice A9 l9 c9, .slice B9 m9 k9]
  have zA := KA.out.lt
  have zg := HX.out.size
  replace HX := Lib.hid (HX.out.trans hXa)
  replace X0 := Lib.hid (X0.out.ext hXa)
  replace X1 := Lib.hid (X1.out.ext hXa)
  replace Y0 := Lib.hid (Y0.out.ext hXa)
  replace Y1 := Lib.hid (Y1.out.ext hXa)
  replace KA := Lib.hid (KA.out.ext hXa)
  generalize (w2.alloc (.cells #[.bool s9, .slice A9 l9 c9, .slice B9 m9 k9] 33)) = w3 at HX X0 X1 Y0 Y1 KA kY ⊢
  have KY := Lib.hid kY
  clear kY hXa
  obtain ⟨gy, hgy⟩ : ∃ g, w2.heap.size = g := ⟨_, rfl⟩
  rw [hgy] at KY ⊢
  clear hgy
  have cA0 : w3.cell? ⟨w.heap.size, 0, none⟩ = some (.bool s9) := KA.out.cell 0
  have cA1 : w3.cell? ⟨w.heap.size, 1, none⟩ = some (.slice A0 l9 c0) := KA.out.cell 1
  have cA2 : w3.cell? ⟨w.heap.size, 2, none⟩ = some (.slice B0 m9 k0) := KA.out.cell 2
  have cY0 : w3.cell? ⟨gy, 0, none⟩ = some (.bool s9) := KY.out.cell 0
  have cY1 : w3.cell? ⟨gy, 1, none⟩ = some (.slice A9 l9 c9) := KY.out.cell 1
  have cY2 : w3.cell? ⟨gy, 2, none⟩ = some (.slice B9 m9 k9) := KY.out.cell 2
  go_wp2_with fail
  clear cA0 cA1 cA2 cY0 cY1 cY2
  go_loopg [7] l9 (fun g' i wr => ∃ k : Nat, g' = l9 - k ∧ k ≤ l9 ∧ i = .int .i64 (k : Int) ∧ Hid (Blk wr w.heap.size 33 #[.bool s9, .slice A0 l9 c0, .slice B0 m9 k0]) ∧ Hid (Blk wr gy 33 #[.bool s9, .slice A9 l9 c9, .slice B9 m9 k9]) ∧ Hid (Ext w3 wr) ∧ Hid (Ext w wr))
  case atStart => exact ⟨0, rfl, by omega, rfl, KA.out, KY.out, Ext.refl _, HX.out⟩
  case round =>
    clear KA KY HX
    obtain ⟨k, rfl, hk, rfl, KA, KY, HE, HX⟩ := hrel
    have cA0 : wr.cell? ⟨w.heap.size, 1, none⟩ = some (.slice A0 l9 c0) := KA.out.cell 1
    have cA1 : wr.cell? ⟨w.heap.size, 2, none⟩ = some (.slice B0 m9 k0) := KA.out.cell 2
    have cB0 : wr.cell? ⟨gy, 1, none⟩ = some (.slice A9 l9 c9) := KY.out.cell 1
    have cB1 : wr.cell? ⟨gy, 2, none⟩ = some (.slice B9 m9 k9) := KY.out.cell 2
    by_cases hlt : k < l9
    · have hI : (k : Int) < (l9 : Int) := by omega
      have h0 : (0 : Int) ≤ (k : Int) := by omega
      obtain ⟨b0, o0, x0, hA0, hx0, hw0, hc0⟩ := X0.out.get hlt
      obtain ⟨b1, o1, x1, hA1, hx1, hw1, hc1⟩ := X1.out.get hlt
      have hxx : x1 = x0 := by rw [hx0] at hx1; injection hx1 with h; exact h.symm
      subst hxx
      subst hA0 hA1
      have d0 := HE.out.cell hc0
      have d1 := HE.out.cell hc1
      obtain ⟨u0, u1⟩ := u32_bounds hw0
      clear hx0 hx1 hw0 hw1 hc0 hc1
      go_wp2
      go_quiet (fail)
      go_wp2
      go_roundg (l9 - (k + 1))
      case rel => exact ⟨k + 1, rfl, by omega, by go_num, KA.out.drewN _, KY.out.drewN _, HE.out.drewN _, HX.out.drewN _⟩
      case measure => omega
    · obtain rfl : l9 = k := by omega
      go_wp2_with fail
      obtain ⟨wo, rfl⟩ : ∃ wo : World, wo = wr := ⟨_, rfl⟩
      clear cA0 cA1 cB0 cB1
      go_loopg [8] m9 (fun g' i wr => ∃ k : Nat, g' = m9 - k ∧ k ≤ m9 ∧ i = .int .i64 (k : Int) ∧ Hid (Blk wr w.heap.size 33 #[.bool s9, .slice A0 l9 c0, .slice B0 m9 k0]) ∧ Hid (Blk wr gy 33 #[.bool s9, .slice A9 l9 c9, .slice B9 m9 k9]) ∧ Hid (Ext w3 wr) ∧ Hid (Ext w wr))
      case atStart => exact ⟨0, rfl, by omega, rfl, KA.out, KY.out, HE.out, HX.out⟩
      case round =>
        clear KA KY HX HE
        obtain ⟨k, rfl, hk, rfl, KA, KY, HE, HX⟩ := hrel
        have cA0 : wr.cell? ⟨w.heap.size, 1, none⟩ = some (.slice A0 l9 c0) := KA.out.cell 1
        have cA1 : wr.cell? ⟨w.heap.size, 2, none⟩ = some (.slice B0 m9 k0) := KA.out.cell 2
        have cB0 : wr.cell? ⟨gy, 1, none⟩ = some (.slice A9 l9 c9) := KY.out.cell 1
        have cB1 : wr.cell? ⟨gy, 2, none⟩ = some (.slice B9 m9 k9) := KY.out.cell 2
        by_cases hlt : k < m9
        · have hI : (k : Int) < (m9 : Int) := by omega
          have h0 : (0 : Int) ≤ (k : Int) := by omega
          obtain ⟨b0, o0, x0, hA0, hx0, hw0, hc0⟩ := Y0.out.get hlt
          obtain ⟨b1, o1, x1, hA1, hx1, hw1, hc1⟩ := Y1.out.get hlt
          have hxx : x1 = x0 := by rw [hx0] at hx1; injection hx1 with h; exact h.symm
          subst hxx
          subst hA0 hA1
          have d0 := HE.out.cell hc0
          have d1 := HE.out.cell hc1
          obtain ⟨u0, u1⟩ := u32_bounds hw0
          clear hx0 hx1 hw0 hw1 hc0 hc1
          go_wp2
          go_quiet (fail)
          go_wp2
          go_roundg (m9 - (k + 1))
          case rel => exact ⟨k + 1, rfl, by omega, by go_num, KA.out.drewN _, KY.out.drewN _, HE.out.drewN _, HX.out.drewN _⟩
          case measure => omega
        · obtain rfl : m9 = k := by omega
          go_wp2
          go_ret
          exact ⟨rfl, HX.out⟩

theorem same_any {w : World} {vx va : Value} {q : Rat} (h : RatC w vx q) (k : QZ w va q) (hf : FitQW q) : Calls Try.prog 78 #[vx, va] w fun e w' => e = .returned (.bool true) ∧ Ext w w' := by
  obtain ⟨s0, A0, l0, c0, B0, m0, k0, rfl⟩ := h.open
  obtain ⟨s1, A1, l1, c1, B1, m1, k1, rfl⟩ := k.open
  exact same_v s0 s1 A0 B0 A1 B1 l0 c0 m0 k0 l1 c1 m1 k1 q w h k hf

set_option maxRecDepth 100000 in
set_option maxHeartbeats 2000000 in
theorem is_v (s0 s1 : Bool) (A0 B0 A1 B1 : Option Addr) (l0 c0 m0 k0 l1 c1 m1 k1 : Nat) (q : Rat) (w : World) (hx : RatC w (.agg #[.bool s0, .slice A0 l0 c0, .slice B0 m0 k0]) q) (hy : QZ w (.agg #[.bool s1, .slice A1 l1 c1, .slice B1 m1 k1]) q) (hf : FitQW q) :
    Calls Try.prog 23 #[.agg #[.bool s0, .slice A0 l0 c0, .slice B0 m0 k0], .int .i64 0, .agg #[.bool s1, .slice A1 l1 c1, .slice B1 m1 k1], .int .i64 0] w (fun e w' => e = .returned (.bool true) ∧ Ext w w') := by
  have HXX := Lib.hid hx
  have HYY := Lib.hid hy
  have HF := Lib.hid hf
  clear hx hy hf
  have hXe : Ext w ((w.alloc (.cells #[.bool s0, .slice A0 l0 c0, .slice B0 m0 k0] 33)).alloc (.cells #[.bool s1, .slice A1 l1 c1, .slice B1 m1 k1] 42)) := (((Ext.refl w).alloc _).alloc _)
  have kA : Blk ((w.alloc (.cells #[.bool s0, .slice A0 l0 c0, .slice B0 m0 k0] 33)).alloc (.cells #[.bool s1, .slice A1 l1 c1, .slice B1 m1 k1] 42)) w.heap.size 33 #[.bool s0, .slice A0 l0 c0, .slice B0 m0 k0] := Blk.alloc (Blk.at_ (by simp)) _
  have kB : Blk ((w.alloc (.cells #[.bool s0, .slice A0 l0 c0, .slice B0 m0 k0] 33)).alloc (.cells #[.bool s1, .slice A1 l1 c1, .slice B1 m1 k1] 42)) (w.heap.size + 1) 42 #[.bool s1, .slice A1 l1 c1, .slice B1 m1 k1] := Blk.at_ (by simp)
  go_enter Try.func23, Try.ntmps23
  go_wp2_with fail
  generalize ((w.alloc (.cells #[.bool s0, .slice A0 l0 c0, .slice B0 m0 k0] 33)).alloc (.cells #[.bool s1, .slice A1 l1 c1, .slice B1 m1 k1] 42)) = w1 at hXe kA kB ⊢
  have HX := Lib.hid hXe
  clear hXe
  have KA := Lib.hid kA
  clear kA
  have KB := Lib.hid kB
  clear kB
  replace HXX := Lib.hid (HXX.out.ext HX.out)
  replace HYY := Lib.hid (HYY.out.ext HX.out)
  have cA0 : w1.cell? ⟨w.heap.size, 0, none⟩ = some (.bool s0) := KA.out.cell 0
  have cA1 : w1.cell? ⟨w.heap.size, 1, none⟩ = some (.slice A0 l0 c0) := KA.out.cell 1
  have cA2 : w1.cell? ⟨w.heap.size, 2, none⟩ = some (.slice B0 m0 k0) := KA.out.cell 2
  have cB0 : w1.cell? ⟨(w.heap.size + 1), 0, none⟩ = some (.bool s1) := KB.out.cell 0
  have cB1 : w1.cell? ⟨(w.heap.size + 1), 1, none⟩ = some (.slice A1 l1 c1) := KB.out.cell 1
  have cB2 : w1.cell? ⟨(w.heap.size + 1), 2, none⟩ = some (.slice B1 m1 k1) := KB.out.cell 2
  go_wp2_with fail
  clear cA0 cA1 cA2 cB0 cB1 cB2
  refine (same_any HXX.out HYY.out HF.out).mono ?_
  rintro e w2 ⟨rfl, hX⟩
  replace hX : Ext w1 w2 := by with_reducible exact hX
  replace HX := Lib.hid (HX.out.trans hX)
  replace KA := Lib.hid (KA.out.ext hX)
  replace KB := Lib.hid (KB.out.ext hX)
  clear hX
  go_wp2
  go_ret
  exact ⟨rfl, HX.out⟩

set_option maxRecDepth 100000 in
set_option maxHeartbeats 2000000 in
theorem is_e (er : Int) (s1 : Bool) (A1 B1 : Option Addr) (l1 c1 m1 k1 : Nat) (w : World) (he : er ≠ 0) :
    Calls Try.prog 23 #[.agg #[.bool false, .slice none 0 0, .slice none 0 0], .int .i64 er, .agg #[.bool s1, .slice A1 l1 c1, .slice B1 m1 k1], .int .i64 er] w (fun e w' => e = .returned (.bool true) ∧ Ext w w') := by
  have hb : (er != 0) = true := by simp [he]
  have hb2 : (er == 0) = false := by simp [he]
  have hXe : Ext w ((w.alloc (.cells #[.bool false, .slice none 0 0, .slice none 0 0] 33)).alloc (.cells #[.bool s1, .slice A1 l1 c1, .slice B1 m1 k1] 42)) := (((Ext.refl w).alloc _).alloc _)
  have kA : Blk ((w.alloc (.cells #[.bool false, .slice none 0 0, .slice none 0 0] 33)).alloc (.cells #[.bool s1, .slice A1 l1 c1, .slice B1 m1 k1] 42)) w.heap.size 33 #[.bool false, .slice none 0 0, .slice none 0 0] := Blk.alloc (Blk.at_ (by simp)) _
  have kB : Blk ((w.alloc (.cells #[.bool false, .slice none 0 0, .slice none 0 0] 33)).alloc (.cells #[.bool s1, .slice A1 l1 c1, .slice B1 m1 k1] 42)) (w.heap.size + 1) 42 #[.bool s1, .slice A1 l1 c1, .slice B1 m1 k1] := Blk.at_ (by simp)
  go_enter Try.func23, Try.ntmps23
  go_wp2_with fail
  generalize ((w.alloc (.cells #[.bool false, .slice none 0 0, .slice none 0 0] 33)).alloc (.cells #[.bool s1, .slice A1 l1 c1, .slice B1 m1 k1] 42)) = w1 at hXe kA kB ⊢
  have HX := Lib.hid hXe
  clear hXe
  have KA := Lib.hid kA
  clear kA
  have KB := Lib.hid kB
  clear kB
  have cA0 : w1.cell? ⟨w.heap.size, 0, none⟩ = some (.bool false) := KA.out.cell 0
  have cA1 : w1.cell? ⟨w.heap.size, 1, none⟩ = some (.slice none 0 0) := KA.out.cell 1
  have cA2 : w1.cell? ⟨w.heap.size, 2, none⟩ = some (.slice none 0 0) := KA.out.cell 2
  have cB0 : w1.cell? ⟨(w.heap.size + 1), 0, none⟩ = some (.bool s1) := KB.out.cell 0
  have cB1 : w1.cell? ⟨(w.heap.size + 1), 1, none⟩ = some (.slice A1 l1 c1) := KB.out.cell 1
  have cB2 : w1.cell? ⟨(w.heap.size + 1), 2, none⟩ = some (.slice B1 m1 k1) := KB.out.cell 2
  go_wp2
  go_ret
  exact ⟨rfl, HX.out⟩

theorem is_ok {w : World} {vx va : Value} {q : Rat} (h : RatC w vx q) (k : QZ w va q) (hf : FitQW q) : Calls Try.prog 23 #[vx, .int .i64 0, va, .int .i64 0] w fun e w' => e = .returned (.bool true) ∧ Ext w w' := by
  obtain ⟨s0, A0, l0, c0, B0, m0, k0, rfl⟩ := h.open
  obtain ⟨s1, A1, l1, c1, B1, m1, k1, rfl⟩ := k.open
  exact is_v s0 s1 A0 B0 A1 B1 l0 c0 m0 k0 l1 c1 m1 k1 q w h k hf

set_option maxRecDepth 100000 in
set_option maxHeartbeats 2000000 in
theorem read_v (s0 : Bool) (A0 B0 : Option Addr) (l0 c0 m0 k0 : Nat) (q : Rat) (w : World) (hx : RatG w (.agg #[.bool s0, .slice A0 l0 c0, .slice B0 m0 k0]) q) :
    Calls Try.prog 33 #[.agg #[.bool s0, .slice A0 l0 c0, .slice B0 m0 k0]] w (fun e w' => ∃ v, e = .returned (.tuple #[v, .int .i64 0]) ∧ QZ w' v q ∧ Ext w w') := by
  have HXX := Lib.hid hx
  clear hx
  have hXe : Ext w ((w.alloc (.cells #[.bool s0, .slice A0 l0 c0, .slice B0 m0 k0] 33)).alloc (.cells #[.bool false, .slice none 0 0, .slice none 0 0] 42)) := (((Ext.refl w).alloc _).alloc _)
  have kA : Blk ((w.alloc (.cells #[.bool s0, .slice A0 l0 c0, .slice B0 m0 k0] 33)).alloc (.cells #[.bool false, .slice none 0 0, .slice none 0 0] 42)) w.heap.size 33 #[.bool s0, .slice A0 l0 c0, .slice B0 m0 k0] := Blk.alloc (Blk.at_ (by simp)) _
  have kR : Blk ((w.alloc (.cells #[.bool s0, .slice A0 l0 c0, .slice B0 m0 k0] 33)).alloc (.cells #[.bool false, .slice none 0 0, .slice none 0 0] 42)) (w.heap.size + 1) 42 #[.bool false, .slice none 0 0, .slice none 0 0] := Blk.at_ (by simp)
  go_enter Try.func33, Try.ntmps33
  go_wp2_with fail
  generalize ((w.alloc (.cells #[.bool s0, .slice A0 l0 c0, .slice B0 m0 k0] 33)).alloc (.cells #[.bool false, .slice none 0 0, .slice none 0 0] 42)) = w1 at hXe kA kR ⊢
  have HX := Lib.hid hXe
  clear hXe
  have KA := Lib.hid kA
  clear kA
  have KR := Lib.hid kR
  clear kR
  replace HXX := Lib.hid (HXX.out.ext HX.out)
  have cA0 : w1.cell? ⟨w.heap.size, 0, none⟩ = some (.bool s0) := KA.out.cell 0
  have cA1 : w1.cell? ⟨w.heap.size, 1, none⟩ = some (.slice A0 l0 c0) := KA.out.cell 1
  have cA2 : w1.cell? ⟨w.heap.size, 2, none⟩ = some (.slice B0 m0 k0) := KA.out.cell 2
  go_wp2_with fail
  clear cA0 cA1 cA2
  refine (rof_yes HXX.out).mono ?_
  rintro e w2 ⟨v9, rfl, hv, hX⟩
  replace hX : Ext w1 w2 := by with_reducible exact hX
  replace HX := Lib.hid (HX.out.trans hX)
  replace KA := Lib.hid (KA.out.ext hX)
  replace KR := Lib.hid (KR.out.ext hX)
  clear hX
  obtain ⟨s9, A9, l9, c9, B9, m9, k9, rfl⟩ := QZ.open hv
  have HV := Lib.hid hv
  clear hv
  go_upto_region 2 with (fail)
  have hXa : Ext w2 (w2.alloc (.cells #[.bool s9, .slice A9 l9 c9, .slice B9 m9 k9] 42)) := (Ext.refl _).alloc _
  have kY := Blk.new w2 42 #[.bool s9, .slice A9 l9 c9, .slice B9 m9 k9]
  have zA := KA.out.lt
  have zR := KR.out.lt
  have zg := HX.out.size
  replace HX := Lib.hid (HX.out.trans hXa)
  replace HV := Lib.hid (HV.out.ext hXa)
  replace KA := Lib.hid (KA.out.ext hXa)
  replace KR := Lib.hid (KR.out.ext hXa)
  generalize (w2.alloc (.cells #[.bool s9, .slice A9 l9 c9, .slice B9 m9 k9] 42)) = w3 at HX HV KA KR kY ⊢
  have KY := Lib.hid kY
  clear kY hXa
  have cR0 : w3.cell? ⟨(w.heap.size + 1), 0, none⟩ = some (.bool false) := KR.out.cell 0
  have fR0 : w3.frozen? ⟨(w.heap.size + 1), 0, none⟩ = false := KR.out.free 0
  have cR1 : w3.cell? ⟨(w.heap.size + 1), 1, none⟩ = some (.slice none 0 0) := KR.out.cell 1
  have fR1 : w3.frozen? ⟨(w.heap.size + 1), 1, none⟩ = false := KR.out.free 1
  have cR2 : w3.cell? ⟨(w.heap.size + 1), 2, none⟩ = some (.slice none 0 0) := KR.out.cell 2
  have fR2 : w3.frozen? ⟨(w.heap.size + 1), 2, none⟩ = false := KR.out.free 2
  have cY0 : w3.cell? ⟨w2.heap.size, 0, none⟩ = some (.bool s9) := KY.out.cell 0
  have cY1 : w3.cell? ⟨w2.heap.size, 1, none⟩ = some (.slice A9 l9 c9) := KY.out.cell 1
  have cY2 : w3.cell? ⟨w2.heap.size, 2, none⟩ = some (.slice B9 m9 k9) := KY.out.cell 2
  replace HV := Lib.hid (QZ.past HV.out (NoInts.three KR.out))
  go_wp2
  refine bodyPost_ret (v := .tuple #[.agg #[.bool s9, .slice A9 l9 c9, .slice B9 m9 k9], .int .i64 0]) (by simp [results, Try.results33, go_sem, *]) rfl ?_
  exact ⟨_, rfl, HV.out, Ext.boxed HX.out (by omega) _ _ _⟩

set_option maxRecDepth 100000 in
set_option maxHeartbeats 2000000 in
theorem read_n (s0 : Bool) (A0 B0 : Option Addr) (l0 c0 m0 k0 : Nat) (w : World) (hx : RatL w (.agg #[.bool s0, .slice A0 l0 c0, .slice B0 m0 k0]) true) :
    Calls Try.prog 33 #[.agg #[.bool s0, .slice A0 l0 c0, .slice B0 m0 k0]] w (fun e w' => e = .returned (.tuple #[.agg #[.bool false, .slice none 0 0, .slice none 0 0], .int .i64 1]) ∧ Ext w w') := by
  have HXX := Lib.hid hx
  clear hx
  have hXe : Ext w ((w.alloc (.cells #[.bool s0, .slice A0 l0 c0, .slice B0 m0 k0] 33)).alloc (.cells #[.bool false, .slice none 0 0, .slice none 0 0] 42)) := (((Ext.refl w).alloc _).alloc _)
  have kA : Blk ((w.alloc (.cells #[.bool s0, .slice A0 l0 c0, .slice B0 m0 k0] 33)).alloc (.cells #[.bool false, .slice none 0 0, .slice none 0 0] 42)) w.heap.size 33 #[.bool s0, .slice A0 l0 c0, .slice B0 m0 k0] := Blk.alloc (Blk.at_ (by simp)) _
  have kR : Blk ((w.alloc (.cells #[.bool s0, .slice A0 l0 c0, .slice B0 m0 k0] 33)).alloc (.cells #[.bool false, .slice none 0 0, .slice none 0 0] 42)) (w.heap.size + 1) 42 #[.bool false, .slice none 0 0, .slice none 0 0] := Blk.at_ (by simp)
  go_enter Try.func33, Try.ntmps33
  go_wp2_with fail
  generalize ((w.alloc (.cells #[.bool s0, .slice A0 l0 c0, .slice B0 m0 k0] 33)).alloc (.cells #[.bool false, .slice none 0 0, .slice none 0 0] 42)) = w1 at hXe kA kR ⊢
  have HX := Lib.hid hXe
  clear hXe
  have KA := Lib.hid kA
  clear kA
  have KR := Lib.hid kR
  clear kR
  replace HXX := Lib.hid (HXX.out.ext HX.out)
  have cA0 : w1.cell? ⟨w.heap.size, 0, none⟩ = some (.bool s0) := KA.out.cell 0
  have cA1 : w1.cell? ⟨w.heap.size, 1, none⟩ = some (.slice A0 l0 c0) := KA.out.cell 1
  have cA2 : w1.cell? ⟨w.heap.size, 2, none⟩ = some (.slice B0 m0 k0) := KA.out.cell 2
  go_wp2_with fail
  clear cA0 cA1 cA2
  refine (rof_no HXX.out).mono ?_
  rintro e w2 ⟨rfl, hX⟩
  replace hX : Ext w1 w2 := by with_reducible exact hX
  replace HX := Lib.hid (HX.out.trans hX)
  replace KA := Lib.hid (KA.out.ext hX)
  replace KR := Lib.hid (KR.out.ext hX)
  clear hX
  go_upto_region 2 with (fail)
  have hXa : Ext w2 (w2.alloc (.cells #[.bool false, .slice none 0 0, .slice none 0 0] 42)) := (Ext.refl _).alloc _
  have kY := Blk.new w2 42 #[.bool false, .slice none 0 0, .slice none 0 0]
  have zA := KA.out.lt
  have zR := KR.out.lt
  have zg := HX.out.size
  replace HX := Lib.hid (HX.out.trans hXa)
  replace KA := Lib.hid (KA.out.ext hXa)
  replace KR := Lib.hid (KR.out.ext hXa)
  generalize (w2.alloc (.cells #[.bool false, .slice none 0 0, .slice none 0 0] 42)) = w3 at HX KA KR kY ⊢
  have KY := Lib.hid kY
  clear kY hXa
  have cR0 : w3.cell? ⟨(w.heap.size + 1), 0, none⟩ = some (.bool false) := KR.out.cell 0
  have fR0 : w3.frozen? ⟨(w.heap.size + 1), 0, none⟩ = false := KR.out.free 0
  have cR1 : w3.cell? ⟨(w.heap.size + 1), 1, none⟩ = some (.slice none 0 0) := KR.out.cell 1
  have fR1 : w3.frozen? ⟨(w.heap.size + 1), 1, none⟩ = false := KR.out.free 1
  have cR2 : w3.cell? ⟨(w.heap.size + 1), 2, none⟩ = some (.slice none 0 0) := KR.out.cell 2
  have fR2 : w3.frozen? ⟨(w.heap.size + 1), 2, none⟩ = false := KR.out.free 2
  have cY0 : w3.cell? ⟨w2.heap.size, 0, none⟩ = some (.bool false) := KY.out.cell 0
  have cY1 : w3.cell? ⟨w2.heap.size, 1, none⟩ = some (.slice none 0 0) := KY.out.cell 1
  have cY2 : w3.cell? ⟨w2.heap.size, 2, none⟩ = some (.slice none 0 0) := KY.out.cell 2
  go_wp2
  refine bodyPost_ret (v := .tuple #[.agg #[.bool false, .slice none 0 0, .slice none 0 0], .int .i64 1]) (by simp [results, Try.results33, go_sem, *]) rfl ?_
  exact ⟨rfl, Ext.boxed HX.out (by omega) _ _ _⟩

theorem read_ok {w : World} {v : Value} {q : Rat} (h : RatG w v q) : Calls Try.prog 33 #[v] w fun e w' => ∃ v, e = .returned (.tuple #[v, .int .i64 0]) ∧ QZ w' v q ∧ Ext w w' := by
  obtain ⟨s0, A0, l0, c0, B0, m0, k0, rfl⟩ := h.open
  exact read_v s0 A0 B0 l0 c0 m0 k0 q w h
theorem read_no {w : World} {v : Value} (h : RatL w v true) : Calls Try.prog 33 #[v] w fun e w' => e = .returned (.tuple #[.agg #[.bool false, .slice none 0 0, .slice none 0 0], .int .i64 1]) ∧ Ext w w' := by
  obtain ⟨neg, xs, ys, ⟨A, l, c, B, m, k, rfl, h1⟩, hs⟩ := h
  exact read_n neg A B l c m k w ⟨neg, xs, ys, ⟨A, l, c, B, m, k, rfl, h1⟩, hs⟩
end Go.Proofs.Yteoijnaljkagfaa
namespace Go.Proofs.Yteoijnaljkagfaa
open Go.RowKit

set_option maxRecDepth 100000 in
set_option maxHeartbeats 400000 in
theorem length_any (A : Option Addr) (n c : Nat) (xs : List Int) (w : World) (h : Ints .u32 w A n xs) (hnm : n ≤ 9223372036854775807) :
    Calls Try.prog 82 #[.slice A n c] w fun e w' => ∃ m : Nat, e = .returned (.int .i64 (m : Int)) ∧ m ≤ n ∧ w = w' := by
  have H := Lib.hid h
  clear h
  go_enter Try.func82, Try.ntmps82
  go_wp2
  go_loopg [3] n (fun g v wr => ∃ m : Nat, m = g ∧ m ≤ n ∧ v = .int .i64 (m : Int) ∧ w = wr)
  case atStart => exact ⟨n, rfl, Nat.le_refl _, rfl, rfl⟩
  case round =>
    obtain ⟨m, rfl, hm, rfl, rfl⟩ := hrel
    rcases Nat.eq_zero_or_pos m with h0 | h0
    · subst h0
      go_wp2
      go_ret
      exact ⟨0, rfl, by omega, rfl⟩
    · obtain ⟨k, rfl⟩ : ∃ k, m = k + 1 := ⟨m - 1, by omega⟩
      obtain ⟨b, off, x, rfl, hx, hwf, hc⟩ := H.out.get (j := k) (by omega)
      obtain ⟨hx0, hx1⟩ := u32_bounds hwf
      have hkc : ((k + 1 : Nat) : Int) = (k : Int) + 1 := by omega
      have hk0 : (0 : Int) ≤ (k : Int) := by omega
      have hkn : (k : Int) < (n : Int) := by omega
      rw [hkc]
      clear hx hwf
      by_cases hz : x = 0
      · have hzb : (x == 0) = true := by simpa using hz
        clear hz hkc
        go_wp2
        go_roundg k
        case rel => exact ⟨k, rfl, by omega, rfl, rfl⟩
        case measure => omega
      · have hzb : (x == 0) = false := by simpa using hz
        have HC := Lib.hid hkc
        clear hz hkc
        go_wp2
        go_ret
        exact ⟨k + 1, by rw [HC.out]; rfl, hm, rfl⟩
/-- Some numbers in a block. -/
def RatsAt (w : World) (g n : Nat) : Prop := ∀ j, j < n → ∃ A l c xs B m k ys, w.cell? ⟨g, j * 3 + 1, none⟩ = some (.slice A l c) ∧ w.cell? ⟨g, j * 3 + 2, none⟩ = some (.slice B m k) ∧ Ints .u32 w A l xs ∧ Ints .u32 w B m ys ∧ l ≤ 9223372036854775807 ∧ m ≤ 9223372036854775807
theorem RatsAt.ext {w w' : World} {g n : Nat} (h : RatsAt w g n) (he : Ext w w') : RatsAt w' g n := fun j hj => by
  obtain ⟨A, l, c, xs, B, m, k, ys, h1, h2, h3, h4, h5⟩ := h j hj
  exact ⟨A, l, c, xs, B, m, k, ys, he.cell h1, he.cell h2, h3.ext he, h4.ext he, h5⟩


set_option maxRecDepth 100000 in
set_option maxHeartbeats 4000000 in
theorem heavy_any (g n : Nat) (w : World) (h : RatsAt w g n) (hn : n ≤ 1000) :
    Calls Try.prog 27 #[.slice (some ⟨g, 0, none⟩) n n] w fun e w' => ∃ b : Bool, e = .returned (.bool b) ∧ Ext w w' := by
  have H := Lib.hid h
  clear h
  go_enter Try.func27, Try.ntmps27
  go_wp2
  go_loopg [3, 4] n (fun g' s3 s4 wr => ∃ (k : Nat) (b : Bool), g' = n - k ∧ k ≤ n ∧ s4 = .int .i64 (k : Int) ∧ s3 = .bool b ∧ Hid (Ext w wr))
  case atStart => exact ⟨0, false, rfl, by omega, rfl, rfl, Ext.refl w⟩
  case round =>
    obtain ⟨k, b, rfl, hk, rfl, rfl, HX⟩ := hrel
    by_cases hlt : k < n
    · have hkn : (k : Int) < (n : Int) := by omega
      have hk0 : (0 : Int) ≤ (k : Int) := by omega
      obtain ⟨A, l, c, xs, B, m, c2, ys, y1, y2, ha, hb, hl, hm⟩ := H.out.ext HX.out k hlt
      have HA := Lib.hid ha
      have HB := Lib.hid hb
      clear ha hb
      by_cases h1 : (400 : Int) < (l : Int)
      · go_wp2
        go_ret
        first | exact ⟨_, rfl, HX.out⟩ | exact ⟨.inr rfl, HX.out⟩ | exact ⟨.inl rfl, HX.out⟩
      by_cases h2 : (400 : Int) < (m : Int)
      · go_wp2
        go_ret
        first | exact ⟨_, rfl, HX.out⟩ | exact ⟨.inr rfl, HX.out⟩ | exact ⟨.inl rfl, HX.out⟩
      cases b
      · go_wp2_with fail
        refine (length_any A l c xs _ HA.out hl).mono ?_
        rintro e _ ⟨x1, rfl, hx1, rfl⟩
        by_cases h3 : (12 : Int) < (x1 : Int)
        · go_wp2
          go_roundg (n - (k + 1))
          case rel => exact ⟨k + 1, _, rfl, by omega, by go_num, rfl, HX.out⟩
          case measure => omega
        go_wp2_with fail
        refine (length_any B m c2 ys _ HB.out hm).mono ?_
        rintro e _ ⟨x2, rfl, hx2, rfl⟩
        by_cases h4 : (12 : Int) < (x2 : Int)
        · go_wp2
          go_roundg (n - (k + 1))
          case rel => exact ⟨k + 1, _, rfl, by omega, by go_num, rfl, HX.out⟩
          case measure => omega
        · go_wp2
          go_roundg (n - (k + 1))
          case rel => exact ⟨k + 1, _, rfl, by omega, by go_num, rfl, HX.out⟩
          case measure => omega
      · go_wp2
        go_roundg (n - (k + 1))
        case rel => exact ⟨k + 1, _, rfl, by omega, by go_num, rfl, HX.out⟩
        case measure => omega
    · obtain rfl : n = k := by omega
      cases b
      · go_wp2
        go_ret
        first | exact ⟨_, rfl, HX.out⟩ | exact ⟨.inr rfl, HX.out⟩ | exact ⟨.inl rfl, HX.out⟩
      · go_wp2
        obtain ⟨wo, rfl⟩ : ∃ wo : World, wo = wr := ⟨_, rfl⟩
        go_loopg [5] n (fun g' s5 wr => ∃ k : Nat, g' = n - k ∧ k ≤ n ∧ s5 = .int .i64 (k : Int) ∧ Hid (Ext w wr))
        case atStart => exact ⟨0, rfl, by omega, rfl, HX.out⟩
        case round =>
          clear HX
          obtain ⟨k, rfl, hk, rfl, HX⟩ := hrel
          by_cases hlt : k < n
          · have hkn : (k : Int) < (n : Int) := by omega
            have hk0 : (0 : Int) ≤ (k : Int) := by omega
            obtain ⟨A, l, c, xs, B, m, c2, ys, y1, y2, ha, hb, hl, hm⟩ := H.out.ext HX.out k hlt
            have HA := Lib.hid ha
            have HB := Lib.hid hb
            clear ha hb
            go_wp2_with fail
            refine (length_any B m c2 ys _ HB.out hm).mono ?_
            rintro e _ ⟨x2, rfl, hx2, rfl⟩
            by_cases h3 : (2 : Int) < (x2 : Int)
            · by_cases h4 : (1 : Int) < (n : Int)
              · go_wp2
                go_ret
                first | exact ⟨_, rfl, HX.out⟩ | exact ⟨.inr rfl, HX.out⟩ | exact ⟨.inl rfl, HX.out⟩
              · go_wp2_with fail
                refine (length_any A l c xs _ HA.out hl).mono ?_
                rintro e _ ⟨x1, rfl, hx1, rfl⟩
                by_cases h5 : (2 : Int) < (x1 : Int)
                · go_wp2
                  go_ret
                  first | exact ⟨_, rfl, HX.out⟩ | exact ⟨.inr rfl, HX.out⟩ | exact ⟨.inl rfl, HX.out⟩
                · go_wp2
                  go_roundg (n - (k + 1))
                  case rel => exact ⟨k + 1, rfl, by omega, by go_num, HX.out⟩
                  case measure => omega
            · go_wp2
              go_roundg (n - (k + 1))
              case rel => exact ⟨k + 1, rfl, by omega, by go_num, HX.out⟩
              case measure => omega
          · obtain rfl : n = k := by omega
            go_wp2
            go_ret
            first | exact ⟨_, rfl, HX.out⟩ | exact ⟨.inr rfl, HX.out⟩ | exact ⟨.inl rfl, HX.out⟩
end Go.Proofs.Yteoijnaljkagfaa
