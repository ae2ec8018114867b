/- Lemmas of the proof that follows (Decodes, part 2): walks of functions by contract, and plain lemmas. Conditions: none. -/
import Derived.Test.YtagcgldhhdecjaaDecodesA
namespace Go.Proofs.Ytagcgldhhdecjaa
open Go.RowKit

theorem eqQuad (x0 x1 x2 x3 : Int) (W : World) : (Op.equalIn 10000 69 (.agg #[.int .i64 x0, .int .i64 x1, .int .i64 x2, .int .i64 x3]) (.agg #[.int .i64 0, .int .i64 0, .int .i64 0, .int .i64 0])).run Try.prog W = .ok (decide (x0 = 0 ∧ x1 = 0 ∧ x2 = 0 ∧ x3 = 0)) W := by
  have hsome : (Try.prog.info? 3).isSome = true := by kernel_rfl
  obtain ⟨i, hi⟩ := Option.isSome_iff_exists.1 hsome
  have hc : Try.prog.cellsOf 3 = 1 := by kernel_rfl
  rw [run_equalIn_array W 9999 _ _ Try.underlying69 hi, hc]
  have hr : List.range 4 = [0, 1, 2, 3] := rfl
  have hu := Try.underlying3
  rw [hr]
  by_cases h0 : x0 = 0 <;> by_cases h1 : x1 = 0 <;> by_cases h2 : x2 = 0 <;> by_cases h3 : x3 = 0 <;> simp [Op.eqItems, go_sem, h0, h1, h2, h3]
theorem idx4 (x0 x1 x2 x3 : Int) : (∀ w, (Instr.index 69 (.agg #[.int .i64 x0, .int .i64 x1, .int .i64 x2, .int .i64 x3]) (.int .i64 0)).run Try.prog w = .ok (.int .i64 x0) w) ∧ (∀ w, (Instr.index 69 (.agg #[.int .i64 x0, .int .i64 x1, .int .i64 x2, .int .i64 x3]) (.int .i64 1)).run Try.prog w = .ok (.int .i64 x1) w) ∧ (∀ w, (Instr.index 69 (.agg #[.int .i64 x0, .int .i64 x1, .int .i64 x2, .int .i64 x3]) (.int .i64 2)).run Try.prog w = .ok (.int .i64 x2) w) ∧ (∀ w, (Instr.index 69 (.agg #[.int .i64 x0, .int .i64 x1, .int .i64 x2, .int .i64 x3]) (.int .i64 3)).run Try.prog w = .ok (.int .i64 x3) w) :=
  ⟨fun _ => by kernel_rfl, fun _ => by kernel_rfl, fun _ => by kernel_rfl, fun _ => by kernel_rfl⟩
/-- A pulse as a value. -/
def Pul.val (p : Pul) (A : Option Addr) (n c : Nat) : Value := .agg #[.int .i64 p.time, .int .i64 p.q0, .int .i64 p.q1, .int .i64 p.q2, .int .i64 p.q3, .slice A n c]

set_option maxRecDepth 100000 in
set_option maxHeartbeats 4000000 in
theorem validP_any (p : Pul) (A : Option Addr) (n c : Nat) (w : World) (h : Ints .i64 w A n p.smp) :
    Calls Try.prog 49 #[p.val A n c] w (fun e w' => e = .returned (.bool (decide (PulOk p))) ∧ Ext w w') := by
  obtain ⟨tm, x0, x1, x2, x3, l⟩ := p
  simp only [Pul.val]
  have hX0 := (Ext.refl w).alloc (.cells #[.int .i64 tm, .int .i64 x0, .int .i64 x1, .int .i64 x2, .int .i64 x3, .slice A n c] 71)
  have hB0 := Blk.new w 71 #[.int .i64 tm, .int .i64 x0, .int .i64 x1, .int .i64 x2, .int .i64 x3, .slice A n c]
  have HI := Lib.hid (h.ext hX0)
  have HB := Lib.hid hB0
  have HX := Lib.hid hX0
  have HL := Lib.hid h.1
  clear h hB0 hX0
  have hq := eqQuad x0 x1 x2 x3 (w.alloc (.cells #[.int .i64 tm, .int .i64 x0, .int .i64 x1, .int .i64 x2, .int .i64 x3, .slice A n c] 71))
  by_cases h0 : tm < 0
  · have HBO : Hid (decide (PulOk ⟨tm, x0, x1, x2, x3, l⟩) = false) := Lib.hid (decide_eq_false (fun hp => by have := hp.1; simp only at this; omega))
    go_enter Try.func49, Try.ntmps49
    go_wp2
    go_ret
    exact ⟨by first | (rw [HBO.out]; done) | (rw [HBO.out]; rfl), HX.out⟩
  by_cases h1 : 1125899906842624 < tm
  · have HBO : Hid (decide (PulOk ⟨tm, x0, x1, x2, x3, l⟩) = false) := Lib.hid (decide_eq_false (fun hp => by have := hp.2.1; simp only at this; omega))
    go_enter Try.func49, Try.ntmps49
    go_wp2
    go_ret
    exact ⟨by first | (rw [HBO.out]; done) | (rw [HBO.out]; rfl), HX.out⟩
  by_cases hz : x0 = 0 ∧ x1 = 0 ∧ x2 = 0 ∧ x3 = 0
  · have HBO : Hid (decide (PulOk ⟨tm, x0, x1, x2, x3, l⟩) = false) := Lib.hid (decide_eq_false (fun hp => hp.2.2.1 hz))
    rw [decide_eq_true hz] at hq
    clear hz
    go_enter Try.func49, Try.ntmps49
    go_wp2
    go_ret
    exact ⟨by first | (rw [HBO.out]; done) | (rw [HBO.out]; rfl), HX.out⟩
  rw [decide_eq_false hz] at hq
  have HZ := Lib.hid hz
  clear hz
  by_cases hs : ¬ Smp l
  · have HBO : Hid (decide (PulOk ⟨tm, x0, x1, x2, x3, l⟩) = false) := Lib.hid (decide_eq_false (fun hp => hs hp.2.2.2.1))
    have qs : Hid (decide (Smp l) = false) := Lib.hid (decide_eq_false hs)
    clear hs
    go_enter Try.func49, Try.ntmps49
    go_wp2_with fail
    refine (sampled_any A n c l _ HI.out).mono ?_
    rw [qs.out]
    rintro e _ ⟨rfl, rfl⟩
    go_wp2
    go_ret
    exact ⟨by first | (rw [HBO.out]; done) | (rw [HBO.out]; rfl), HX.out⟩
  have hs' := Decidable.not_not.1 hs
  have qs : Hid (decide (Smp l) = true) := Lib.hid (decide_eq_true hs')
  have HS := Lib.hid hs'
  clear hs hs'
  go_enter Try.func49, Try.ntmps49
  go_wp2_with fail
  refine (sampled_any A n c l _ HI.out).mono ?_
  rw [qs.out]
  rintro e _ ⟨rfl, rfl⟩
  go_wp2_with fail
  clear hq
  go_loopg [27] 4 (fun f iv wr => ∃ k : Nat, f = 4 - k ∧ k ≤ 4 ∧ iv = .int .i64 (k : Int) ∧ Hid (∀ x ∈ [x0, x1, x2, x3].take k, QOk x) ∧ Hid (Ext w wr))
  case atStart => exact ⟨0, rfl, by omega, rfl, Lib.hid (by simp), HX⟩
  case round =>
    clear HX HB HI
    obtain ⟨k, rfl, hk, rfl, HQ, HX⟩ := hrel
    obtain ⟨ix0, ix1, ix2, ix3⟩ := idx4 x0 x1 x2 x3
    obtain rfl | rfl | rfl | rfl | rfl : k = 4 ∨ k = 0 ∨ k = 1 ∨ k = 2 ∨ k = 3 := by omega
    · have HBO : Hid (decide (PulOk ⟨tm, x0, x1, x2, x3, l⟩) = true) := Lib.hid (decide_eq_true (by
        have hh := HQ.out
        simp only [List.take_succ_cons, List.take_zero, List.mem_cons, List.not_mem_nil, or_false] at hh
        exact ⟨by simp only; omega, by simp only; omega, HZ.out, HS.out, hh _ (by simp), hh _ (by simp), hh _ (by simp), hh _ (by simp)⟩))
      go_wp2
      go_ret
      exact ⟨by first | (rw [HBO.out]; done) | (rw [HBO.out]; rfl), HX.out⟩
    · by_cases a0 : x0 < -1000
      · have HBO : Hid (decide (PulOk ⟨tm, x0, x1, x2, x3, l⟩) = false) := Lib.hid (decide_eq_false (fun hp => by have := hp.2.2.2.2.1; unfold QOk at this; simp only at this; omega))
        go_wp2
        go_ret
        exact ⟨by first | (rw [HBO.out]; done) | (rw [HBO.out]; rfl), HX.out⟩
      by_cases a1 : 1000 < x0
      · have HBO : Hid (decide (PulOk ⟨tm, x0, x1, x2, x3, l⟩) = false) := Lib.hid (decide_eq_false (fun hp => by have := hp.2.2.2.2.1; unfold QOk at this; simp only at this; omega))
        go_wp2
        go_ret
        exact ⟨by first | (rw [HBO.out]; done) | (rw [HBO.out]; rfl), HX.out⟩
      go_wp2
      go_roundg (4 - (0 + 1))
      case rel =>
        refine ⟨0 + 1, rfl, by omega, by go_num, Lib.hid ?_, HX⟩
        intro x hx
        rw [List.take_add_one] at hx
        rcases List.mem_append.1 hx with hx | hx
        · exact HQ.out x hx
        · simp at hx; subst hx; unfold QOk; omega
      case measure => omega
    · by_cases a0 : x1 < -1000
      · have HBO : Hid (decide (PulOk ⟨tm, x0, x1, x2, x3, l⟩) = false) := Lib.hid (decide_eq_false (fun hp => by have := hp.2.2.2.2.2.1; unfold QOk at this; simp only at this; omega))
        go_wp2
        go_ret
        exact ⟨by first | (rw [HBO.out]; done) | (rw [HBO.out]; rfl), HX.out⟩
      by_cases a1 : 1000 < x1
      · have HBO : Hid (decide (PulOk ⟨tm, x0, x1, x2, x3, l⟩) = false) := Lib.hid (decide_eq_false (fun hp => by have := hp.2.2.2.2.2.1; unfold QOk at this; simp only at this; omega))
        go_wp2
        go_ret
        exact ⟨by first | (rw [HBO.out]; done) | (rw [HBO.out]; rfl), HX.out⟩
      go_wp2
      go_roundg (4 - (1 + 1))
      case rel =>
        refine ⟨1 + 1, rfl, by omega, by go_num, Lib.hid ?_, HX⟩
        intro x hx
        rw [List.take_add_one] at hx
        rcases List.mem_append.1 hx with hx | hx
        · exact HQ.out x hx
        · simp at hx; subst hx; unfold QOk; omega
      case measure => omega
    · by_cases a0 : x2 < -1000
      · have HBO : Hid (decide (PulOk ⟨tm, x0, x1, x2, x3, l⟩) = false) := Lib.hid (decide_eq_false (fun hp => by have := hp.2.2.2.2.2.2.1; unfold QOk at this; simp only at this; omega))
        go_wp2
        go_ret
        exact ⟨by first | (rw [HBO.out]; done) | (rw [HBO.out]; rfl), HX.out⟩
      by_cases a1 : 1000 < x2
      · have HBO : Hid (decide (PulOk ⟨tm, x0, x1, x2, x3, l⟩) = false) := Lib.hid (decide_eq_false (fun hp => by have := hp.2.2.2.2.2.2.1; unfold QOk at this; simp only at this; omega))
        go_wp2
        go_ret
        exact ⟨by first | (rw [HBO.out]; done) | (rw [HBO.out]; rfl), HX.out⟩
      go_wp2
      go_roundg (4 - (2 + 1))
      case rel =>
        refine ⟨2 + 1, rfl, by omega, by go_num, Lib.hid ?_, HX⟩
        intro x hx
        rw [List.take_add_one] at hx
        rcases List.mem_append.1 hx with hx | hx
        · exact HQ.out x hx
        · simp at hx; subst hx; unfold QOk; omega
      case measure => omega
    · by_cases a0 : x3 < -1000
      · have HBO : Hid (decide (PulOk ⟨tm, x0, x1, x2, x3, l⟩) = false) := Lib.hid (decide_eq_false (fun hp => by have := hp.2.2.2.2.2.2.2; unfold QOk at this; simp only at this; omega))
        go_wp2
        go_ret
        exact ⟨by first | (rw [HBO.out]; done) | (rw [HBO.out]; rfl), HX.out⟩
      by_cases a1 : 1000 < x3
      · have HBO : Hid (decide (PulOk ⟨tm, x0, x1, x2, x3, l⟩) = false) := Lib.hid (decide_eq_false (fun hp => by have := hp.2.2.2.2.2.2.2; unfold QOk at this; simp only at this; omega))
        go_wp2
        go_ret
        exact ⟨by first | (rw [HBO.out]; done) | (rw [HBO.out]; rfl), HX.out⟩
      go_wp2
      go_roundg (4 - (3 + 1))
      case rel =>
        refine ⟨3 + 1, rfl, by omega, by go_num, Lib.hid ?_, HX⟩
        intro x hx
        rw [List.take_add_one] at hx
        rcases List.mem_append.1 hx with hx | hx
        · exact HQ.out x hx
        · simp at hx; subst hx; unfold QOk; omega
      case measure => omega
set_option maxRecDepth 100000 in
set_option maxHeartbeats 4000000 in
theorem validR_any (p : Pul) (A : Option Addr) (n c : Nat) (w : World) (h : Ints .i64 w A n p.smp) :
    Calls Try.prog 50 #[p.val A n c] w (fun e w' => e = .returned (.bool (decide (PulOk p))) ∧ Ext w w') := by
  obtain ⟨tm, x0, x1, x2, x3, l⟩ := p
  simp only [Pul.val]
  have hX0 := (Ext.refl w).alloc (.cells #[.int .i64 tm, .int .i64 x0, .int .i64 x1, .int .i64 x2, .int .i64 x3, .slice A n c] 71)
  have hB0 := Blk.new w 71 #[.int .i64 tm, .int .i64 x0, .int .i64 x1, .int .i64 x2, .int .i64 x3, .slice A n c]
  have HI := Lib.hid (h.ext hX0)
  have HB := Lib.hid hB0
  have HX := Lib.hid hX0
  have HL := Lib.hid h.1
  clear h hB0 hX0
  go_enter Try.func50, Try.ntmps50
  go_wp2_with fail
  go_loopg [3, 4] 4 (fun f sv iv wr => ∃ (k : Nat) (so : Bool), f = 4 - k ∧ k ≤ 4 ∧ sv = .bool so ∧ iv = .int .i64 (k : Int) ∧ Hid (∀ x ∈ [x0, x1, x2, x3].take k, QOk x) ∧ Hid (so = true ↔ ∃ x ∈ [x0, x1, x2, x3].take k, x ≠ 0) ∧ Hid (Blk wr w.heap.size 71 #[.int .i64 tm, .int .i64 x0, .int .i64 x1, .int .i64 x2, .int .i64 x3, .slice A n c]) ∧ Hid (Ints .i64 wr A n l) ∧ Hid (Ext w wr))
  case atStart => exact ⟨0, false, rfl, by omega, rfl, rfl, Lib.hid (by simp), Lib.hid (by simp), HB, HI, HX⟩
  case round =>
    clear HX HB HI
    obtain ⟨k, so, rfl, hk, rfl, rfl, HQ, HSO, HB, HI, HX⟩ := hrel
    have c0 := HB.out.cell 0
    have c1 := HB.out.cell 1
    have c2 := HB.out.cell 2
    have c3 := HB.out.cell 3
    have c4 := HB.out.cell 4
    have c5 := HB.out.cell 5
    simp only [List.getElem?_toArray, List.getElem?_cons_zero, List.getElem?_cons_succ] at c0 c1 c2 c3 c4 c5
    obtain rfl | rfl | rfl | rfl | rfl : k = 4 ∨ k = 0 ∨ k = 1 ∨ k = 2 ∨ k = 3 := by omega
    · cases so
      · have HBO : Hid (decide (PulOk ⟨tm, x0, x1, x2, x3, l⟩) = false) := Lib.hid (decide_eq_false (fun hp => by have hso := HSO.out; simp only [Bool.false_eq_true, false_iff, not_exists, not_and, Classical.not_not, List.take_succ_cons, List.take_zero] at hso; exact hp.2.2.1 ⟨hso _ (by simp), hso _ (by simp), hso _ (by simp), hso _ (by simp)⟩))
        go_wp2
        go_ret
        exact ⟨by first | (rw [HBO.out]; done) | (rw [HBO.out]; rfl), HX.out⟩
      by_cases a0 : 0 ≤ tm
      · by_cases a1 : tm ≤ 1125899906842624
        · have qa0 : decide (0 ≤ tm) = true := decide_eq_true a0
          have qa1 : decide (tm ≤ 1125899906842624) = true := decide_eq_true a1
          obtain ⟨bo, hbo⟩ : ∃ bo, decide (Smp l) = bo := ⟨_, rfl⟩
          have HBO : Hid (decide (PulOk ⟨tm, x0, x1, x2, x3, l⟩) = bo) := Lib.hid (by
            rw [← hbo]
            refine decide_eq_decide.2 ⟨fun hp => hp.2.2.2.1, fun hs => ?_⟩
            have hh := HQ.out
            have hso := HSO.out
            simp only [List.take_succ_cons, List.take_zero, List.mem_cons, List.not_mem_nil, or_false] at hh hso
            refine ⟨a0, a1, ?_, hs, hh _ (by simp), hh _ (by simp), hh _ (by simp), hh _ (by simp)⟩
            rintro ⟨e0, e1, e2, e3⟩
            simp only at e0 e1 e2 e3
            obtain ⟨x, hx, hne⟩ := hso.1 trivial
            rcases hx with rfl | rfl | rfl | rfl
            · exact hne e0
            · exact hne e1
            · exact hne e2
            · exact hne e3)
          have HQB := Lib.hid hbo
          clear hbo
          go_wp2_with fail
          refine (samplesR_any A n c l _ HI.out).mono ?_
          rw [HQB.out]
          rintro e _ ⟨rfl, rfl⟩
          go_wp2
          go_ret
          exact ⟨by first | (rw [HBO.out]; done) | (rw [HBO.out]; rfl), HX.out⟩
        · have HBO : Hid (decide (PulOk ⟨tm, x0, x1, x2, x3, l⟩) = false) := Lib.hid (decide_eq_false (fun hp => by have := hp.2.1; simp only at this; omega))
          go_wp2
          go_ret
          exact ⟨by first | (rw [HBO.out]; done) | (rw [HBO.out]; rfl), HX.out⟩
      · have HBO : Hid (decide (PulOk ⟨tm, x0, x1, x2, x3, l⟩) = false) := Lib.hid (decide_eq_false (fun hp => by have := hp.1; simp only at this; omega))
        go_wp2
        go_ret
        exact ⟨by first | (rw [HBO.out]; done) | (rw [HBO.out]; rfl), HX.out⟩
    · by_cases a0 : x0 < -1000
      · have HBO : Hid (decide (PulOk ⟨tm, x0, x1, x2, x3, l⟩) = false) := Lib.hid (decide_eq_false (fun hp => by have := hp.2.2.2.2.1; unfold QOk at this; simp only at this; omega))
        go_wp2
        go_ret
        exact ⟨by first | (rw [HBO.out]; done) | (rw [HBO.out]; rfl), HX.out⟩
      by_cases a1 : 1000 < x0
      · have HBO : Hid (decide (PulOk ⟨tm, x0, x1, x2, x3, l⟩) = false) := Lib.hid (decide_eq_false (fun hp => by have := hp.2.2.2.2.1; unfold QOk at this; simp only at this; omega))
        go_wp2
        go_ret
        exact ⟨by first | (rw [HBO.out]; done) | (rw [HBO.out]; rfl), HX.out⟩
      cases so
      · by_cases az : x0 = 0
        · have qz : (x0 != 0) = false := by simpa using az
          have HAZ := Lib.hid az
          clear az
          go_wp2
          go_roundg (4 - (0 + 1))
          case rel =>
            refine ⟨0 + 1, false, rfl, by omega, rfl, by go_num, Lib.hid ?_, Lib.hid ?_, HB, HI, HX⟩
            · intro x hx
              rw [List.take_add_one] at hx
              rcases List.mem_append.1 hx with hx | hx
              · exact HQ.out x hx
              · simp at hx; subst hx; unfold QOk; omega
            · have := HSO.out; rw [List.take_add_one]; simp only [Bool.false_eq_true, false_iff, not_exists, not_and, Classical.not_not] at this ⊢; intro y hy; rcases List.mem_append.1 hy with hy | hy; exact this y hy; simp at hy; subst hy; exact HAZ.out
          case measure => omega
        · have qz : (x0 != 0) = true := by simpa using az
          have HAZ := Lib.hid az
          clear az
          go_wp2
          go_roundg (4 - (0 + 1))
          case rel =>
            refine ⟨0 + 1, true, rfl, by omega, rfl, by go_num, Lib.hid ?_, Lib.hid ?_, HB, HI, HX⟩
            · intro x hx
              rw [List.take_add_one] at hx
              rcases List.mem_append.1 hx with hx | hx
              · exact HQ.out x hx
              · simp at hx; subst hx; unfold QOk; omega
            · rw [List.take_add_one]; exact ⟨fun _ => ⟨x0, List.mem_append_right _ (by simp), HAZ.out⟩, fun _ => rfl⟩
          case measure => omega
      · go_wp2
        go_roundg (4 - (0 + 1))
        case rel =>
          refine ⟨0 + 1, true, rfl, by omega, rfl, by go_num, Lib.hid ?_, Lib.hid ?_, HB, HI, HX⟩
          · intro x hx
            rw [List.take_add_one] at hx
            rcases List.mem_append.1 hx with hx | hx
            · exact HQ.out x hx
            · simp at hx; subst hx; unfold QOk; omega
          · rw [List.take_add_one]; exact ⟨fun _ => by obtain ⟨y, hy, hn⟩ := HSO.out.1 (by simp); exact ⟨y, List.mem_append_left _ hy, hn⟩, fun _ => rfl⟩
        case measure => omega
    · by_cases a0 : x1 < -1000
      · have HBO : Hid (decide (PulOk ⟨tm, x0, x1, x2, x3, l⟩) = false) := Lib.hid (decide_eq_false (fun hp => by have := hp.2.2.2.2.2.1; unfold QOk at this; simp only at this; omega))
        go_wp2
        go_ret
        exact ⟨by first | (rw [HBO.out]; done) | (rw [HBO.out]; rfl), HX.out⟩
      by_cases a1 : 1000 < x1
      · have HBO : Hid (decide (PulOk ⟨tm, x0, x1, x2, x3, l⟩) = false) := Lib.hid (decide_eq_false (fun hp => by have := hp.2.2.2.2.2.1; unfold QOk at this; simp only at this; omega))
        go_wp2
        go_ret
        exact ⟨by first | (rw [HBO.out]; done) | (rw [HBO.out]; rfl), HX.out⟩
      cases so
      · by_cases az : x1 = 0
        · have qz : (x1 != 0) = false := by simpa using az
          have HAZ := Lib.hid az
          clear az
          go_wp2
          go_roundg (4 - (1 + 1))
          case rel =>
            refine ⟨1 + 1, false, rfl, by omega, rfl, by go_num, Lib.hid ?_, Lib.hid ?_, HB, HI, HX⟩
            · intro x hx
              rw [List.take_add_one] at hx
              rcases List.mem_append.1 hx with hx | hx
              · exact HQ.out x hx
              · simp at hx; subst hx; unfold QOk; omega
            · have := HSO.out; rw [List.take_add_one]; simp only [Bool.false_eq_true, false_iff, not_exists, not_and, Classical.not_not] at this ⊢; intro y hy; rcases List.mem_append.1 hy with hy | hy; exact this y hy; simp at hy; subst hy; exact HAZ.out
          case measure => omega
        · have qz : (x1 != 0) = true := by simpa using az
          have HAZ := Lib.hid az
          clear az
          go_wp2
          go_roundg (4 - (1 + 1))
          case rel =>
            refine ⟨1 + 1, true, rfl, by omega, rfl, by go_num, Lib.hid ?_, Lib.hid ?_, HB, HI, HX⟩
            · intro x hx
              rw [List.take_add_one] at hx
              rcases List.mem_append.1 hx with hx | hx
              · exact HQ.out x hx
              · simp at hx; subst hx; unfold QOk; omega
            · rw [List.take_add_one]; exact ⟨fun _ => ⟨x1, List.mem_append_right _ (by simp), HAZ.out⟩, fun _ => rfl⟩
          case measure => omega
      · go_wp2
        go_roundg (4 - (1 + 1))
        case rel =>
          refine ⟨1 + 1, true, rfl, by omega, rfl, by go_num, Lib.hid ?_, Lib.hid ?_, HB, HI, HX⟩
          · intro x hx
            rw [List.take_add_one] at hx
            rcases List.mem_append.1 hx with hx | hx
            · exact HQ.out x hx
            · simp at hx; subst hx; unfold QOk; omega
          · rw [List.take_add_one]; exact ⟨fun _ => by obtain ⟨y, hy, hn⟩ := HSO.out.1 (by simp); exact ⟨y, List.mem_append_left _ hy, hn⟩, fun _ => rfl⟩
        case measure => omega
    · by_cases a0 : x2 < -1000
      · have HBO : Hid (decide (PulOk ⟨tm, x0, x1, x2, x3, l⟩) = false) := Lib.hid (decide_eq_false (fun hp => by have := hp.2.2.2.2.2.2.1; unfold QOk at this; simp only at this; omega))
        go_wp2
        go_ret
        exact ⟨by first | (rw [HBO.out]; done) | (rw [HBO.out]; rfl), HX.out⟩
      by_cases a1 : 1000 < x2
      · have HBO : Hid (decide (PulOk ⟨tm, x0, x1, x2, x3, l⟩) = false) := Lib.hid (decide_eq_false (fun hp => by have := hp.2.2.2.2.2.2.1; unfold QOk at this; simp only at this; omega))
        go_wp2
        go_ret
        exact ⟨by first | (rw [HBO.out]; done) | (rw [HBO.out]; rfl), HX.out⟩
      cases so
      · by_cases az : x2 = 0
        · have qz : (x2 != 0) = false := by simpa using az
          have HAZ := Lib.hid az
          clear az
          go_wp2
          go_roundg (4 - (2 + 1))
          case rel =>
            refine ⟨2 + 1, false, rfl, by omega, rfl, by go_num, Lib.hid ?_, Lib.hid ?_, HB, HI, HX⟩
            · intro x hx
              rw [List.take_add_one] at hx
              rcases List.mem_append.1 hx with hx | hx
              · exact HQ.out x hx
              · simp at hx; subst hx; unfold QOk; omega
            · have := HSO.out; rw [List.take_add_one]; simp only [Bool.false_eq_true, false_iff, not_exists, not_and, Classical.not_not] at this ⊢; intro y hy; rcases List.mem_append.1 hy with hy | hy; exact this y hy; simp at hy; subst hy; exact HAZ.out
          case measure => omega
        · have qz : (x2 != 0) = true := by simpa using az
          have HAZ := Lib.hid az
          clear az
          go_wp2
          go_roundg (4 - (2 + 1))
          case rel =>
            refine ⟨2 + 1, true, rfl, by omega, rfl, by go_num, Lib.hid ?_, Lib.hid ?_, HB, HI, HX⟩
            · intro x hx
              rw [List.take_add_one] at hx
              rcases List.mem_append.1 hx with hx | hx
              · exact HQ.out x hx
              · simp at hx; subst hx; unfold QOk; omega
            · rw [List.take_add_one]; exact ⟨fun _ => ⟨x2, List.mem_append_right _ (by simp), HAZ.out⟩, fun _ => rfl⟩
          case measure => omega
      · go_wp2
        go_roundg (4 - (2 + 1))
        case rel =>
          refine ⟨2 + 1, true, rfl, by omega, rfl, by go_num, Lib.hid ?_, Lib.hid ?_, HB, HI, HX⟩
          · intro x hx
            rw [List.take_add_one] at hx
            rcases List.mem_append.1 hx with hx | hx
            · exact HQ.out x hx
            · simp at hx; subst hx; unfold QOk; omega
          · rw [List.take_add_one]; exact ⟨fun _ => by obtain ⟨y, hy, hn⟩ := HSO.out.1 (by simp); exact ⟨y, List.mem_append_left _ hy, hn⟩, fun _ => rfl⟩
        case measure => omega
    · by_cases a0 : x3 < -1000
      · have HBO : Hid (decide (PulOk ⟨tm, x0, x1, x2, x3, l⟩) = false) := Lib.hid (decide_eq_false (fun hp => by have := hp.2.2.2.2.2.2.2; unfold QOk at this; simp only at this; omega))
        go_wp2
        go_ret
        exact ⟨by first | (rw [HBO.out]; done) | (rw [HBO.out]; rfl), HX.out⟩
      by_cases a1 : 1000 < x3
      · have HBO : Hid (decide (PulOk ⟨tm, x0, x1, x2, x3, l⟩) = false) := Lib.hid (decide_eq_false (fun hp => by have := hp.2.2.2.2.2.2.2; unfold QOk at this; simp only at this; omega))
        go_wp2
        go_ret
        exact ⟨by first | (rw [HBO.out]; done) | (rw [HBO.out]; rfl), HX.out⟩
      cases so
      · by_cases az : x3 = 0
        · have qz : (x3 != 0) = false := by simpa using az
          have HAZ := Lib.hid az
          clear az
          go_wp2
          go_roundg (4 - (3 + 1))
          case rel =>
            refine ⟨3 + 1, false, rfl, by omega, rfl, by go_num, Lib.hid ?_, Lib.hid ?_, HB, HI, HX⟩
            · intro x hx
              rw [List.take_add_one] at hx
              rcases List.mem_append.1 hx with hx | hx
              · exact HQ.out x hx
              · simp at hx; subst hx; unfold QOk; omega
            · have := HSO.out; rw [List.take_add_one]; simp only [Bool.false_eq_true, false_iff, not_exists, not_and, Classical.not_not] at this ⊢; intro y hy; rcases List.mem_append.1 hy with hy | hy; exact this y hy; simp at hy; subst hy; exact HAZ.out
          case measure => omega
        · have qz : (x3 != 0) = true := by simpa using az
          have HAZ := Lib.hid az
          clear az
          go_wp2
          go_roundg (4 - (3 + 1))
          case rel =>
            refine ⟨3 + 1, true, rfl, by omega, rfl, by go_num, Lib.hid ?_, Lib.hid ?_, HB, HI, HX⟩
            · intro x hx
              rw [List.take_add_one] at hx
              rcases List.mem_append.1 hx with hx | hx
              · exact HQ.out x hx
              · simp at hx; subst hx; unfold QOk; omega
            · rw [List.take_add_one]; exact ⟨fun _ => ⟨x3, List.mem_append_right _ (by simp), HAZ.out⟩, fun _ => rfl⟩
          case measure => omega
      · go_wp2
        go_roundg (4 - (3 + 1))
        case rel =>
          refine ⟨3 + 1, true, rfl, by omega, rfl, by go_num, Lib.hid ?_, Lib.hid ?_, HB, HI, HX⟩
          · intro x hx
            rw [List.take_add_one] at hx
            rcases List.mem_append.1 hx with hx | hx
            · exact HQ.out x hx
            · simp at hx; subst hx; unfold QOk; omega
          · rw [List.take_add_one]; exact ⟨fun _ => by obtain ⟨y, hy, hn⟩ := HSO.out.1 (by simp); exact ⟨y, List.mem_append_left _ hy, hn⟩, fun _ => rfl⟩
        case measure => omega
end Go.Proofs.Ytagcgldhhdecjaa
namespace Go.Proofs.Ytagcgldhhdecjaa
open Go.RowKit

def v3 (r : Int × Int × Int) : Value := .tuple #[.int .i64 r.1, .int .i64 r.2.1, .int .i64 r.2.2]

theorem ret_v3 {r : Int × Int × Int} {a b c : Int} (h : r = (a, b, c)) : Ending.returned (.tuple #[.int .i64 a, .int .i64 b, .int .i64 c]) = .returned (v3 r) := by subst h; rfl

theorem rd_ok' {xs : List Int} {k : Nat} {x m s : Int} (hL : Lead k xs) (hk : k < 9) (hx : xs[k]? = some x) (hl : x < 128) (hz : ¬ (0 < k ∧ x = 0)) (hM : m = valN (xs.take (k + 1))) (hm : m ≤ 4611686018427387903) (hs : s = (k : Int) + 1) :
    rd xs = (m, s, 0) := by
  subst hM hs
  exact rd_ok hL hk hx hl hz hm
theorem rd_big' {xs : List Int} {k : Nat} {x m : Int} (hL : Lead k xs) (hk : k < 9) (hx : xs[k]? = some x) (hl : x < 128) (hM : m = valN (xs.take (k + 1))) (hm : 4611686018427387903 < m) :
    rd xs = (0, 0, 4) := rd_big hL hk hx hl (by omega)

set_option maxHeartbeats 400000 in
theorem readNum (A : Option Addr) (n c : Nat) (xs : List Int) (w : World) (h : Ints .u8 w A n xs) (hn : n ≤ 9223372036854775807) :
    Calls Try.prog 100 #[.slice A n c] w fun e w' => e = .returned (v3 (rd xs)) ∧ w = w' := by
  have H := Lib.hid h
  go_enter Try.func100, Try.ntmps100
  clear h
  go_wp2
  go_loop [5, 6, 7] (fun a i j => ∃ k : Nat, k ≤ 9 ∧ j = .int .i64 k ∧ ∃ m : Int, a = .int .u64 m ∧ Hid (m = valN (xs.take k)) ∧ Hid (Lead k xs)) (fun _ _ j => 9 - (intOf j).toNat)
  case atStart => exact ⟨0, by omega, rfl, 0, rfl, by simp [Hid, valN], Lead.zero xs⟩
  case round =>
    obtain ⟨k, hk, rfl, m, rfl, hm, hL⟩ := hrel
    by_cases hlt : k < 9
    · by_cases hkn : k < n
      · obtain ⟨b, off, x, rfl, hx, hwf, hc⟩ := H.out.get hkn
        have hb := u8_bounds hwf
        obtain ⟨hb0, hb1⟩ := hb
        have hst := acc_step hlt hx hb0
        rw [← hm.out] at hst
        have hz : Hid (x = 0 → xs[k]? = some 0) := fun e => by rw [hx, e]
        have HX := Lib.hid hx
        clear hx hwf
        obtain ⟨m', hm', HM⟩ : ∃ m', bits .or .u64 m (IntKind.u64.wrap (x % 128 * 2 ^ (7 * k))) = m' ∧ Hid (m' = valN (xs.take (k + 1)) ∧ m' < 9223372036854775808) := ⟨_, rfl, hst.1, by rw [hst.1]; exact hst.2⟩
        have hm0 : 0 ≤ m' := by rw [HM.out.1]; exact valN_nonneg _
        have hm1 : m' ≤ 9223372036854775807 := by have := HM.out.2; omega
        clear hst
        have hkne : ((k : Int) == (n : Int)) = false := by simp; omega
        go_wp2
        · go_round
          case rel => exact ⟨k + 1, by omega, by go_num, m', rfl, HM.out.1, hL.out.succ HX.out (by assumption)⟩
          case measure => simp [intOf]; omega
        all_goals go_ret3
        all_goals refine ⟨ret_v3 ?_, rfl⟩
        · exact rd_big' hL.out hlt HX.out (by omega) HM.out.1 (by omega)
        · exact rd_ok' hL.out hlt HX.out (by omega) (by omega) HM.out.1 (by omega) (by omega)
        · exact rd_zero hL.out hlt (hz.out (by assumption)) (by omega)
        · exact rd_big' hL.out hlt HX.out (by omega) HM.out.1 (by omega)
        · exact rd_ok' hL.out hlt HX.out (by omega) (by omega) HM.out.1 (by omega) (by omega)
      · have hLe : Hid (xs.length ≤ n) := by have := H.out.1; exact (by omega : xs.length ≤ n)
        have hLn : k ≤ n := by
          rcases Nat.eq_zero_or_pos k with h0 | h0
          · omega
          · obtain ⟨x, hx, _⟩ := hL.out (k - 1) (by omega)
            have := (List.getElem?_eq_some_iff.1 hx).1
            have := hLe.out
            omega
        have hke : ((k : Int) == (n : Int)) = true := by simp; omega
        go_wp2
        go_ret3
        exact ⟨ret_v3 (rd_short hL.out hlt (List.getElem?_eq_none (by have := hLe.out; omega))), rfl⟩
    · obtain rfl : k = 9 := by omega
      go_wp2
      go_ret3
      exact ⟨ret_v3 (rd_long hL.out), rfl⟩


set_option maxHeartbeats 1000000 in
theorem readNumR (A : Option Addr) (n c : Nat) (xs : List Int) (w : World) (h : Ints .u8 w A n xs) (hn : n ≤ 9223372036854775807) :
    Calls Try.prog 80 #[.slice A n c] w fun e w' => e = .returned (v3 (rd xs)) ∧ w = w' := by
  have H := Lib.hid h
  go_enter Try.func80, Try.ntmps80
  clear h
  go_wp2
  go_loop [5] (fun j => ∃ k : Nat, k ≤ 9 ∧ k ≤ n ∧ j = .int .i64 k ∧ Hid (Lead k xs)) (fun j => 9 - (intOf j).toNat)
  case atStart => exact ⟨0, by omega, by omega, rfl, Lead.zero xs⟩
  case round =>
    obtain ⟨k, hk, hkn, rfl, hL⟩ := hrel
    by_cases hlt : k < 9
    · by_cases hkl : k < n
      · obtain ⟨b, off, x, rfl, hx, hwf, hc⟩ := H.out.get hkl
        obtain ⟨hb0, hb1⟩ := u8_bounds hwf
        have HX := Lib.hid hx
        clear hx hwf
        by_cases hge : 128 ≤ x
        · go_wp2
          go_round
          case rel => exact ⟨k + 1, by omega, by omega, by go_num, hL.out.succ HX.out hge⟩
          case measure => simp [intOf]; omega
        · have hk9 : ((k : Int) == 9) = false := by simp; omega
          have hkn' : ((k : Int) == (n : Int)) = false := by simp; omega
          by_cases hz : 0 < k ∧ x = 0
          · obtain ⟨hz1, hz2⟩ := hz
            have hzb : (x == 0) = true := by simpa using hz2
            go_wp2
            go_ret3
            exact ⟨ret_v3 (rd_zero hL.out hlt (by rw [HX.out, hz2]) hz1), rfl⟩
          · have hzz : Hid (¬ (0 < k ∧ x = 0)) := hz
            have hzb : k = 0 ∨ (x == 0) = false := by
              rcases Nat.eq_zero_or_pos k with h0 | h0
              · exact .inl h0
              · right; simp; intro e; exact hz ⟨h0, e⟩
            clear hz
            have hk1 : ¬ 0 < k ∨ (0 < k ∧ (x == 0) = false) := by
              rcases Nat.eq_zero_or_pos k with h0 | h0
              · exact .inl (by omega)
              · rcases hzb with h1 | h1
                · omega
                · exact .inr ⟨h0, h1⟩
            clear hzb
            rcases hk1 with hk1 | ⟨hk1, hxz⟩
            all_goals
              go_wp2
              go_loop [6, 7] (fun m i => ∃ (j : Nat) (q : Int), j ≤ k + 1 ∧ i = .int .i64 ((j : Int) - 1) ∧ m = .int .u64 q ∧ Hid (q = valN ((xs.take (k + 1)).drop j))) (fun _ i => ((intOf i) + 1).toNat)
              case atStart => exact ⟨k + 1, 0, by omega, by go_num, rfl, by simp [Hid, valN]⟩
              case round =>
                obtain ⟨j, q, hj, rfl, rfl, hq⟩ := hrel
                have hq0 : 0 ≤ q := by rw [hq.out]; exact valN_nonneg _
                rcases Nat.eq_zero_or_pos j with h0 | h0
                · subst h0
                  have hq1 : q ≤ 9223372036854775807 := by
                    rw [hq.out]
                    have := valN_lt_of (xs := (xs.take (k + 1)).drop 0) (k := 9) (by rw [List.length_drop, List.length_take]; omega)
                    omega
                  have hqe : Hid (q = valN (xs.take (k + 1))) := by have := hq.out; exact (by simpa using this : q = valN (xs.take (k + 1)))
                  by_cases hbig : q ≤ 4611686018427387903
                  · go_wp2
                    go_ret3
                    exact ⟨ret_v3 (rd_ok' hL.out hlt HX.out (by omega) hzz.out hqe.out (by omega) (by omega)), rfl⟩
                  · go_wp2
                    go_ret3
                    exact ⟨ret_v3 (rd_big' hL.out hlt HX.out (by omega) hqe.out (by omega)), rfl⟩
                · obtain ⟨i, rfl⟩ : ∃ i, j = i + 1 := ⟨j - 1, by omega⟩
                  obtain ⟨b', off', y, hA, hy, hwf, hc'⟩ := H.out.get (j := i) (by omega)
                  injection hA with hA
                  injection hA with hA1 hA2
                  subst hA1 hA2
                  obtain ⟨hy0, hy1⟩ := u8_bounds hwf
                  have hbk := back_step (s := k) (by omega : i ≤ k) hy
                  have hq2 : q ≤ 72057594037927935 := by rw [hq.out]; exact back_lt hlt
                  rw [← hq.out] at hbk
                  have HB := Lib.hid hbk
                  clear hbk hy hwf hc
                  have hi1 : (((i + 1 : Nat) : Int) - 1) = (i : Int) := by omega
                  rw [hi1]
                  clear hi1
                  go_wp2
                  go_round
                  case rel => exact ⟨i, _, by omega, rfl, rfl, HB.out⟩
                  case measure => simp [intOf]
      · obtain rfl : k = n := by omega
        have hk9 : ((k : Int) == 9) = false := by simp; omega
        go_wp2
        go_ret3
        exact ⟨ret_v3 (rd_short hL.out hlt (List.getElem?_eq_none (by have := H.out.1; omega))), rfl⟩
    · obtain rfl : k = 9 := by omega
      by_cases hkl : 9 < n
      all_goals
        go_wp2
        go_ret3
        exact ⟨ret_v3 (rd_long hL.out), rfl⟩
end Go.Proofs.Ytagcgldhhdecjaa
namespace Go.Proofs.Ytagcgldhhdecjaa
open Go.RowKit

theorem rdS_bad {xs : List Int} (h : (rd xs).2.2 ≠ 0) : rdS xs = (0, 0, (rd xs).2.2) := by simp [rdS, h]
theorem rdS_odd {xs : List Int} {u s : Int} (h : rd xs = (u, s, 0)) (h1 : u % 2 = 1) : rdS xs = (-(u / 2) - 1, s, 0) := by simp [rdS, h, h1]
theorem rdS_even {xs : List Int} {u s : Int} (h : rd xs = (u, s, 0)) (h1 : u % 2 = 0) : rdS xs = (u / 2, s, 0) := by simp [rdS, h, h1]

set_option maxHeartbeats 400000 in
theorem readSig (A : Option Addr) (n c : Nat) (xs : List Int) (w : World) (h : Ints .u8 w A n xs) (hn : n ≤ 9223372036854775807) :
    Calls Try.prog 101 #[.slice A n c] w fun e w' => e = .returned (v3 (rdS xs)) ∧ w = w' := by
  have H := Lib.hid h
  clear h
  obtain ⟨h1, h2, h3, h4, h5, h6⟩ := rd_range xs
  obtain ⟨u, s, e, hr⟩ : ∃ u s e, rd xs = (u, s, e) := ⟨_, _, _, rfl⟩
  rw [hr] at h1 h2 h3 h4 h5 h6
  have HR := Lib.hid hr
  clear hr
  simp only at h1 h2 h3 h4 h5 h6
  by_cases he : e = 0
  · subst he
    have hp : u % 2 = 0 ∨ u % 2 = 1 := by omega
    rcases hp with hp | hp
    · have HP := Lib.hid hp
      have hb : (u % 2 == 1) = false := by rw [hp]; rfl
      clear hp
      go_enter Try.func101, Try.ntmps101
      go_wp2_with (go_at_call 100; refine (readNum _ _ _ xs _ H.out (by omega)).mono ?_; rw [HR.out]; rintro e' w' ⟨rfl, rfl⟩; simp only [v3])
      go_ret3
      exact ⟨ret_v3 (rdS_even HR.out HP.out), rfl⟩
    · have HP := Lib.hid hp
      have hb : (u % 2 == 1) = true := by rw [hp]; rfl
      clear hp
      go_enter Try.func101, Try.ntmps101
      go_wp2_with (go_at_call 100; refine (readNum _ _ _ xs _ H.out (by omega)).mono ?_; rw [HR.out]; rintro e' w' ⟨rfl, rfl⟩; simp only [v3])
      go_ret3
      exact ⟨ret_v3 (rdS_odd HR.out HP.out), rfl⟩
  · have hb : (e != 0) = true := by simpa using he
    go_enter Try.func101, Try.ntmps101
    go_wp2_with (go_at_call 100; refine (readNum _ _ _ xs _ H.out (by omega)).mono ?_; rw [HR.out]; rintro e' w' ⟨rfl, rfl⟩; simp only [v3])
    go_ret3
    refine ⟨ret_v3 ?_, rfl⟩
    rw [rdS_bad (by rw [HR.out]; exact he), HR.out]

set_option maxHeartbeats 400000 in
theorem readSigR (A : Option Addr) (n c : Nat) (xs : List Int) (w : World) (h : Ints .u8 w A n xs) (hn : n ≤ 9223372036854775807) :
    Calls Try.prog 81 #[.slice A n c] w fun e w' => e = .returned (v3 (rdS xs)) ∧ w = w' := by
  have H := Lib.hid h
  clear h
  obtain ⟨h1, h2, h3, h4, h5, h6⟩ := rd_range xs
  obtain ⟨u, s, e, hr⟩ : ∃ u s e, rd xs = (u, s, e) := ⟨_, _, _, rfl⟩
  rw [hr] at h1 h2 h3 h4 h5 h6
  have HR := Lib.hid hr
  clear hr
  simp only at h1 h2 h3 h4 h5 h6
  by_cases he : e = 0
  · subst he
    have hp : u % 2 = 0 ∨ u % 2 = 1 := by omega
    rcases hp with hp | hp
    · have HP := Lib.hid hp
      have hb : (u % 2 == 0) = true := by rw [hp]; rfl
      clear hp
      go_enter Try.func81, Try.ntmps81
      go_wp2_with (go_at_call 80; refine (readNumR _ _ _ xs _ H.out (by omega)).mono ?_; rw [HR.out]; rintro e' w' ⟨rfl, rfl⟩; simp only [v3])
      go_ret3
      exact ⟨ret_v3 (rdS_even HR.out HP.out), rfl⟩
    · have HP := Lib.hid hp
      have hb : (u % 2 == 0) = false := by rw [hp]; rfl
      clear hp
      go_enter Try.func81, Try.ntmps81
      go_wp2_with (go_at_call 80; refine (readNumR _ _ _ xs _ H.out (by omega)).mono ?_; rw [HR.out]; rintro e' w' ⟨rfl, rfl⟩; simp only [v3])
      go_ret3
      refine ⟨ret_v3 ?_, rfl⟩
      rw [rdS_odd HR.out HP.out]
      have := HP.out
      simp only [Prod.mk.injEq, and_true]
      omega
  · have hb : (e != 0) = true := by simpa using he
    go_enter Try.func81, Try.ntmps81
    go_wp2_with (go_at_call 80; refine (readNumR _ _ _ xs _ H.out (by omega)).mono ?_; rw [HR.out]; rintro e' w' ⟨rfl, rfl⟩; simp only [v3])
    go_ret3
    refine ⟨ret_v3 ?_, rfl⟩
    rw [rdS_bad (by rw [HR.out]; exact he), HR.out]

theorem readNum' (A : Option Addr) (n c : Nat) (xs : List Int) (w : World) (h : Ints .u8 w A n xs) (hn : n ≤ 9223372036854775807) {a b r : Int} (hr : rd xs = (a, b, r)) :
    Calls Try.prog 100 #[.slice A n c] w fun e w' => e = .returned (.tuple #[.int .i64 a, .int .i64 b, .int .i64 r]) ∧ w = w' := by
  have := readNum A n c xs w h hn
  rw [hr] at this
  exact this
theorem readSig' (A : Option Addr) (n c : Nat) (xs : List Int) (w : World) (h : Ints .u8 w A n xs) (hn : n ≤ 9223372036854775807) {a b r : Int} (hr : rdS xs = (a, b, r)) :
    Calls Try.prog 101 #[.slice A n c] w fun e w' => e = .returned (.tuple #[.int .i64 a, .int .i64 b, .int .i64 r]) ∧ w = w' := by
  have := readSig A n c xs w h hn
  rw [hr] at this
  exact this
end Go.Proofs.Ytagcgldhhdecjaa
namespace Go.Proofs.Ytagcgldhhdecjaa
open Go.RowKit

theorem elB8 : Elem Try.prog 72 5 1 1 (.int .u8 0) := Elem.mk' (by kernel_rfl) (by kernel_rfl) rfl (by decide)
theorem cut_bytes {w : World} {A A' : Option Addr} {n k : Nat} {xs : List Int} (h : Ints .u8 w A n xs) (hA : ∀ w' vs, At w' A vs → vs.length = n * 1 → At w' A' (vs.drop (k * 1))) : Ints .u8 w A' (n - k) (xs.drop k) := by
  refine ⟨by rw [List.length_drop, h.1], fun x hx => h.2.1 x (List.mem_of_mem_drop hx), ?_⟩
  have := hA w _ h.2.2 (by rw [List.length_map, h.1, Nat.mul_one])
  rw [Nat.mul_one, ← List.map_drop] at this
  exact this
/-- Integers that lie elsewhere than in a block that holds a slice alone. -/
theorem Ints.keepsS {k : IntKind} {w w' : World} {A A1 : Option Addr} {n g l1 c1 : Nat} {t : TypeId} {xs : List Int} (h : Ints k w A n xs) (hB : Blk w g t #[.slice A1 l1 c1]) (hk : Keeps [g] w w') : Ints k w' A n xs := by
  refine ⟨h.1, h.2.1, fun hne => ?_⟩
  obtain ⟨b, off, hA, hc⟩ := h.2.2 hne
  have h0 : ∃ v, (xs.map (Value.int k))[0]? = some v := by
    cases hm : xs.map (Value.int k) with
    | nil => exact absurd hm hne
    | cons v vs => exact ⟨v, rfl⟩
  obtain ⟨v, hv⟩ := h0
  have h1 := hc 0 v hv
  have hb : b ≠ g := by
    intro e
    subst e
    rw [hB.cell] at h1
    rw [List.getElem?_map] at hv
    cases hx : xs[0]? with
    | none => rw [hx] at hv; simp at hv
    | some x =>
      rw [hx] at hv
      simp at hv
      subst hv
      have h2 := Array.mem_of_getElem? h1
      simp at h2
  have hlt := World.block_lt_of_cell? w _ h1
  refine ⟨b, off, hA, fun j v hv => ?_⟩
  have := hc j v hv
  unfold World.cell? at this ⊢
  simp only [hk.block b hlt (by simpa using hb)]
  exact this
theorem rd_used {xs : List Int} (h : (rd xs).2.2 = 0) : (rd xs).2.1.toNat ≤ xs.length := by
  unfold rd at h ⊢
  split
  · simp
  · rename_i h9
    rw [if_neg h9] at h
    split
    · simp
    · rename_i x hx
      have := (List.getElem?_eq_some_iff.1 hx).1
      split
      · simp
      · simp only; omega
theorem rdS_used {xs : List Int} (h : (rdS xs).2.2 = 0) : (rdS xs).2.1.toNat ≤ xs.length ∧ 0 ≤ (rdS xs).2.1 := by
  have h1 := rd_range xs
  unfold rdS at h ⊢
  split
  · rename_i h0
    exact ⟨rd_used h0, h1.2.2.1⟩
  · simp
/-- What a reader that cannot go on panics with. -/
def malP : List PanicEntry := [{ v := .iface 110 (.agg #[]), recovered := false }]

theorem takeN_split (bs : List Int) : (takeN bs = none ∧ ∃ a b r, rd bs = (a, b, r) ∧ r ≠ 0) ∨ ∃ (v : Int) (k : Nat), rd bs = (v, (k : Int), 0) ∧ (k : Nat) ≤ bs.length ∧ takeN bs = some (v, bs.drop k) := by
  have hr : (rd bs).2.2 = 0 → (rd bs).2.1.toNat ≤ bs.length ∧ 0 ≤ (rd bs).2.1 := fun h => ⟨rd_used h, (rd_range bs).2.2.1⟩
  obtain ⟨⟨a, b, r⟩, h⟩ : ∃ x, rd bs = x := ⟨_, rfl⟩
  rw [h] at hr
  simp only at hr
  by_cases h0 : r = 0
  · subst h0
    right
    refine ⟨a, b.toNat, ?_, ?_, ?_⟩
    · rw [h, Int.toNat_of_nonneg (hr rfl).2]
    · exact (hr rfl).1
    · unfold takeN
      rw [h]
      simp
  · left
    refine ⟨?_, a, b, r, h, h0⟩
    unfold takeN
    rw [h]
    simp [h0]
set_option maxRecDepth 100000 in
set_option maxHeartbeats 2000000 in
theorem takeN_no (g n c : Nat) (A : Option Addr) (bs : List Int) (w : World) (hB : Blk w g 112 #[.slice A n c]) (hI : Ints .u8 w A n bs) (hn : n ≤ 1000000) (ht : takeN bs = none) :
    Calls Try.prog 99 #[.pointer (some ⟨g, 0, none⟩), .func (.func 100) #[] #[]] w (fun e w' => e = .panicked malP ∧ w = w') := by
  rcases takeN_split bs with ⟨_, x, y, r, hr, hr0⟩ | ⟨v, k, _, _, h2⟩
  · have c0 := hB.cell 0
    simp only [List.getElem?_toArray, List.getElem?_cons_zero] at c0
    have HI := Lib.hid hI
    have HR := Lib.hid hr
    have q1 : (r != 0) = true := by simpa using hr0
    clear hI hr hr0 ht hB
    go_enter Try.func99, Try.ntmps99
    go_wp2_with fail
    refine (readNum' A n c bs _ HI.out (by omega) HR.out).mono ?_
    rintro e _ ⟨rfl, rfl⟩
    go_wp2
    exact ⟨rfl, rfl, rfl⟩
  · rw [h2] at ht; cases ht
set_option maxRecDepth 100000 in
set_option maxHeartbeats 2000000 in
theorem takeN_yes (g n c : Nat) (A : Option Addr) (bs : List Int) (v : Int) (rest : List Int) (w : World) (hB : Blk w g 112 #[.slice A n c]) (hI : Ints .u8 w A n bs) (hn : n ≤ 1000000) (hc : n ≤ c) (ht : takeN bs = some (v, rest)) :
    Calls Try.prog 99 #[.pointer (some ⟨g, 0, none⟩), .func (.func 100) #[] #[]] w (fun e w' => e = .returned (.int .i64 v) ∧ ∃ (A' : Option Addr) (n' c' : Nat), Blk w' g 112 #[.slice A' n' c'] ∧ (∀ w0, Ints .u8 w0 A n bs → Ints .u8 w0 A' n' rest) ∧ n' ≤ n ∧ n' ≤ c' ∧ Keeps [g] w w') := by
  rcases takeN_split bs with ⟨h2, _⟩ | ⟨v2, k, hr, hk, h2⟩
  · rw [h2] at ht; cases ht
  · rw [h2] at ht
    injection ht with ht
    injection ht with hv hrest
    subst hv hrest
    have c0 := hB.cell 0
    have z0 := hB.free 0
    simp only [List.getElem?_toArray, List.getElem?_cons_zero] at c0
    rw [hI.1] at hk
    have HB := Lib.hid hB
    have HI := Lib.hid hI
    have HR := Lib.hid hr
    clear hI hr h2 hB
    go_enter Try.func99, Try.ntmps99
    go_wp2_with fail
    refine (readNum' A n c bs _ HI.out (by omega) HR.out).mono ?_
    rintro e _ ⟨rfl, rfl⟩
    go_wp2_with (first | (refine wpList_cutL (o := ⟨some 28, _, _, _, _, _⟩) _ elB8 rfl _ _ rfl A n c rfl _ _ k rfl rfl (by omega) hc ?_; intro A5 hA5; have HI5 := Lib.hid hA5; clear hA5))
    go_ret
    refine ⟨rfl, A5, n - k, c - k, ?_, ?_, by omega, by omega, (Keeps.refl [g] _).setCell (.inl (by simp)) _⟩
    · exact HB.out.set 0 (.slice A5 (n - k) (c - k))
    · exact fun w0 h0 => cut_bytes h0 HI5.out
theorem takeS_split (bs : List Int) : (takeS bs = none ∧ ∃ a b r, rdS bs = (a, b, r) ∧ r ≠ 0) ∨ ∃ (v : Int) (k : Nat), rdS bs = (v, (k : Int), 0) ∧ (k : Nat) ≤ bs.length ∧ takeS bs = some (v, bs.drop k) := by
  have hr : (rdS bs).2.2 = 0 → (rdS bs).2.1.toNat ≤ bs.length ∧ 0 ≤ (rdS bs).2.1 := rdS_used
  obtain ⟨⟨a, b, r⟩, h⟩ : ∃ x, rdS bs = x := ⟨_, rfl⟩
  rw [h] at hr
  simp only at hr
  by_cases h0 : r = 0
  · subst h0
    right
    refine ⟨a, b.toNat, ?_, ?_, ?_⟩
    · rw [h, Int.toNat_of_nonneg (hr rfl).2]
    · exact (hr rfl).1
    · unfold takeS
      rw [h]
      simp
  · left
    refine ⟨?_, a, b, r, h, h0⟩
    unfold takeS
    rw [h]
    simp [h0]
set_option maxRecDepth 100000 in
set_option maxHeartbeats 2000000 in
theorem takeS_no (g n c : Nat) (A : Option Addr) (bs : List Int) (w : World) (hB : Blk w g 112 #[.slice A n c]) (hI : Ints .u8 w A n bs) (hn : n ≤ 1000000) (ht : takeS bs = none) :
    Calls Try.prog 99 #[.pointer (some ⟨g, 0, none⟩), .func (.func 101) #[] #[]] w (fun e w' => e = .panicked malP ∧ w = w') := by
  rcases takeS_split bs with ⟨_, x, y, r, hr, hr0⟩ | ⟨v, k, _, _, h2⟩
  · have c0 := hB.cell 0
    simp only [List.getElem?_toArray, List.getElem?_cons_zero] at c0
    have HI := Lib.hid hI
    have HR := Lib.hid hr
    have q1 : (r != 0) = true := by simpa using hr0
    clear hI hr hr0 ht hB
    go_enter Try.func99, Try.ntmps99
    go_wp2_with fail
    refine (readSig' A n c bs _ HI.out (by omega) HR.out).mono ?_
    rintro e _ ⟨rfl, rfl⟩
    go_wp2
    exact ⟨rfl, rfl, rfl⟩
  · rw [h2] at ht; cases ht
set_option maxRecDepth 100000 in
set_option maxHeartbeats 2000000 in
theorem takeS_yes (g n c : Nat) (A : Option Addr) (bs : List Int) (v : Int) (rest : List Int) (w : World) (hB : Blk w g 112 #[.slice A n c]) (hI : Ints .u8 w A n bs) (hn : n ≤ 1000000) (hc : n ≤ c) (ht : takeS bs = some (v, rest)) :
    Calls Try.prog 99 #[.pointer (some ⟨g, 0, none⟩), .func (.func 101) #[] #[]] w (fun e w' => e = .returned (.int .i64 v) ∧ ∃ (A' : Option Addr) (n' c' : Nat), Blk w' g 112 #[.slice A' n' c'] ∧ (∀ w0, Ints .u8 w0 A n bs → Ints .u8 w0 A' n' rest) ∧ n' ≤ n ∧ n' ≤ c' ∧ Keeps [g] w w') := by
  rcases takeS_split bs with ⟨h2, _⟩ | ⟨v2, k, hr, hk, h2⟩
  · rw [h2] at ht; cases ht
  · rw [h2] at ht
    injection ht with ht
    injection ht with hv hrest
    subst hv hrest
    have c0 := hB.cell 0
    have z0 := hB.free 0
    simp only [List.getElem?_toArray, List.getElem?_cons_zero] at c0
    rw [hI.1] at hk
    have HB := Lib.hid hB
    have HI := Lib.hid hI
    have HR := Lib.hid hr
    clear hI hr h2 hB
    go_enter Try.func99, Try.ntmps99
    go_wp2_with fail
    refine (readSig' A n c bs _ HI.out (by omega) HR.out).mono ?_
    rintro e _ ⟨rfl, rfl⟩
    go_wp2_with (first | (refine wpList_cutL (o := ⟨some 28, _, _, _, _, _⟩) _ elB8 rfl _ _ rfl A n c rfl _ _ k rfl rfl (by omega) hc ?_; intro A5 hA5; have HI5 := Lib.hid hA5; clear hA5))
    go_ret
    refine ⟨rfl, A5, n - k, c - k, ?_, ?_, by omega, by omega, (Keeps.refl [g] _).setCell (.inl (by simp)) _⟩
    · exact HB.out.set 0 (.slice A5 (n - k) (c - k))
    · exact fun w0 h0 => cut_bytes h0 HI5.out
end Go.Proofs.Ytagcgldhhdecjaa
namespace Go.Proofs.Ytagcgldhhdecjaa
open Go.RowKit

theorem elE : Elem Try.prog 34 42 5 40 (.agg #[.int .i64 0, .int .i64 0, .int .i64 0, .int .i64 0, .int .i64 0]) := Elem.mk' (by kernel_rfl) (by kernel_rfl) rfl (by decide)
def Ech.cells (e : Ech) : List Value := [.int .i64 e.frm, .int .i64 e.til, .int .i64 e.peak, .int .i64 e.level, .int .i64 e.top]
/-- Echoes as cells. -/
def echV (es : List Ech) : List Value := es.flatMap Ech.cells
theorem echV_snoc (es : List Ech) (e : Ech) : echV (es ++ [e]) = echV es ++ e.cells := by simp [echV]
theorem echV_get {es : List Ech} {j : Nat} {e : Ech} (h : es[j]? = some e) : ∀ i u, e.cells[i]? = some u → (echV es)[j * 5 + i]? = some u := by
  induction es generalizing j with
  | nil => simp at h
  | cons x es ih =>
    intro i u hi
    have e1 : echV (x :: es) = x.cells ++ echV es := rfl
    have hl : x.cells.length = 5 := rfl
    rw [e1]
    cases j with
    | zero =>
      simp at h; subst h
      have : i < 5 := by have := (List.getElem?_eq_some_iff.1 hi).1; omega
      rw [List.getElem?_append_left (by omega)]
      simpa using hi
    | succ j =>
      rw [List.getElem?_append_right (by omega), hl, show (j + 1) * 5 + i - 5 = j * 5 + i by omega]
      exact ih (by simpa using h) i u hi
/-- Echoes in memory. -/
def EcL (base : Nat) (w : World) (v : Value) (es : List Ech) : Prop := w.ownsRow base 42 5 v es.length (echV es)
/-- The search in memory: a hunter in block g; 'te', 'tp' are what lies in its echo's To and Top. -/
structure HunP (base : Nat) (w : World) (g : Nat) (A : Option Addr) (n c : Nat) (d : Int) (h : Hun) (te tp : Int) (v : Value) : Prop where
  blk : Blk w g 90 #[.slice A n c, .int .i64 d, .int .i64 h.frm, .int .i64 te, .int .i64 h.peak, .int .i64 h.level, .int .i64 tp, .int .i64 h.valley, .bool h.fall, v]
  row : EcL base w v h.out
  lo : base ≤ g
section
variable {base g n c : Nat} {w w' : World} {A : Option Addr} {d te tp : Int} {h : Hun} {v : Value}
/-- No row of another type is written into. -/
theorem HunP.away (hH : HunP base w g A n c d h te tp v) {tb : TypeId} (h1 : 90 ≠ tb) (h2 : 42 ≠ tb) : ∀ k ∈ g :: v.ownBlock.toList, NoRow tb w k := by
  intro k hk
  rcases List.mem_cons.1 hk with rfl | hk
  · exact NoRow.of_blk hH.blk h1
  · rw [Option.mem_toList] at hk
    exact NoRow.of_own hH.row hk h2
theorem row_away {tb : TypeId} {b size m : Nat} {u : Value} {vs : List Value} {L : List Nat} (hr : w.ownsRow b tb size u m vs) (hk : Keeps L w w') (hn : ∀ k ∈ L, NoRow tb w k) : w'.ownsRow b tb size u m vs := by
  refine ownsRow_keeps hr hk fun q hq hl => ?_
  rcases hr.2 with ⟨hv, _⟩ | ⟨q', cap, cur, hv, _, hb, _⟩
  · rw [hv] at hq; simp [Value.ownBlock] at hq
  · rw [hv] at hq
    simp [Value.ownBlock] at hq
    subst hq
    exact hn q' hl _ _ hb
theorem blk_away {tb : TypeId} {q : Nat} {cs : Array Value} {L : List Nat} (hB : Blk w q tb cs) (hk : Keeps L w w') (hn : ∀ k ∈ L, NoRow tb w k) : Blk w' q tb cs :=
  hB.keeps hk fun hl => hn q hl _ _ hB
/-- A cell of the hunter other than its row is written. -/
theorem HunP.put (hH : HunP base w g A n c d h te tp v) {h' : Hun} {te' tp' : Int} (hk : Keeps [g] w w') (hB : Blk w' g 90 #[.slice A n c, .int .i64 d, .int .i64 h'.frm, .int .i64 te', .int .i64 h'.peak, .int .i64 h'.level, .int .i64 tp', .int .i64 h'.valley, .bool h'.fall, v]) (ho : h'.out = h.out) : HunP base w' g A n c d h' te' tp' v :=
  ⟨hB, by rw [ho]; exact row_away hH.row hk (by intro k hk; simp at hk; subst hk; exact NoRow.of_blk hH.blk (by decide)), hH.lo⟩
end
set_option maxRecDepth 100000 in
set_option maxHeartbeats 4000000 in
theorem rising_any (base g n c : Nat) (A : Option Addr) (l : List Int) (d : Int) (h : Hun) (te tp : Int) (v : Value) (i : Nat) (w : World) (hH : HunP base w g A n c d h te tp v) (hI : Ints .i64 w A n l) (hs : Smp l) (_hd : 0 ≤ d ∧ d ≤ 1023) (hf : h.fall = false) (hp : h.peak < n) (hi : i < n) :
    Calls Try.prog 62 #[.pointer (some ⟨g, 0, none⟩), .int .i64 (i : Int)] w (fun e w' => e = .returned (.tuple #[]) ∧ HunP base w' g A n c d (hunS l d h i) te tp v ∧ Keeps [g] w w') := by
  obtain ⟨b, off, x, rfl, hx, _, cx⟩ := hI.get hi
  obtain ⟨b', off', y, e, hy, _, cy⟩ := hI.get hp
  injection e with e
  injection e with e1 e2
  subst e1 e2
  have bx := hs.2 x (List.mem_of_getElem? hx)
  have by' := hs.2 y (List.mem_of_getElem? hy)
  obtain ⟨fm, pk, lv, fa, vl, ou⟩ := h
  simp only at hf hp hy cy
  subst hf
  have HH := Lib.hid hH
  have f0 := hH.blk.cell 0
  have f1 := hH.blk.cell 1
  have f4 := hH.blk.cell 4
  have f7 := hH.blk.cell 7
  have f8 := hH.blk.cell 8
  have z4 := hH.blk.free 4
  have z7 := hH.blk.free 7
  have z8 := hH.blk.free 8
  simp only [List.getElem?_toArray, List.getElem?_cons_zero, List.getElem?_cons_succ] at f0 f1 f4 f7 f8
  have HX := Lib.hid (getD_at hx)
  have HY := Lib.hid (getD_at hy)
  have q2 : IntKind.i64.wrap (y - x) = y - x := IntWalk.i64_in _ (by omega)
  clear hI hs hH hx hy
  by_cases hxy : y < x
  · have q1 : decide (y < x) = true := decide_eq_true hxy
    have HS : Hid (hunS l d ⟨fm, pk, lv, false, vl, ou⟩ i = ⟨fm, i, lv, false, vl, ou⟩) := Lib.hid (by unfold hunS; simp only [Bool.false_eq_true, if_false, HX.out, HY.out]; rw [if_pos hxy])
    clear hxy
    go_enter Try.func62, Try.ntmps62
    go_wp2_with fail
    go_region
    go_wp2
    go_end0
    rw [HS.out]
    have hk : Keeps [g] w (w.setCell ⟨g, 4, none⟩ (.int .i64 (i : Int))).drew := ((Keeps.refl [g] w).setCell (.inl (by simp)) _).drew
    exact ⟨rfl, HH.out.put hk (by simpa using (HH.out.blk.set 4 (.int .i64 (i : Int))).drew) rfl, hk⟩
  · have q1 : decide (y < x) = false := decide_eq_false hxy
    by_cases hdr : d ≤ y - x
    · have q3 : decide (d ≤ y - x) = true := decide_eq_true hdr
      have HS : Hid (hunS l d ⟨fm, pk, lv, false, vl, ou⟩ i = ⟨fm, pk, lv, true, i, ou⟩) := Lib.hid (by unfold hunS; simp only [Bool.false_eq_true, if_false, HX.out, HY.out]; rw [if_neg hxy, if_pos hdr])
      clear hxy hdr
      go_enter Try.func62, Try.ntmps62
      go_wp2_with fail
      go_region
      go_wp2_with fail
      go_region
      go_wp2
      go_end0
      rw [HS.out]
      have hk : Keeps [g] w (((w.setCell ⟨g, 8, none⟩ (.bool true)).setCell ⟨g, 7, none⟩ (.int .i64 (i : Int))).drew.drew) := (((Keeps.refl [g] w).setCell (.inl (by simp)) _).setCell (.inl (by simp)) _).drew.drew
      exact ⟨rfl, HH.out.put hk (by simpa using (((HH.out.blk.set 8 (.bool true)).set 7 (.int .i64 (i : Int))).drew).drew) rfl, hk⟩
    · have q3 : decide (d ≤ y - x) = false := decide_eq_false hdr
      have HS : Hid (hunS l d ⟨fm, pk, lv, false, vl, ou⟩ i = ⟨fm, pk, lv, false, vl, ou⟩) := Lib.hid (by unfold hunS; simp only [Bool.false_eq_true, if_false, HX.out, HY.out]; rw [if_neg hxy, if_neg hdr])
      clear hxy hdr
      go_enter Try.func62, Try.ntmps62
      go_wp2_with fail
      go_region
      go_wp2_with fail
      go_region
      go_wp2
      go_end0
      rw [HS.out]
      have hk : Keeps [g] w w.drew.drew := (Keeps.refl [g] w).drew.drew
      exact ⟨rfl, HH.out.put hk HH.out.blk.drew.drew rfl, hk⟩
end Go.Proofs.Ytagcgldhhdecjaa
namespace Go.Proofs.Ytagcgldhhdecjaa
open Go.RowKit

/-- The operations of a region. -/
def regOf (n : Nat) : Code → Option (List Oper)
  | .region i ops _ => if i == n then some ops.toList else none
  | .seq a b => match regOf n a with
    | some c => some c
    | none => regOf n b
  | .block _ c => regOf n c
  | .loop c => regOf n c
  | .scope c => regOf n c
  | .cond _ a b => match regOf n a with
    | some c => some c
    | none => regOf n b
  | _ => none
def rops (f : Func) (n : Nat) : List Oper := (f.body.bind (regOf n)).getD []

/-- The act with the values 'us k', 'us (k + 1)', .. in the slots 'ds' (none: no slot). -/
def fillO (a : Act) : List (Option Tmp) → (Nat → Value) → Nat → Act
  | [], _, _ => a
  | d :: ds, us, k => fillO (a.put d (us k)) ds us (k + 1)
def updO (us : Nat → Value) (i : Nat) (v : Value) : Nat → Value := fun j => if j = i then v else us j

theorem putO_putO (a : Act) (d : Option Tmp) (x y : Value) : (a.put d x).put d y = a.put d y := by
  cases d <;> simp [Act.put, Array.setIfInBounds_setIfInBounds]
theorem putO_comm (a : Act) {d e : Option Tmp} (h : d = none ∨ d ≠ e) (x y : Value) : (a.put d x).put e y = (a.put e y).put d x := by
  cases d with
  | none => rfl
  | some d =>
    cases e with
    | none => rfl
    | some e =>
      have hne : d ≠ e := fun q => by rcases h with h | h <;> simp_all
      simp only [Act.put]
      rw [Array.setIfInBounds_comm _ _ hne]
/-- No slot twice. -/
def NoTwice (ds : List (Option Tmp)) : Prop := ds.Pairwise fun d e => d = none ∨ d ≠ e
theorem fillO_far (us : Nat → Value) (d : Option Tmp) (v : Value) : ∀ (ds : List (Option Tmp)), (∀ e ∈ ds, d = none ∨ d ≠ e) → ∀ (a : Act) (k : Nat), (fillO a ds us k).put d v = fillO (a.put d v) ds us k := by
  intro ds
  induction ds with
  | nil => intro _ a k; rfl
  | cons e ds ih =>
    intro hd a k
    simp only [fillO]
    rw [ih (fun e he => hd e (List.mem_cons_of_mem _ he)), putO_comm a (hd e (List.mem_cons_self ..))]
theorem fillO_congr (ds : List (Option Tmp)) (us us' : Nat → Value) : ∀ (a : Act) (k : Nat), (∀ j, k ≤ j → us j = us' j) → fillO a ds us k = fillO a ds us' k := by
  induction ds with
  | nil => intro a k _; rfl
  | cons e ds ih =>
    intro a k h
    simp only [fillO]
    rw [h k (Nat.le_refl _)]
    exact ih _ _ fun j hj => h j (by omega)
theorem fillO_put (us : Nat → Value) (v : Value) : ∀ (ds : List (Option Tmp)), NoTwice ds → ∀ (a : Act) (k i : Nat) (d : Option Tmp), ds[i]? = some d → (fillO a ds us k).put d v = fillO a ds (updO us (k + i) v) k := by
  intro ds
  induction ds with
  | nil => intro _ a k i d h; simp at h
  | cons e ds ih =>
    intro hn a k i d h
    have hn' := List.pairwise_cons.1 hn
    cases i with
    | zero =>
      simp at h
      subst h
      simp only [fillO]
      rw [fillO_far us e v ds hn'.1, putO_putO]
      have e1 : updO us (k + 0) v k = v := by simp [updO]
      rw [e1]
      exact fillO_congr ds _ _ _ _ fun j hj => by simp [updO]; omega
    | succ i =>
      simp only [fillO]
      have hi : ds[i]? = some d := by simpa using h
      rw [ih hn'.2 _ (k + 1) i d hi]
      have e1 : updO us (k + (i + 1)) v k = us k := by simp [updO]
      have e2 : k + 1 + i = k + (i + 1) := by omega
      rw [e1, e2]
theorem fillO_start : ∀ (ds : List (Option Tmp)) (a : Act) (k : Nat) (us : Nat → Value), (∀ d, some d ∈ ds → d < a.tmps.size) → (∀ i d, ds[i]? = some (some d) → us (k + i) = a.tmps.getD d undef) → fillO a ds us k = a := by
  intro ds
  induction ds with
  | nil => intro a k us _ _; rfl
  | cons e ds ih =>
    intro a k us hb hu
    simp only [fillO]
    have hput : a.put e (us k) = a := by
      cases e with
      | none => rfl
      | some d =>
        have h0 := hu 0 d rfl
        rw [Nat.add_zero] at h0
        rw [h0]
        have hd := hb d (List.mem_cons_self ..)
        simp only [Act.put]
        have : a.tmps.setIfInBounds d (a.tmps.getD d undef) = a.tmps := by
          apply Array.ext_getElem?
          intro i
          rw [Array.getElem?_setIfInBounds]
          by_cases hi : d = i
          · subst hi; simp [hd, Array.getD]
          · simp [hi]
        rw [this]
    rw [hput]
    exact ih a (k + 1) us (fun d hd => hb d (List.mem_cons_of_mem _ hd)) fun i d hi => by
      have := hu (i + 1) d (by simpa using hi)
      rw [← this]; congr 1; omega

/-- What one operation must give: 'done' are those that were carried out; 'D' those whose values it uses, 'A' those that cannot have been carried out before it. -/
def JOp (P : Program) (ops : Array Oper) (V : Nat → Value → World → Prop) (J : (Nat → Prop) → World → Prop) (D A : List (List Nat)) (ds : List (Option Tmp)) (a : Act) (i : Nat) (o : Oper) : Prop :=
  ∀ (done : Nat → Prop) (us : Nat → Value) (W : World), J done W → (∀ j ∈ D.getD i [], V j (us j) W ∧ done j) → (∀ j ∈ A.getD i [], ¬ done j) → ¬ done i → ∀ K : Act → World → Prop,
    (∀ v W', V i v W' → (∀ j u, done j → V j u W → V j u W') → J (fun k => done k ∨ k = i) W' → K ((fillO a ds us 0).put o.dst v) W') → ∀ Q' : Exit → Act → World → Prop,
    if Region.wanted o (yielded ops (fillO a ds us 0).tmps) then o.wp P (fillO a ds us 0) W K Q' else K ((fillO a ds us 0).put o.dst undef) W
def JAll (P : Program) (ops : Array Oper) (V : Nat → Value → World → Prop) (J : (Nat → Prop) → World → Prop) (D A : List (List Nat)) (ds : List (Option Tmp)) (a : Act) : Nat → List Oper → Prop
  | _, [] => True
  | i, o :: rest => JOp P ops V J D A ds a i o ∧ JAll P ops V J D A ds a (i + 1) rest
theorem JAll.at {P : Program} {ops : Array Oper} {V : Nat → Value → World → Prop} {J : (Nat → Prop) → World → Prop} {D A : List (List Nat)} {ds : List (Option Tmp)} {a : Act} : ∀ (l : List Oper) (k : Nat), JAll P ops V J D A ds a k l → ∀ i o, l[i]? = some o → JOp P ops V J D A ds a (k + i) o := by
  intro l
  induction l with
  | nil => intro k _ i o h; simp at h
  | cons x l ih =>
    intro k h i o ho
    cases i with
    | zero => simp at ho; subst ho; exact h.1
    | succ i =>
      have := ih (k + 1) h.2 i o (by simpa using ho)
      rw [show k + 1 + i = k + (i + 1) by omega] at this
      exact this

theorem putO_size (a : Act) (d : Option Tmp) (v : Value) : (a.put d v).tmps.size = a.tmps.size := by
  cases d <;> simp [Act.put]
theorem putO_else (a : Act) (e : Option Tmp) (v : Value) {d : Tmp} (h : e ≠ some d) : (a.put e v).tmps[d]? = a.tmps[d]? := by
  cases e with
  | none => rfl
  | some e => simp only [Act.put]; rw [Array.getElem?_setIfInBounds, if_neg (fun q => h (by rw [q]))]
theorem fillO_else (us : Nat → Value) : ∀ (ds : List (Option Tmp)) (a : Act) (k : Nat) (d : Tmp), some d ∉ ds → (fillO a ds us k).tmps[d]? = a.tmps[d]? := by
  intro ds
  induction ds with
  | nil => intro a k d _; rfl
  | cons e ds ih =>
    intro a k d h
    simp only [List.mem_cons, not_or] at h
    simp only [fillO]
    rw [ih _ _ d h.2, putO_else _ _ _ (Ne.symm h.1)]
theorem fillO_get (us : Nat → Value) : ∀ (ds : List (Option Tmp)), NoTwice ds → ∀ (a : Act) (k i : Nat) (d : Tmp), ds[i]? = some (some d) → d < a.tmps.size → (fillO a ds us k).tmps[d]? = some (us (k + i)) := by
  intro ds
  induction ds with
  | nil => intro _ a k i d h; simp at h
  | cons e ds ih =>
    intro hn a k i d h hd
    have hn' := List.pairwise_cons.1 hn
    simp only [fillO]
    cases i with
    | zero =>
      simp at h
      subst h
      rw [fillO_else us ds _ _ d (fun hm => by rcases hn'.1 _ hm with h | h <;> simp at h)]
      simp only [Act.put]
      rw [Array.getElem?_setIfInBounds_self_of_lt hd]; rfl
    | succ i =>
      have hi : ds[i]? = some (some d) := by simpa using h
      rw [ih hn'.2 _ (k + 1) i d hi (by rw [putO_size]; exact hd)]
      congr 2; omega

/-- The same over a frame of which only the slots' values are known. -/
theorem JOp.of {P : Program} {ops : Array Oper} {V : Nat → Value → World → Prop} {J : (Nat → Prop) → World → Prop} {D A : List (List Nat)} {ds : List (Option Tmp)} {a : Act} {i : Nat} {o : Oper} (hn : NoTwice ds) (hs : ∀ d, some d ∈ ds → d < a.tmps.size)
    (h : ∀ (done : Nat → Prop) (us : Nat → Value) (W : World), J done W → (∀ j ∈ D.getD i [], V j (us j) W ∧ done j) → (∀ j ∈ A.getD i [], ¬ done j) → ¬ done i → ∀ b : Act, (∀ j d, ds[j]? = some (some d) → b.tmps[d]? = some (us j)) → (∀ d, some d ∉ ds → b.tmps[d]? = a.tmps[d]?) → ∀ K : Act → World → Prop,
      (∀ v W', V i v W' → (∀ j u, done j → V j u W → V j u W') → J (fun k => done k ∨ k = i) W' → K (b.put o.dst v) W') → ∀ Q' : Exit → Act → World → Prop,
      if Region.wanted o (yielded ops b.tmps) then o.wp P b W K Q' else K (b.put o.dst undef) W) : JOp P ops V J D A ds a i o := by
  intro done us W hJ hdep haft hnot K hK Q'
  refine h done us W hJ hdep haft hnot _ (fun j d hj => ?_) (fun d hd => fillO_else us ds a 0 d hd) K hK Q'
  have := fillO_get us ds hn a 0 j d hj (hs d (List.mem_of_getElem? hj))
  rwa [Nat.zero_add] at this

/-- What one operation must give, over a frame of which only the slots' values are known. -/
def JOq (P : Program) (ops : Array Oper) (V : Nat → Value → World → Prop) (J : (Nat → Prop) → World → Prop) (D A : List (List Nat)) (ds : List (Option Tmp)) (a : Act) (i : Nat) (o : Oper) : Prop :=
  ∀ (done : Nat → Prop) (us : Nat → Value) (W : World), J done W → (∀ j ∈ D.getD i [], V j (us j) W ∧ done j) → (∀ j ∈ A.getD i [], ¬ done j) → ¬ done i → ∀ b : Act, (∀ j d, ds[j]? = some (some d) → b.tmps[d]? = some (us j)) → (∀ d, some d ∉ ds → b.tmps[d]? = a.tmps[d]?) → ∀ K : Act → World → Prop,
      (∀ v W', V i v W' → (∀ j u, done j → V j u W → V j u W') → J (fun k => done k ∨ k = i) W' → K (b.put o.dst v) W') → ∀ Q' : Exit → Act → World → Prop,
      if Region.wanted o (yielded ops b.tmps) then o.wp P b W K Q' else K (b.put o.dst undef) W
def JAllq (P : Program) (ops : Array Oper) (V : Nat → Value → World → Prop) (J : (Nat → Prop) → World → Prop) (D A : List (List Nat)) (ds : List (Option Tmp)) (a : Act) : Nat → List Oper → Prop
  | _, [] => True
  | i, o :: rest => JOq P ops V J D A ds a i o ∧ JAllq P ops V J D A ds a (i + 1) rest
theorem JAllq.all {P : Program} {ops : Array Oper} {V : Nat → Value → World → Prop} {J : (Nat → Prop) → World → Prop} {D A : List (List Nat)} {ds : List (Option Tmp)} {a : Act} (hn : NoTwice ds) (hs : ∀ d, some d ∈ ds → d < a.tmps.size) : ∀ (l : List Oper) (k : Nat), JAllq P ops V J D A ds a k l → JAll P ops V J D A ds a k l := by
  intro l
  induction l with
  | nil => intro k _; trivial
  | cons o l ih => intro k h; exact ⟨JOp.of hn hs h.1, ih (k + 1) h.2⟩

def noTwiceB : List (Option Tmp) → Bool
  | [] => true
  | d :: ds => ds.all (fun e => d == none || d != e) && noTwiceB ds
theorem noTwice_of : ∀ (ds : List (Option Tmp)), noTwiceB ds = true → NoTwice ds := by
  intro ds
  induction ds with
  | nil => intro _; exact List.Pairwise.nil
  | cons d ds ih =>
    intro h
    simp only [noTwiceB, Bool.and_eq_true] at h
    refine List.Pairwise.cons (fun e he => ?_) (ih h.2)
    have := List.all_eq_true.1 h.1 e he
    simp at this
    rcases this with h | h
    · exact .inl h
    · exact .inr h

theorem slots_lt {ds : List (Option Tmp)} {N : Nat} (h : ds.all (fun x => match x with | some d => decide (d < N) | none => true) = true) {a : Act} (hs : N ≤ a.tmps.size) : ∀ d, some d ∈ ds → d < a.tmps.size := fun d hd => by
  have := List.all_eq_true.1 h _ hd
  simp at this
  exact Nat.lt_of_lt_of_le this hs

/-- What the kernel looks at. -/
def jB (ops : Array Oper) (n : Nat) (ds : List (Option Tmp)) (D A : List (List Nat)) : Bool :=
  decide (n ≤ ops.size) && decide (ds.length = n) && noTwiceB ds && (List.range n).all (fun i => (((ops[i]?).map (·.dst)) == ds[i]?) && (D.getD i []).all (fun j => decide (j < i) && Region.waitsFor .any ops i j) && (A.getD i []).all (fun j => decide (j < n) && Region.waitsFor .any ops j i)) &&
  (List.range n).all (fun i => match ops[i]? with | some o => o.after.all (fun e => !Region.binds .any e || decide (e.on < i)) | none => false) &&
  (decide (n = ops.size) || (Region.sinkB .any ops n && Region.chainB .any ops n)) && Region.seqB .any ops (ops.size - n) n ((List.range ops.size).map (fun i => decide (i < n))).toArray

section
variable {P : Program} {l : List Oper} {n : Nat} {ds : List (Option Tmp)} {D A : List (List Nat)} {V : Nat → Value → World → Prop} {J : (Nat → Prop) → World → Prop} {a : Act} {Q : Exit → Act → World → Prop}

theorem j_any (hB : jB l.toArray n ds D A = true) (hJ : ∀ p q W, (∀ k, p k ↔ q k) → J p W → J q W) (hop : JAll P l.toArray V J D A ds a 0 (l.take n))
    (hend : ∀ us W, (∀ j, j < n → V j (us j) W) → J (fun k => k < n) W → wpList P l.toArray Q (l.drop n) (fillO a ds us 0) W) :
    ∀ (f : Nat) (rem : List Nat) (listed : Array Bool) (us : Nat → Value) (W : World), rem.length = f → rem.Nodup → HeadInv .any l.toArray n listed → (∀ j, j < n → (listed.getD j true = false ↔ j ∈ rem)) → (∀ j ∈ rem, j < n) →
      (∀ j, j < n → j ∉ rem → V j (us j) W) → J (fun k => k < n ∧ k ∉ rem) W → wpAny P .any l.toArray Q (f + (l.toArray.size - n)) listed (fillO a ds us 0) W := by
  simp only [jB, Bool.and_eq_true, decide_eq_true_eq] at hB
  obtain ⟨⟨⟨⟨⟨⟨hn, hl⟩, hnt⟩, hD⟩, hless⟩, hsc⟩, hseq⟩ := hB
  have hnd := noTwice_of ds hnt
  intro f
  induction f with
  | zero =>
    intro rem listed us W hlen _ inv hrem _ hV hX
    obtain rfl : rem = [] := List.eq_nil_of_length_eq_zero hlen
    have hlist : listed = ((List.range l.toArray.size).map (fun i => decide (i < n))).toArray := by
      apply Array.ext
      · simp [inv.size]
      · intro i h1 h2
        have hsz := inv.size
        simp only [List.getElem_toArray, List.getElem_map, List.getElem_range]
        by_cases hi : i < n
        · have h3 := hrem i hi
          simp only [List.not_mem_nil, iff_false, Bool.not_eq_false] at h3
          have h4 : listed.getD i true = listed[i] := by simp [Array.getD, h1]
          rw [h4] at h3
          simp [h3, hi]
        · have h3 := inv.tail i (by omega) (by omega)
          have h4 : listed.getD i true = listed[i] := by simp [Array.getD, h1]
          rw [h4] at h3
          simp [h3, hi]
    have hdl : (l.drop n).length = l.toArray.size - n := by simp
    rw [Nat.zero_add, ← hdl]
    refine wpAny_of_seq (l.drop n) n listed _ W (fun j => by simp [List.getElem?_drop]) ?_ (hend us W (fun j hj => hV j hj (by simp)) (hJ _ _ W (by simp) hX))
    rw [hdl, hlist]
    exact hseq
  | succ f ih =>
    intro rem listed us W hlen hnodup inv hrem hlt hV hX
    rw [show f + 1 + (l.toArray.size - n) = (f + (l.toArray.size - n)) + 1 by omega]
    have hne : rem ≠ [] := by intro e; subst e; simp at hlen
    refine ⟨fun h0 => ?_, fun i hi => ?_⟩
    · exfalso
      obtain ⟨k, hk, hmin⟩ : ∃ k ∈ rem, ∀ j ∈ rem, k ≤ j := by
        obtain ⟨m, hm, hm2⟩ := exists_least (p := fun m => m ∈ rem) (by cases rem with | nil => exact absurd rfl hne | cons x xs => exact ⟨x, List.mem_cons_self ..⟩)
        exact ⟨m, hm, fun j hj => hm2 j hj⟩
      have hkn := hlt k hk
      have hr : k ∈ Region.ready .any l.toArray listed := by
        refine mem_ready.2 ⟨(hrem k hkn).2 hk, ?_⟩
        have h1 := List.all_eq_true.1 hless k (List.mem_range.2 hkn)
        cases ho : l.toArray[k]? with
        | none => rw [ho] at h1; simp at h1
        | some o =>
          rw [ho] at h1
          refine ⟨o, rfl, fun e he hb => ?_⟩
          have h2 := Array.all_eq_true_iff_forall_mem.1 h1 e he
          simp only [hb, Bool.not_true, Bool.false_or, decide_eq_true_eq] at h2
          have h3 : e.on ∉ rem := fun h => by have := hmin _ h; omega
          have h4 : listed.getD e.on true = true := by
            cases h5 : listed.getD e.on true with
            | true => rfl
            | false => exact absurd ((hrem e.on (by omega)).1 h5) h3
          have hsz : e.on < listed.size := by rw [inv.size]; omega
          simp [Array.getD, hsz] at h4 ⊢
          exact h4
      rw [h0] at hr
      cases hr
    · obtain ⟨hun, o, ho, hall⟩ := mem_ready.1 hi
      have hisz : i < l.toArray.size := (Array.getElem?_eq_some_iff.1 ho).1
      have hin : i < n := by
        rcases Nat.lt_or_ge i n with h | h
        · exact h
        · simp only [Bool.or_eq_true, Bool.and_eq_true, decide_eq_true_eq] at hsc
          rcases hsc with hsc | ⟨hs, hc⟩
          · omega
          · obtain ⟨k, hk⟩ : ∃ k, k ∈ rem := by cases rem with | nil => exact absurd rfl hne | cons x xs => exact ⟨x, List.mem_cons_self ..⟩
            exact absurd hi (tail_waits hs hc (by omega) inv _ k rfl (hlt k hk) ((hrem k (hlt k hk)).2 hk) i h)
      have hir : i ∈ rem := (hrem i hin).1 hun
      have hDi := List.all_eq_true.1 hD i (List.mem_range.2 hin)
      simp only [Bool.and_eq_true, beq_iff_eq] at hDi
      obtain ⟨⟨hdst, hdeps⟩, hafts⟩ := hDi
      rw [ho] at hdst
      simp only [Option.map_some] at hdst
      have hm := JAll.at (l.take n) 0 hop i o (by rw [List.getElem?_take, if_pos hin]; simpa using ho)
      rw [Nat.zero_add] at hm
      have hdp : ∀ j ∈ D.getD i [], V j (us j) W ∧ (j < n ∧ j ∉ rem) := fun j hj => by
        have h1 := List.all_eq_true.1 hdeps j hj
        simp only [Bool.and_eq_true, decide_eq_true_eq] at h1
        obtain ⟨oj, hoj, e, he, hb, hon⟩ := Region.waitsFor_spec h1.2
        have : oj = o := Option.some.inj (hoj.symm.trans ho)
        subst this
        have h2 := hall e he hb
        rw [hon] at h2
        have hjr : j ∉ rem := fun hjr => by
          have h3 := (hrem j (by omega)).2 hjr
          rw [getD_both h3] at h2
          cases h2
        exact ⟨hV j (by omega) hjr, by omega, hjr⟩
      have haf : ∀ j ∈ A.getD i [], ¬ (j < n ∧ j ∉ rem) := fun j hj hd => by
        have h1 := List.all_eq_true.1 hafts j hj
        simp only [Bool.and_eq_true, decide_eq_true_eq] at h1
        obtain ⟨oj, hoj, e, he, hb, hon⟩ := Region.waitsFor_spec h1.2
        have h4 : listed.getD j false = true := by
          have h5 : listed.getD j true = true := by
            cases h5 : listed.getD j true with
            | true => rfl
            | false => exact absurd ((hrem j hd.1).1 h5) hd.2
          have hsz : j < listed.size := by rw [inv.size]; omega
          simp [Array.getD, hsz] at h5 ⊢
          exact h5
        have h6 := inv.closed j oj hoj h4 e he hb
        rw [hon, getD_both hun] at h6
        cases h6
      have key : ∀ v W', V i v W' → (∀ j u, (j < n ∧ j ∉ rem) → V j u W → V j u W') → J (fun k => (k < n ∧ k ∉ rem) ∨ k = i) W' → wpAny P .any l.toArray Q (f + (l.toArray.size - n)) (listed.setIfInBounds i true) ((fillO a ds us 0).put o.dst v) W' := fun v W' hv hst hj => by
        rw [fillO_put us v ds hnd a 0 i o.dst hdst.symm, Nat.zero_add]
        refine ih (rem.erase i) _ (updO us i v) W' (by rw [List.length_erase_of_mem hir]; omega) (hnodup.erase i) (inv.set hi hin) (fun j hj => ?_) (fun j hj => hlt j (List.mem_of_mem_erase hj)) (fun j hj hjr => ?_) (hJ _ _ W' (fun k => ?_) hj)
        · by_cases hji : i = j
          · subst hji
            have hsz : i < listed.size := by rw [inv.size]; omega
            simp [Array.getD, hsz]
            exact fun h => (hnodup.mem_erase_iff.1 h).1 rfl
          · rw [getD_set_ne true hji, hrem j hj, hnodup.mem_erase_iff]
            exact ⟨fun h => ⟨Ne.symm hji, h⟩, fun h => h.2⟩
        · by_cases hji : j = i
          · subst hji; simpa [updO] using hv
          · have : updO us i v j = us j := by simp [updO, hji]
            rw [this]
            have hjr' : j ∉ rem := fun h => hjr (hnodup.mem_erase_iff.2 ⟨hji, h⟩)
            exact hst j _ ⟨hj, hjr'⟩ (hV j hj hjr')
        · rw [hnodup.mem_erase_iff]
          constructor
          · rintro (⟨h1, h2⟩ | rfl)
            · exact ⟨h1, fun h => h2 h.2⟩
            · exact ⟨hin, fun h => h.1 rfl⟩
          · rintro ⟨h1, h2⟩
            by_cases hki : k = i
            · exact .inr hki
            · exact .inl ⟨h1, fun h => h2 ⟨hki, h⟩⟩
      unfold wpOp
      rw [ho]
      simp only
      have hgo := hm (fun k => k < n ∧ k ∉ rem) us W hX hdp haf (fun h => h.2 hir) (wpAny P .any l.toArray Q (f + (l.toArray.size - n)) (listed.setIfInBounds i true)) key Q
      split
      · rename_i hw; rw [if_pos hw] at hgo; exact .inl hgo
      · rename_i hw; rw [if_neg hw] at hgo; exact hgo

/-- THE LAW. -/
theorem wp_region_j {id : Nat} {w : World} (n : Nat) (ds : List (Option Tmp)) (D A : List (List Nat)) (V : Nat → Value → World → Prop) (J : (Nat → Prop) → World → Prop) (hm : P.follows .mixedOrders = true) (hB : jB l.toArray n ds D A = true)
    (hd : ∀ d, some d ∈ ds → d < a.tmps.size) (hJ : ∀ p q W, (∀ k, p k ↔ q k) → J p W → J q W) (h0 : J (fun _ => False) w.drew) (hop : JAllq P l.toArray V J D A ds a 0 (l.take n))
    (hend : ∀ us W, (∀ j, j < n → V j (us j) W) → J (fun k => k < n) W → wpList P l.toArray Q (l.drop n) (fillO a ds us 0) W) : (Code.region id l.toArray true).wp P Q a w := by
  refine wp_region_any hm ?_
  have hB' := hB
  simp only [jB, Bool.and_eq_true, decide_eq_true_eq] at hB'
  obtain ⟨⟨⟨⟨⟨⟨hn, hl⟩, hnt⟩, _⟩, _⟩, _⟩, _⟩ := hB'
  have h := j_any hB hJ (JAllq.all (noTwice_of ds hnt) hd _ 0 hop) hend n (List.range n) (Array.replicate l.toArray.size false) (fun j => a.tmps.getD ((ds.getD j none).getD 0) undef) w.drew (by simp) List.nodup_range
    ⟨by simp, fun j oj _ hl => (by rw [getD_replicate_false] at hl; cases hl), fun t _ ht => getD_in (by simpa using ht) (getD_replicate_false _ _)⟩
    (fun j hj => ⟨fun _ => List.mem_range.2 hj, fun _ => getD_in (by simp at hn ⊢; omega) (getD_replicate_false _ _)⟩) (fun j hj => List.mem_range.1 hj)
    (fun j hj h => absurd (List.mem_range.2 hj) h) (hJ _ _ _ (fun k => by simp) h0)
  rw [fillO_start ds a 0 _ hd (fun i d hi => by simp [List.getD, hi])] at h
  have e : n + (l.toArray.size - n) = l.toArray.size := by omega
  rw [e] at h
  exact h
end
end Go.Proofs.Ytagcgldhhdecjaa
namespace Go.Proofs.Ytagcgldhhdecjaa
open Go.RowKit

/-- What one operation must give, over a frame of which only the slots' values are known. -/
def GOq (P : Program) (ops : Array Oper) (J : (Nat → Prop) → (Nat → Value) → World → Prop) (D A : List (List Nat)) (ds : List (Option Tmp)) (a : Act) (i : Nat) (o : Oper) : Prop :=
  ∀ (done : Nat → Prop) (us : Nat → Value) (W : World), J done us W → (∀ j ∈ D.getD i [], done j) → (∀ j ∈ A.getD i [], ¬ done j) → ¬ done i → ∀ b : Act, (∀ j d, ds[j]? = some (some d) → b.tmps[d]? = some (us j)) → (∀ d, some d ∉ ds → b.tmps[d]? = a.tmps[d]?) → ∀ K : Act → World → Prop,
      (∀ v W', J (fun k => done k ∨ k = i) (updO us i v) W' → K (b.put o.dst v) W') → ∀ Q' : Exit → Act → World → Prop,
      if Region.wanted o (yielded ops b.tmps) then o.wp P b W K Q' else K (b.put o.dst undef) W
def GAllq (P : Program) (ops : Array Oper) (J : (Nat → Prop) → (Nat → Value) → World → Prop) (D A : List (List Nat)) (ds : List (Option Tmp)) (a : Act) : Nat → List Oper → Prop
  | _, [] => True
  | i, o :: rest => GOq P ops J D A ds a i o ∧ GAllq P ops J D A ds a (i + 1) rest
theorem GAllq.at {P : Program} {ops : Array Oper} {J : (Nat → Prop) → (Nat → Value) → World → Prop} {D A : List (List Nat)} {ds : List (Option Tmp)} {a : Act} : ∀ (l : List Oper) (k : Nat), GAllq P ops J D A ds a k l → ∀ i o, l[i]? = some o → GOq P ops J D A ds a (k + i) o := by
  intro l
  induction l with
  | nil => intro k _ i o h; simp at h
  | cons x l ih =>
    intro k h i o ho
    cases i with
    | zero => simp at ho; subst ho; exact h.1
    | succ i =>
      have := ih (k + 1) h.2 i o (by simpa using ho)
      rw [show k + 1 + i = k + (i + 1) by omega] at this
      exact this

section
variable {P : Program} {l : List Oper} {n : Nat} {ds : List (Option Tmp)} {D A : List (List Nat)} {J : (Nat → Prop) → (Nat → Value) → World → Prop} {a : Act} {Q : Exit → Act → World → Prop}

end

/-- A local struct of a region: its cells are 'zs' until they are stored, then 'vs'. -/
structure Loc (w W : World) (T : TypeId) (zs vs : Array Value) (da dst : Prop) (v : Value) : Prop where
  ptr : da → ∃ g, v = .pointer (some ⟨g, 0, none⟩) ∧ w.heap.size ≤ g ∧ (dst → Blk W g T vs) ∧ (¬ dst → Blk W g T zs)
section
variable {w W W' : World} {T : TypeId} {zs vs : Array Value} {da dst da' dst' : Prop} {v u : Value}
theorem Loc.lt (h : Loc w W T zs vs da dst v) (hd : da) : ∃ g, v = .pointer (some ⟨g, 0, none⟩) ∧ w.heap.size ≤ g ∧ g < W.heap.size := by
  obtain ⟨g, h1, h2, h3, h4⟩ := h.ptr hd
  refine ⟨g, h1, h2, ?_⟩
  by_cases hs : dst
  · exact (h3 hs).lt
  · exact (h4 hs).lt
theorem Loc.stored (h : Loc w W T zs vs da dst v) (hd : da) (hs : ¬ dst) : ∃ g, v = .pointer (some ⟨g, 0, Option.none⟩) ∧ w.heap.size ≤ g ∧ Blk W g T zs := by
  obtain ⟨g, h1, h2, _, h4⟩ := h.ptr hd
  exact ⟨g, h1, h2, h4 hs⟩
theorem Loc.done (h : Loc w W T zs vs da dst v) (hd : da) (hs : dst) : ∃ g, v = .pointer (some ⟨g, 0, Option.none⟩) ∧ w.heap.size ≤ g ∧ Blk W g T vs := by
  obtain ⟨g, h1, h2, h3, _⟩ := h.ptr hd
  exact ⟨g, h1, h2, h3 hs⟩
theorem Loc.same (h : Loc w W T zs vs da dst v) (ha : da' ↔ da) (hs : dst' ↔ dst) : Loc w W T zs vs da' dst' v := by
  have e1 := propext ha
  have e2 := propext hs
  subst e1 e2
  exact h
theorem Loc.ext (h : Loc w W T zs vs da dst v) (hX : Ext W W') : Loc w W' T zs vs da dst v := ⟨fun hd => by
  obtain ⟨g, h1, h2, h3, h4⟩ := h.ptr hd
  exact ⟨g, h1, h2, fun h => (h3 h).ext hX, fun h => (h4 h).ext hX⟩⟩
theorem Loc.new (w W : World) (hw : Ext w W) (hs : ¬ dst) (hX : Ext (W.alloc (.cells zs T)) W') : Loc w W' T zs vs da dst (.pointer (some ⟨W.heap.size, 0, none⟩)) :=
  ⟨fun _ => ⟨_, rfl, hw.size, fun h => absurd h hs, fun _ => (Blk.new W T zs).ext hX⟩⟩
end
end Go.Proofs.Ytagcgldhhdecjaa
namespace Go.Proofs.Ytagcgldhhdecjaa
open Go.RowKit

section
variable {P : Program}
/-- An operation that is always done, whose value is known. -/
theorem jop_run {ops : Array Oper} {o : Oper} {b : Act} {W W' : World} {K : Act → World → Prop} {Q' : Exit → Act → World → Prop} {v' : Value} (hg : o.guard = none) (hrun : (execOp b.eval o).run P W = .ok (.value v') W') (hK : K (b.put o.dst v') W') :
    if Region.wanted o (yielded ops b.tmps) then o.wp P b W K Q' else K (b.put o.dst undef) W := by
  simp only [Region.wanted, hg, if_true, Oper.wp, hrun]
  exact hK
/-- 'append(s, x...)' in a region that draws its order. -/
theorem jop_app {ops : Array Oper} {o : Oper} {b : Act} {W W' : World} {K : Act → World → Prop} {Q' : Exit → Act → World → Prop} {t : TypeId} {i j : Tmp} {v u v' : Value} (hg : o.guard = none)
    (ho : o.op = .call { callee := .builtin .append, args := #[.tmp i, .tmp j], argTypes := #[t, t] }) (hi : b.tmps[i]? = some v) (hj : b.tmps[j]? = some u)
    (hrun : (Builtin.append_ #[t, t] o.type #[v, u]).run P W = .ok v' W') (hK : K (b.put o.dst v') W') :
    if Region.wanted o (yielded ops b.tmps) then o.wp P b W K Q' else K (b.put o.dst undef) W := by
  refine jop_run hg ?_ hK
  have e1 : b.eval (.tmp i) = v := by simp [Act.eval, hi]
  have e2 : b.eval (.tmp j) = u := by simp [Act.eval, hj]
  unfold execOp
  simp only [ho, resolve, invoke, builtin, Sem.run_bind, Sem.run_pure, Result.andThen_ok, List.map_toArray, List.map_cons, List.map_nil, e1, e2, hrun]
end
end Go.Proofs.Ytagcgldhhdecjaa
