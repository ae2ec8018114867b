/- Lemmas of the proof that follows (Returns, part 9): walks of functions by contract, and plain lemmas. Conditions: none. -/
import Derived.Test.YtagcgldhhdecjaaReturnsH
namespace Go.Proofs.Ytagcgldhhdecjaa
open Go.RowKit

theorem rat_pos {n : Int} (hn : 1 ≤ n) : (0 : Rat) < (n : Rat) := by
  have := Rat.intCast_lt_intCast.2 (show (0 : Int) < n by omega); simpa using this
theorem floor_div (a n : Int) (hn : 1 ≤ n) : ((a : Rat) / (n : Rat)).floor = a / n := by
  have hq := rat_pos hn
  have h1 := Rat.floor_le ((a : Rat) / (n : Rat))
  have h2 := Rat.lt_floor_add_one ((a : Rat) / (n : Rat))
  generalize ((a : Rat) / (n : Rat)).floor = f at *
  have e : ((a : Rat) / (n : Rat)) * (n : Rat) = (a : Rat) := by rw [Rat.div_mul_cancel]; intro h; rw [h] at hq; exact absurd hq (by decide)
  have h3 : (f : Rat) * (n : Rat) ≤ (a : Rat) := by rw [← e]; exact Rat.mul_le_mul_of_nonneg_right h1 (Rat.le_of_lt hq)
  have h4 : (a : Rat) < ((f + 1 : Int) : Rat) * (n : Rat) := by
    have := Rat.mul_lt_mul_of_pos_right h2 hq
    rw [e] at this; exact this
  have h5 : f * n ≤ a := by apply Rat.intCast_le_intCast.1; rw [Rat.intCast_mul]; exact h3
  have h6 : a < (f + 1) * n := by apply Rat.intCast_lt_intCast.1; rw [Rat.intCast_mul]; exact h4
  have h7 := (Int.ediv_emod_unique (a := a) (b := n) (r := a - f * n) (q := f) (by omega)).2 ⟨by rw [Int.mul_comm]; omega, by omega, by rw [Int.add_mul] at h6; omega⟩
  exact h7.1.symm
theorem neg_div' (a n : Int) : -((a : Rat) / (n : Rat)) = ((-a : Int) : Rat) / (n : Rat) := by
  rw [Rat.intCast_neg, Rat.div_def, Rat.div_def, Rat.neg_mul]
theorem le_div (a b n : Int) (hn : 1 ≤ n) (h : a ≤ b) : ((a : Rat) / (n : Rat)) ≤ ((b : Rat) / (n : Rat)) := by
  have hq := rat_pos hn
  rw [Rat.div_def, Rat.div_def]
  exact Rat.mul_le_mul_of_nonneg_right (Rat.intCast_le_intCast.2 h) (Rat.le_of_lt (Rat.inv_pos.2 hq))

theorem ratV_div2 (x : Int) {n : Int} (hn : 1 ≤ n) : ratV (decide (x < 0)) x.natAbs n.toNat = (x : Rat) / (n : Rat) := by
  unfold ratV
  rw [sgn_int, Rat.mkRat_eq_div, ← Rat.intCast_natCast, show ((n.toNat : Nat) : Int) = n by omega]
theorem fit_small4 {n : Int} (h0 : -9223372036854775808 ≤ n) (h1 : n ≤ 9223372036854775807) : Fit 65536 n.natAbs 4 := by
  have h := (fitR_small h0 h1).1
  rw [Rat.num_intCast] at h
  exact h
set_option maxHeartbeats 1000000 in
theorem rvalid_any (x y : Int) (w : World) : Calls Try.prog 71 #[.agg #[.int .i64 x, .int .i64 y]] w fun e w' => e = .returned (.bool (okS x y)) ∧ Ext w w' := by
  have HX := Lib.hid ((Ext.refl w).alloc (.cells #[.int .i64 x, .int .i64 y] 44))
  rcases okS_cases x y with ⟨hb, b1, b2, b3⟩ | ⟨hb, b1 | ⟨b1, b2⟩ | ⟨b1, b2, b3⟩⟩
  all_goals
    rw [hb]
    clear hb
    go_enter Try.func71, Try.ntmps71
    go_wp2
    go_ret
    refine ⟨?_, HX.out⟩
    first
    | rfl
    | (show Ending.returned (.bool (decide (y ≤ 1152921504606846976))) = Ending.returned (.bool false); rw [decide_eq_false (by omega)])
end Go.Proofs.Ytagcgldhhdecjaa
namespace Go.Proofs.Ytagcgldhhdecjaa

def reachQ (d : Det) (x : Int) : Rat := (d.delay : Rat) + ((d.step * x : Int) : Rat) / ((256 : Int) : Rat)
theorem reach_eq (d : Det) (x : Int) : reachQ d x = ((256 * d.delay + d.step * x : Int) : Rat) / ((256 : Int) : Rat) := by
  unfold reachQ
  have h : ((256 : Int) : Rat) ≠ 0 := by decide
  rw [Rat.intCast_add, Rat.intCast_mul 256, Rat.div_def, Rat.div_def, Rat.add_mul, Rat.mul_comm ((256 : Int) : Rat), Rat.mul_assoc, Rat.mul_inv_cancel _ h, Rat.mul_one]
theorem two_span {x y n : Int} (h : x ≤ y) (hn : 1 ≤ n) : (lowN [(x : Rat) / (n : Rat), (y : Rat) / (n : Rat)] 1).floor = x / n ∧ (-(-(highN [(x : Rat) / (n : Rat), (y : Rat) / (n : Rat)] 1)).floor) = -((-y) / n) := by
  have hs : ¬ 0 < sgnQ ((x : Rat) / (n : Rat) - (y : Rat) / (n : Rat)) := by
    have := le_div x y n hn h
    rcases sgnQ_cases ((x : Rat) / (n : Rat) - (y : Rat) / (n : Rat)) with ⟨_, e⟩ | ⟨_, e⟩ | ⟨h2, e⟩
    · omega
    · omega
    · exfalso; grind
  rw [low_two, high_two, mnQ, mxQ, if_neg hs, if_neg hs, neg_div', floor_div _ _ hn, floor_div _ _ hn]
  exact ⟨rfl, rfl⟩
theorem reach_span {d : Det} {a b : Int} (hd : DetOk d) (h : a ≤ b) : (lowN [reachQ d a, reachQ d b] 1).floor = rngLo d a ∧ (-(-(highN [reachQ d a, reachQ d b] 1)).floor) = rngHi d b := by
  have hs : d.step * a ≤ d.step * b := Int.mul_le_mul_of_nonneg_left h (by have := hd.2.2.2.2.1; omega)
  obtain ⟨h1, h2⟩ := two_span (x := 256 * d.delay + d.step * a) (y := 256 * d.delay + d.step * b) (n := 256) (by omega) (by omega)
  rw [reach_eq, reach_eq, h1, h2]
  unfold rngLo rngHi
  generalize d.step * a = s
  generalize d.step * b = t
  omega
theorem step_bound {d : Det} {x : Int} (hd : DetOk d) (h0 : -1152921504606846976 ≤ x) (h1 : x ≤ 1152921504606846976) : -11529215046068469760000 ≤ d.step * x ∧ d.step * x ≤ 11529215046068469760000 := by
  have hs : 1 ≤ d.step ∧ d.step ≤ 10000 := ⟨hd.2.2.2.2.1, hd.2.2.2.2.2.1⟩
  have a := Int.mul_le_mul_of_nonneg_left h1 (show 0 ≤ d.step by omega)
  have b := Int.mul_le_mul_of_nonneg_left h0 (show 0 ≤ d.step by omega)
  omega
theorem fit8 {z : Int} (h0 : -340282366920938463463374607431768211455 ≤ z) (h1 : z ≤ 340282366920938463463374607431768211455) : Fit 65536 z.natAbs 8 := by
  unfold Fit
  have : (65536 : Int) ^ 8 = 340282366920938463463374607431768211456 := by decide
  omega
theorem fitR8 {z : Int} (h0 : -340282366920938463463374607431768211455 ≤ z) (h1 : z ≤ 340282366920938463463374607431768211455) : FitR ((z : Rat) / ((256 : Int) : Rat)) 8 := by
  rw [← ratV_div2 z (n := 256) (by omega)]
  exact fitR_red (by omega) (fit8 h0 h1) (fit8 (z := 256) (by omega) (by omega))
theorem fitR_reach {d : Det} {x : Int} (hd : DetOk d) (h0 : -1152921504606846976 ≤ x) (h1 : x ≤ 1152921504606846976) : FitR (reachQ d x) 8 := by
  rw [reach_eq]
  have := step_bound hd h0 h1
  have h7 : -1048576 ≤ d.delay ∧ d.delay ≤ 1048576 := hd.2.2.2.2.2.2
  exact fitR8 (by omega) (by omega)
/-- Beyond 2^40 every range is beyond. -/
theorem rng_far {d : Det} {a b : Int} (hd : DetOk d) (h : a < -1099511627776 ∨ 1099511627776 < b) : rngLo d a < 0 ∨ 4194304 < rngHi d b := by
  unfold rngLo rngHi
  have hs : 1 ≤ d.step := hd.2.2.2.2.1
  have h7 : -1048576 ≤ d.delay ∧ d.delay ≤ 1048576 := hd.2.2.2.2.2.2
  rcases h with h | h
  · left
    have : d.step * a ≤ 1 * a := Int.mul_le_mul_of_nonpos_right hs (by omega)
    omega
  · right
    have : 1 * b ≤ d.step * b := Int.mul_le_mul_of_nonneg_right hs (by omega)
    omega
theorem rng_le {d : Det} {a b : Int} (hd : DetOk d) (h : a ≤ b) : rngLo d a ≤ rngHi d b := by
  unfold rngLo rngHi
  have hs : d.step * a ≤ d.step * b := Int.mul_le_mul_of_nonneg_left h (by have := hd.2.2.2.2.1; omega)
  omega
theorem rangeF_ok {d : Det} {a b : Int} (hd : DetOk d) (hs : okR a b) : rangeF a b d = if rngLo d a < 0 ∨ 4194304 < rngHi d b then ((0, 0), 33) else ((rngLo d a, rngHi d b), 0) := by
  unfold rangeF
  rw [if_neg (fun h => h hd), if_neg (fun h => h hs)]
  split
  · rename_i h; rw [if_pos (rng_far hd h)]
  · rfl
/-- What the reference's tests behind Around make. -/
theorem rangeF_sp {d : Det} {a b : Int} (hd : DetOk d) (hs : okR a b) : rangeF a b d = if spC (rngLo d a) (rngHi d b) ≠ 0 ∨ spA (rngLo d a) (rngHi d b) < 0 ∨ 4194304 < spB (rngLo d a) (rngHi d b) then ((0, 0), 33) else ((spA (rngLo d a) (rngHi d b), spB (rngLo d a) (rngHi d b)), 0) := by
  rw [rangeF_ok hd hs]
  have h := rng_le hd hs.2.1
  generalize rngLo d a = x at h ⊢
  generalize rngHi d b = y at h ⊢
  by_cases hc : endE x = 0 ∧ endE y = 0
  · obtain ⟨e1, e2, e3⟩ := sp_yes hc.1 hc.2
    rw [e1, e2, e3]
    simp
  · obtain ⟨e1, e2, e3⟩ := sp_no hc
    rw [e1, e2, e3, if_pos (show (3 : Int) ≠ 0 ∨ (0 : Int) < 0 ∨ (4194304 : Int) < 0 from .inl (by decide)), if_pos]
    rcases endE_or x with h0 | h0
    · rcases endE_or y with h1 | h1
      · exact absurd ⟨h0, h1⟩ hc
      · have k1 := endE_three h1
        have k2 := endE_zero h0
        clear h0 h1 hc
        omega
    · have k1 := endE_three h0
      clear h0 hc
      omega
theorem okS_iff (a b : Int) : okS a b = decide (okR a b) := by
  rcases okS_cases a b with ⟨hb, h1, h2, h3⟩ | ⟨hb, h⟩
  · rw [hb, decide_eq_true (show okR a b from ⟨by omega, by omega, by omega⟩)]
  · rw [hb, decide_eq_false (fun hh => by unfold okR at hh; omega)]
end Go.Proofs.Ytagcgldhhdecjaa
namespace Go.Proofs.Ytagcgldhhdecjaa
open Go.RowKit

theorem EcL.far {base g : Nat} {w w' : World} {v : Value} {es : List Ech} (h : EcL base w v es) (hg : g < base) (hk : Keeps [g] w w') : EcL base w' v es := by
  refine ownsRow_keeps h hk fun k hk' => ?_
  have := (h.lt k hk').1
  simp
  omega
theorem hunN_lev (l : List Int) (d : Int) (k i : Nat) (h : Hun) (hs : Smp l) (hd : 0 ≤ d ∧ d ≤ 1023) (hl : -1000000 ≤ h.level ∧ h.level ≤ 1000000) : -1000000 ≤ (hunN l d k i h).level ∧ (hunN l d k i h).level ≤ 1000000 := by
  induction k generalizing i h with
  | zero => exact hl
  | succ k ih =>
    rw [hunN]
    apply ih
    have hb : ∀ j, 0 ≤ l.getD j 0 ∧ l.getD j 0 ≤ 1023 := fun j => by
      rw [List.getD_eq_getElem?_getD]
      cases hj : l[j]? with
      | none => simp
      | some x => have := hs.2 x (List.mem_of_getElem? hj); simpa using this
    unfold hunS
    have := hb h.valley
    split
    · split
      · exact hl
      · split
        · simp only; omega
        · exact hl
    · split
      · exact hl
      · split
        · exact hl
        · exact hl
set_option maxRecDepth 100000 in
set_option maxHeartbeats 2000000 in
theorem detR_any (d : Det) (w : World) :
    Calls Try.prog 28 #[.agg #[.int .i64 d.level, .int .i64 d.drop, .int .i64 d.step, .int .i64 d.delay]] w (fun e w' => e = .returned (.bool (decide (DetOk d))) ∧ Ext w w') := by
  obtain ⟨lv, dr, st, de⟩ := d
  simp only
  go_enter Try.func28, Try.ntmps28
  go_wp2
  all_goals
    go_ret
    refine ⟨?_, (Ext.refl w).alloc _⟩
    first
    | (have q : decide (DetOk ⟨lv, dr, st, de⟩) = false := decide_eq_false (by unfold DetOk; simp only; omega)
       rw [q]; rfl)
    | (have q : decide (DetOk ⟨lv, dr, st, de⟩) = decide (de ≤ 1048576) := by rw [decide_eq_decide]; unfold DetOk; simp only; omega
       rw [q]; rfl)

set_option maxRecDepth 100000 in
set_option maxHeartbeats 8000000 in
theorem run_any (A : Option Addr) (n c : Nat) (l : List Int) (a b : Nat) (lv dr : Int) (w : World) (h : Ints .i64 w A n l) (hs : Smp l) (hab : a < b) (hbn : b ≤ n) (hlv : -1000000 ≤ lv ∧ lv ≤ 1000000) (hdr : 0 ≤ dr ∧ dr ≤ 1023) :
    Calls Try.prog 65 #[.slice A n c, .int .i64 (a : Int), .int .i64 (b : Int), .int .i64 lv, .int .i64 dr] w (fun e w' => ∃ v, e = .returned v ∧ EcL w.heap.size w' v (hunR l dr lv (a, b)) ∧ Ext w w') := by
  have hX0 := (Ext.refl w).alloc (.cells #[.int .i64 (a : Int), .int .i64 0, .int .i64 (a : Int), .int .i64 lv, .int .i64 0] 42)
  have hB0 := Blk.new w 42 #[.int .i64 (a : Int), .int .i64 0, .int .i64 (a : Int), .int .i64 lv, .int .i64 0]
  have hge : w.heap.size ≤ w.heap.size := Nat.le_refl _
  have H := Lib.hid h
  have HL := Lib.hid h.1
  have HSM := Lib.hid hs
  have hn256 : n ≤ 256 := by have := hs.1; have := HL.out; omega
  obtain ⟨bk, off, x0, hA, _, _, hc0⟩ := h.get (j := a) (by omega)
  subst hA
  have hbw := World.block_lt_of_cell? _ _ hc0
  simp only at hbw
  clear h hs hc0
  go_enter Try.func65, Try.ntmps65
  go_upto_region 3 with (fail)
  generalize w.alloc (.cells #[.int .i64 (a : Int), .int .i64 0, .int .i64 (a : Int), .int .i64 lv, .int .i64 0] 42) = w1 at hX0 hB0 ⊢
  obtain ⟨g, hg⟩ : ∃ g, w.heap.size = g := ⟨_, rfl⟩
  rw [hg] at hge hB0 hbw ⊢
  have HX := Lib.hid hX0
  have HB := Lib.hid hB0
  have HG := Lib.hid hg
  clear hX0 hB0 hg
  go_wp2_with fail
  have h0g : w.heap.size = g := HG.out
  go_loopg [11, 13, 14, 15] (b - (a + 1)) (fun f ov fv vv iv wr => ∃ (z : Nat) (te tp : Int), f = b - z ∧ a + 1 ≤ z ∧ z ≤ b ∧ iv = .int .i64 (z : Int) ∧ fv = .bool (hunN l dr (z - (a + 1)) (a + 1) (hun0 a lv [])).fall ∧ vv = .int .i64 ((hunN l dr (z - (a + 1)) (a + 1) (hun0 a lv [])).valley : Int) ∧ Hid (EcL (g + 1) wr ov (hunN l dr (z - (a + 1)) (a + 1) (hun0 a lv [])).out) ∧ Hid (Blk wr g 42 #[.int .i64 ((hunN l dr (z - (a + 1)) (a + 1) (hun0 a lv [])).frm : Int), .int .i64 te, .int .i64 ((hunN l dr (z - (a + 1)) (a + 1) (hun0 a lv [])).peak : Int), .int .i64 (hunN l dr (z - (a + 1)) (a + 1) (hun0 a lv [])).level, .int .i64 tp]) ∧ Hid (Ext w wr))
  case atStart => exact ⟨a + 1, 0, 0, rfl, by omega, by omega, by go_num, by rw [Nat.sub_self]; rfl, by rw [Nat.sub_self]; rfl, by rw [Nat.sub_self]; exact Lib.hid (EcL.nil _ _), by rw [Nat.sub_self]; exact HB, HX⟩
  case round =>
    clear HX HB
    obtain ⟨z, te, tp, rfl, hz1, hz2, rfl, rfl, rfl, HE, HB, HX⟩ := hrel
    have hok := (HunOk.start l a lv 0 []).steps dr (z - (a + 1))
    have hlen := hunN_out l dr (z - (a + 1)) (a + 1) (hun0 a lv [])
    have hsn := hunN_snoc l dr (z - (a + 1)) (a + 1) (hun0 a lv [])
    rw [show z - (a + 1) + 1 = z + 1 - (a + 1) by omega, show a + 1 + (z - (a + 1)) = z by omega] at hsn
    rw [show a + 1 + (z - (a + 1)) = z by omega] at hok
    change HunOk l a z (hunN l dr (z - (a + 1)) (a + 1) (hun0 a lv [])) at hok
    have h0 : (hun0 a lv []).out.length = 0 := rfl
    rw [h0] at hlen
    have hlev := hunN_lev l dr (z - (a + 1)) (a + 1) (hun0 a lv []) HSM.out hdr hlv
    generalize hhq : hunN l dr (z - (a + 1)) (a + 1) (hun0 a lv []) = hq at HE HB hok hlen hsn hlev ⊢
    obtain ⟨fm, pk, le, fa, vl, ou⟩ := hq
    have HSN := Lib.hid hsn
    have HHQ := Lib.hid hhq
    clear hsn hhq h0
    simp only at hlen HE HB hlev ⊢
    obtain ⟨_, ⟨_, hpk⟩, hva⟩ := hok
    simp only at hpk hva
    obtain ⟨b1, o1, y, e, hy, _, cy⟩ := (H.out.ext HX.out).get (j := pk) (by omega)
    injection e with e
    injection e with e1 e2
    subst e1 e2
    have HY := Lib.hid (getD_at hy)
    obtain ⟨by1, by2⟩ := HSM.out.2 y (List.mem_of_getElem? hy)
    have p0 := HB.out.cell 0
    have p1 := HB.out.cell 1
    have p2 := HB.out.cell 2
    have p3 := HB.out.cell 3
    have p4 := HB.out.cell 4
    have y0 := HB.out.free 0
    have y1 := HB.out.free 1
    have y2 := HB.out.free 2
    have y3 := HB.out.free 3
    have y4 := HB.out.free 4
    simp only [List.getElem?_toArray, List.getElem?_cons_zero, List.getElem?_cons_succ] at p0 p1 p2 p3 p4
    have hsz := HX.out.size
    have hgl := HB.out.lt
    clear hy
    by_cases hzb : z < b
    · obtain ⟨b1, o1, x, e, hx, _, cx⟩ := (H.out.ext HX.out).get (j := z) (by omega)
      injection e with e
      injection e with e1 e2
      subst e1 e2
      have HX' := Lib.hid (getD_at hx)
      obtain ⟨bx1, bx2⟩ := HSM.out.2 x (List.mem_of_getElem? hx)
      clear hx
      by_cases hfa : fa = false
      · subst hfa
        have qw : IntKind.i64.wrap (y - x) = y - x := IntWalk.i64_in _ (by omega)
        by_cases hxy : y < x
        · have q1 : decide (y < x) = true := decide_eq_true hxy
          have HS : Hid (hunN l dr (z + 1 - (a + 1)) (a + 1) (hun0 a lv []) = ⟨fm, z, le, false, vl, ou⟩) := Lib.hid (by rw [HSN.out]; unfold hunS; simp only [Bool.false_eq_true, if_false, HX'.out, HY.out]; rw [if_pos hxy])
          clear hxy p0 p1 p3 p4 y0 y1 y3 y4
          go_wp2_with fail
          go_region
          go_wp2
          go_roundg (b - (z + 1))
          case rel =>
            refine ⟨z + 1, te, tp, rfl, by omega, by omega, by go_num, ?_, ?_, ?_, ?_, ?_⟩
            · rw [HS.out]
            · rw [HS.out]
            · rw [HS.out]; exact Lib.hid ((HE.out.far (by omega) (Keeps.refl [g] _ |>.setCell (.inl (by simp)) _)).ext (Ext.refl _).drew)
            · rw [HS.out]; exact Lib.hid (by simpa using (HB.out.set 2 (.int .i64 (z : Int))).drew)
            · exact Lib.hid ((HX.out.setCell (show w.heap.size ≤ g by omega) _).drew)
          case measure => omega
        · have q1 : decide (y < x) = false := decide_eq_false hxy
          by_cases hdx : dr ≤ y - x
          · have q3 : decide (dr ≤ y - x) = true := decide_eq_true hdx
            have HS : Hid (hunN l dr (z + 1 - (a + 1)) (a + 1) (hun0 a lv []) = ⟨fm, pk, le, true, z, ou⟩) := Lib.hid (by rw [HSN.out]; unfold hunS; simp only [Bool.false_eq_true, if_false, HX'.out, HY.out]; rw [if_neg hxy, if_pos hdx])
            clear hxy hdx p0 p1 p3 p4 y0 y1 y2 y3 y4
            go_wp2_with fail
            go_region
            go_wp2_with fail
            go_region
            go_wp2
            go_roundg (b - (z + 1))
            case rel =>
              refine ⟨z + 1, te, tp, rfl, by omega, by omega, by go_num, ?_, ?_, ?_, ?_, ?_⟩
              · rw [HS.out]
              · rw [HS.out]
              · rw [HS.out]; exact Lib.hid (HE.out.ext (Ext.refl wr).drew.drew)
              · rw [HS.out]; exact Lib.hid (HB.out.drew.drew)
              · exact Lib.hid (HX.out.drew.drew)
            case measure => omega
          · have q3 : decide (dr ≤ y - x) = false := decide_eq_false hdx
            have HS : Hid (hunN l dr (z + 1 - (a + 1)) (a + 1) (hun0 a lv []) = ⟨fm, pk, le, false, vl, ou⟩) := Lib.hid (by rw [HSN.out]; unfold hunS; simp only [Bool.false_eq_true, if_false, HX'.out, HY.out]; rw [if_neg hxy, if_neg hdx])
            clear hxy hdx p0 p1 p3 p4 y0 y1 y2 y3 y4
            go_wp2_with fail
            go_region
            go_wp2_with fail
            go_region
            go_wp2_with fail
            go_region
            go_wp2_with fail
            go_region
            go_wp2
            go_roundg (b - (z + 1))
            case rel =>
              refine ⟨z + 1, te, tp, rfl, by omega, by omega, by go_num, ?_, ?_, ?_, ?_, ?_⟩
              · rw [HS.out]
              · rw [HS.out]
              · rw [HS.out]; exact Lib.hid (HE.out.ext (Ext.refl wr).drew.drew.drew.drew)
              · rw [HS.out]; exact Lib.hid (HB.out.drew.drew.drew.drew)
              · exact Lib.hid (HX.out.drew.drew.drew.drew)
            case measure => omega
      · have hfa : fa = true := by simpa using hfa
        subst hfa
        have hva := hva rfl
        obtain ⟨b1, o1, u, e, hu, _, cu⟩ := (H.out.ext HX.out).get (j := vl) (by omega)
        injection e with e
        injection e with e1 e2
        subst e1 e2
        have HU := Lib.hid (getD_at hu)
        obtain ⟨bu1, bu2⟩ := HSM.out.2 u (List.mem_of_getElem? hu)
        clear hu
        have qw : IntKind.i64.wrap (x - u) = x - u := IntWalk.i64_in _ (by omega)
        by_cases hxu : x < u
        · have q1 : decide (x < u) = true := decide_eq_true hxu
          have HS : Hid (hunN l dr (z + 1 - (a + 1)) (a + 1) (hun0 a lv []) = ⟨fm, pk, le, true, z, ou⟩) := Lib.hid (by rw [HSN.out]; unfold hunS; simp only [if_true, HX'.out, HU.out]; rw [if_pos hxu])
          clear hxu p0 p1 p3 p4 y0 y1 y2 y3 y4
          go_wp2_with fail
          go_region
          go_wp2_with fail
          go_region
          go_wp2_with fail
          go_region
          go_wp2
          go_roundg (b - (z + 1))
          case rel =>
            refine ⟨z + 1, te, tp, rfl, by omega, by omega, by go_num, ?_, ?_, ?_, ?_, ?_⟩
            · rw [HS.out]
            · rw [HS.out]
            · rw [HS.out]; exact Lib.hid (HE.out.ext (Ext.refl wr).drew.drew.drew)
            · rw [HS.out]; exact Lib.hid (HB.out.drew.drew.drew)
            · exact Lib.hid (HX.out.drew.drew.drew)
          case measure => omega
        · have q1 : decide (x < u) = false := decide_eq_false hxu
          by_cases hdx : dr ≤ x - u
          · have q3 : decide (dr ≤ x - u) = true := decide_eq_true hdx
            have HS : Hid (hunN l dr (z + 1 - (a + 1)) (a + 1) (hun0 a lv []) = ⟨vl, z, u + dr, false, vl, ou ++ [⟨fm, vl, pk, le, y⟩]⟩) := Lib.hid (by rw [HSN.out]; unfold hunS; simp only [if_true, HX'.out, HU.out]; rw [if_neg hxu, if_pos hdx]; unfold Hun.close; simp only [HY.out])
            clear hxu hdx
            go_wp2_with fail
            go_region
            go_wp2_with fail
            go_region
            go_wp2_with fail
            go_region
            go_wp2_with fail
            go_region
            go_wp2_with fail
            go_region
            go_upto_region 15 with (fail)
            have cu0 : w.cell? ⟨bk, off + vl, none⟩ = some (.int .i64 u) := by
              obtain ⟨b3, o3, u3, e, hu3, _, cu3⟩ := H.out.get (j := vl) (by omega)
              injection e with e
              injection e with e1 e2
              subst e1 e2
              rw [cu3, ← getD_at hu3, HU.out]
            have qw2 : IntKind.i64.wrap (u + dr) = u + dr := IntWalk.i64_in _ (by omega)
            have hk4 : Keeps [g] wr ((wr.setCell ⟨g, 1, none⟩ (.int .i64 (vl : Int))).setCell ⟨g, 4, none⟩ (.int .i64 y)).drew.drew.drew.drew.drew := (((Keeps.refl [g] wr).setCell (.inl (by simp)) _).setCell (.inl (by simp)) _).drew.drew.drew.drew.drew
            have hB4 : Blk ((wr.setCell ⟨g, 1, none⟩ (.int .i64 (vl : Int))).setCell ⟨g, 4, none⟩ (.int .i64 y)).drew.drew.drew.drew.drew g 42 #[.int .i64 (fm : Int), .int .i64 (vl : Int), .int .i64 (pk : Int), .int .i64 le, .int .i64 y] := by simpa using ((HB.out.set 1 (.int .i64 (vl : Int))).set 4 (.int .i64 y)).drew.drew.drew.drew.drew
            have hE4 := HE.out.far (by omega) hk4
            have hX4 : Ext w ((wr.setCell ⟨g, 1, none⟩ (.int .i64 (vl : Int))).setCell ⟨g, 4, none⟩ (.int .i64 y)).drew.drew.drew.drew.drew := ((HX.out.setCell (show w.heap.size ≤ g by omega) _).setCell (show w.heap.size ≤ g by omega) _).drew.drew.drew.drew.drew
            generalize ((wr.setCell ⟨g, 1, none⟩ (.int .i64 (vl : Int))).setCell ⟨g, 4, none⟩ (.int .i64 y)).drew.drew.drew.drew.drew = w2 at hk4 hB4 hE4 hX4 ⊢
            clear hk4 cy cx cu p0 p1 p2 p3 p4 y0 y1 y2 y3 y4
            obtain ⟨A1, c1, hso⟩ := own_slice hE4
            subst hso
            have k0 := hB4.cell 0
            have k1 := hB4.cell 1
            have k2 := hB4.cell 2
            have k3 := hB4.cell 3
            have k4 := hB4.cell 4
            simp only [List.getElem?_toArray, List.getElem?_cons_zero, List.getElem?_cons_succ] at k0 k1 k2 k3 k4
            have hown' : w2.ownsRow (g + 1) 42 5 (.slice A1 ou.length c1) ou.length (echV ou) := hE4
            have hrow : ∀ k, (Value.slice A1 ou.length c1).ownBlock = some k → g + 1 ≤ k := fun k hk => (hown'.lt k hk).1
            have hlt2 := hB4.lt
            have HBX := Lib.hid hB4
            have HXX := Lib.hid hX4
            have HRW := Lib.hid hrow
            clear hB4 hE4 hX4 hrow
            go_wp2_with (at_builtin; refine wpList_app _ elE rfl _ _ rfl (g + 1) (.slice A1 ou.length c1) ou.length (echV ou) rfl (hown'.alloc _) _ 1 1 [.int .i64 (fm : Int), .int .i64 (vl : Int), .int .i64 (pk : Int), .int .i64 le, .int .i64 y] rfl rfl (At.new' _ [_, _, _, _, _] _ rfl) (by simp [Value.oneCell']) (by omega) (by unfold maxLen; omega) (by simp; omega) ?_; intro v5 w5 hown5 hgr5 _; have HX5 := Lib.hid ((HXX.out.alloc _).grown hgr5 (fun k hk => by have := HRW.out k hk; omega)); have HB5 := Lib.hid ((HBX.out.alloc _).grown hgr5 (fun e => by have := HRW.out g e.symm; omega)); clear k0 k1 k2 k3 k4; have k0 := HB5.out.cell 0; have k1 := HB5.out.cell 1; have k2 := HB5.out.cell 2; have k3 := HB5.out.cell 3; have k4 := HB5.out.cell 4; simp only [List.getElem?_toArray, List.getElem?_cons_zero, List.getElem?_cons_succ] at k0 k1 k2 k3 k4; have z0 := HB5.out.free 0; have z1 := HB5.out.free 1; have z2 := HB5.out.free 2; have z3 := HB5.out.free 3; have z4 := HB5.out.free 4; have cu5 := HX5.out.cell cu0)
            go_roundg (b - (z + 1))
            case rel =>
              refine ⟨z + 1, 0, 0, rfl, by omega, by omega, by go_num, ?_, ?_, ?_, ?_, ?_⟩
              · rw [HS.out]
              · rw [HS.out]
              · rw [HS.out]
                refine Lib.hid (EcL.far (g := g) (base := g + 1) (w := w5) ?_ (by omega) ((((((Keeps.refl [g] w5).setCell (.inl (by simp)) _).setCell (.inl (by simp)) _).setCell (.inl (by simp)) _).setCell (.inl (by simp)) _).setCell (.inl (by simp)) _))
                unfold EcL
                rw [echV_snoc, List.length_append]
                exact hown5
              · rw [HS.out]; exact Lib.hid (by simpa using (((((HB5.out.set 0 (.int .i64 (vl : Int))).set 1 (.int .i64 0)).set 2 (.int .i64 (z : Int))).set 3 (.int .i64 (u + dr))).set 4 (.int .i64 0)))
              · exact Lib.hid (((((HX5.out.setCell (show w.heap.size ≤ g by omega) _).setCell (show w.heap.size ≤ g by omega) _).setCell (show w.heap.size ≤ g by omega) _).setCell (show w.heap.size ≤ g by omega) _).setCell (show w.heap.size ≤ g by omega) _)
            case measure => omega
          · have q3 : decide (dr ≤ x - u) = false := decide_eq_false hdx
            have HS : Hid (hunN l dr (z + 1 - (a + 1)) (a + 1) (hun0 a lv []) = ⟨fm, pk, le, true, vl, ou⟩) := Lib.hid (by rw [HSN.out]; unfold hunS; simp only [if_true, HX'.out, HU.out]; rw [if_neg hxu, if_neg hdx])
            clear hxu hdx p0 p1 p3 p4 y0 y1 y2 y3 y4
            go_wp2_with fail
            go_region
            go_wp2_with fail
            go_region
            go_wp2_with fail
            go_region
            go_wp2_with fail
            go_region
            go_wp2
            go_roundg (b - (z + 1))
            case rel =>
              refine ⟨z + 1, te, tp, rfl, by omega, by omega, by go_num, ?_, ?_, ?_, ?_, ?_⟩
              · rw [HS.out]
              · rw [HS.out]
              · rw [HS.out]; exact Lib.hid (HE.out.ext (Ext.refl wr).drew.drew.drew.drew)
              · rw [HS.out]; exact Lib.hid (HB.out.drew.drew.drew.drew)
              · exact Lib.hid (HX.out.drew.drew.drew.drew)
            case measure => omega
    · obtain rfl : z = b := by omega
      clear y0 y2 y3
      go_wp2_with fail
      go_region
      go_upto_region 19 with (fail)
      have hk4 : Keeps [g] wr ((wr.setCell ⟨g, 1, none⟩ (.int .i64 (z : Int))).setCell ⟨g, 4, none⟩ (.int .i64 y)).drew := (((Keeps.refl [g] wr).setCell (.inl (by simp)) _).setCell (.inl (by simp)) _).drew
      have hB4 : Blk ((wr.setCell ⟨g, 1, none⟩ (.int .i64 (z : Int))).setCell ⟨g, 4, none⟩ (.int .i64 y)).drew g 42 #[.int .i64 (fm : Int), .int .i64 (z : Int), .int .i64 (pk : Int), .int .i64 le, .int .i64 y] := by simpa using ((HB.out.set 1 (.int .i64 (z : Int))).set 4 (.int .i64 y)).drew
      have hE4 := HE.out.far (by omega) hk4
      have hX4 : Ext w ((wr.setCell ⟨g, 1, none⟩ (.int .i64 (z : Int))).setCell ⟨g, 4, none⟩ (.int .i64 y)).drew := ((HX.out.setCell (show w.heap.size ≤ g by omega) _).setCell (show w.heap.size ≤ g by omega) _).drew
      generalize ((wr.setCell ⟨g, 1, none⟩ (.int .i64 (z : Int))).setCell ⟨g, 4, none⟩ (.int .i64 y)).drew = w2 at hk4 hB4 hE4 hX4 ⊢
      clear hk4 cy p0 p1 p2 p3 p4 y1 y4
      obtain ⟨A1, c1, hso⟩ := own_slice hE4
      subst hso
      have k0 := hB4.cell 0
      have k1 := hB4.cell 1
      have k2 := hB4.cell 2
      have k3 := hB4.cell 3
      have k4 := hB4.cell 4
      simp only [List.getElem?_toArray, List.getElem?_cons_zero, List.getElem?_cons_succ] at k0 k1 k2 k3 k4
      have hown' : w2.ownsRow (g + 1) 42 5 (.slice A1 ou.length c1) ou.length (echV ou) := hE4
      have hrow : ∀ k, (Value.slice A1 ou.length c1).ownBlock = some k → g + 1 ≤ k := fun k hk => (hown'.lt k hk).1
      have hlt2 := hB4.lt
      have HBX := Lib.hid hB4
      have HXX := Lib.hid hX4
      have HRW := Lib.hid hrow
      clear hB4 hE4 hX4 hrow
      go_wp2_with (at_builtin; refine wpList_app _ elE rfl _ _ rfl (g + 1) (.slice A1 ou.length c1) ou.length (echV ou) rfl (hown'.alloc _) _ 1 1 [.int .i64 (fm : Int), .int .i64 (z : Int), .int .i64 (pk : Int), .int .i64 le, .int .i64 y] rfl rfl (At.new' _ [_, _, _, _, _] _ rfl) (by simp [Value.oneCell']) (by omega) (by unfold maxLen; omega) (by simp; omega) ?_; intro v5 w5 hown5 hgr5 _; have HX5 := Lib.hid ((HXX.out.alloc _).grown hgr5 (fun k hk => by have := HRW.out k hk; omega)); have HOW5 := Lib.hid hown5; clear hown5 hgr5)
      go_ret
      refine ⟨v5, rfl, ?_, HX5.out⟩
      have h1 : EcL (g + 1) w5 v5 (ou ++ [⟨fm, z, pk, le, y⟩]) := by
        unfold EcL
        rw [echV_snoc, List.length_append]
        exact HOW5.out
      have h2 : hunR l dr lv (a, z) = ou ++ [⟨fm, z, pk, le, y⟩] := by
        unfold hunR
        simp only
        rw [HHQ.out]
        unfold Hun.close
        simp only [HY.out]
      rw [h2, h0g]
      exact World.ownsRow.mono' h1 (by omega)
end Go.Proofs.Ytagcgldhhdecjaa
namespace Go.Proofs.Ytagcgldhhdecjaa
open Go.RowKit

def RetRg (w : World) (R : (Int × Int) × Int) (e : Ending) (w' : World) : Prop := e = .returned (.tuple #[.agg #[.int .i64 R.1.1, .int .i64 R.1.2], .int .i64 R.2]) ∧ Ext w w'
theorem over_is {y1 y2 z1 z2 : Int} (h : okS y1 y2 = true) (e1 : y1 / 256 = z1) (e2 : -((-y2) / 256) = z2) (w : World) : Calls Try.prog 69 #[.agg #[.int .i64 y1, .int .i64 y2], .int .i64 256] w (fun e w' => e = .returned (.tuple #[.agg #[.int .i64 z1, .int .i64 z2], .int .i64 0]) ∧ Ext w w') := by
  subst e1 e2; exact eover_ok y1 y2 256 w h (by omega) (by omega)
theorem plus_is {a b c d x y : Int} (hab : okS a b = true) (hcd : okS c d = true) (h0 : -1152921504606846976 ≤ a + c) (h1 : b + d ≤ 1152921504606846976) (e1 : a + c = x) (e2 : b + d = y) (w : World) : Calls Try.prog 70 #[.agg #[.int .i64 a, .int .i64 b], .agg #[.int .i64 c, .int .i64 d]] w (fun e w' => e = .returned (.tuple #[.agg #[.int .i64 x, .int .i64 y], .int .i64 0]) ∧ Ext w w') := by
  subst e1 e2; exact eplus_ok a b c d w hab hcd h0 h1
theorem evalid_is {x y : Int} {b : Bool} (h : decide (okR x y) = b) (w : World) : Calls Try.prog 68 #[.agg #[.int .i64 x, .int .i64 y]] w fun e w' => e = .returned (.bool b) ∧ Ext w w' := by
  rw [← h, ← okS_iff]; exact valid_any x y w
theorem evalidR_is {x y : Int} {b : Bool} (h : decide (okR x y) = b) (w : World) : Calls Try.prog 71 #[.agg #[.int .i64 x, .int .i64 y]] w fun e w' => e = .returned (.bool b) ∧ Ext w w' := by
  rw [← h, ← okS_iff]; exact rvalid_any x y w
theorem okS_mk {a b : Int} (h0 : -1152921504606846976 ≤ a) (h1 : a ≤ b) (h2 : b ≤ 1152921504606846976) : okS a b = true := by rw [okS_iff]; exact decide_eq_true ⟨h0, h1, h2⟩

set_option maxRecDepth 100000 in
set_option maxHeartbeats 4000000 in
theorem rangeP_det (a b lv dr st de : Int) (w : World) (hd : ¬ DetOk ⟨lv, dr, st, de⟩) :
    Calls Try.prog 45 #[.agg #[.int .i64 a, .int .i64 b], .agg #[.int .i64 lv, .int .i64 dr, .int .i64 st, .int .i64 de]] w (RetRg w (rangeF a b ⟨lv, dr, st, de⟩)) := by
  have HR : Hid (rangeF a b ⟨lv, dr, st, de⟩ = ((0, 0), 31)) := Lib.hid (by unfold rangeF; rw [if_pos hd])
  have QD : Hid (decide (DetOk ⟨lv, dr, st, de⟩) = false) := Lib.hid (decide_eq_false hd)
  clear hd
  have hXe : Ext w (((w.alloc (.cells #[.int .i64 a, .int .i64 b] 44)).alloc (.cells #[.int .i64 lv, .int .i64 dr, .int .i64 st, .int .i64 de] 33)).alloc (.cells #[.int .i64 0, .int .i64 0] 44)) := ((((Ext.refl w).alloc _).alloc _).alloc _)
  have kT : Blk (((w.alloc (.cells #[.int .i64 a, .int .i64 b] 44)).alloc (.cells #[.int .i64 lv, .int .i64 dr, .int .i64 st, .int .i64 de] 33)).alloc (.cells #[.int .i64 0, .int .i64 0] 44)) w.heap.size 44 #[.int .i64 a, .int .i64 b] := Blk.alloc (Blk.alloc (Blk.at_ (by simp)) _) _
  have kD : Blk (((w.alloc (.cells #[.int .i64 a, .int .i64 b] 44)).alloc (.cells #[.int .i64 lv, .int .i64 dr, .int .i64 st, .int .i64 de] 33)).alloc (.cells #[.int .i64 0, .int .i64 0] 44)) (w.heap.size + 1) 33 #[.int .i64 lv, .int .i64 dr, .int .i64 st, .int .i64 de] := Blk.alloc (Blk.at_ (by simp)) _
  have kR : Blk (((w.alloc (.cells #[.int .i64 a, .int .i64 b] 44)).alloc (.cells #[.int .i64 lv, .int .i64 dr, .int .i64 st, .int .i64 de] 33)).alloc (.cells #[.int .i64 0, .int .i64 0] 44)) (w.heap.size + 2) 44 #[.int .i64 0, .int .i64 0] := Blk.at_ (by simp)
  go_enter Try.func45, Try.ntmps45
  go_wp2_with fail
  generalize (((w.alloc (.cells #[.int .i64 a, .int .i64 b] 44)).alloc (.cells #[.int .i64 lv, .int .i64 dr, .int .i64 st, .int .i64 de] 33)).alloc (.cells #[.int .i64 0, .int .i64 0] 44)) = w1 at hXe kT kD kR ⊢
  have HX := Lib.hid hXe
  clear hXe
  have KT := Lib.hid kT
  clear kT
  have KD := Lib.hid kD
  clear kD
  have KR := Lib.hid kR
  clear kR
  have cD0 : w1.cell? ⟨(w.heap.size + 1), 0, none⟩ = some (.int .i64 lv) := KD.out.cell 0
  have cD1 : w1.cell? ⟨(w.heap.size + 1), 1, none⟩ = some (.int .i64 dr) := KD.out.cell 1
  have cD2 : w1.cell? ⟨(w.heap.size + 1), 2, none⟩ = some (.int .i64 st) := KD.out.cell 2
  have cD3 : w1.cell? ⟨(w.heap.size + 1), 3, none⟩ = some (.int .i64 de) := KD.out.cell 3
  go_wp2_with fail
  clear cD0 cD1 cD2 cD3
  refine (det_any ⟨lv, dr, st, de⟩ _).mono ?_
  rw [QD.out]
  rintro e w2 ⟨rfl, hX⟩
  replace hX : Ext w1 w2 := by with_reducible exact hX
  replace HX := Lib.hid (HX.out.trans hX)
  replace KT := Lib.hid (KT.out.ext hX)
  replace KD := Lib.hid (KD.out.ext hX)
  replace KR := Lib.hid (KR.out.ext hX)
  clear hX
  have cR0 : w2.cell? ⟨(w.heap.size + 2), 0, none⟩ = some (.int .i64 0) := KR.out.cell 0
  have fR0 : w2.frozen? ⟨(w.heap.size + 2), 0, none⟩ = false := KR.out.free 0
  have cR1 : w2.cell? ⟨(w.heap.size + 2), 1, none⟩ = some (.int .i64 0) := KR.out.cell 1
  have fR1 : w2.frozen? ⟨(w.heap.size + 2), 1, none⟩ = false := KR.out.free 1
  go_wp2
  refine bodyPost_ret (v := .tuple #[.agg #[.int .i64 0, .int .i64 0], .int .i64 31]) (by simp [results, Try.results45, go_sem, *]) rfl ?_
  exact ⟨by rw [HR.out], HX.out.two (by omega) _ _⟩

set_option maxRecDepth 100000 in
set_option maxHeartbeats 4000000 in
theorem rangeP_val (a b lv dr st de : Int) (w : World) (hd : DetOk ⟨lv, dr, st, de⟩) (ho : ¬ okR a b) :
    Calls Try.prog 45 #[.agg #[.int .i64 a, .int .i64 b], .agg #[.int .i64 lv, .int .i64 dr, .int .i64 st, .int .i64 de]] w (RetRg w (rangeF a b ⟨lv, dr, st, de⟩)) := by
  have HR : Hid (rangeF a b ⟨lv, dr, st, de⟩ = ((0, 0), 2)) := Lib.hid (by unfold rangeF; rw [if_neg (fun h => h hd), if_pos ho])
  have QD : Hid (decide (DetOk ⟨lv, dr, st, de⟩) = true) := Lib.hid (decide_eq_true hd)
  have HDT := Lib.hid hd
  have QV : Hid (decide (okR a b) = false) := Lib.hid (decide_eq_false ho)
  clear hd ho
  have hXe : Ext w (((w.alloc (.cells #[.int .i64 a, .int .i64 b] 44)).alloc (.cells #[.int .i64 lv, .int .i64 dr, .int .i64 st, .int .i64 de] 33)).alloc (.cells #[.int .i64 0, .int .i64 0] 44)) := ((((Ext.refl w).alloc _).alloc _).alloc _)
  have kT : Blk (((w.alloc (.cells #[.int .i64 a, .int .i64 b] 44)).alloc (.cells #[.int .i64 lv, .int .i64 dr, .int .i64 st, .int .i64 de] 33)).alloc (.cells #[.int .i64 0, .int .i64 0] 44)) w.heap.size 44 #[.int .i64 a, .int .i64 b] := Blk.alloc (Blk.alloc (Blk.at_ (by simp)) _) _
  have kD : Blk (((w.alloc (.cells #[.int .i64 a, .int .i64 b] 44)).alloc (.cells #[.int .i64 lv, .int .i64 dr, .int .i64 st, .int .i64 de] 33)).alloc (.cells #[.int .i64 0, .int .i64 0] 44)) (w.heap.size + 1) 33 #[.int .i64 lv, .int .i64 dr, .int .i64 st, .int .i64 de] := Blk.alloc (Blk.at_ (by simp)) _
  have kR : Blk (((w.alloc (.cells #[.int .i64 a, .int .i64 b] 44)).alloc (.cells #[.int .i64 lv, .int .i64 dr, .int .i64 st, .int .i64 de] 33)).alloc (.cells #[.int .i64 0, .int .i64 0] 44)) (w.heap.size + 2) 44 #[.int .i64 0, .int .i64 0] := Blk.at_ (by simp)
  go_enter Try.func45, Try.ntmps45
  go_wp2_with fail
  generalize (((w.alloc (.cells #[.int .i64 a, .int .i64 b] 44)).alloc (.cells #[.int .i64 lv, .int .i64 dr, .int .i64 st, .int .i64 de] 33)).alloc (.cells #[.int .i64 0, .int .i64 0] 44)) = w1 at hXe kT kD kR ⊢
  have HX := Lib.hid hXe
  clear hXe
  have KT := Lib.hid kT
  clear kT
  have KD := Lib.hid kD
  clear kD
  have KR := Lib.hid kR
  clear kR
  have cD0 : w1.cell? ⟨(w.heap.size + 1), 0, none⟩ = some (.int .i64 lv) := KD.out.cell 0
  have cD1 : w1.cell? ⟨(w.heap.size + 1), 1, none⟩ = some (.int .i64 dr) := KD.out.cell 1
  have cD2 : w1.cell? ⟨(w.heap.size + 1), 2, none⟩ = some (.int .i64 st) := KD.out.cell 2
  have cD3 : w1.cell? ⟨(w.heap.size + 1), 3, none⟩ = some (.int .i64 de) := KD.out.cell 3
  go_wp2_with fail
  clear cD0 cD1 cD2 cD3
  refine (det_any ⟨lv, dr, st, de⟩ _).mono ?_
  rw [QD.out]
  rintro e w2 ⟨rfl, hX⟩
  replace hX : Ext w1 w2 := by with_reducible exact hX
  replace HX := Lib.hid (HX.out.trans hX)
  replace KT := Lib.hid (KT.out.ext hX)
  replace KD := Lib.hid (KD.out.ext hX)
  replace KR := Lib.hid (KR.out.ext hX)
  clear hX
  have cT0 : w2.cell? ⟨w.heap.size, 0, none⟩ = some (.int .i64 a) := KT.out.cell 0
  have cT1 : w2.cell? ⟨w.heap.size, 1, none⟩ = some (.int .i64 b) := KT.out.cell 1
  go_wp2_with fail
  clear cT0 cT1
  refine (evalid_is QV.out _).mono ?_
  rintro e w3 ⟨rfl, hX⟩
  replace hX : Ext w2 w3 := by with_reducible exact hX
  replace HX := Lib.hid (HX.out.trans hX)
  replace KT := Lib.hid (KT.out.ext hX)
  replace KD := Lib.hid (KD.out.ext hX)
  replace KR := Lib.hid (KR.out.ext hX)
  clear hX
  have cR0 : w3.cell? ⟨(w.heap.size + 2), 0, none⟩ = some (.int .i64 0) := KR.out.cell 0
  have fR0 : w3.frozen? ⟨(w.heap.size + 2), 0, none⟩ = false := KR.out.free 0
  have cR1 : w3.cell? ⟨(w.heap.size + 2), 1, none⟩ = some (.int .i64 0) := KR.out.cell 1
  have fR1 : w3.frozen? ⟨(w.heap.size + 2), 1, none⟩ = false := KR.out.free 1
  go_wp2
  refine bodyPost_ret (v := .tuple #[.agg #[.int .i64 0, .int .i64 0], .int .i64 2]) (by simp [results, Try.results45, go_sem, *]) rfl ?_
  exact ⟨by rw [HR.out], HX.out.two (by omega) _ _⟩

set_option maxRecDepth 100000 in
set_option maxHeartbeats 4000000 in
theorem rangeP_far1 (a b lv dr st de : Int) (w : World) (hd : DetOk ⟨lv, dr, st, de⟩) (ho : okR a b) (h1 : a < -1099511627776) :
    Calls Try.prog 45 #[.agg #[.int .i64 a, .int .i64 b], .agg #[.int .i64 lv, .int .i64 dr, .int .i64 st, .int .i64 de]] w (RetRg w (rangeF a b ⟨lv, dr, st, de⟩)) := by
  have HR : Hid (rangeF a b ⟨lv, dr, st, de⟩ = ((0, 0), 33)) := Lib.hid (by unfold rangeF; rw [if_neg (fun h => h hd), if_neg (fun h => h ho), if_pos (.inl h1)])
  have QD : Hid (decide (DetOk ⟨lv, dr, st, de⟩) = true) := Lib.hid (decide_eq_true hd)
  have HDT := Lib.hid hd
  have QV : Hid (decide (okR a b) = true) := Lib.hid (decide_eq_true ho)
  have HOK := Lib.hid ho
  clear hd ho
  have hXe : Ext w (((w.alloc (.cells #[.int .i64 a, .int .i64 b] 44)).alloc (.cells #[.int .i64 lv, .int .i64 dr, .int .i64 st, .int .i64 de] 33)).alloc (.cells #[.int .i64 0, .int .i64 0] 44)) := ((((Ext.refl w).alloc _).alloc _).alloc _)
  have kT : Blk (((w.alloc (.cells #[.int .i64 a, .int .i64 b] 44)).alloc (.cells #[.int .i64 lv, .int .i64 dr, .int .i64 st, .int .i64 de] 33)).alloc (.cells #[.int .i64 0, .int .i64 0] 44)) w.heap.size 44 #[.int .i64 a, .int .i64 b] := Blk.alloc (Blk.alloc (Blk.at_ (by simp)) _) _
  have kD : Blk (((w.alloc (.cells #[.int .i64 a, .int .i64 b] 44)).alloc (.cells #[.int .i64 lv, .int .i64 dr, .int .i64 st, .int .i64 de] 33)).alloc (.cells #[.int .i64 0, .int .i64 0] 44)) (w.heap.size + 1) 33 #[.int .i64 lv, .int .i64 dr, .int .i64 st, .int .i64 de] := Blk.alloc (Blk.at_ (by simp)) _
  have kR : Blk (((w.alloc (.cells #[.int .i64 a, .int .i64 b] 44)).alloc (.cells #[.int .i64 lv, .int .i64 dr, .int .i64 st, .int .i64 de] 33)).alloc (.cells #[.int .i64 0, .int .i64 0] 44)) (w.heap.size + 2) 44 #[.int .i64 0, .int .i64 0] := Blk.at_ (by simp)
  go_enter Try.func45, Try.ntmps45
  go_wp2_with fail
  generalize (((w.alloc (.cells #[.int .i64 a, .int .i64 b] 44)).alloc (.cells #[.int .i64 lv, .int .i64 dr, .int .i64 st, .int .i64 de] 33)).alloc (.cells #[.int .i64 0, .int .i64 0] 44)) = w1 at hXe kT kD kR ⊢
  have HX := Lib.hid hXe
  clear hXe
  have KT := Lib.hid kT
  clear kT
  have KD := Lib.hid kD
  clear kD
  have KR := Lib.hid kR
  clear kR
  have cD0 : w1.cell? ⟨(w.heap.size + 1), 0, none⟩ = some (.int .i64 lv) := KD.out.cell 0
  have cD1 : w1.cell? ⟨(w.heap.size + 1), 1, none⟩ = some (.int .i64 dr) := KD.out.cell 1
  have cD2 : w1.cell? ⟨(w.heap.size + 1), 2, none⟩ = some (.int .i64 st) := KD.out.cell 2
  have cD3 : w1.cell? ⟨(w.heap.size + 1), 3, none⟩ = some (.int .i64 de) := KD.out.cell 3
  go_wp2_with fail
  clear cD0 cD1 cD2 cD3
  refine (det_any ⟨lv, dr, st, de⟩ _).mono ?_
  rw [QD.out]
  rintro e w2 ⟨rfl, hX⟩
  replace hX : Ext w1 w2 := by with_reducible exact hX
  replace HX := Lib.hid (HX.out.trans hX)
  replace KT := Lib.hid (KT.out.ext hX)
  replace KD := Lib.hid (KD.out.ext hX)
  replace KR := Lib.hid (KR.out.ext hX)
  clear hX
  have cT0 : w2.cell? ⟨w.heap.size, 0, none⟩ = some (.int .i64 a) := KT.out.cell 0
  have cT1 : w2.cell? ⟨w.heap.size, 1, none⟩ = some (.int .i64 b) := KT.out.cell 1
  go_wp2_with fail
  clear cT0 cT1
  refine (evalid_is QV.out _).mono ?_
  rintro e w3 ⟨rfl, hX⟩
  replace hX : Ext w2 w3 := by with_reducible exact hX
  replace HX := Lib.hid (HX.out.trans hX)
  replace KT := Lib.hid (KT.out.ext hX)
  replace KD := Lib.hid (KD.out.ext hX)
  replace KR := Lib.hid (KR.out.ext hX)
  clear hX
  have cT0 : w3.cell? ⟨w.heap.size, 0, none⟩ = some (.int .i64 a) := KT.out.cell 0
  have cT1 : w3.cell? ⟨w.heap.size, 1, none⟩ = some (.int .i64 b) := KT.out.cell 1
  have cR0 : w3.cell? ⟨(w.heap.size + 2), 0, none⟩ = some (.int .i64 0) := KR.out.cell 0
  have fR0 : w3.frozen? ⟨(w.heap.size + 2), 0, none⟩ = false := KR.out.free 0
  have cR1 : w3.cell? ⟨(w.heap.size + 2), 1, none⟩ = some (.int .i64 0) := KR.out.cell 1
  have fR1 : w3.frozen? ⟨(w.heap.size + 2), 1, none⟩ = false := KR.out.free 1
  go_wp2
  refine bodyPost_ret (v := .tuple #[.agg #[.int .i64 0, .int .i64 0], .int .i64 33]) (by simp [results, Try.results45, go_sem, *]) rfl ?_
  exact ⟨by rw [HR.out], HX.out.two (by omega) _ _⟩

set_option maxRecDepth 100000 in
set_option maxHeartbeats 4000000 in
theorem rangeP_far2 (a b lv dr st de : Int) (w : World) (hd : DetOk ⟨lv, dr, st, de⟩) (ho : okR a b) (h1 : ¬ a < -1099511627776) (h2 : 1099511627776 < b) :
    Calls Try.prog 45 #[.agg #[.int .i64 a, .int .i64 b], .agg #[.int .i64 lv, .int .i64 dr, .int .i64 st, .int .i64 de]] w (RetRg w (rangeF a b ⟨lv, dr, st, de⟩)) := by
  have HR : Hid (rangeF a b ⟨lv, dr, st, de⟩ = ((0, 0), 33)) := Lib.hid (by unfold rangeF; rw [if_neg (fun h => h hd), if_neg (fun h => h ho), if_pos (.inr h2)])
  have QD : Hid (decide (DetOk ⟨lv, dr, st, de⟩) = true) := Lib.hid (decide_eq_true hd)
  have HDT := Lib.hid hd
  have QV : Hid (decide (okR a b) = true) := Lib.hid (decide_eq_true ho)
  have HOK := Lib.hid ho
  clear hd ho
  have hXe : Ext w (((w.alloc (.cells #[.int .i64 a, .int .i64 b] 44)).alloc (.cells #[.int .i64 lv, .int .i64 dr, .int .i64 st, .int .i64 de] 33)).alloc (.cells #[.int .i64 0, .int .i64 0] 44)) := ((((Ext.refl w).alloc _).alloc _).alloc _)
  have kT : Blk (((w.alloc (.cells #[.int .i64 a, .int .i64 b] 44)).alloc (.cells #[.int .i64 lv, .int .i64 dr, .int .i64 st, .int .i64 de] 33)).alloc (.cells #[.int .i64 0, .int .i64 0] 44)) w.heap.size 44 #[.int .i64 a, .int .i64 b] := Blk.alloc (Blk.alloc (Blk.at_ (by simp)) _) _
  have kD : Blk (((w.alloc (.cells #[.int .i64 a, .int .i64 b] 44)).alloc (.cells #[.int .i64 lv, .int .i64 dr, .int .i64 st, .int .i64 de] 33)).alloc (.cells #[.int .i64 0, .int .i64 0] 44)) (w.heap.size + 1) 33 #[.int .i64 lv, .int .i64 dr, .int .i64 st, .int .i64 de] := Blk.alloc (Blk.at_ (by simp)) _
  have kR : Blk (((w.alloc (.cells #[.int .i64 a, .int .i64 b] 44)).alloc (.cells #[.int .i64 lv, .int .i64 dr, .int .i64 st, .int .i64 de] 33)).alloc (.cells #[.int .i64 0, .int .i64 0] 44)) (w.heap.size + 2) 44 #[.int .i64 0, .int .i64 0] := Blk.at_ (by simp)
  go_enter Try.func45, Try.ntmps45
  go_wp2_with fail
  generalize (((w.alloc (.cells #[.int .i64 a, .int .i64 b] 44)).alloc (.cells #[.int .i64 lv, .int .i64 dr, .int .i64 st, .int .i64 de] 33)).alloc (.cells #[.int .i64 0, .int .i64 0] 44)) = w1 at hXe kT kD kR ⊢
  have HX := Lib.hid hXe
  clear hXe
  have KT := Lib.hid kT
  clear kT
  have KD := Lib.hid kD
  clear kD
  have KR := Lib.hid kR
  clear kR
  have cD0 : w1.cell? ⟨(w.heap.size + 1), 0, none⟩ = some (.int .i64 lv) := KD.out.cell 0
  have cD1 : w1.cell? ⟨(w.heap.size + 1), 1, none⟩ = some (.int .i64 dr) := KD.out.cell 1
  have cD2 : w1.cell? ⟨(w.heap.size + 1), 2, none⟩ = some (.int .i64 st) := KD.out.cell 2
  have cD3 : w1.cell? ⟨(w.heap.size + 1), 3, none⟩ = some (.int .i64 de) := KD.out.cell 3
  go_wp2_with fail
  clear cD0 cD1 cD2 cD3
  refine (det_any ⟨lv, dr, st, de⟩ _).mono ?_
  rw [QD.out]
  rintro e w2 ⟨rfl, hX⟩
  replace hX : Ext w1 w2 := by with_reducible exact hX
  replace HX := Lib.hid (HX.out.trans hX)
  replace KT := Lib.hid (KT.out.ext hX)
  replace KD := Lib.hid (KD.out.ext hX)
  replace KR := Lib.hid (KR.out.ext hX)
  clear hX
  have cT0 : w2.cell? ⟨w.heap.size, 0, none⟩ = some (.int .i64 a) := KT.out.cell 0
  have cT1 : w2.cell? ⟨w.heap.size, 1, none⟩ = some (.int .i64 b) := KT.out.cell 1
  go_wp2_with fail
  clear cT0 cT1
  refine (evalid_is QV.out _).mono ?_
  rintro e w3 ⟨rfl, hX⟩
  replace hX : Ext w2 w3 := by with_reducible exact hX
  replace HX := Lib.hid (HX.out.trans hX)
  replace KT := Lib.hid (KT.out.ext hX)
  replace KD := Lib.hid (KD.out.ext hX)
  replace KR := Lib.hid (KR.out.ext hX)
  clear hX
  have cT0 : w3.cell? ⟨w.heap.size, 0, none⟩ = some (.int .i64 a) := KT.out.cell 0
  have cT1 : w3.cell? ⟨w.heap.size, 1, none⟩ = some (.int .i64 b) := KT.out.cell 1
  have cR0 : w3.cell? ⟨(w.heap.size + 2), 0, none⟩ = some (.int .i64 0) := KR.out.cell 0
  have fR0 : w3.frozen? ⟨(w.heap.size + 2), 0, none⟩ = false := KR.out.free 0
  have cR1 : w3.cell? ⟨(w.heap.size + 2), 1, none⟩ = some (.int .i64 0) := KR.out.cell 1
  have fR1 : w3.frozen? ⟨(w.heap.size + 2), 1, none⟩ = false := KR.out.free 1
  go_wp2
  refine bodyPost_ret (v := .tuple #[.agg #[.int .i64 0, .int .i64 0], .int .i64 33]) (by simp [results, Try.results45, go_sem, *]) rfl ?_
  exact ⟨by rw [HR.out], HX.out.two (by omega) _ _⟩

set_option maxRecDepth 100000 in
set_option maxHeartbeats 4000000 in
theorem rangeP_ok (a b lv dr st de : Int) (w : World) (hd : DetOk ⟨lv, dr, st, de⟩) (ho : okR a b) (h1 : ¬ a < -1099511627776) (h2 : ¬ 1099511627776 < b) :
    Calls Try.prog 45 #[.agg #[.int .i64 a, .int .i64 b], .agg #[.int .i64 lv, .int .i64 dr, .int .i64 st, .int .i64 de]] w (RetRg w (rangeF a b ⟨lv, dr, st, de⟩)) := by
  have QD : Hid (decide (DetOk ⟨lv, dr, st, de⟩) = true) := Lib.hid (decide_eq_true hd)
  have HDT := Lib.hid hd
  have QV : Hid (decide (okR a b) = true) := Lib.hid (decide_eq_true ho)
  have HOK := Lib.hid ho
  have ho1 : a ≤ b := ho.2.1
  have hs1 : 1 ≤ st := hd.2.2.2.2.1
  have hs2 : st ≤ 10000 := hd.2.2.2.2.2.1
  have hd1 : -1048576 ≤ de := hd.2.2.2.2.2.2.1
  have hd2 : de ≤ 1048576 := hd.2.2.2.2.2.2.2
  have m1 := Int.mul_le_mul_of_nonneg_left ho1 (show 0 ≤ st by omega)
  have m2 := Int.mul_le_mul_of_nonneg_left (show -1099511627776 ≤ a by omega) (show 0 ≤ st by omega)
  have m3 := Int.mul_le_mul_of_nonneg_left (show b ≤ 1099511627776 by omega) (show 0 ≤ st by omega)
  have hr : rangeF a b ⟨lv, dr, st, de⟩ = if st * a / 256 + de < 0 ∨ 4194304 < -((-(st * b)) / 256) + de then ((0, 0), 33) else ((st * a / 256 + de, -((-(st * b)) / 256) + de), 0) := by
    unfold rangeF rngLo rngHi
    rw [if_neg (fun h => h hd), if_neg (fun h => h ho), if_neg (by omega)]
  obtain ⟨y1, hy1⟩ : ∃ z, st * a = z := ⟨_, rfl⟩
  obtain ⟨y2, hy2⟩ : ∃ z, st * b = z := ⟨_, rfl⟩
  have qw1 : IntKind.i64.wrap (st * a) = y1 := (IntWalk.i64_in _ (by omega)).trans hy1
  have qw2 : IntKind.i64.wrap (st * b) = y2 := (IntWalk.i64_in _ (by omega)).trans hy2
  rw [hy1, hy2] at m1
  rw [hy1] at m2
  rw [hy2] at m3
  rw [hy1, hy2] at hr
  obtain ⟨z1, hz1⟩ : ∃ z, y1 / 256 = z := ⟨_, rfl⟩
  obtain ⟨z2, hz2⟩ : ∃ z, -((-y2) / 256) = z := ⟨_, rfl⟩
  rw [hz1, hz2] at hr
  obtain ⟨x1, hx1⟩ : ∃ z, z1 + de = z := ⟨_, rfl⟩
  obtain ⟨x2, hx2⟩ : ∃ z, z2 + de = z := ⟨_, rfl⟩
  rw [hx1, hx2] at hr
  have k1 : okS y1 y2 = true := okS_mk (by omega) (by omega) (by omega)
  have k2 : okS z1 z2 = true := okS_mk (by omega) (by omega) (by omega)
  have k3 : okS de de = true := okS_mk (by omega) (by omega) (by omega)
  have k4 : -1152921504606846976 ≤ z1 + de := by omega
  have k5 : z2 + de ≤ 1152921504606846976 := by omega
  have HOV := Lib.hid (over_is k1 hz1 hz2)
  have HPL := Lib.hid (plus_is k2 k3 k4 k5 hx1 hx2)
  clear k1 k2 k3 k4 k5 hx1 hx2 hz1 hz2 hy1 hy2 m1 m2 m3 hs1 hs2 hd1 hd2 ho1 hd ho
  have HRR := Lib.hid hr
  clear hr
  have hXe : Ext w (((w.alloc (.cells #[.int .i64 a, .int .i64 b] 44)).alloc (.cells #[.int .i64 lv, .int .i64 dr, .int .i64 st, .int .i64 de] 33)).alloc (.cells #[.int .i64 0, .int .i64 0] 44)) := ((((Ext.refl w).alloc _).alloc _).alloc _)
  have kT : Blk (((w.alloc (.cells #[.int .i64 a, .int .i64 b] 44)).alloc (.cells #[.int .i64 lv, .int .i64 dr, .int .i64 st, .int .i64 de] 33)).alloc (.cells #[.int .i64 0, .int .i64 0] 44)) w.heap.size 44 #[.int .i64 a, .int .i64 b] := Blk.alloc (Blk.alloc (Blk.at_ (by simp)) _) _
  have kD : Blk (((w.alloc (.cells #[.int .i64 a, .int .i64 b] 44)).alloc (.cells #[.int .i64 lv, .int .i64 dr, .int .i64 st, .int .i64 de] 33)).alloc (.cells #[.int .i64 0, .int .i64 0] 44)) (w.heap.size + 1) 33 #[.int .i64 lv, .int .i64 dr, .int .i64 st, .int .i64 de] := Blk.alloc (Blk.at_ (by simp)) _
  have kR : Blk (((w.alloc (.cells #[.int .i64 a, .int .i64 b] 44)).alloc (.cells #[.int .i64 lv, .int .i64 dr, .int .i64 st, .int .i64 de] 33)).alloc (.cells #[.int .i64 0, .int .i64 0] 44)) (w.heap.size + 2) 44 #[.int .i64 0, .int .i64 0] := Blk.at_ (by simp)
  go_enter Try.func45, Try.ntmps45
  go_wp2_with fail
  generalize (((w.alloc (.cells #[.int .i64 a, .int .i64 b] 44)).alloc (.cells #[.int .i64 lv, .int .i64 dr, .int .i64 st, .int .i64 de] 33)).alloc (.cells #[.int .i64 0, .int .i64 0] 44)) = w1 at hXe kT kD kR ⊢
  have HX := Lib.hid hXe
  clear hXe
  have KT := Lib.hid kT
  clear kT
  have KD := Lib.hid kD
  clear kD
  have KR := Lib.hid kR
  clear kR
  have cD0 : w1.cell? ⟨(w.heap.size + 1), 0, none⟩ = some (.int .i64 lv) := KD.out.cell 0
  have cD1 : w1.cell? ⟨(w.heap.size + 1), 1, none⟩ = some (.int .i64 dr) := KD.out.cell 1
  have cD2 : w1.cell? ⟨(w.heap.size + 1), 2, none⟩ = some (.int .i64 st) := KD.out.cell 2
  have cD3 : w1.cell? ⟨(w.heap.size + 1), 3, none⟩ = some (.int .i64 de) := KD.out.cell 3
  go_wp2_with fail
  clear cD0 cD1 cD2 cD3
  refine (det_any ⟨lv, dr, st, de⟩ _).mono ?_
  rw [QD.out]
  rintro e w2 ⟨rfl, hX⟩
  replace hX : Ext w1 w2 := by with_reducible exact hX
  replace HX := Lib.hid (HX.out.trans hX)
  replace KT := Lib.hid (KT.out.ext hX)
  replace KD := Lib.hid (KD.out.ext hX)
  replace KR := Lib.hid (KR.out.ext hX)
  clear hX
  have cT0 : w2.cell? ⟨w.heap.size, 0, none⟩ = some (.int .i64 a) := KT.out.cell 0
  have cT1 : w2.cell? ⟨w.heap.size, 1, none⟩ = some (.int .i64 b) := KT.out.cell 1
  go_wp2_with fail
  clear cT0 cT1
  refine (evalid_is QV.out _).mono ?_
  rintro e w3 ⟨rfl, hX⟩
  replace hX : Ext w2 w3 := by with_reducible exact hX
  replace HX := Lib.hid (HX.out.trans hX)
  replace KT := Lib.hid (KT.out.ext hX)
  replace KD := Lib.hid (KD.out.ext hX)
  replace KR := Lib.hid (KR.out.ext hX)
  clear hX
  have cT0 : w3.cell? ⟨w.heap.size, 0, none⟩ = some (.int .i64 a) := KT.out.cell 0
  have cT1 : w3.cell? ⟨w.heap.size, 1, none⟩ = some (.int .i64 b) := KT.out.cell 1
  have cD0 : w3.cell? ⟨(w.heap.size + 1), 0, none⟩ = some (.int .i64 lv) := KD.out.cell 0
  have cD1 : w3.cell? ⟨(w.heap.size + 1), 1, none⟩ = some (.int .i64 dr) := KD.out.cell 1
  have cD2 : w3.cell? ⟨(w.heap.size + 1), 2, none⟩ = some (.int .i64 st) := KD.out.cell 2
  have cD3 : w3.cell? ⟨(w.heap.size + 1), 3, none⟩ = some (.int .i64 de) := KD.out.cell 3
  go_wp2_with fail
  clear cT0 cT1 cD0 cD1 cD2 cD3
  refine (HOV.out _).mono ?_
  rintro e w4 ⟨rfl, hX⟩
  replace hX : Ext w3 w4 := by with_reducible exact hX
  replace HX := Lib.hid (HX.out.trans hX)
  replace KT := Lib.hid (KT.out.ext hX)
  replace KD := Lib.hid (KD.out.ext hX)
  replace KR := Lib.hid (KR.out.ext hX)
  clear hX
  go_upto_region 8 with (fail)
  have hXa : Ext w4 (w4.alloc (.cells #[.int .i64 z1, .int .i64 z2] 44)) := (Ext.refl _).alloc _
  have kS := Blk.new w4 44 #[.int .i64 z1, .int .i64 z2]
  have zT := KT.out.lt
  have zD := KD.out.lt
  have zR := KR.out.lt
  have zg := HX.out.size
  replace HX := Lib.hid (HX.out.trans hXa)
  replace KT := Lib.hid (KT.out.ext hXa)
  replace KD := Lib.hid (KD.out.ext hXa)
  replace KR := Lib.hid (KR.out.ext hXa)
  generalize (w4.alloc (.cells #[.int .i64 z1, .int .i64 z2] 44)) = w5 at HX KT KD KR kS ⊢
  have KS := Lib.hid kS
  clear kS hXa
  have cD0 : w5.cell? ⟨(w.heap.size + 1), 0, none⟩ = some (.int .i64 lv) := KD.out.cell 0
  have cD1 : w5.cell? ⟨(w.heap.size + 1), 1, none⟩ = some (.int .i64 dr) := KD.out.cell 1
  have cD2 : w5.cell? ⟨(w.heap.size + 1), 2, none⟩ = some (.int .i64 st) := KD.out.cell 2
  have cD3 : w5.cell? ⟨(w.heap.size + 1), 3, none⟩ = some (.int .i64 de) := KD.out.cell 3
  have cS0 : w5.cell? ⟨w4.heap.size, 0, none⟩ = some (.int .i64 z1) := KS.out.cell 0
  have fS0 : w5.frozen? ⟨w4.heap.size, 0, none⟩ = false := KS.out.free 0
  have cS1 : w5.cell? ⟨w4.heap.size, 1, none⟩ = some (.int .i64 z2) := KS.out.cell 1
  have fS1 : w5.frozen? ⟨w4.heap.size, 1, none⟩ = false := KS.out.free 1
  go_wp2_with fail
  clear cD0 cD1 cD2 cD3 cS0 fS0 cS1 fS1
  refine (HPL.out _).mono ?_
  rintro e w6 ⟨rfl, hX⟩
  replace hX : Ext w5 w6 := by with_reducible exact hX
  replace HX := Lib.hid (HX.out.trans hX)
  replace KT := Lib.hid (KT.out.ext hX)
  replace KD := Lib.hid (KD.out.ext hX)
  replace KR := Lib.hid (KR.out.ext hX)
  replace KS := Lib.hid (KS.out.ext hX)
  clear hX
  have zS := HX.out.size
  have zz := KS.out.lt
  have cS0 : w6.cell? ⟨w4.heap.size, 0, none⟩ = some (.int .i64 z1) := KS.out.cell 0
  have fS0 : w6.frozen? ⟨w4.heap.size, 0, none⟩ = false := KS.out.free 0
  have cS1 : w6.cell? ⟨w4.heap.size, 1, none⟩ = some (.int .i64 z2) := KS.out.cell 1
  have fS1 : w6.frozen? ⟨w4.heap.size, 1, none⟩ = false := KS.out.free 1
  go_upto_region 9 with (fail)
  clear cS0 fS0 cS1 fS1
  have hXs : Ext w ((w6.setCell ⟨w4.heap.size, 0, none⟩ (.int .i64 x1)).setCell ⟨w4.heap.size, 1, none⟩ (.int .i64 x2)) := ((HX.out.setCell (show w.heap.size ≤ w4.heap.size by omega) _).setCell (show w.heap.size ≤ w4.heap.size by omega) _)
  have kT : Blk ((w6.setCell ⟨w4.heap.size, 0, none⟩ (.int .i64 x1)).setCell ⟨w4.heap.size, 1, none⟩ (.int .i64 x2)) w.heap.size 44 #[.int .i64 a, .int .i64 b] := (Blk.far (Blk.far KT.out (show w.heap.size ≠ w4.heap.size by omega) _) (show w.heap.size ≠ w4.heap.size by omega) _)
  have kD : Blk ((w6.setCell ⟨w4.heap.size, 0, none⟩ (.int .i64 x1)).setCell ⟨w4.heap.size, 1, none⟩ (.int .i64 x2)) (w.heap.size + 1) 33 #[.int .i64 lv, .int .i64 dr, .int .i64 st, .int .i64 de] := (Blk.far (Blk.far KD.out (show (w.heap.size + 1) ≠ w4.heap.size by omega) _) (show (w.heap.size + 1) ≠ w4.heap.size by omega) _)
  have kR : Blk ((w6.setCell ⟨w4.heap.size, 0, none⟩ (.int .i64 x1)).setCell ⟨w4.heap.size, 1, none⟩ (.int .i64 x2)) (w.heap.size + 2) 44 #[.int .i64 0, .int .i64 0] := (Blk.far (Blk.far KR.out (show (w.heap.size + 2) ≠ w4.heap.size by omega) _) (show (w.heap.size + 2) ≠ w4.heap.size by omega) _)
  have kS : Blk ((w6.setCell ⟨w4.heap.size, 0, none⟩ (.int .i64 x1)).setCell ⟨w4.heap.size, 1, none⟩ (.int .i64 x2)) w4.heap.size 44 #[.int .i64 x1, .int .i64 x2] := (Blk.set (Blk.set KS.out 0 _) 1 _)
  generalize ((w6.setCell ⟨w4.heap.size, 0, none⟩ (.int .i64 x1)).setCell ⟨w4.heap.size, 1, none⟩ (.int .i64 x2)) = w7 at hXs kT kD kR kS ⊢
  clear HX KT KD KR KS
  have HX := Lib.hid hXs
  clear hXs
  have KT := Lib.hid kT
  clear kT
  have KD := Lib.hid kD
  clear kD
  have KR := Lib.hid kR
  clear kR
  have KS := Lib.hid kS
  clear kS
  have cR0 : w7.cell? ⟨(w.heap.size + 2), 0, none⟩ = some (.int .i64 0) := KR.out.cell 0
  have fR0 : w7.frozen? ⟨(w.heap.size + 2), 0, none⟩ = false := KR.out.free 0
  have cR1 : w7.cell? ⟨(w.heap.size + 2), 1, none⟩ = some (.int .i64 0) := KR.out.cell 1
  have fR1 : w7.frozen? ⟨(w.heap.size + 2), 1, none⟩ = false := KR.out.free 1
  have cS0 : w7.cell? ⟨w4.heap.size, 0, none⟩ = some (.int .i64 x1) := KS.out.cell 0
  have cS1 : w7.cell? ⟨w4.heap.size, 1, none⟩ = some (.int .i64 x2) := KS.out.cell 1
  by_cases hp : x1 < 0
  · have HR : Hid (rangeF a b ⟨lv, dr, st, de⟩ = ((0, 0), 33)) := Lib.hid (by rw [HRR.out, if_pos (.inl hp)])
    go_wp2
    refine bodyPost_ret (v := .tuple #[.agg #[.int .i64 0, .int .i64 0], .int .i64 33]) (by simp [results, Try.results45, go_sem, *]) rfl ?_
    exact ⟨by rw [HR.out], HX.out.two (by omega) _ _⟩
  by_cases hq : 4194304 < x2
  · have HR : Hid (rangeF a b ⟨lv, dr, st, de⟩ = ((0, 0), 33)) := Lib.hid (by rw [HRR.out, if_pos (.inr hq)])
    go_wp2
    refine bodyPost_ret (v := .tuple #[.agg #[.int .i64 0, .int .i64 0], .int .i64 33]) (by simp [results, Try.results45, go_sem, *]) rfl ?_
    exact ⟨by rw [HR.out], HX.out.two (by omega) _ _⟩
  have HR : Hid (rangeF a b ⟨lv, dr, st, de⟩ = ((x1, x2), 0)) := Lib.hid (by rw [HRR.out, if_neg (by omega)])
  go_wp2
  refine bodyPost_ret (v := .tuple #[.agg #[.int .i64 x1, .int .i64 x2], .int .i64 0]) (by simp [results, Try.results45, go_sem, *]) rfl ?_
  exact ⟨by rw [HR.out], HX.out.two (by omega) _ _⟩

theorem rangeP_any (a b : Int) (d : Det) (w : World) : Calls Try.prog 45 #[.agg #[.int .i64 a, .int .i64 b], .agg #[.int .i64 d.level, .int .i64 d.drop, .int .i64 d.step, .int .i64 d.delay]] w (RetRg w (rangeF a b d)) := by
  obtain ⟨lv, dr, st, de⟩ := d
  by_cases hd : DetOk ⟨lv, dr, st, de⟩
  · by_cases ho : okR a b
    · by_cases h1 : a < -1099511627776
      · exact rangeP_far1 a b lv dr st de w hd ho h1
      by_cases h2 : 1099511627776 < b
      · exact rangeP_far2 a b lv dr st de w hd ho h1 h2
      exact rangeP_ok a b lv dr st de w hd ho h1 h2
    · exact rangeP_val a b lv dr st de w hd ho
  · exact rangeP_det a b lv dr st de w hd

set_option maxRecDepth 100000 in
set_option maxHeartbeats 2000000 in
theorem reach_r1 (gd : Nat) (x lv dr st de : Int) (w : World) (c2 : w.cell? ⟨gd, 2, none⟩ = some (.int .i64 st)) (c3 : w.cell? ⟨gd, 3, none⟩ = some (.int .i64 de)) (hs0 : 1 ≤ st) (hs1 : st ≤ 10000) (hd0 : -1048576 ≤ de) (hd1 : de ≤ 1048576) (hx0 : -1152921504606846976 ≤ x) (hx1 : x ≤ 1152921504606846976) (hm0 : -11529215046068469760000 ≤ st * x) (hm1 : st * x ≤ 11529215046068469760000) (a : Act) (Q : Exit → Act → World → Prop) (hsize : 17 ≤ a.tmps.size)
    (s0 : a.tmps[0]? = some (.int .i64 x))
    (s3 : a.tmps[3]? = some (.pointer (some ⟨gd, 0, none⟩)))
    (hend : ∀ (xv0 xv1 xv2 xv3 xv4 xv5 xv6 xv7 xv8 xv9 xv10 xv11 : Value) (W : World), (xv0 = .pointer (some ⟨gd, 3, none⟩)) → (xv1 = .int .i64 de) → (QZ W xv2 (de : Rat)) → (xv3 = .pointer (some ⟨gd, 2, none⟩)) → (xv4 = .int .i64 st) → (IntZ W xv5 st) → (xv6 = .int .i64 x) → (IntZ W xv7 x) → (IntZ W xv8 (st * x)) → (∃ A l c, xv9 = .agg #[.bool false, .slice A l c] ∧ Z16 W (.slice A l c) 256) → (QZ W xv10 (((st * x : Int) : Rat) / ((256 : Int) : Rat))) → (QZ W xv11 (reachQ ⟨lv, dr, st, de⟩ x)) → Ext w W → wpList Try.prog (rops Try.f72 1).toArray Q ((rops Try.f72 1).drop 12) ((((((((((((a.put (some 5) xv0).put (some 6) xv1).put (some 7) xv2).put (some 8) xv3).put (some 9) xv4).put (some 10) xv5).put (some 11) xv6).put (some 12) xv7).put (some 13) xv8).put (some 14) xv9).put (some 15) xv10).put (some 16) xv11) W) :
    (Code.region 1 (rops Try.f72 1).toArray true).wp Try.prog Q a w := by
  have hmono : ∀ (W W' : World) (j : Nat) (u : Value), Ext W W' → (fun (i : Nat) (v : Value) (W : World) => match i with
    | 0 => v = .pointer (some ⟨gd, 3, none⟩)
    | 1 => v = .int .i64 de
    | 2 => QZ W v (de : Rat)
    | 3 => v = .pointer (some ⟨gd, 2, none⟩)
    | 4 => v = .int .i64 st
    | 5 => IntZ W v st
    | 6 => v = .int .i64 x
    | 7 => IntZ W v x
    | 8 => IntZ W v (st * x)
    | 9 => ∃ A l c, v = .agg #[.bool false, .slice A l c] ∧ Z16 W (.slice A l c) 256
    | 10 => QZ W v (((st * x : Int) : Rat) / ((256 : Int) : Rat))
    | 11 => QZ W v (reachQ ⟨lv, dr, st, de⟩ x)
    | _ => True) j u W → (fun (i : Nat) (v : Value) (W : World) => match i with
    | 0 => v = .pointer (some ⟨gd, 3, none⟩)
    | 1 => v = .int .i64 de
    | 2 => QZ W v (de : Rat)
    | 3 => v = .pointer (some ⟨gd, 2, none⟩)
    | 4 => v = .int .i64 st
    | 5 => IntZ W v st
    | 6 => v = .int .i64 x
    | 7 => IntZ W v x
    | 8 => IntZ W v (st * x)
    | 9 => ∃ A l c, v = .agg #[.bool false, .slice A l c] ∧ Z16 W (.slice A l c) 256
    | 10 => QZ W v (((st * x : Int) : Rat) / ((256 : Int) : Rat))
    | 11 => QZ W v (reachQ ⟨lv, dr, st, de⟩ x)
    | _ => True) j u W' := by
    intro W W' j u hX h
    match j, h with
    | 0, h => exact h
    | 1, h => exact h
    | 2, h => exact QZ.ext h hX
    | 3, h => exact h
    | 4, h => exact h
    | 5, h => exact IntZ.ext h hX
    | 6, h => exact h
    | 7, h => exact IntZ.ext h hX
    | 8, h => exact IntZ.ext h hX
    | 9, h => obtain ⟨A, l, c, h1, h2⟩ := h; exact ⟨A, l, c, h1, Z16.ext h2 hX⟩
    | 10, h => exact QZ.ext h hX
    | 11, h => exact QZ.ext h hX
    | _ + 12, h => exact h
  have hsz : ∀ d, some d ∈ ([some 5, some 6, some 7, some 8, some 9, some 10, some 11, some 12, some 13, some 14, some 15, some 16] : List (Option Tmp)) → d < a.tmps.size := slots_lt (by decide) hsize
  refine wp_region_j 12 [some 5, some 6, some 7, some 8, some 9, some 10, some 11, some 12, some 13, some 14, some 15, some 16] [[], [0], [1], [], [3], [4], [], [6], [5, 7], [], [8, 9], [2, 10]] [[], [], [], [], [], [], [], [], [], [], [], []] (fun (i : Nat) (v : Value) (W : World) => match i with
    | 0 => v = .pointer (some ⟨gd, 3, none⟩)
    | 1 => v = .int .i64 de
    | 2 => QZ W v (de : Rat)
    | 3 => v = .pointer (some ⟨gd, 2, none⟩)
    | 4 => v = .int .i64 st
    | 5 => IntZ W v st
    | 6 => v = .int .i64 x
    | 7 => IntZ W v x
    | 8 => IntZ W v (st * x)
    | 9 => ∃ A l c, v = .agg #[.bool false, .slice A l c] ∧ Z16 W (.slice A l c) 256
    | 10 => QZ W v (((st * x : Int) : Rat) / ((256 : Int) : Rat))
    | 11 => QZ W v (reachQ ⟨lv, dr, st, de⟩ x)
    | _ => True) (fun _ W => Ext w W) (by kernel_rfl) (by kernel_rfl) hsz (fun _ _ _ _ h => h) ((Ext.refl w).drew) ?_ ?_
  · clear hend
    simp only [rops, Try.f72, regOf, Option.bind_some, Nat.reduceBEq, if_true, if_false, Bool.false_eq_true, Option.getD_some]
    simp only [List.take_succ_cons, List.take_zero]
    refine ⟨?_, ?_, ?_, ?_, ?_, ?_, ?_, ?_, ?_, ?_, ?_, ?_, trivial⟩
    · intro done us W hJ hdep haft hnot b hb hb' K hK Q'
      have e3 := (hb' 3 (by simp)).trans s3
      clear hb hb'
      go_simp
      exact hK _ _ rfl (fun _ _ _ h => h) hJ
    · intro done us W hJ hdep haft hnot b hb hb' K hK Q'
      simp only [List.getD_cons_succ, List.getD_cons_zero, List.mem_cons, List.not_mem_nil, or_false, forall_eq] at hdep
      have e5 := hb 0 5 rfl
      have d0 := hdep
      rw [d0.1] at e5
      clear hb hb' hdep d0
      have q := Ext.cell hJ c3
      go_simp
      exact hK _ _ rfl (fun _ _ _ h => h) hJ
    · intro done us W hJ hdep haft hnot b hb hb' K hK Q'
      simp only [List.getD_cons_succ, List.getD_cons_zero, List.mem_cons, List.not_mem_nil, or_false, forall_eq] at hdep
      have e6 := hb 1 6 rfl
      have d1 := hdep
      rw [d1.1] at e6
      clear hb hb' hdep d1
      go_simp
      refine (whole_any de _ (by omega) (by omega)).mono ?_
      rintro e w' ⟨v, rfl, hv, hX⟩
      exact hK _ _ hv (fun j u _ h => hmono _ _ j u hX h) (Ext.trans hJ hX)
    · intro done us W hJ hdep haft hnot b hb hb' K hK Q'
      have e3 := (hb' 3 (by simp)).trans s3
      clear hb hb'
      go_simp
      exact hK _ _ rfl (fun _ _ _ h => h) hJ
    · intro done us W hJ hdep haft hnot b hb hb' K hK Q'
      simp only [List.getD_cons_succ, List.getD_cons_zero, List.mem_cons, List.not_mem_nil, or_false, forall_eq] at hdep
      have e8 := hb 3 8 rfl
      have d3 := hdep
      rw [d3.1] at e8
      clear hb hb' hdep d3
      have q := Ext.cell hJ c2
      go_simp
      exact hK _ _ rfl (fun _ _ _ h => h) hJ
    · intro done us W hJ hdep haft hnot b hb hb' K hK Q'
      simp only [List.getD_cons_succ, List.getD_cons_zero, List.mem_cons, List.not_mem_nil, or_false, forall_eq] at hdep
      have e9 := hb 4 9 rfl
      have d4 := hdep
      rw [d4.1] at e9
      clear hb hb' hdep d4
      go_simp
      refine (small_any st _ (by omega) (by omega)).mono ?_
      rintro e w' ⟨v, rfl, hv, hX⟩
      exact hK _ _ hv (fun j u _ h => hmono _ _ j u hX h) (Ext.trans hJ hX)
    · intro done us W hJ hdep haft hnot b hb hb' K hK Q'
      have e0 := (hb' 0 (by simp)).trans s0
      clear hb hb'
      go_simp
      exact hK _ _ rfl (fun _ _ _ h => h) hJ
    · intro done us W hJ hdep haft hnot b hb hb' K hK Q'
      simp only [List.getD_cons_succ, List.getD_cons_zero, List.mem_cons, List.not_mem_nil, or_false, forall_eq] at hdep
      have e11 := hb 6 11 rfl
      have d6 := hdep
      rw [d6.1] at e11
      clear hb hb' hdep d6
      go_simp
      refine (small_any x _ (by omega) (by omega)).mono ?_
      rintro e w' ⟨v, rfl, hv, hX⟩
      exact hK _ _ hv (fun j u _ h => hmono _ _ j u hX h) (Ext.trans hJ hX)
    · intro done us W hJ hdep haft hnot b hb hb' K hK Q'
      simp only [List.getD_cons_succ, List.getD_cons_zero, List.mem_cons, List.not_mem_nil, or_false, forall_eq_or_imp, forall_eq] at hdep
      have e10 := hb 5 10 rfl
      have e12 := hb 7 12 rfl
      have d5 := hdep.1
      have d7 := hdep.2
      clear hb hb' hdep 
      go_simp
      refine (zmul_any _ _ st x 4 4 _ d5.1 d7.1 (fit_small4 (by omega) (by omega)) (fit_small4 (by omega) (by omega)) (by omega) (by omega)).mono ?_
      rintro e w' ⟨v, rfl, hv, hX⟩
      exact hK _ _ hv (fun j u _ h => hmono _ _ j u hX h) (Ext.trans hJ hX)
    · intro done us W hJ hdep haft hnot b hb hb' K hK Q'
      clear hb hb'
      go_simp
      refine (small_any 256 _ (by omega) (by omega)).mono ?_
      rintro e w' ⟨v, rfl, ⟨A9, l9, c9, rfl, hz⟩, hX⟩
      exact hK _ _ ⟨A9, l9, c9, by rw [decide_eq_false (by omega)], hz⟩ (fun j u _ h => hmono _ _ j u hX h) (Ext.trans hJ hX)
    · intro done us W hJ hdep haft hnot b hb hb' K hK Q'
      simp only [List.getD_cons_succ, List.getD_cons_zero, List.mem_cons, List.not_mem_nil, or_false, forall_eq_or_imp, forall_eq] at hdep
      have e13 := hb 8 13 rfl
      have e14 := hb 9 14 rfl
      have d8 := hdep.1
      have d9 := hdep.2
      clear hb hb' hdep 
      obtain ⟨A9, l9, c9, hv9, g9⟩ := d9.1
      rw [hv9] at e14
      go_simp
      refine ((fracI _ (st * x) false A9 l9 c9 256 8 _ d8.1 g9 (fit8 (by omega) (by omega)) (fit8 (z := 256) (by omega) (by omega)) (by omega) (by omega)).mono (RetQz.of (ratV_div2 (st * x) (n := 256) (by omega)))).mono ?_
      rintro e w' ⟨v, rfl, hv, hX⟩
      exact hK _ _ hv (fun j u _ h => hmono _ _ j u hX h) (Ext.trans hJ hX)
    · intro done us W hJ hdep haft hnot b hb hb' K hK Q'
      simp only [List.getD_cons_succ, List.getD_cons_zero, List.mem_cons, List.not_mem_nil, or_false, forall_eq_or_imp, forall_eq] at hdep
      have e7 := hb 2 7 rfl
      have e15 := hb 10 15 rfl
      have d2 := hdep.1
      have d10 := hdep.2
      clear hb hb' hdep 
      go_simp
      refine (qadd_any _ _ (de : Rat) (((st * x : Int) : Rat) / ((256 : Int) : Rat)) 4 8 _ d2.1 d10.1 (fitR_small (by omega) (by omega)) (fitR8 (by omega) (by omega)) (by omega)).mono ?_
      rintro e w' ⟨v, rfl, hv, hX⟩
      exact hK _ _ hv (fun j u _ h => hmono _ _ j u hX h) (Ext.trans hJ hX)
  · intro us W hV hJ
    exact hend (us 0) (us 1) (us 2) (us 3) (us 4) (us 5) (us 6) (us 7) (us 8) (us 9) (us 10) (us 11) W (hV 0 (by omega)) (hV 1 (by omega)) (hV 2 (by omega)) (hV 3 (by omega)) (hV 4 (by omega)) (hV 5 (by omega)) (hV 6 (by omega)) (hV 7 (by omega)) (hV 8 (by omega)) (hV 9 (by omega)) (hV 10 (by omega)) (hV 11 (by omega)) hJ
set_option maxRecDepth 100000 in
set_option maxHeartbeats 2000000 in
theorem reach_any (x lv dr st de : Int) (w : World) (hd : DetOk ⟨lv, dr, st, de⟩) (hx0 : -1152921504606846976 ≤ x) (hx1 : x ≤ 1152921504606846976) :
    Calls Try.prog 72 #[.int .i64 x, .agg #[.int .i64 lv, .int .i64 dr, .int .i64 st, .int .i64 de]] w (RetQz w (reachQ ⟨lv, dr, st, de⟩ x)) := by
  obtain ⟨hm0, hm1⟩ := step_bound hd hx0 hx1
  simp only at hm0 hm1
  have hs0 : 1 ≤ st := hd.2.2.2.2.1
  have hs1 : st ≤ 10000 := hd.2.2.2.2.2.1
  have hd0 : -1048576 ≤ de := hd.2.2.2.2.2.2.1
  have hd1 : de ≤ 1048576 := hd.2.2.2.2.2.2.2
  have HM := Lib.hid (And.intro hm0 hm1)
  clear hd hm0 hm1
  have hXe : Ext w ((w.alloc (.cells #[.int .i64 lv, .int .i64 dr, .int .i64 st, .int .i64 de] 33)).alloc (.cells #[.bool false, .slice none 0 0, .slice none 0 0] 101)) := (((Ext.refl w).alloc _).alloc _)
  have kD : Blk ((w.alloc (.cells #[.int .i64 lv, .int .i64 dr, .int .i64 st, .int .i64 de] 33)).alloc (.cells #[.bool false, .slice none 0 0, .slice none 0 0] 101)) w.heap.size 33 #[.int .i64 lv, .int .i64 dr, .int .i64 st, .int .i64 de] := Blk.alloc (Blk.at_ (by simp)) _
  have kR : Blk ((w.alloc (.cells #[.int .i64 lv, .int .i64 dr, .int .i64 st, .int .i64 de] 33)).alloc (.cells #[.bool false, .slice none 0 0, .slice none 0 0] 101)) (w.heap.size + 1) 101 #[.bool false, .slice none 0 0, .slice none 0 0] := Blk.at_ (by simp)
  go_enter Try.func72, Try.ntmps72
  go_upto_region 1 with (fail)
  generalize ((w.alloc (.cells #[.int .i64 lv, .int .i64 dr, .int .i64 st, .int .i64 de] 33)).alloc (.cells #[.bool false, .slice none 0 0, .slice none 0 0] 101)) = w1 at hXe kD kR ⊢
  have HX := Lib.hid hXe
  clear hXe
  have KD := Lib.hid kD
  clear kD
  have KR := Lib.hid kR
  clear kR
  go_wp2_with fail
  refine reach_r1 w.heap.size x lv dr st de w1 (KD.out.cell 2) (KD.out.cell 3) hs0 hs1 hd0 hd1 hx0 hx1 HM.out.1 HM.out.2 _ _ (by simp) rfl rfl ?_
  rintro xv0 xv1 xv2 xv3 xv4 xv5 xv6 xv7 xv8 xv9 xv10 xv11 w2 rfl rfl h2 rfl rfl h5 rfl h7 h8 h9 h10 h11 hXW
  simp only [rops, Try.f72, regOf, Option.bind_some, Nat.reduceBEq, if_true, if_false, Bool.false_eq_true, Option.getD_some, List.drop_succ_cons, List.drop_zero]
  simp only [Act.put, List.setIfInBounds_toArray, List.set_cons_succ, List.set_cons_zero]
  replace HX := Lib.hid (HX.out.trans hXW)
  replace KD := Lib.hid (KD.out.ext hXW)
  replace KR := Lib.hid (KR.out.ext hXW)
  clear hXW
  obtain ⟨s6, A6, l6, c6, B6, m6, k6, hv6⟩ := QZ.open h11
  rw [hv6] at h11
  subst hv6
  have HQ := Lib.hid h11
  clear h2 h5 h7 h8 h9 h10 h11
  have cR0 : w2.cell? ⟨(w.heap.size + 1), 0, none⟩ = some (.bool false) := KR.out.cell 0
  have fR0 : w2.frozen? ⟨(w.heap.size + 1), 0, none⟩ = false := KR.out.free 0
  have cR1 : w2.cell? ⟨(w.heap.size + 1), 1, none⟩ = some (.slice none 0 0) := KR.out.cell 1
  have fR1 : w2.frozen? ⟨(w.heap.size + 1), 1, none⟩ = false := KR.out.free 1
  have cR2 : w2.cell? ⟨(w.heap.size + 1), 2, none⟩ = some (.slice none 0 0) := KR.out.cell 2
  have fR2 : w2.frozen? ⟨(w.heap.size + 1), 2, none⟩ = false := KR.out.free 2
  go_wp2
  refine bodyPost_ret (v := .agg #[.bool s6, .slice A6 l6 c6, .slice B6 m6 k6]) (by simp [results, Try.results72, go_sem, *]) rfl ?_
  exact ⟨_, rfl, HQ.out.past (NoInts.three KR.out), HX.out.boxed (by omega) _ _ _⟩

set_option maxRecDepth 100000 in
set_option maxHeartbeats 4000000 in
theorem rangeR_det (a b lv dr st de : Int) (w : World) (hd : ¬ DetOk ⟨lv, dr, st, de⟩) :
    Calls Try.prog 46 #[.agg #[.int .i64 a, .int .i64 b], .agg #[.int .i64 lv, .int .i64 dr, .int .i64 st, .int .i64 de]] w (RetRg w (rangeF a b ⟨lv, dr, st, de⟩)) := by
  have HR : Hid (rangeF a b ⟨lv, dr, st, de⟩ = ((0, 0), 31)) := Lib.hid (by unfold rangeF; rw [if_pos hd])
  have QD : Hid (decide (DetOk ⟨lv, dr, st, de⟩) = false) := Lib.hid (decide_eq_false hd)
  clear hd
  have hXe : Ext w (((w.alloc (.cells #[.int .i64 a, .int .i64 b] 44)).alloc (.cells #[.int .i64 lv, .int .i64 dr, .int .i64 st, .int .i64 de] 33)).alloc (.cells #[.int .i64 0, .int .i64 0] 44)) := ((((Ext.refl w).alloc _).alloc _).alloc _)
  have kT : Blk (((w.alloc (.cells #[.int .i64 a, .int .i64 b] 44)).alloc (.cells #[.int .i64 lv, .int .i64 dr, .int .i64 st, .int .i64 de] 33)).alloc (.cells #[.int .i64 0, .int .i64 0] 44)) w.heap.size 44 #[.int .i64 a, .int .i64 b] := Blk.alloc (Blk.alloc (Blk.at_ (by simp)) _) _
  have kD : Blk (((w.alloc (.cells #[.int .i64 a, .int .i64 b] 44)).alloc (.cells #[.int .i64 lv, .int .i64 dr, .int .i64 st, .int .i64 de] 33)).alloc (.cells #[.int .i64 0, .int .i64 0] 44)) (w.heap.size + 1) 33 #[.int .i64 lv, .int .i64 dr, .int .i64 st, .int .i64 de] := Blk.alloc (Blk.at_ (by simp)) _
  have kR : Blk (((w.alloc (.cells #[.int .i64 a, .int .i64 b] 44)).alloc (.cells #[.int .i64 lv, .int .i64 dr, .int .i64 st, .int .i64 de] 33)).alloc (.cells #[.int .i64 0, .int .i64 0] 44)) (w.heap.size + 2) 44 #[.int .i64 0, .int .i64 0] := Blk.at_ (by simp)
  go_enter Try.func46, Try.ntmps46
  go_wp2_with fail
  generalize (((w.alloc (.cells #[.int .i64 a, .int .i64 b] 44)).alloc (.cells #[.int .i64 lv, .int .i64 dr, .int .i64 st, .int .i64 de] 33)).alloc (.cells #[.int .i64 0, .int .i64 0] 44)) = w1 at hXe kT kD kR ⊢
  have HX := Lib.hid hXe
  clear hXe
  have KT := Lib.hid kT
  clear kT
  have KD := Lib.hid kD
  clear kD
  have KR := Lib.hid kR
  clear kR
  have cD0 : w1.cell? ⟨(w.heap.size + 1), 0, none⟩ = some (.int .i64 lv) := KD.out.cell 0
  have cD1 : w1.cell? ⟨(w.heap.size + 1), 1, none⟩ = some (.int .i64 dr) := KD.out.cell 1
  have cD2 : w1.cell? ⟨(w.heap.size + 1), 2, none⟩ = some (.int .i64 st) := KD.out.cell 2
  have cD3 : w1.cell? ⟨(w.heap.size + 1), 3, none⟩ = some (.int .i64 de) := KD.out.cell 3
  go_wp2_with fail
  clear cD0 cD1 cD2 cD3
  refine (detR_any ⟨lv, dr, st, de⟩ _).mono ?_
  rw [QD.out]
  rintro e w2 ⟨rfl, hX⟩
  replace hX : Ext w1 w2 := by with_reducible exact hX
  replace HX := Lib.hid (HX.out.trans hX)
  replace KT := Lib.hid (KT.out.ext hX)
  replace KD := Lib.hid (KD.out.ext hX)
  replace KR := Lib.hid (KR.out.ext hX)
  clear hX
  have cR0 : w2.cell? ⟨(w.heap.size + 2), 0, none⟩ = some (.int .i64 0) := KR.out.cell 0
  have fR0 : w2.frozen? ⟨(w.heap.size + 2), 0, none⟩ = false := KR.out.free 0
  have cR1 : w2.cell? ⟨(w.heap.size + 2), 1, none⟩ = some (.int .i64 0) := KR.out.cell 1
  have fR1 : w2.frozen? ⟨(w.heap.size + 2), 1, none⟩ = false := KR.out.free 1
  go_wp2
  refine bodyPost_ret (v := .tuple #[.agg #[.int .i64 0, .int .i64 0], .int .i64 31]) (by simp [results, Try.results46, go_sem, *]) rfl ?_
  exact ⟨by rw [HR.out], HX.out.two (by omega) _ _⟩

set_option maxRecDepth 100000 in
set_option maxHeartbeats 4000000 in
theorem rangeR_val (a b lv dr st de : Int) (w : World) (hd : DetOk ⟨lv, dr, st, de⟩) (ho : ¬ okR a b) :
    Calls Try.prog 46 #[.agg #[.int .i64 a, .int .i64 b], .agg #[.int .i64 lv, .int .i64 dr, .int .i64 st, .int .i64 de]] w (RetRg w (rangeF a b ⟨lv, dr, st, de⟩)) := by
  have HR : Hid (rangeF a b ⟨lv, dr, st, de⟩ = ((0, 0), 2)) := Lib.hid (by unfold rangeF; rw [if_neg (fun h => h hd), if_pos ho])
  have QD : Hid (decide (DetOk ⟨lv, dr, st, de⟩) = true) := Lib.hid (decide_eq_true hd)
  have HDT := Lib.hid hd
  have QV : Hid (decide (okR a b) = false) := Lib.hid (decide_eq_false ho)
  clear hd ho
  have hXe : Ext w (((w.alloc (.cells #[.int .i64 a, .int .i64 b] 44)).alloc (.cells #[.int .i64 lv, .int .i64 dr, .int .i64 st, .int .i64 de] 33)).alloc (.cells #[.int .i64 0, .int .i64 0] 44)) := ((((Ext.refl w).alloc _).alloc _).alloc _)
  have kT : Blk (((w.alloc (.cells #[.int .i64 a, .int .i64 b] 44)).alloc (.cells #[.int .i64 lv, .int .i64 dr, .int .i64 st, .int .i64 de] 33)).alloc (.cells #[.int .i64 0, .int .i64 0] 44)) w.heap.size 44 #[.int .i64 a, .int .i64 b] := Blk.alloc (Blk.alloc (Blk.at_ (by simp)) _) _
  have kD : Blk (((w.alloc (.cells #[.int .i64 a, .int .i64 b] 44)).alloc (.cells #[.int .i64 lv, .int .i64 dr, .int .i64 st, .int .i64 de] 33)).alloc (.cells #[.int .i64 0, .int .i64 0] 44)) (w.heap.size + 1) 33 #[.int .i64 lv, .int .i64 dr, .int .i64 st, .int .i64 de] := Blk.alloc (Blk.at_ (by simp)) _
  have kR : Blk (((w.alloc (.cells #[.int .i64 a, .int .i64 b] 44)).alloc (.cells #[.int .i64 lv, .int .i64 dr, .int .i64 st, .int .i64 de] 33)).alloc (.cells #[.int .i64 0, .int .i64 0] 44)) (w.heap.size + 2) 44 #[.int .i64 0, .int .i64 0] := Blk.at_ (by simp)
  go_enter Try.func46, Try.ntmps46
  go_wp2_with fail
  generalize (((w.alloc (.cells #[.int .i64 a, .int .i64 b] 44)).alloc (.cells #[.int .i64 lv, .int .i64 dr, .int .i64 st, .int .i64 de] 33)).alloc (.cells #[.int .i64 0, .int .i64 0] 44)) = w1 at hXe kT kD kR ⊢
  have HX := Lib.hid hXe
  clear hXe
  have KT := Lib.hid kT
  clear kT
  have KD := Lib.hid kD
  clear kD
  have KR := Lib.hid kR
  clear kR
  have cD0 : w1.cell? ⟨(w.heap.size + 1), 0, none⟩ = some (.int .i64 lv) := KD.out.cell 0
  have cD1 : w1.cell? ⟨(w.heap.size + 1), 1, none⟩ = some (.int .i64 dr) := KD.out.cell 1
  have cD2 : w1.cell? ⟨(w.heap.size + 1), 2, none⟩ = some (.int .i64 st) := KD.out.cell 2
  have cD3 : w1.cell? ⟨(w.heap.size + 1), 3, none⟩ = some (.int .i64 de) := KD.out.cell 3
  go_wp2_with fail
  clear cD0 cD1 cD2 cD3
  refine (detR_any ⟨lv, dr, st, de⟩ _).mono ?_
  rw [QD.out]
  rintro e w2 ⟨rfl, hX⟩
  replace hX : Ext w1 w2 := by with_reducible exact hX
  replace HX := Lib.hid (HX.out.trans hX)
  replace KT := Lib.hid (KT.out.ext hX)
  replace KD := Lib.hid (KD.out.ext hX)
  replace KR := Lib.hid (KR.out.ext hX)
  clear hX
  have cT0 : w2.cell? ⟨w.heap.size, 0, none⟩ = some (.int .i64 a) := KT.out.cell 0
  have cT1 : w2.cell? ⟨w.heap.size, 1, none⟩ = some (.int .i64 b) := KT.out.cell 1
  go_wp2_with fail
  clear cT0 cT1
  refine (evalidR_is QV.out _).mono ?_
  rintro e w3 ⟨rfl, hX⟩
  replace hX : Ext w2 w3 := by with_reducible exact hX
  replace HX := Lib.hid (HX.out.trans hX)
  replace KT := Lib.hid (KT.out.ext hX)
  replace KD := Lib.hid (KD.out.ext hX)
  replace KR := Lib.hid (KR.out.ext hX)
  clear hX
  have cR0 : w3.cell? ⟨(w.heap.size + 2), 0, none⟩ = some (.int .i64 0) := KR.out.cell 0
  have fR0 : w3.frozen? ⟨(w.heap.size + 2), 0, none⟩ = false := KR.out.free 0
  have cR1 : w3.cell? ⟨(w.heap.size + 2), 1, none⟩ = some (.int .i64 0) := KR.out.cell 1
  have fR1 : w3.frozen? ⟨(w.heap.size + 2), 1, none⟩ = false := KR.out.free 1
  go_wp2
  refine bodyPost_ret (v := .tuple #[.agg #[.int .i64 0, .int .i64 0], .int .i64 2]) (by simp [results, Try.results46, go_sem, *]) rfl ?_
  exact ⟨by rw [HR.out], HX.out.two (by omega) _ _⟩

set_option maxRecDepth 100000 in
set_option maxHeartbeats 4000000 in
theorem rangeR_ok (a b lv dr st de : Int) (w : World) (hd : DetOk ⟨lv, dr, st, de⟩) (ho : okR a b) :
    Calls Try.prog 46 #[.agg #[.int .i64 a, .int .i64 b], .agg #[.int .i64 lv, .int .i64 dr, .int .i64 st, .int .i64 de]] w (RetRg w (rangeF a b ⟨lv, dr, st, de⟩)) := by
  have QD : Hid (decide (DetOk ⟨lv, dr, st, de⟩) = true) := Lib.hid (decide_eq_true hd)
  have HDT := Lib.hid hd
  have QV : Hid (decide (okR a b) = true) := Lib.hid (decide_eq_true ho)
  have HOK := Lib.hid ho
  have hr := rangeF_sp hd ho
  obtain ⟨hr1, hr2⟩ := reach_span hd ho.2.1
  have HRS := Lib.hid (And.intro hr1 hr2)
  have HRR := Lib.hid hr
  have HFA := Lib.hid (fitR_reach (x := a) hd ho.1 (by have := ho.2; omega))
  have HFB := Lib.hid (fitR_reach (x := b) hd (by have := ho.1; have := ho.2; omega) ho.2.2)
  clear hr hr1 hr2 hd ho
  
  have hXe : Ext w (((w.alloc (.cells #[.int .i64 a, .int .i64 b] 44)).alloc (.cells #[.int .i64 lv, .int .i64 dr, .int .i64 st, .int .i64 de] 33)).alloc (.cells #[.int .i64 0, .int .i64 0] 44)) := ((((Ext.refl w).alloc _).alloc _).alloc _)
  have kT : Blk (((w.alloc (.cells #[.int .i64 a, .int .i64 b] 44)).alloc (.cells #[.int .i64 lv, .int .i64 dr, .int .i64 st, .int .i64 de] 33)).alloc (.cells #[.int .i64 0, .int .i64 0] 44)) w.heap.size 44 #[.int .i64 a, .int .i64 b] := Blk.alloc (Blk.alloc (Blk.at_ (by simp)) _) _
  have kD : Blk (((w.alloc (.cells #[.int .i64 a, .int .i64 b] 44)).alloc (.cells #[.int .i64 lv, .int .i64 dr, .int .i64 st, .int .i64 de] 33)).alloc (.cells #[.int .i64 0, .int .i64 0] 44)) (w.heap.size + 1) 33 #[.int .i64 lv, .int .i64 dr, .int .i64 st, .int .i64 de] := Blk.alloc (Blk.at_ (by simp)) _
  have kR : Blk (((w.alloc (.cells #[.int .i64 a, .int .i64 b] 44)).alloc (.cells #[.int .i64 lv, .int .i64 dr, .int .i64 st, .int .i64 de] 33)).alloc (.cells #[.int .i64 0, .int .i64 0] 44)) (w.heap.size + 2) 44 #[.int .i64 0, .int .i64 0] := Blk.at_ (by simp)
  go_enter Try.func46, Try.ntmps46
  go_wp2_with fail
  generalize (((w.alloc (.cells #[.int .i64 a, .int .i64 b] 44)).alloc (.cells #[.int .i64 lv, .int .i64 dr, .int .i64 st, .int .i64 de] 33)).alloc (.cells #[.int .i64 0, .int .i64 0] 44)) = w1 at hXe kT kD kR ⊢
  have HX := Lib.hid hXe
  clear hXe
  have KT := Lib.hid kT
  clear kT
  have KD := Lib.hid kD
  clear kD
  have KR := Lib.hid kR
  clear kR
  have cD0 : w1.cell? ⟨(w.heap.size + 1), 0, none⟩ = some (.int .i64 lv) := KD.out.cell 0
  have cD1 : w1.cell? ⟨(w.heap.size + 1), 1, none⟩ = some (.int .i64 dr) := KD.out.cell 1
  have cD2 : w1.cell? ⟨(w.heap.size + 1), 2, none⟩ = some (.int .i64 st) := KD.out.cell 2
  have cD3 : w1.cell? ⟨(w.heap.size + 1), 3, none⟩ = some (.int .i64 de) := KD.out.cell 3
  go_wp2_with fail
  clear cD0 cD1 cD2 cD3
  refine (detR_any ⟨lv, dr, st, de⟩ _).mono ?_
  rw [QD.out]
  rintro e w2 ⟨rfl, hX⟩
  replace hX : Ext w1 w2 := by with_reducible exact hX
  replace HX := Lib.hid (HX.out.trans hX)
  replace KT := Lib.hid (KT.out.ext hX)
  replace KD := Lib.hid (KD.out.ext hX)
  replace KR := Lib.hid (KR.out.ext hX)
  clear hX
  have cT0 : w2.cell? ⟨w.heap.size, 0, none⟩ = some (.int .i64 a) := KT.out.cell 0
  have cT1 : w2.cell? ⟨w.heap.size, 1, none⟩ = some (.int .i64 b) := KT.out.cell 1
  go_wp2_with fail
  clear cT0 cT1
  refine (evalidR_is QV.out _).mono ?_
  rintro e w3 ⟨rfl, hX⟩
  replace hX : Ext w2 w3 := by with_reducible exact hX
  replace HX := Lib.hid (HX.out.trans hX)
  replace KT := Lib.hid (KT.out.ext hX)
  replace KD := Lib.hid (KD.out.ext hX)
  replace KR := Lib.hid (KR.out.ext hX)
  clear hX
  have cT0 : w3.cell? ⟨w.heap.size, 0, none⟩ = some (.int .i64 a) := KT.out.cell 0
  have cT1 : w3.cell? ⟨w.heap.size, 1, none⟩ = some (.int .i64 b) := KT.out.cell 1
  have cD0 : w3.cell? ⟨(w.heap.size + 1), 0, none⟩ = some (.int .i64 lv) := KD.out.cell 0
  have cD1 : w3.cell? ⟨(w.heap.size + 1), 1, none⟩ = some (.int .i64 dr) := KD.out.cell 1
  have cD2 : w3.cell? ⟨(w.heap.size + 1), 2, none⟩ = some (.int .i64 st) := KD.out.cell 2
  have cD3 : w3.cell? ⟨(w.heap.size + 1), 3, none⟩ = some (.int .i64 de) := KD.out.cell 3
  go_wp2_with fail
  clear cT0 cT1 cD0 cD1 cD2 cD3
  refine (reach_any a lv dr st de _ HDT.out (by have := HOK.out; unfold okR at this; omega) (by have := HOK.out; unfold okR at this; omega)).mono ?_
  rintro e w4 ⟨v5, rfl, hq5, hX⟩
  replace hX : Ext w3 w4 := by with_reducible exact hX
  replace HX := Lib.hid (HX.out.trans hX)
  replace KT := Lib.hid (KT.out.ext hX)
  replace KD := Lib.hid (KD.out.ext hX)
  replace KR := Lib.hid (KR.out.ext hX)
  clear hX
  obtain ⟨s5, A5, l5, c5, B5, m5, k5, hv⟩ := QZ.open hq5
  subst hv
  have HQ5 := Lib.hid hq5
  clear hq5
  go_upto_region 6 with (fail)
  have hXa : Ext w4 (w4.alloc (.cells #[.bool s5, .slice A5 l5 c5, .slice B5 m5 k5] 101)) := (Ext.refl _).alloc _
  have kX := Blk.new w4 101 #[.bool s5, .slice A5 l5 c5, .slice B5 m5 k5]
  have zT := KT.out.lt
  have zD := KD.out.lt
  have zR := KR.out.lt
  have zg := HX.out.size
  replace HX := Lib.hid (HX.out.trans hXa)
  replace HQ5 := Lib.hid (HQ5.out.ext hXa)
  replace KT := Lib.hid (KT.out.ext hXa)
  replace KD := Lib.hid (KD.out.ext hXa)
  replace KR := Lib.hid (KR.out.ext hXa)
  generalize (w4.alloc (.cells #[.bool s5, .slice A5 l5 c5, .slice B5 m5 k5] 101)) = w5 at HX HQ5 KT KD KR kX ⊢
  have KX := Lib.hid kX
  clear kX hXa
  have cT0 : w5.cell? ⟨w.heap.size, 0, none⟩ = some (.int .i64 a) := KT.out.cell 0
  have cT1 : w5.cell? ⟨w.heap.size, 1, none⟩ = some (.int .i64 b) := KT.out.cell 1
  have cD0 : w5.cell? ⟨(w.heap.size + 1), 0, none⟩ = some (.int .i64 lv) := KD.out.cell 0
  have cD1 : w5.cell? ⟨(w.heap.size + 1), 1, none⟩ = some (.int .i64 dr) := KD.out.cell 1
  have cD2 : w5.cell? ⟨(w.heap.size + 1), 2, none⟩ = some (.int .i64 st) := KD.out.cell 2
  have cD3 : w5.cell? ⟨(w.heap.size + 1), 3, none⟩ = some (.int .i64 de) := KD.out.cell 3
  go_wp2_with fail
  clear cT0 cT1 cD0 cD1 cD2 cD3
  refine (reach_any b lv dr st de _ HDT.out (by have := HOK.out; unfold okR at this; omega) (by have := HOK.out; unfold okR at this; omega)).mono ?_
  rintro e w6 ⟨v6, rfl, hq6, hX⟩
  replace hX : Ext w5 w6 := by with_reducible exact hX
  replace HX := Lib.hid (HX.out.trans hX)
  replace HQ5 := Lib.hid (HQ5.out.ext hX)
  replace KT := Lib.hid (KT.out.ext hX)
  replace KD := Lib.hid (KD.out.ext hX)
  replace KR := Lib.hid (KR.out.ext hX)
  replace KX := Lib.hid (KX.out.ext hX)
  clear hX
  obtain ⟨s6, A6, l6, c6, B6, m6, k6, hv⟩ := QZ.open hq6
  subst hv
  have HQ6 := Lib.hid hq6
  clear hq6
  go_upto_region 7 with (fail)
  have hXa : Ext w6 (w6.alloc (.cells #[.bool s6, .slice A6 l6 c6, .slice B6 m6 k6] 101)) := (Ext.refl _).alloc _
  have kY := Blk.new w6 101 #[.bool s6, .slice A6 l6 c6, .slice B6 m6 k6]
  have zT := KT.out.lt
  have zD := KD.out.lt
  have zR := KR.out.lt
  have zX := KX.out.lt
  have zg := HX.out.size
  replace HX := Lib.hid (HX.out.trans hXa)
  replace HQ5 := Lib.hid (HQ5.out.ext hXa)
  replace HQ6 := Lib.hid (HQ6.out.ext hXa)
  replace KT := Lib.hid (KT.out.ext hXa)
  replace KD := Lib.hid (KD.out.ext hXa)
  replace KR := Lib.hid (KR.out.ext hXa)
  replace KX := Lib.hid (KX.out.ext hXa)
  generalize (w6.alloc (.cells #[.bool s6, .slice A6 l6 c6, .slice B6 m6 k6] 101)) = w7 at HX HQ5 HQ6 KT KD KR KX kY ⊢
  have KY := Lib.hid kY
  clear kY hXa
  have cX0 : w7.cell? ⟨w4.heap.size, 0, none⟩ = some (.bool s5) := KX.out.cell 0
  have cX1 : w7.cell? ⟨w4.heap.size, 1, none⟩ = some (.slice A5 l5 c5) := KX.out.cell 1
  have cX2 : w7.cell? ⟨w4.heap.size, 2, none⟩ = some (.slice B5 m5 k5) := KX.out.cell 2
  have cY0 : w7.cell? ⟨w6.heap.size, 0, none⟩ = some (.bool s6) := KY.out.cell 0
  have cY1 : w7.cell? ⟨w6.heap.size, 1, none⟩ = some (.slice A6 l6 c6) := KY.out.cell 1
  have cY2 : w7.cell? ⟨w6.heap.size, 2, none⟩ = some (.slice B6 m6 k6) := KY.out.cell 2
  go_wp2_with fail
  clear cX0 cX1 cX2 cY0 cY1 cY2
  have hXa : Ext w7 (w7.alloc (.cells #[.bool s5, .slice A5 l5 c5, .slice B5 m5 k5, .bool s6, .slice A6 l6 c6, .slice B6 m6 k6] 101)) := (Ext.refl _).alloc _
  have hqa := qsAt_two (Blk.new w7 101 #[.bool s5, .slice A5 l5 c5, .slice B5 m5 k5, .bool s6, .slice A6 l6 c6, .slice B6 m6 k6]) (QZ.ext HQ5.out hXa) (QZ.ext HQ6.out hXa)
  replace HX := Lib.hid (HX.out.trans hXa)
  replace HQ5 := Lib.hid (HQ5.out.ext hXa)
  replace HQ6 := Lib.hid (HQ6.out.ext hXa)
  replace KT := Lib.hid (KT.out.ext hXa)
  replace KD := Lib.hid (KD.out.ext hXa)
  replace KR := Lib.hid (KR.out.ext hXa)
  replace KX := Lib.hid (KX.out.ext hXa)
  replace KY := Lib.hid (KY.out.ext hXa)
  clear hXa
  refine (around_any _ 1 2 8 _ _ hqa (by omega) (fun z hz => by simp at hz; rcases hz with rfl | rfl; exact HFA.out; exact HFB.out) (by omega)).mono ?_
  rw [HRS.out.1, HRS.out.2]
  rintro e w8 ⟨rfl, hX⟩
  replace HX := Lib.hid (HX.out.trans hX)
  replace HQ5 := Lib.hid (HQ5.out.ext hX)
  replace HQ6 := Lib.hid (HQ6.out.ext hX)
  replace KT := Lib.hid (KT.out.ext hX)
  replace KD := Lib.hid (KD.out.ext hX)
  replace KR := Lib.hid (KR.out.ext hX)
  replace KX := Lib.hid (KX.out.ext hX)
  replace KY := Lib.hid (KY.out.ext hX)
  clear hX hqa
  generalize spA (rngLo ⟨lv, dr, st, de⟩ a) (rngHi ⟨lv, dr, st, de⟩ b) = x1 at HRR ⊢
  generalize spB (rngLo ⟨lv, dr, st, de⟩ a) (rngHi ⟨lv, dr, st, de⟩ b) = x2 at HRR ⊢
  generalize spC (rngLo ⟨lv, dr, st, de⟩ a) (rngHi ⟨lv, dr, st, de⟩ b) = er at HRR ⊢
  go_upto_region 8 with (fail)
  have hXa : Ext w8 (w8.alloc (.cells #[.int .i64 x1, .int .i64 x2] 44)) := (Ext.refl _).alloc _
  have kS := Blk.new w8 44 #[.int .i64 x1, .int .i64 x2]
  have zT := KT.out.lt
  have zD := KD.out.lt
  have zR := KR.out.lt
  have zX := KX.out.lt
  have zY := KY.out.lt
  have zg := HX.out.size
  replace HX := Lib.hid (HX.out.trans hXa)
  replace HQ5 := Lib.hid (HQ5.out.ext hXa)
  replace HQ6 := Lib.hid (HQ6.out.ext hXa)
  replace KT := Lib.hid (KT.out.ext hXa)
  replace KD := Lib.hid (KD.out.ext hXa)
  replace KR := Lib.hid (KR.out.ext hXa)
  replace KX := Lib.hid (KX.out.ext hXa)
  replace KY := Lib.hid (KY.out.ext hXa)
  generalize (w8.alloc (.cells #[.int .i64 x1, .int .i64 x2] 44)) = w9 at HX HQ5 HQ6 KT KD KR KX KY kS ⊢
  have KS := Lib.hid kS
  clear kS hXa
  have cR0 : w9.cell? ⟨(w.heap.size + 2), 0, none⟩ = some (.int .i64 0) := KR.out.cell 0
  have fR0 : w9.frozen? ⟨(w.heap.size + 2), 0, none⟩ = false := KR.out.free 0
  have cR1 : w9.cell? ⟨(w.heap.size + 2), 1, none⟩ = some (.int .i64 0) := KR.out.cell 1
  have fR1 : w9.frozen? ⟨(w.heap.size + 2), 1, none⟩ = false := KR.out.free 1
  have cS0 : w9.cell? ⟨w8.heap.size, 0, none⟩ = some (.int .i64 x1) := KS.out.cell 0
  have cS1 : w9.cell? ⟨w8.heap.size, 1, none⟩ = some (.int .i64 x2) := KS.out.cell 1
  by_cases he : er ≠ 0
  · have HR : Hid (rangeF a b ⟨lv, dr, st, de⟩ = ((0, 0), 33)) := Lib.hid (by rw [HRR.out, if_pos (.inl he)])
    have qe : (er != 0) = true := by simpa using he
    go_wp2
    refine bodyPost_ret (v := .tuple #[.agg #[.int .i64 0, .int .i64 0], .int .i64 33]) (by simp [results, Try.results46, go_sem, *]) rfl ?_
    exact ⟨by rw [HR.out], HX.out.two (by omega) _ _⟩
  have he' : er = 0 := Decidable.not_not.1 he
  have qe : (er != 0) = false := by simpa using he'
  have HE := Lib.hid he'
  clear he he'
  by_cases hp : x1 < 0
  · have HR : Hid (rangeF a b ⟨lv, dr, st, de⟩ = ((0, 0), 33)) := Lib.hid (by rw [HRR.out, if_pos (.inr (.inl hp))])
    go_wp2
    refine bodyPost_ret (v := .tuple #[.agg #[.int .i64 0, .int .i64 0], .int .i64 33]) (by simp [results, Try.results46, go_sem, *]) rfl ?_
    exact ⟨by rw [HR.out], HX.out.two (by omega) _ _⟩
  by_cases hq : 4194304 < x2
  · have HR : Hid (rangeF a b ⟨lv, dr, st, de⟩ = ((0, 0), 33)) := Lib.hid (by rw [HRR.out, if_pos (.inr (.inr hq))])
    go_wp2
    refine bodyPost_ret (v := .tuple #[.agg #[.int .i64 0, .int .i64 0], .int .i64 33]) (by simp [results, Try.results46, go_sem, *]) rfl ?_
    exact ⟨by rw [HR.out], HX.out.two (by omega) _ _⟩
  have HR : Hid (rangeF a b ⟨lv, dr, st, de⟩ = ((x1, x2), 0)) := Lib.hid (by rw [HRR.out, if_neg (by rw [HE.out]; omega)])
  go_wp2
  refine bodyPost_ret (v := .tuple #[.agg #[.int .i64 x1, .int .i64 x2], .int .i64 0]) (by simp [results, Try.results46, go_sem, *]) rfl ?_
  exact ⟨by rw [HR.out], HX.out.two (by omega) _ _⟩

theorem rangeR_any (a b : Int) (d : Det) (w : World) : Calls Try.prog 46 #[.agg #[.int .i64 a, .int .i64 b], .agg #[.int .i64 d.level, .int .i64 d.drop, .int .i64 d.step, .int .i64 d.delay]] w (RetRg w (rangeF a b d)) := by
  obtain ⟨lv, dr, st, de⟩ := d
  by_cases hd : DetOk ⟨lv, dr, st, de⟩
  · by_cases ho : okR a b
    · exact rangeR_ok a b lv dr st de w hd ho
    · exact rangeR_val a b lv dr st de w hd ho
  · exact rangeR_det a b lv dr st de w hd

end Go.Proofs.Ytagcgldhhdecjaa
namespace Go.Proofs.Ytagcgldhhdecjaa
open Go.RowKit

def Ret.cells (r : Ret) : List Value := [.int .i64 r.num, .int .i64 r.of, .int .i64 r.lo, .int .i64 r.hi, .int .i64 r.top, .int .i64 r.energy]
/-- Returns as cells. -/
def rtV (rs : List Ret) : List Value := rs.flatMap Ret.cells
theorem rtV_len (rs : List Ret) : (rtV rs).length = rs.length * 6 := by
  induction rs with
  | nil => rfl
  | cons r rs ih => unfold rtV at ih ⊢; rw [List.flatMap_cons, List.length_append, ih]; simp [Ret.cells]; omega
theorem rtV_snoc (rs : List Ret) (r : Ret) : rtV (rs ++ [r]) = rtV rs ++ r.cells := by simp [rtV]
theorem rtV_get {rs : List Ret} {j : Nat} {r : Ret} (h : rs[j]? = some r) : ∀ i u, r.cells[i]? = some u → (rtV rs)[j * 6 + i]? = some u := by
  induction rs generalizing j with
  | nil => simp at h
  | cons x rs ih =>
    intro i u hi
    have e1 : rtV (x :: rs) = x.cells ++ rtV rs := rfl
    have hl : x.cells.length = 6 := rfl
    rw [e1]
    cases j with
    | zero =>
      simp at h; subst h
      have : i < 6 := by have := (List.getElem?_eq_some_iff.1 hi).1; simpa [Ret.cells] using this
      rw [List.getElem?_append_left (by omega)]
      simpa using hi
    | succ j =>
      rw [List.getElem?_append_right (by omega), hl, show (j + 1) * 6 + i - 6 = j * 6 + i by omega]
      exact ih (by simpa using h) i u hi
/-- A slice of returns reads as rs. -/
def RtR (w : World) (A : Option Addr) (n : Nat) (rs : List Ret) : Prop := rs.length = n ∧ At w A (rtV rs)
theorem RtR.ext {w w' : World} {A : Option Addr} {n : Nat} {rs : List Ret} (h : RtR w A n rs) (he : Ext w w') : RtR w' A n rs := ⟨h.1, h.2.ext he⟩
theorem RtR.get {w : World} {A : Option Addr} {n : Nat} {rs : List Ret} (h : RtR w A n rs) {j : Nat} (hj : j < n) : ∃ b off r, A = some ⟨b, off, none⟩ ∧ rs[j]? = some r ∧ ∀ i u, r.cells[i]? = some u → w.cell? ⟨b, off + j * 6 + i, none⟩ = some u := by
  obtain ⟨h1, h2⟩ := h
  have hr : rs[j]? = some rs[j] := List.getElem?_eq_getElem (by omega)
  have g0 := rtV_get hr 0 _ rfl
  obtain ⟨b, off, hA, hc⟩ := h2 (by intro e; rw [e] at g0; simp at g0)
  exact ⟨b, off, _, hA, hr, fun i u hi => by rw [Nat.add_assoc]; exact hc _ _ (rtV_get hr i u hi)⟩
theorem sumF_take {rs : List Ret} {k : Nat} {r : Ret} (h : rs[k]? = some r) : sumF (rs.take (k + 1)) = talS (sumF (rs.take k)) r := by
  rw [List.take_add_one, h]
  exact sumF_snoc _ _
set_option maxRecDepth 100000 in
set_option maxHeartbeats 8000000 in
theorem sum_any (A : Option Addr) (n c : Nat) (rs : List Ret) (w : World) (h : RtR w A n rs) (hn : n ≤ 1000) (he : ∀ r ∈ rs, -1099511627776 ≤ r.energy ∧ r.energy ≤ 1099511627776) :
    Calls Try.prog 42 #[.slice A n c] w (fun e w' => e = .returned (.agg #[.int .i64 (sumF rs).count, .int .i64 (sumF rs).first, .int .i64 (sumF rs).last, .int .i64 (sumF rs).energy]) ∧ Ext w w') := by
  have H := Lib.hid h
  have HL := Lib.hid h.1
  have HE := Lib.hid he
  clear h he
  have hX0 := ((Ext.refl w).alloc (.cells #[.int .i64 0, .int .i64 0, .int .i64 0, .int .i64 0] 60)).alloc (.cells #[.int .i64 0, .int .i64 0, .int .i64 0, .int .i64 0] 60)
  have hR0 := (Blk.new w 60 #[.int .i64 0, .int .i64 0, .int .i64 0, .int .i64 0]).alloc (.cells #[.int .i64 0, .int .i64 0, .int .i64 0, .int .i64 0] 60)
  have hB0 := Blk.new (w.alloc (.cells #[.int .i64 0, .int .i64 0, .int .i64 0, .int .i64 0] 60)) 60 #[.int .i64 0, .int .i64 0, .int .i64 0, .int .i64 0]
  have es : (w.alloc (.cells #[.int .i64 0, .int .i64 0, .int .i64 0, .int .i64 0] 60)).heap.size = w.heap.size + 1 := by simp
  rw [es] at hB0
  clear es
  go_enter Try.func42, Try.ntmps42
  go_wp2_with fail
  generalize (w.alloc (.cells #[.int .i64 0, .int .i64 0, .int .i64 0, .int .i64 0] 60)).alloc (.cells #[.int .i64 0, .int .i64 0, .int .i64 0, .int .i64 0] 60) = w1 at hX0 hR0 hB0 ⊢
  obtain ⟨g, hgg⟩ : ∃ g, w.heap.size + 1 = g := ⟨_, rfl⟩
  rw [hgg] at hB0 ⊢
  have hg : w.heap.size ≤ g := by omega
  have HB := Lib.hid hB0
  have HR := Lib.hid hR0
  have HX := Lib.hid hX0
  have hgw : w.heap.size ≠ g := by omega
  clear hB0 hX0 hR0
  go_loopg [8] n (fun f iv wr => ∃ (k : Nat) (cn fi la en : Int), f = n - k ∧ k ≤ n ∧ iv = .int .i64 (k : Int) ∧ 0 ≤ cn ∧ cn ≤ k ∧ 0 ≤ fi ∧ fi ≤ k ∧ 0 ≤ la ∧ la ≤ k ∧ -(1099511627776 * (k : Int)) ≤ en ∧ en ≤ 1099511627776 * (k : Int) ∧ Hid (sumF (rs.take k) = ⟨cn, fi, la, en⟩) ∧ Hid (Blk wr g 60 #[.int .i64 cn, .int .i64 fi, .int .i64 la, .int .i64 en]) ∧ Hid (Ext w wr) ∧ Hid (Blk wr w.heap.size 60 #[.int .i64 0, .int .i64 0, .int .i64 0, .int .i64 0]))
  case atStart => exact ⟨0, 0, 0, 0, 0, rfl, by omega, rfl, by omega, by omega, by omega, by omega, by omega, by omega, by omega, by omega, Lib.hid rfl, HB, HX, HR⟩
  case round =>
    clear HB HX HR
    obtain ⟨k, cn, fi, la, en, rfl, hk, rfl, b1, b2, b3, b4, b5, b6, b7, b8, HS, HB, HX, HR⟩ := hrel
    by_cases hlt : k < n
    · obtain ⟨b, off, r, rfl, hr, hc⟩ := (H.out.ext HX.out).get hlt
      obtain ⟨he1, he2⟩ := HE.out r (List.mem_of_getElem? hr)
      have HS2 := Lib.hid (sumF_take hr)
      rw [HS.out] at HS2
      obtain ⟨r0, r1, r2, r3, r4, r5⟩ := r
      have a0 := hc 0 _ rfl
      have a1 := hc 1 _ rfl
      have a2 := hc 2 _ rfl
      have a3 := hc 3 _ rfl
      have a4 := hc 4 _ rfl
      have a5 := hc 5 _ rfl
      simp only [Nat.add_zero] at a0
      simp only at a0 a1 a2 a3 a4 a5 he1 he2
      clear hc hr
      go_upto_region 5 with (fail)
      have zg := HB.out.lt
      have hB5 := Blk.new wr 62 #[.int .i64 r0, .int .i64 r1, .int .i64 r2, .int .i64 r3, .int .i64 r4, .int .i64 r5]
      replace HB := Lib.hid (HB.out.alloc (.cells #[.int .i64 r0, .int .i64 r1, .int .i64 r2, .int .i64 r3, .int .i64 r4, .int .i64 r5] 62))
      replace HR := Lib.hid (HR.out.alloc (.cells #[.int .i64 r0, .int .i64 r1, .int .i64 r2, .int .i64 r3, .int .i64 r4, .int .i64 r5] 62))
      replace HX := Lib.hid (HX.out.alloc (.cells #[.int .i64 r0, .int .i64 r1, .int .i64 r2, .int .i64 r3, .int .i64 r4, .int .i64 r5] 62))
      generalize wr.alloc (.cells #[.int .i64 r0, .int .i64 r1, .int .i64 r2, .int .i64 r3, .int .i64 r4, .int .i64 r5] 62) = w5 at hB5 HB HX HR ⊢
      generalize wr.heap.size = gb at hB5 zg ⊢
      clear a0 a1 a2 a3 a4 a5
      have hne1 : gb ≠ g := by omega
      have hne2 : g ≠ gb := by omega
      have hne3 : (gb == g) = false := by simpa using hne1
      have a0 := hB5.cell 0
      have a1 := hB5.cell 1
      have a5 := hB5.cell 5
      simp only [List.getElem?_toArray, List.getElem?_cons_zero, List.getElem?_cons_succ] at a0 a1 a5
      have s0 := HB.out.cell 0
      have s1 := HB.out.cell 1
      have s2 := HB.out.cell 2
      have s3 := HB.out.cell 3
      have z0 := HB.out.free 0
      have z1 := HB.out.free 1
      have z2 := HB.out.free 2
      have z3 := HB.out.free 3
      simp only [List.getElem?_toArray, List.getElem?_cons_zero, List.getElem?_cons_succ] at s0 s1 s2 s3
      have HB5 := HB
      have HX5 := HX
      have HR5 := HR
      clear hB5 HB HX HR
      by_cases hn1 : r0 = 1
      · have q1 : (r0 == 1) = true := by simpa using hn1
        by_cases hn2 : r0 = r1
        · have q2 : (r0 == r1) = true := by simpa using hn2
          have HS3 : Hid (sumF (rs.take (k + 1)) = ⟨cn + 1, fi + 1, la + 1, en + r5⟩) := Lib.hid (by rw [HS2.out]; unfold talS; simp only; rw [if_pos hn1, if_pos hn2])
          clear hn1 hn2
          go_wp2
          go_roundg (n - (k + 1))
          case rel =>
            refine ⟨k + 1, cn + 1, fi + 1, la + 1, en + r5, rfl, by omega, by go_num, by omega, by omega, by omega, by omega, by omega, by omega, by omega, by omega, HS3, Lib.hid ?_, Lib.hid ((((HX5.out.setCell hg _).setCell hg _).setCell hg _).setCell hg _), Lib.hid ((((HR5.out.far hgw _).far hgw _).far hgw _).far hgw _)⟩
            simpa using ((((HB5.out.set 0 (.int .i64 (cn + 1))).set 1 (.int .i64 (fi + 1))).set 2 (.int .i64 (la + 1))).set 3 (.int .i64 (en + r5)))
          case measure => omega
        · have q2 : (r0 == r1) = false := by simpa using hn2
          have HS3 : Hid (sumF (rs.take (k + 1)) = ⟨cn + 1, fi + 1, la, en + r5⟩) := Lib.hid (by rw [HS2.out]; unfold talS; simp only; rw [if_pos hn1, if_neg hn2])
          clear hn1 hn2
          go_wp2
          go_roundg (n - (k + 1))
          case rel =>
            refine ⟨k + 1, cn + 1, fi + 1, la, en + r5, rfl, by omega, by go_num, by omega, by omega, by omega, by omega, by omega, by omega, by omega, by omega, HS3, Lib.hid ?_, Lib.hid (((HX5.out.setCell hg _).setCell hg _).setCell hg _), Lib.hid (((HR5.out.far hgw _).far hgw _).far hgw _)⟩
            simpa using (((HB5.out.set 0 (.int .i64 (cn + 1))).set 1 (.int .i64 (fi + 1))).set 3 (.int .i64 (en + r5)))
          case measure => omega
      · have q1 : (r0 == 1) = false := by simpa using hn1
        by_cases hn2 : r0 = r1
        · have q2 : (r0 == r1) = true := by simpa using hn2
          have HS3 : Hid (sumF (rs.take (k + 1)) = ⟨cn + 1, fi, la + 1, en + r5⟩) := Lib.hid (by rw [HS2.out]; unfold talS; simp only; rw [if_neg hn1, if_pos hn2])
          clear hn1 hn2
          go_wp2
          go_roundg (n - (k + 1))
          case rel =>
            refine ⟨k + 1, cn + 1, fi, la + 1, en + r5, rfl, by omega, by go_num, by omega, by omega, by omega, by omega, by omega, by omega, by omega, by omega, HS3, Lib.hid ?_, Lib.hid (((HX5.out.setCell hg _).setCell hg _).setCell hg _), Lib.hid (((HR5.out.far hgw _).far hgw _).far hgw _)⟩
            simpa using (((HB5.out.set 0 (.int .i64 (cn + 1))).set 2 (.int .i64 (la + 1))).set 3 (.int .i64 (en + r5)))
          case measure => omega
        · have q2 : (r0 == r1) = false := by simpa using hn2
          have HS3 : Hid (sumF (rs.take (k + 1)) = ⟨cn + 1, fi, la, en + r5⟩) := Lib.hid (by rw [HS2.out]; unfold talS; simp only; rw [if_neg hn1, if_neg hn2])
          clear hn1 hn2
          go_wp2
          go_roundg (n - (k + 1))
          case rel =>
            refine ⟨k + 1, cn + 1, fi, la, en + r5, rfl, by omega, by go_num, by omega, by omega, by omega, by omega, by omega, by omega, by omega, by omega, HS3, Lib.hid ?_, Lib.hid ((HX5.out.setCell hg _).setCell hg _), Lib.hid ((HR5.out.far hgw _).far hgw _)⟩
            simpa using ((HB5.out.set 0 (.int .i64 (cn + 1))).set 3 (.int .i64 (en + r5)))
          case measure => omega

    · obtain rfl : k = n := by omega
      have HE2 : Hid (sumF rs = ⟨cn, fi, la, en⟩) := Lib.hid (by have := HS.out; rwa [List.take_of_length_le (by have := HL.out; omega)] at this)
      have s0 := HB.out.cell 0
      have s1 := HB.out.cell 1
      have s2 := HB.out.cell 2
      have s3 := HB.out.cell 3
      have z0 := HB.out.free 0
      have z1 := HB.out.free 1
      have z2 := HB.out.free 2
      have z3 := HB.out.free 3
      simp only [List.getElem?_toArray, List.getElem?_cons_zero, List.getElem?_cons_succ] at s0 s1 s2 s3
      have t0 := HR.out.cell 0
      have t1 := HR.out.cell 1
      have t2 := HR.out.cell 2
      have t3 := HR.out.cell 3
      have y0 := HR.out.free 0
      have y1 := HR.out.free 1
      have y2 := HR.out.free 2
      have y3 := HR.out.free 3
      simp only [List.getElem?_toArray, List.getElem?_cons_zero, List.getElem?_cons_succ] at t0 t1 t2 t3
      go_wp2
      refine bodyPost_ret (v := .agg #[.int .i64 cn, .int .i64 fi, .int .i64 la, .int .i64 en]) (by simp [results, Try.results42, go_sem, *]) rfl ?_
      exact ⟨by rw [HE2.out], (((HX.out.setCell (Nat.le_refl _) _).setCell (Nat.le_refl _) _).setCell (Nat.le_refl _) _).setCell (Nat.le_refl _) _⟩
end Go.Proofs.Ytagcgldhhdecjaa
