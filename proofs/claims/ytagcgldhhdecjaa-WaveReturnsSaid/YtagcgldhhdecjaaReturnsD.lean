/- Lemmas of the proof that follows (Returns, part 4): walks of functions by contract, and plain lemmas. Conditions: none. -/
import Derived.Test.YtagcgldhhdecjaaReturnsC
namespace Go.Proofs.Ytagcgldhhdecjaa
open Go.RowKit

theorem enerN_snoc (l : List Int) (b : Int) (k i : Nat) : enerN l b (k + 1) i = enerN l b k i + (l.getD (i + k) 0 - b) := by
  induction k generalizing i with
  | zero => simp [enerN]
  | succ k ih =>
    rw [enerN, ih (i + 1), enerN, show i + 1 + k = i + (k + 1) by omega]
    omega
set_option maxRecDepth 100000 in
set_option maxHeartbeats 2000000 in
theorem partW_any (A : Option Addr) (n c : Nat) (l : List Int) (f t p lv tp : Int) (w : World) (h : Ints .i64 w A n l) :
    Calls Try.prog 66 #[.slice A n c, .agg #[.int .i64 f, .int .i64 t, .int .i64 p, .int .i64 lv, .int .i64 tp]] w (fun e w' => e = .returned (.bool (decide (PartE l ⟨f, t, p, lv, tp⟩))) ∧ Ext w w') := by
  have H := Lib.hid (h.ext ((Ext.refl w).alloc (.cells #[.int .i64 f, .int .i64 t, .int .i64 p, .int .i64 lv, .int .i64 tp] 42)))
  have HL := Lib.hid h.1
  clear h
  by_cases hs : Smp l
  · have HS : Hid (decide (Smp l) = true) := Lib.hid (decide_eq_true hs)
    have HSM := Lib.hid hs
    clear hs
    go_enter Try.func66, Try.ntmps66
    go_wp2_with fail
    refine (sampled_any A n c l _ H.out).mono ?_
    rw [HS.out]
    rintro e _ ⟨rfl, rfl⟩
    go_wp2
    all_goals
      go_ret
      refine ⟨?_, (Ext.refl w).alloc _⟩
      have hl := HL.out
      first
      | (have q : decide (PartE l ⟨f, t, p, lv, tp⟩) = false := decide_eq_false (by unfold PartE; simp only; omega)
         rw [q]; rfl)
      | (have q : decide (PartE l ⟨f, t, p, lv, tp⟩) = decide (t ≤ (n : Int)) := by
           rw [decide_eq_decide]; unfold PartE; simp only; have := HSM.out; rw [hl]; constructor
           · intro h; omega
           · intro h; refine ⟨this, ?_⟩; omega
         rw [q]; rfl)
  · have HS : Hid (decide (Smp l) = false) := Lib.hid (decide_eq_false hs)
    have q : Hid (decide (PartE l ⟨f, t, p, lv, tp⟩) = false) := Lib.hid (decide_eq_false fun h => hs h.1)
    clear hs
    go_enter Try.func66, Try.ntmps66
    go_wp2_with fail
    refine (sampled_any A n c l _ H.out).mono ?_
    rw [HS.out]
    rintro e _ ⟨rfl, rfl⟩
    go_wp2
    go_ret
    exact ⟨by rw [q.out]; rfl, (Ext.refl w).alloc _⟩

set_option maxRecDepth 100000 in
set_option maxHeartbeats 4000000 in
theorem energy_any (A : Option Addr) (n c : Nat) (l : List Int) (f t p lv tp : Int) (w : World) (h : Ints .i64 w A n l) (hcap : n ≤ c ∧ c ≤ 9223372036854775807) :
    Calls Try.prog 34 #[.slice A n c, .agg #[.int .i64 f, .int .i64 t, .int .i64 p, .int .i64 lv, .int .i64 tp]] w (fun e w' => e = .returned (.tuple #[.int .i64 (energyF l ⟨f, t, p, lv, tp⟩).1, .int .i64 (energyF l ⟨f, t, p, lv, tp⟩).2]) ∧ Ext w w') := by
  have hXb := (Ext.refl w).alloc (.cells #[.int .i64 f, .int .i64 t, .int .i64 p, .int .i64 lv, .int .i64 tp] 42)
  have hBb := Blk.new w 42 #[.int .i64 f, .int .i64 t, .int .i64 p, .int .i64 lv, .int .i64 tp]
  have hIb := h.ext hXb
  have HL := Lib.hid h.1
  clear h
  by_cases hp : ¬ PartE l ⟨f, t, p, lv, tp⟩
  · have q : Hid (decide (PartE l ⟨f, t, p, lv, tp⟩) = false) := Lib.hid (decide_eq_false hp)
    have HB : Hid (energyF l ⟨f, t, p, lv, tp⟩ = (0, 2)) := Lib.hid (by unfold energyF; rw [if_pos hp])
    clear hp
    go_enter Try.func34, Try.ntmps34
    go_wp2_with fail
    refine (partW_any A n c l f t p lv tp _ hIb).mono ?_
    rw [q.out]
    rintro e w1 ⟨rfl, hX⟩
    go_wp2
    go_ret2
    exact ⟨by rw [HB.out]; rfl, hXb.trans hX⟩
  have hp' := Decidable.not_not.1 hp
  have q : Hid (decide (PartE l ⟨f, t, p, lv, tp⟩) = true) := Lib.hid (decide_eq_true hp')
  have HB : Hid (energyF l ⟨f, t, p, lv, tp⟩ = (enerN l (medV l) (t - f).toNat f.toNat, 0)) := Lib.hid (by unfold energyF; rw [if_neg hp])
  obtain ⟨hs, h1, h2, h3, h4⟩ := hp'
  simp only at h1 h2 h3 h4
  rw [HL.out] at h2 h4
  have hne : l ≠ [] := by intro e; subst e; have := HL.out; simp at this; omega
  have HF : Hid (baseF l = ((medV l : Int), 0)) := Lib.hid (by unfold baseF; rw [if_neg]; rintro (h | h); exact hne h; exact h hs)
  have hn256 : n ≤ 256 := by have := hs.1; have := HL.out; omega
  have HSM := Lib.hid hs
  have hmed := medV_le l
  generalize medV l = mv at HF HB hmed
  obtain ⟨fr, rfl⟩ : ∃ x : Nat, f = x := ⟨f.toNat, by omega⟩
  obtain ⟨tn, rfl⟩ : ∃ x : Nat, t = x := ⟨t.toNat, by omega⟩
  rw [show ((tn : Int) - fr).toNat = tn - fr by omega, show ((fr : Int)).toNat = fr by omega] at HB
  obtain ⟨b, off, x0, hA, _, _, _⟩ := hIb.get (j := fr) (by omega)
  subst hA
  clear hp hs hne
  go_enter Try.func34, Try.ntmps34
  go_wp2_with fail
  refine (partW_any _ n c l fr tn p lv tp _ hIb).mono ?_
  rw [q.out]
  rintro e w1 ⟨rfl, hX⟩
  replace hXb := hXb.trans hX
  replace hIb := hIb.ext hX
  replace hBb := hBb.ext hX
  clear hX
  go_wp2_with fail
  refine (base_any _ n c l _ hIb).mono ?_
  rw [HF.out]
  rintro e w2 ⟨rfl, hX⟩
  replace hXb := hXb.trans hX
  replace hIb := hIb.ext hX
  replace hBb := hBb.ext hX
  clear hX
  have c0 := hBb.cell 0
  have c1 := hBb.cell 1
  simp only [List.getElem?_toArray, List.getElem?_cons_zero, List.getElem?_cons_succ] at c0 c1
  have HI := Lib.hid hIb
  have HX := Lib.hid hXb
  clear hIb hXb hBb
  go_wp2_with fail
  go_loopg [8, 27] (tn - fr) (fun f2 sv iv wr => ∃ (k : Nat) (s : Int), f2 = tn - fr - k ∧ k ≤ tn - fr ∧ -261888 ≤ s ∧ s ≤ 261888 ∧ sv = .int .i64 s ∧ iv = .int .i64 (k : Int) ∧ Hid (enerN l mv k fr = s) ∧ w2 = wr)
  case atStart => exact ⟨0, 0, rfl, by omega, by omega, by omega, rfl, rfl, Lib.hid rfl, rfl⟩
  case round =>
    obtain ⟨k, s, rfl, hk, hs1, hs2, rfl, rfl, HS, rfl⟩ := hrel
    by_cases hlt : k < tn - fr
    · obtain ⟨b', off', x, e, hx, _, hc⟩ := HI.out.get (j := fr + k) (by omega)
      injection e with e
      injection e with e1 e2
      subst e1 e2
      have hc' : w2.cell? ⟨b, off + fr + k, none⟩ = some (.int .i64 x) := by rw [Nat.add_assoc]; exact hc
      have bx := HSM.out.2 x (List.mem_of_getElem? hx)
      obtain ⟨bx1, bx2⟩ := bx
      have HS2 := Lib.hid (enerN_snoc l mv k fr)
      have hbd := enerN_bound (l := l) (b := (mv : Int)) HSM.out.2 (by omega) (k + 1) fr
      rw [HS2.out, HS.out, getD_at hx] at hbd
      have HS3 : Hid (enerN l mv (k + 1) fr = s + (x - mv)) := Lib.hid (by rw [HS2.out, HS.out, getD_at hx])
      clear hx hc
      obtain ⟨y, hy⟩ : ∃ y, s + (x - (mv : Int)) = y := ⟨_, rfl⟩
      rw [hy] at hbd HS3
      have qw1 : IntKind.i64.wrap (x - (mv : Int)) = x - mv := IntWalk.i64_in _ (by omega)
      have qw2 : IntKind.i64.wrap (s + (x - (mv : Int))) = s + (x - mv) := IntWalk.i64_in _ (by omega)
      go_wp2
      go_roundg (tn - fr - (k + 1))
      case rel => exact ⟨k + 1, s + (x - mv), by omega, by omega, by omega, by omega, by go_num, by go_num, by rw [hy]; exact HS3, rfl⟩
      case measure => omega
    · obtain rfl : k = tn - fr := by omega
      go_wp2
      go_ret2
      exact ⟨by rw [HB.out, HS.out]; rfl, HX.out⟩

set_option maxRecDepth 100000 in
set_option maxHeartbeats 8000000 in
theorem time_any (A : Option Addr) (n c : Nat) (l : List Int) (f t p lv tp : Int) (w : World) (h : Ints .i64 w A n l) :
    Calls Try.prog 32 #[.slice A n c, .agg #[.int .i64 f, .int .i64 t, .int .i64 p, .int .i64 lv, .int .i64 tp]] w (fun e w' => e = .returned (.tuple #[.agg #[.int .i64 (timeF l ⟨f, t, p, lv, tp⟩).1.1, .int .i64 (timeF l ⟨f, t, p, lv, tp⟩).1.2], .int .i64 (timeF l ⟨f, t, p, lv, tp⟩).2]) ∧ Ext w w') := by
  have hX0 := ((Ext.refl w).alloc (.cells #[.int .i64 f, .int .i64 t, .int .i64 p, .int .i64 lv, .int .i64 tp] 42)).alloc (.cells #[.int .i64 0, .int .i64 0] 44)
  have hB1 := (Blk.new w 42 #[.int .i64 f, .int .i64 t, .int .i64 p, .int .i64 lv, .int .i64 tp]).alloc (.cells #[.int .i64 0, .int .i64 0] 44)
  have hB2 := Blk.new (w.alloc (.cells #[.int .i64 f, .int .i64 t, .int .i64 p, .int .i64 lv, .int .i64 tp] 42)) 44 #[.int .i64 0, .int .i64 0]
  have es : (w.alloc (.cells #[.int .i64 f, .int .i64 t, .int .i64 p, .int .i64 lv, .int .i64 tp] 42)).heap.size = w.heap.size + 1 := by simp
  rw [es] at hB2
  have hI := h.ext hX0
  have HL := Lib.hid h.1
  clear h es
  by_cases hp : ¬ PartE l ⟨f, t, p, lv, tp⟩
  · have q : Hid (decide (PartE l ⟨f, t, p, lv, tp⟩) = false) := Lib.hid (decide_eq_false hp)
    have HB : Hid (timeF l ⟨f, t, p, lv, tp⟩ = ((0, 0), 2)) := Lib.hid (by unfold timeF; rw [if_pos hp])
    clear hp
    go_enter Try.func32, Try.ntmps32
    go_wp2_with fail
    refine (partW_any A n c l f t p lv tp _ hI).mono ?_
    rw [q.out]
    rintro e w1 ⟨rfl, hX⟩
    have HX := Lib.hid (hX0.trans hX)
    have s0 := (hB2.ext hX).cell 0
    have s1 := (hB2.ext hX).cell 1
    have z0 := (hB2.ext hX).free 0
    have z1 := (hB2.ext hX).free 1
    simp only [List.getElem?_toArray, List.getElem?_cons_zero, List.getElem?_cons_succ] at s0 s1
    go_wp2
    refine bodyPost_ret (v := .tuple #[.agg #[.int .i64 0, .int .i64 0], .int .i64 2]) (by simp [results, Try.results32, go_sem, *]) rfl ?_
    exact ⟨by rw [HB.out], (HX.out.setCell (by simp) _).setCell (by simp) _⟩
  have hp' := Decidable.not_not.1 hp
  have q : Hid (decide (PartE l ⟨f, t, p, lv, tp⟩) = true) := Lib.hid (decide_eq_true hp')
  obtain ⟨hs, h1, h2, h3, h4⟩ := hp'
  simp only at h1 h2 h3 h4
  rw [HL.out] at h2 h4
  have hn256 : n ≤ 256 := by have := hs.1; have := HL.out; omega
  have HSM := Lib.hid hs
  obtain ⟨fr, rfl⟩ : ∃ x : Nat, f = x := ⟨f.toNat, by omega⟩
  obtain ⟨tn, rfl⟩ : ∃ x : Nat, t = x := ⟨t.toNat, by omega⟩
  have HB : Hid (timeF l ⟨fr, tn, p, lv, tp⟩ = if (crossE l ⟨fr, tn, p, lv, tp⟩ : Int) = tn then ((0, 0), 2) else if crossE l ⟨fr, tn, p, lv, tp⟩ = 0 ∨ lv ≤ l.getD (crossE l ⟨fr, tn, p, lv, tp⟩ - 1) 0 then ((0, 0), 32)
      else ((256 * ((crossE l ⟨fr, tn, p, lv, tp⟩ : Int) - 1) + 256 * (lv - l.getD (crossE l ⟨fr, tn, p, lv, tp⟩ - 1) 0 - 1) / (l.getD (crossE l ⟨fr, tn, p, lv, tp⟩) 0 - l.getD (crossE l ⟨fr, tn, p, lv, tp⟩ - 1) 0),
        256 * ((crossE l ⟨fr, tn, p, lv, tp⟩ : Int) - 1) + (256 * (lv - l.getD (crossE l ⟨fr, tn, p, lv, tp⟩ - 1) 0) + l.getD (crossE l ⟨fr, tn, p, lv, tp⟩) 0 - l.getD (crossE l ⟨fr, tn, p, lv, tp⟩ - 1) 0 - 1) / (l.getD (crossE l ⟨fr, tn, p, lv, tp⟩) 0 - l.getD (crossE l ⟨fr, tn, p, lv, tp⟩ - 1) 0)), 0)) := Lib.hid (by unfold timeF; rw [if_neg hp])
  have HU0 : Hid (upTo l lv (tn - fr) fr = crossE l ⟨fr, tn, p, lv, tp⟩) := Lib.hid (by unfold crossE; simp only; congr 1; omega)
  generalize crossE l ⟨fr, tn, p, lv, tp⟩ = cr at HB HU0
  generalize timeF l ⟨fr, tn, p, lv, tp⟩ = R at HB ⊢
  obtain ⟨b, off, x0, hA, _, _, _⟩ := hI.get (j := fr) (by omega)
  subst hA
  clear hp hs
  go_enter Try.func32, Try.ntmps32
  go_wp2_with fail
  refine (partW_any _ n c l fr tn p lv tp _ hI).mono ?_
  rw [q.out]
  rintro e w1 ⟨rfl, hX⟩
  have HX := Lib.hid (hX0.trans hX)
  have HI := Lib.hid (hI.ext hX)
  have HB1 := Lib.hid (hB1.ext hX)
  have HB2 := Lib.hid (hB2.ext hX)
  have e0 := HB1.out.cell 0
  simp only [List.getElem?_toArray, List.getElem?_cons_zero, List.getElem?_cons_succ] at e0
  clear hX hX0 hI hB1 hB2
  go_wp2_with fail
  clear e0
  go_loopg [6] (tn - fr) (fun f2 iv wr => ∃ z : Nat, f2 = tn - z ∧ fr ≤ z ∧ z ≤ tn ∧ iv = .int .i64 (z : Int) ∧ Hid (upTo l lv (tn - z) z = cr) ∧ Hid (Ext w1 wr))
  case atStart => exact ⟨fr, rfl, by omega, by omega, rfl, HU0, Lib.hid (Ext.refl _)⟩
  case round =>
    obtain ⟨z, rfl, hz1, hz2, rfl, HU, HXr⟩ := hrel
    have e1 := (HB1.out.ext HXr.out).cell 1
    have e3 := (HB1.out.ext HXr.out).cell 3
    simp only [List.getElem?_toArray, List.getElem?_cons_zero, List.getElem?_cons_succ] at e1 e3
    by_cases hzt : z < tn
    · obtain ⟨b', off', x, e, hx, _, cx⟩ := (HI.out.ext HXr.out).get (j := z) (by omega)
      injection e with e
      injection e with e1' e2'
      subst e1' e2'
      have HXx := Lib.hid (getD_at hx)
      obtain ⟨bx1, bx2⟩ := HSM.out.2 x (List.mem_of_getElem? hx)
      clear hx
      by_cases hxl : x < lv
      · have q1 : decide (x < lv) = true := decide_eq_true hxl
        have HU2 : Hid (upTo l lv (tn - (z + 1)) (z + 1) = cr) := Lib.hid (by
          have h := HU.out
          rw [show tn - z = tn - (z + 1) + 1 by omega, upTo, HXx.out, if_pos hxl] at h
          exact h)
        clear hxl
        go_wp2_with fail
        go_region
        go_wp2
        go_roundg (tn - (z + 1))
        case rel => exact ⟨z + 1, rfl, by omega, by omega, by go_num, HU2, Lib.hid HXr.out.drew⟩
        case measure => omega
      · have q1 : decide (x < lv) = false := decide_eq_false hxl
        have HC : Hid (cr = z) := Lib.hid (by
          have h := HU.out
          rw [show tn - z = tn - (z + 1) + 1 by omega, upTo, HXx.out, if_neg hxl] at h
          exact h.symm)
        have gz : ((z : Int) == (tn : Int)) = false := by simp; omega
        have hlx : lv ≤ x := by omega
        have HHL := Lib.hid hlx
        clear hxl hlx
        go_wp2_with fail
        go_region
        go_wp2_with fail
        have s0 := (HB2.out.ext HXr.out).cell 0
        have s1 := (HB2.out.ext HXr.out).cell 1
        have y0' := (HB2.out.ext HXr.out).free 0
        have y1' := (HB2.out.ext HXr.out).free 1
        simp only [List.getElem?_toArray, List.getElem?_cons_zero, List.getElem?_cons_succ] at s0 s1
        by_cases hz0 : z = 0
        · subst hz0
          go_region
          go_wp2
          refine bodyPost_ret (v := .tuple #[.agg #[.int .i64 0, .int .i64 0], .int .i64 32]) (by simp [results, Try.results32, go_sem, *]) rfl ?_
          exact ⟨by rw [HB.out, HC.out]; rw [if_neg (by omega), if_pos (.inl rfl)], (((HX.out.trans HXr.out).drew.drew).setCell (by simp) _).setCell (by simp) _⟩
        · obtain ⟨y0, rfl⟩ : ∃ y0, z = y0 + 1 := ⟨z - 1, by omega⟩
          obtain ⟨b', off', y, e, hy, _, cy⟩ := (HI.out.ext HXr.out).get (j := y0) (by omega)
          injection e with e
          injection e with e1' e2'
          subst e1' e2'
          have HYy := Lib.hid (getD_at hy)
          obtain ⟨by1, by2⟩ := HSM.out.2 y (List.mem_of_getElem? hy)
          clear hy
          have gz0 : ((y0 : Int) + 1 == 0) = false := by simp; omega
          by_cases hyl : lv ≤ y
          · have q2 : decide (lv ≤ y) = true := decide_eq_true hyl
            have HYL := Lib.hid hyl
            clear hyl
            go_region
            go_wp2
            refine bodyPost_ret (v := .tuple #[.agg #[.int .i64 0, .int .i64 0], .int .i64 32]) (by simp [results, Try.results32, go_sem, *]) rfl ?_
            exact ⟨by rw [HB.out, HC.out]; rw [if_neg (by omega), if_pos (.inr (by rw [Nat.add_sub_cancel, HYy.out]; exact HYL.out))], (((HX.out.trans HXr.out).drew.drew).setCell (by simp) _).setCell (by simp) _⟩
          · have q2 : decide (lv ≤ y) = false := decide_eq_false hyl
            have hxy : y < x := by have := HHL.out; omega
            have hly : y < lv := by omega
            have hlx := HHL.out
            obtain ⟨Q1, hQ1⟩ : ∃ Q, 256 * (lv - y - 1) / (x - y) = Q := ⟨_, rfl⟩
            obtain ⟨Q2, hQ2⟩ : ∃ Q, (256 * (lv - y) + x - y - 1) / (x - y) = Q := ⟨_, rfl⟩
            have b1 : 0 ≤ Q1 := by rw [← hQ1]; exact Int.ediv_nonneg (by omega) (by omega)
            have b2 : Q1 ≤ 256 * (lv - y - 1) := by rw [← hQ1]; exact Int.ediv_le_self _ (by omega)
            have b3 : 0 ≤ Q2 := by rw [← hQ2]; exact Int.ediv_nonneg (by omega) (by omega)
            have b4 : Q2 ≤ 256 * (lv - y) + x - y - 1 := by rw [← hQ2]; exact Int.ediv_le_self _ (by omega)
            have t1 : (256 * (lv - y - 1)).tdiv (x - y) = Q1 := by rw [Int.tdiv_eq_ediv_of_nonneg (by omega)]; exact hQ1
            have t2 : (256 * (lv - y) + x - y - 1).tdiv (x - y) = Q2 := by rw [Int.tdiv_eq_ediv_of_nonneg (by omega)]; exact hQ2
            have HQ1 := Lib.hid hQ1
            have HQ2 := Lib.hid hQ2
            clear hQ1 hQ2 hyl
            go_region
            go_wp2_with fail
            go_region
            go_wp2
            have eR : R = ((256 * (y0 : Int) + Q1, 256 * (y0 : Int) + Q2), 0) := by
              rw [HB.out, HC.out, if_neg (by omega), if_neg (by rw [Nat.add_sub_cancel, HYy.out]; omega), Nat.add_sub_cancel, HYy.out, HXx.out, HQ1.out, HQ2.out, show ((y0 + 1 : Nat) : Int) - 1 = y0 by omega]
            refine bodyPost_ret (v := .tuple #[.agg #[.int .i64 (256 * (y0 : Int) + Q1), .int .i64 (256 * (y0 : Int) + Q2)], .int .i64 0]) (by simp [results, Try.results32, go_sem, *]) rfl ?_
            exact ⟨by rw [eR], ((((HX.out.trans HXr.out).setCell (by simp) _).setCell (by simp) _).drew).drew.drew⟩
    · obtain rfl : z = tn := by omega
      have HC : Hid (cr = z) := Lib.hid (by
        have h := HU.out
        rw [Nat.sub_self, upTo] at h
        exact h.symm)
      have s0 := (HB2.out.ext HXr.out).cell 0
      have s1 := (HB2.out.ext HXr.out).cell 1
      have y0' := (HB2.out.ext HXr.out).free 0
      have y1' := (HB2.out.ext HXr.out).free 1
      simp only [List.getElem?_toArray, List.getElem?_cons_zero, List.getElem?_cons_succ] at s0 s1
      go_wp2_with fail
      go_region
      go_wp2
      refine bodyPost_ret (v := .tuple #[.agg #[.int .i64 0, .int .i64 0], .int .i64 2]) (by simp [results, Try.results32, go_sem, *]) rfl ?_
      exact ⟨by rw [HB.out, HC.out]; rw [if_pos rfl], (((HX.out.trans HXr.out).drew).setCell (by simp) _).setCell (by simp) _⟩
end Go.Proofs.Ytagcgldhhdecjaa
namespace Go.Proofs.Ytagcgldhhdecjaa
open Go.RowKit

def lst1 : List Int := [1, 1, 9, 20, 9, 1, 1]
theorem first_echo : echoesF lst1 ⟨5, 4, 150, 0⟩ = ([⟨2, 5, 3, 6, 20⟩], 0) := by kernel_rfl
theorem first_time : timeF lst1 ⟨2, 5, 3, 6, 20⟩ = ((384, 416), 0) := by kernel_rfl
theorem ints1 (w : World) : Ints .i64 (w.alloc (.cells #[.int .i64 1, .int .i64 1, .int .i64 9, .int .i64 20, .int .i64 9, .int .i64 1, .int .i64 1] 3)) (some ⟨w.heap.size, 0, none⟩) 7 lst1 :=
  ⟨rfl, by decide, At.new' _ _ _ rfl⟩
set_option maxRecDepth 100000 in
set_option maxHeartbeats 2000000 in
theorem firstW_any (w : World) : Calls Try.prog 20 #[] w (fun e w' => e = .returned (.bool true) ∧ Ext w w') := by
  have hI := ints1 w
  have hX0 := (Ext.refl w).alloc (.cells #[.int .i64 1, .int .i64 1, .int .i64 9, .int .i64 20, .int .i64 9, .int .i64 1, .int .i64 1] 3)
  go_enter Try.func20, Try.ntmps20
  go_wp2_with fail
  refine (echoes_any _ 7 7 lst1 ⟨5, 4, 150, 0⟩ _ hI).mono ?_
  rw [first_echo]
  rintro e w1 ⟨v, rfl, hE, hX⟩
  replace hX0 := hX0.trans hX
  clear hX hI
  obtain ⟨g, c, e, rfl, he, hc⟩ := hE.get (j := 0) (by decide)
  simp only [List.getElem?_cons_zero, Option.some.injEq] at he
  subst he
  have c0 := hc 0 _ rfl
  have c1 := hc 1 _ rfl
  have c2 := hc 2 _ rfl
  have c3 := hc 3 _ rfl
  have c4 := hc 4 _ rfl
  have hg : g < w1.heap.size := World.block_lt_of_cell? _ _ c0
  simp only [Nat.zero_mul, Nat.zero_add, List.length_cons, List.length_nil] at c0 c1 c2 c3 c4 ⊢
  have hI := ints1 w1
  have hcap := own_cap hE
  clear hc hE
  go_wp2_with fail
  refine (time_any _ 7 7 lst1 2 5 3 6 20 _ hI).mono ?_
  rw [first_time]
  rintro e w2 ⟨rfl, hX⟩
  have HX := Lib.hid ((hX0.trans ((Ext.refl w1).alloc _)).trans hX)
  clear hX hX0 hI c0 c1 c2 c3 c4
  go_wp2
  go_ret
  exact ⟨rfl, HX.out.alloc _⟩
end Go.Proofs.Ytagcgldhhdecjaa
namespace Go.Proofs.Ytagcgldhhdecjaa

/-- The number that digits denote. -/
def val (B : Int) : List Int → Int
  | [] => 0
  | x :: xs => x + B * val B xs
/-- All are digits. -/
def Dg (B : Int) (xs : List Int) : Prop := ∀ x ∈ xs, 0 ≤ x ∧ x < B

section
variable {B : Int} {xs ys : List Int} {x u : Int} {k : Nat}
theorem Dg.nil : Dg B [] := by simp [Dg]
theorem Dg.take (h : Dg B xs) (k : Nat) : Dg B (xs.take k) := fun x hx => h x (List.mem_of_mem_take hx)
theorem Dg.drop (h : Dg B xs) (k : Nat) : Dg B (xs.drop k) := fun x hx => h x (List.mem_of_mem_drop hx)
theorem Dg.append (h : Dg B xs) (k : Dg B ys) : Dg B (xs ++ ys) := fun x hx => by
  rcases List.mem_append.1 hx with hx | hx
  · exact h x hx
  · exact k x hx
theorem Dg.set (h : Dg B xs) (hu : 0 ≤ u ∧ u < B) (k : Nat) : Dg B (xs.set k u) := fun x hx => by
  rcases List.mem_or_eq_of_mem_set hx with hx | hx
  · exact h x hx
  · subst hx; exact hu
theorem Dg.zeros (hB : 0 < B) (k : Nat) : Dg B (List.replicate k 0) := fun x hx => by
  have := (List.mem_replicate.1 hx).2; omega
theorem Dg.get (h : Dg B xs) (hx : xs[k]? = some x) : 0 ≤ x ∧ x < B := h x (List.mem_of_getElem? hx)
theorem Dg.one (hx : 0 ≤ x ∧ x < B) : Dg B [x] := fun y hy => by simp at hy; subst hy; exact hx
theorem Dg.cons (hx : 0 ≤ x ∧ x < B) (h : Dg B xs) : Dg B (x :: xs) := fun y hy => by
  rcases List.mem_cons.1 hy with hy | hy
  · subst hy; exact hx
  · exact h y hy

theorem val_append (xs ys : List Int) : val B (xs ++ ys) = val B xs + B ^ xs.length * val B ys := by
  induction xs with
  | nil => simp [val]
  | cons x xs ih => simp only [List.cons_append, val, ih, List.length_cons, Int.pow_succ]; grind
theorem val_one (x : Int) : val B [x] = x := by simp [val]
theorem val_snoc (xs : List Int) (x : Int) : val B (xs ++ [x]) = val B xs + B ^ xs.length * x := by rw [val_append, val_one]
theorem val_split (xs : List Int) {k : Nat} (h : k ≤ xs.length) : val B xs = val B (xs.take k) + B ^ k * val B (xs.drop k) := by
  have := val_append (B := B) (xs.take k) (xs.drop k)
  rw [List.take_append_drop, List.length_take, Nat.min_eq_left h] at this
  exact this
theorem val_take_succ (h : xs[k]? = some x) : val B (xs.take (k + 1)) = val B (xs.take k) + B ^ k * x := by
  have hk : k < xs.length := (List.getElem?_eq_some_iff.1 h).1
  rw [List.take_add_one, h]
  simp only [Option.toList_some]
  rw [val_snoc, List.length_take, Nat.min_eq_left (by omega)]
theorem val_drop (h : xs[k]? = some x) : val B (xs.drop k) = x + B * val B (xs.drop (k + 1)) := by
  have hk : k < xs.length := (List.getElem?_eq_some_iff.1 h).1
  rw [List.drop_eq_getElem_cons hk, val]
  rw [List.getElem?_eq_getElem hk] at h
  simp only [Option.some.injEq] at h
  rw [h]
theorem val_set (h : xs[k]? = some x) (u : Int) : val B (xs.set k u) = val B xs + B ^ k * (u - x) := by
  induction xs generalizing k with
  | nil => simp at h
  | cons y ys ih =>
    cases k with
    | zero => simp at h; subst h; simp only [List.set_cons_zero, val]; grind
    | succ k => simp only [List.set_cons_succ, val]; rw [ih (by simpa using h), Int.pow_succ]; grind
theorem val_zeros (k : Nat) : val B (List.replicate k 0) = 0 := by
  induction k with
  | zero => rfl
  | succ k ih => rw [List.replicate_succ, val, ih]; simp
theorem val_nonneg (hB : 0 < B) (h : Dg B xs) : 0 ≤ val B xs := by
  induction xs with
  | nil => simp [val]
  | cons x xs ih =>
    have hx := h x (List.mem_cons_self ..)
    have hi := ih fun y hy => h y (List.mem_cons_of_mem _ hy)
    have := Int.mul_nonneg (Int.le_of_lt hB) hi
    rw [val]; omega
theorem pow_pos' (hB : 0 < B) (k : Nat) : 0 < B ^ k := Int.pow_pos hB
theorem val_lt (hB : 0 < B) (h : Dg B xs) : val B xs < B ^ xs.length := by
  induction xs with
  | nil => simp [val]
  | cons x xs ih =>
    have hx := h x (List.mem_cons_self ..)
    have hi := ih fun y hy => h y (List.mem_cons_of_mem _ hy)
    rw [val, List.length_cons, Int.pow_succ]
    have h1 : B * (val B xs + 1) ≤ B * B ^ xs.length := Int.mul_le_mul_of_nonneg_left (by omega) (Int.le_of_lt hB)
    have h2 : B * (val B xs + 1) = B * val B xs + B := by grind
    have h3 : B * B ^ xs.length = B ^ xs.length * B := Int.mul_comm _ _
    omega
end

/-- No most significant digit is 0. -/
def Nm (xs : List Int) : Prop := xs.getLast? ≠ some 0
/-- The normal digits of a number. -/
def Rep (B : Int) (xs : List Int) (n : Nat) : Prop := Dg B xs ∧ Nm xs ∧ val B xs = (n : Int)

section
variable {B : Int} {xs ys : List Int} {n m : Nat}
theorem Nm.nil : Nm [] := by simp [Nm]
theorem Nm.snoc {x : Int} (h : x ≠ 0) : Nm (xs ++ [x]) := by simp [Nm, h]
theorem Nm.one {x : Int} (h : x ≠ 0) : Nm [x] := by simp [Nm, h]
theorem Nm.split (h : Nm xs) (hne : xs ≠ []) : ∃ ys x, xs = ys ++ [x] ∧ x ≠ 0 := by
  refine ⟨xs.dropLast, xs.getLast hne, (List.dropLast_concat_getLast hne).symm, fun e => ?_⟩
  exact h (by rw [List.getLast?_eq_some_getLast hne, e])
theorem Nm.take {k : Nat} {x : Int} (h : xs[k]? = some x) (hx : x ≠ 0) : Nm (xs.take (k + 1)) := by
  rw [List.take_add_one, h]; exact Nm.snoc hx
theorem nm_low (hB : 1 < B) (hd : Dg B xs) (h : Nm xs) (hne : xs ≠ []) : B ^ (xs.length - 1) ≤ val B xs := by
  obtain ⟨ys, x, rfl, hx⟩ := h.split hne
  have hd1 : Dg B ys := fun y hy => hd y (List.mem_append_left _ hy)
  have hx1 := hd x (List.mem_append_right _ (List.mem_singleton.2 rfl))
  have h0 := val_nonneg (by omega) hd1
  rw [val_snoc, List.length_append, List.length_singleton, Nat.add_sub_cancel]
  have hp := pow_pos' (B := B) (by omega) ys.length
  have : B ^ ys.length * 1 ≤ B ^ ys.length * x := Int.mul_le_mul_of_nonneg_left (by omega) (Int.le_of_lt hp)
  omega
theorem pow_le {a b : Nat} (hB : 1 ≤ B) (h : a ≤ b) : B ^ a ≤ B ^ b := by
  obtain ⟨k, rfl⟩ := Nat.exists_eq_add_of_le h
  rw [Int.pow_add]
  have h1 := pow_pos' (B := B) (by omega) a
  have h2 := pow_pos' (B := B) (by omega) k
  have : B ^ a * 1 ≤ B ^ a * B ^ k := Int.mul_le_mul_of_nonneg_left (by omega) (Int.le_of_lt h1)
  omega
theorem Rep.len_le (hB : 1 < B) (h : Rep B xs n) {L : Nat} (hn : (n : Int) < B ^ L) : xs.length ≤ L := by
  rcases Nat.lt_or_ge L xs.length with hl | hl
  · have h1 := nm_low hB h.1 h.2.1 (by intro e; subst e; simp at hl)
    rw [h.2.2] at h1
    have := pow_le (B := B) (a := L) (b := xs.length - 1) (by omega) (by omega)
    omega
  · exact hl
theorem Rep.lt (hB : 1 < B) (h : Rep B xs n) : (n : Int) < B ^ xs.length := by rw [← h.2.2]; exact val_lt (by omega) h.1
theorem Rep.nil : Rep B [] 0 := ⟨Dg.nil, Nm.nil, rfl⟩
theorem Rep.zero (hB : 1 < B) (h : Rep B xs 0) : xs = [] := by
  rcases xs with _ | ⟨x, xs⟩
  · rfl
  · have h1 := nm_low hB h.1 h.2.1 (by simp)
    rw [h.2.2] at h1
    have := pow_pos' (B := B) (by omega) ((x :: xs).length - 1)
    omega
theorem Rep.pos (hB : 1 < B) (h : Rep B xs n) : n = 0 ↔ xs = [] := by
  constructor
  · rintro rfl; exact h.zero hB
  · rintro rfl; have := h.2.2; simp [val] at this; omega
theorem Rep.one (hB : 1 < B) : Rep B [1] 1 := ⟨Dg.one (by omega), Nm.one (by omega), val_one 1⟩
theorem Rep.small {x : Int} (h0 : 0 < x) (h1 : x < B) : Rep B [x] x.toNat := ⟨Dg.one (by omega), Nm.one (by omega), by rw [val_one]; omega⟩
theorem Rep.single (_hB : 1 < B) {x : Int} (h : Rep B [x] n) : x = n ∧ 0 < n := by
  have h1 := h.2.2
  rw [val_one] at h1
  refine ⟨h1, ?_⟩
  have := h.2.1
  rcases Nat.eq_zero_or_pos n with h0 | h0
  · subst h0; exact absurd (by simp [h1]) this
  · exact h0
theorem Rep.lt_of_len (hB : 1 < B) (h : Rep B xs n) (k : Rep B ys m) (hl : xs.length < ys.length) : n < m := by
  have h1 := h.lt hB
  have h2 := nm_low hB k.1 k.2.1 (by intro e; subst e; simp at hl)
  rw [k.2.2] at h2
  have := pow_le (B := B) (a := xs.length) (b := ys.length - 1) (by omega) (by omega)
  omega
theorem Rep.of_take {k : Nat} (hd : Dg B xs) (hv : val B (xs.take k) = val B xs) (hn : Nm (xs.take k)) (he : val B xs = (n : Int)) : Rep B (xs.take k) n := ⟨hd.take k, hn, by rw [hv, he]⟩
end

/-- Comparing from the most significant digit on: all digits from k on are equal. -/
theorem cmp_step {B : Int} (hB : 1 < B) {xs ys : List Int} {k : Nat} {x y : Int} (hl : xs.length = ys.length) (hx : Dg B xs) (hy : Dg B ys) (h : xs.drop (k + 1) = ys.drop (k + 1)) (h1 : xs[k]? = some x) (h2 : ys[k]? = some y) (hlt : x < y) : val B xs < val B ys := by
  have hk : k < xs.length := (List.getElem?_eq_some_iff.1 h1).1
  rw [val_split xs (Nat.le_of_lt hk), val_split (B := B) ys (k := k) (by omega), val_drop h1, val_drop h2, h]
  have a1 := val_lt (B := B) (by omega) (hx.take k)
  have a2 := val_nonneg (B := B) (by omega) (hy.take k)
  rw [List.length_take, Nat.min_eq_left (by omega)] at a1
  have hp := pow_pos' (B := B) (by omega) k
  have : B ^ k * (x + 1) ≤ B ^ k * y := Int.mul_le_mul_of_nonneg_left (by omega) (Int.le_of_lt hp)
  generalize B * val B (ys.drop (k + 1)) = r at *
  have e1 : B ^ k * (x + r) = B ^ k * (x + 1) - B ^ k + B ^ k * r := by grind
  have e2 : B ^ k * (y + r) = B ^ k * y + B ^ k * r := by grind
  omega
end Go.Proofs.Ytagcgldhhdecjaa
namespace Go.Proofs.Ytagcgldhhdecjaa
open Go.RowKit

/-- n has at most L digits. -/
def Fit (B : Int) (n L : Nat) : Prop := (n : Int) < B ^ L
section
variable {B : Int} {n m a b L : Nat} {xs : List Int}
theorem Fit.mul (hB : 0 < B) (h : Fit B n a) (k : Fit B m b) : Fit B (n * m) (a + b) := by
  unfold Fit at *
  rw [Int.pow_add, Int.natCast_mul]
  have h1 : (n : Int) * m ≤ n * B ^ b := Int.mul_le_mul_of_nonneg_left (by omega) (by omega)
  have h2 : (n : Int) * B ^ b < B ^ a * B ^ b := Int.mul_lt_mul_of_pos_right h (pow_pos' hB b)
  omega
theorem Fit.mono (hB : 1 ≤ B) (h : Fit B n a) (hl : a ≤ b) : Fit B n b := by
  have := pow_le (B := B) hB hl
  unfold Fit at *; omega
theorem Fit.le (h : Fit B n a) (hl : m ≤ n) : Fit B m a := by unfold Fit at *; omega
theorem Fit.add (hB : 2 ≤ B) (h : Fit B n a) (k : Fit B m a) : Fit B (n + m) (a + 1) := by
  unfold Fit at *
  rw [Int.pow_succ]
  have hp := pow_pos' (B := B) (by omega) a
  have : B ^ a * 2 ≤ B ^ a * B := Int.mul_le_mul_of_nonneg_left hB (Int.le_of_lt hp)
  omega
theorem Fit.len (hB : 1 < B) (h : Fit B n L) (hr : Rep B xs n) : xs.length ≤ L := hr.len_le hB h
theorem Fit.one (hB : 1 < B) (h : 0 < L) : Fit B 1 L := by
  have := pow_le (B := B) (a := 1) (b := L) (by omega) h
  unfold Fit; rw [Int.pow_succ, Int.pow_zero] at this; omega
theorem Fit.zero (hB : 0 < B) : Fit B 0 L := by have := pow_pos' hB L; unfold Fit; omega
end

/-- A value that is a slice of words, the normal form of n. -/
def NatV (k : IntKind) (B : Int) (w : World) (v : Value) (n : Nat) : Prop :=
  ∃ A m c xs, v = .slice A m c ∧ Ints k w A m xs ∧ Rep B xs n ∧ m ≤ c ∧ c ≤ 9223372036854775807
theorem NatV.ext {k : IntKind} {B : Int} {w w' : World} {v : Value} {n : Nat} (h : NatV k B w v n) (he : Ext w w') : NatV k B w' v n := by
  obtain ⟨A, m, c, xs, h1, h2, h3⟩ := h
  exact ⟨A, m, c, xs, h1, h2.ext he, h3⟩
theorem NatV.zero {k : IntKind} {B : Int} {w : World} : NatV k B w (.slice none 0 0) 0 := ⟨none, 0, 0, [], rfl, Ints.nil, Rep.nil, by omega, by omega⟩

/-- What a call returns that makes a number. -/
def RetN (k : IntKind) (B : Int) (w : World) (n : Nat) (e : Ending) (w' : World) : Prop := ∃ v, e = .returned v ∧ NatV k B w' v n ∧ Ext w w'

/-- Storing at place j of a row of the call's own. -/
theorem OwnS.store {k : IntKind} {e : TypeId} {base : Nat} {w : World} {A : Option Addr} {n c : Nat} {xs : List Int} (h : OwnS k e base w A n c xs) {j : Nat} (hj : j < n) :
    ∃ g x, A = some ⟨g, 0, none⟩ ∧ xs[j]? = some x ∧ (Lit.int k x).wf = true ∧ w.cell? ⟨g, j, none⟩ = some (.int k x) ∧ w.frozen? ⟨g, j, none⟩ = false ∧ base ≤ g ∧
      Hid (∀ u, (Lit.int k u).wf = true → OwnS k e base (w.setCell ⟨g, j, none⟩ (.int k u)) A n c (xs.set j u)) := by
  have hj' : j < xs.length := by rw [h.len]; exact hj
  have hown := h.own
  rcases hown.2 with ⟨_, h0⟩ | ⟨g, cap, cur, hv, hg, _⟩
  · omega
  · injection hv with hA _ _
    subst hA
    have hc := hown.cellAt j (by omega)
    rw [List.getElem?_map, List.getElem?_eq_getElem hj'] at hc
    refine ⟨g, xs[j], rfl, List.getElem?_eq_getElem hj', h.wf _ (List.getElem_mem hj'), hc, hown.frozenAt j, hg, fun u hu => ⟨?_, by rw [List.length_set, h.len], fun x hx => ?_⟩⟩
    · have := (hown.stored j (.int k u)).1
      rwa [← List.map_set] at this
    · rcases List.mem_or_eq_of_mem_set hx with hx | hx
      · exact h.wf x hx
      · subst hx; exact hu
theorem OwnS.get {k : IntKind} {e : TypeId} {base : Nat} {w : World} {A : Option Addr} {n c : Nat} {xs : List Int} (h : OwnS k e base w A n c xs) {j : Nat} (hj : j < n) :
    ∃ g x, A = some ⟨g, 0, none⟩ ∧ xs[j]? = some x ∧ (Lit.int k x).wf = true ∧ w.cell? ⟨g, j, none⟩ = some (.int k x) := by
  obtain ⟨g, x, h1, h2, h3, h4, _⟩ := h.store hj
  exact ⟨g, x, h1, h2, h3, h4⟩
/-- A beginning of a row of the call's own. -/
theorem OwnS.front {k : IntKind} {e : TypeId} {base : Nat} {w : World} {A : Option Addr} {n c : Nat} {xs : List Int} (h : OwnS k e base w A n c xs) {m : Nat} (hm : m ≤ n) : OwnS k e base w A m c (xs.take m) := by
  refine ⟨⟨by simp [h.len]; omega, ?_⟩, by rw [List.length_take, h.len]; omega, fun x hx => h.wf x (List.mem_of_mem_take hx)⟩
  rcases h.own.2 with ⟨hv, h0⟩ | ⟨g, cap, cur, hv, hg, hb, h1, h2, h3, h4⟩
  · injection hv with hA hn hc
    subst hA hc
    obtain rfl : m = 0 := by omega
    exact .inl ⟨rfl, rfl⟩
  · injection hv with hA hn hc
    subst hA hc
    refine .inr ⟨g, c, cur, rfl, hg, hb, by omega, h2, h3, ?_⟩
    simp only [Nat.mul_one] at h4 ⊢
    rw [List.map_take, ← h4, List.take_take, Nat.min_eq_left hm]
theorem OwnS.natv {k : IntKind} {e : TypeId} {base : Nat} {w : World} {A : Option Addr} {n c : Nat} {xs : List Int} {B : Int} {N : Nat} (h : OwnS k e base w A n c xs) (hr : Rep B xs N) : NatV k B w (.slice A n c) N :=
  ⟨A, n, c, xs, rfl, h.ints, hr, h.cap.1, h.cap.2⟩
/-- The row that 'make' makes. -/
theorem OwnS.made {k : IntKind} {e : TypeId} {base : Nat} {w : World} {g n c : Nat} (h : w.ownsRow base e 1 (.slice (some ⟨g, 0, none⟩) n c) n (List.replicate n (.int k 0))) : OwnS k e base w (some ⟨g, 0, none⟩) n c (List.replicate n 0) := by
  refine ⟨by simpa using h, by simp, fun x hx => ?_⟩
  have := (List.mem_replicate.1 hx).2
  subst this
  cases k <;> decide
end Go.Proofs.Ytagcgldhhdecjaa
namespace Go.Proofs.Ytagcgldhhdecjaa

section
variable {B : Int} {xs ys out : List Int} {k i j : Nat} {x y u c s : Int}
theorem val_take_getD (xs : List Int) (k : Nat) : val B (xs.take (k + 1)) = val B (xs.take k) + B ^ k * xs.getD k 0 := by
  rcases Nat.lt_or_ge k xs.length with h | h
  · rw [val_take_succ (List.getElem?_eq_getElem h)]; simp [List.getD, h]
  · rw [List.take_of_length_le (by omega), List.take_of_length_le (by omega)]; simp [List.getD, h]
theorem val_take_set (h : k < out.length) (u : Int) : val B ((out.set k u).take (k + 1)) = val B (out.take k) + B ^ k * u := by
  rw [val_take_getD, List.take_set_of_le (Nat.le_refl k)]; simp [List.getD, h]
theorem val_take_all (h : xs.length ≤ k) : val B (xs.take k) = val B xs := by rw [List.take_of_length_le h]

/-- One step of the inner loop of a multiplication: x is the digit i of the first number. -/
theorem mul_step {v : Int} {n : Nat} (hi : val B (out.take n) + c * B ^ (i + j) = v + x * val B (ys.take j) * B ^ i) (hl : i + j < n) (_hn : n ≤ out.length) {o : Int} (ho : out[i + j]? = some o) (hs : s = x * ys.getD j 0 + o + c) :
    val B ((out.set (i + j) (s % B)).take n) + s / B * B ^ (i + (j + 1)) = v + x * val B (ys.take (j + 1)) * B ^ i := by
  have e := Int.emod_add_mul_ediv s B
  have h1 : (out.set (i + j) (s % B)).take n = (out.take n).set (i + j) (s % B) := by rw [List.take_set]
  have h2 : (out.take n)[i + j]? = some o := by rw [List.getElem?_take, if_pos hl, ho]
  rw [h1, val_set h2, val_take_getD, ← Nat.add_assoc, Int.pow_succ]
  have h3 : B ^ (i + j) = B ^ i * B ^ j := Int.pow_add ..
  grind
/-- One step of the outer loop. -/
theorem mul_next {V : Int} {n : Nat} (hi : val B (out.take n) + c * B ^ (i + j) = val B (xs.take i) * V + x * V * B ^ i) (hn : n = i + j) (hl : n < out.length) (hx : xs.getD i 0 = x) :
    val B ((out.set n c).take (n + 1)) = val B (xs.take (i + 1)) * V := by
  subst hn
  rw [val_take_set hl, val_take_getD, hx]
  grind
end
end Go.Proofs.Ytagcgldhhdecjaa
namespace Go.Proofs.Ytagcgldhhdecjaa
open Go.RowKit

/-- How two numbers compare. -/
def cmpI (n m : Nat) : Int := if n < m then -1 else if m < n then 1 else 0
theorem cmpI_lt {n m : Nat} (h : n < m) : cmpI n m = -1 := by simp [cmpI, h]
theorem cmpI_gt {n m : Nat} (h : m < n) : cmpI n m = 1 := by
  unfold cmpI; rw [if_neg (by omega), if_pos h]
theorem cmpI_eq {n m : Nat} (h : n = m) : cmpI n m = 0 := by simp [cmpI, h]

end Go.Proofs.Ytagcgldhhdecjaa
namespace Go.Proofs.Ytagcgldhhdecjaa
open Go.RowKit

theorem elI : Elem Try.prog 22 3 1 8 (.int .i64 0) := Elem.mk' (by kernel_rfl) (by kernel_rfl) rfl (by decide)
/-- A number of the reference. -/
def Z16 (w : World) (v : Value) (n : Nat) : Prop := NatV .i64 65536 w v n
theorem Z16.ext {w w' : World} {v : Value} {n : Nat} (h : Z16 w v n) (he : Ext w w') : Z16 w' v n := NatV.ext h he
theorem wf16 {x : Int} (h : 0 ≤ x ∧ x < 65536) : (Lit.int .i64 x).wf = true := WalkArith.wf_i64 (by omega)
theorem dg_wf {xs : List Int} (h : Dg 65536 xs) : ∀ x ∈ xs, (Lit.int .i64 x).wf = true := fun x hx => wf16 (h x hx)

/-- What trim returns: a beginning without most significant zeros, of the same value. -/
def RetTrim (w : World) (A : Option Addr) (n c : Nat) (xs : List Int) (e : Ending) (w' : World) : Prop :=
  ∃ m, m ≤ n ∧ Nm (xs.take m) ∧ val 65536 (xs.take m) = val 65536 xs ∧ e = .returned (.slice A m c) ∧ w = w'

set_option maxRecDepth 100000 in
set_option maxHeartbeats 400000 in
theorem trim_any (A : Option Addr) (n c : Nat) (xs : List Int) (w : World) (h : Ints .i64 w A n xs) (hnc : n ≤ c) (hcm : c ≤ 9223372036854775807) :
    Calls Try.prog 132 #[.slice A n c] w (RetTrim w A n c xs) := by
  have H := Lib.hid h
  have HL : Hid (xs.length = n) := h.1
  clear h
  go_enter Try.func132, Try.ntmps132
  go_wp2
  go_loopg [3] n (fun g v wr => ∃ m : Nat, m = g ∧ m ≤ n ∧ v = .int .i64 (m : Int) ∧ Hid (val 65536 (xs.take m) = val 65536 xs) ∧ w = wr)
  case atStart => exact ⟨n, rfl, Nat.le_refl _, rfl, by rw [List.take_of_length_le (by rw [HL.out]; exact Nat.le_refl _)]; rfl, rfl⟩
  case round =>
    obtain ⟨m, rfl, hm, rfl, hv, rfl⟩ := hrel
    rcases Nat.eq_zero_or_pos m with h0 | h0
    · subst h0
      go_wp2_with (first | (refine wpList_cutH (o := ⟨some 20, _, _, _, _, _⟩) _ elI rfl _ _ rfl A n c rfl _ _ 0 rfl rfl (by omega) ?_))
      go_ret
      exact ⟨0, by omega, by simp [Nm], hv.out, rfl, rfl⟩
    · obtain ⟨k, rfl⟩ : ∃ k, m = k + 1 := ⟨m - 1, by omega⟩
      obtain ⟨b, off, x, rfl, hx, hwf, hc⟩ := H.out.get (j := k) (by omega)
      obtain ⟨hx0, hx1⟩ := i64_bounds hwf
      have HX := Lib.hid hx
      have hkc : ((k + 1 : Nat) : Int) = (k : Int) + 1 := by omega
      have hk0 : (0 : Int) ≤ (k : Int) := by omega
      have hkn : (k : Int) < (n : Int) := by omega
      rw [hkc]
      clear hx hwf hkc
      by_cases hz : x = 0
      · have hzb : (x == 0) = true := by simpa using hz
        have HV : Hid (val 65536 (xs.take k) = val 65536 xs) := by
          have := hv.out
          rw [val_take_succ HX.out, hz] at this
          show _ = _
          omega
        clear hz hv
        go_wp2
        go_roundg k
        case rel => exact ⟨k, rfl, by omega, rfl, HV, rfl⟩
        case measure => omega
      · have hzb : (x == 0) = false := by simpa using hz
        have HZ := Lib.hid hz
        clear hz
        go_wp2_with (first | (refine wpList_cutH (o := ⟨some 20, _, _, _, _, _⟩) _ elI rfl _ _ rfl _ n c rfl _ _ (k + 1) rfl (by omega) (by omega) ?_))
        go_ret
        exact ⟨k + 1, hm, Nm.take HX.out HZ.out, hv.out, rfl, rfl⟩
theorem trimN {A : Option Addr} {n c N : Nat} {xs : List Int} {w : World} (h : Ints .i64 w A n xs) (hd : Dg 65536 xs) (he : val 65536 xs = (N : Int)) (hnc : n ≤ c) (hcm : c ≤ 9223372036854775807) :
    Calls Try.prog 132 #[.slice A n c] w fun e w' => ∃ v, e = .returned v ∧ Z16 w v N ∧ w = w' := by
  refine (trim_any A n c xs w h hnc hcm).mono ?_
  rintro e w' ⟨m, hm, hN, hv, rfl, rfl⟩
  exact ⟨_, rfl, ⟨A, m, c, xs.take m, rfl, h.take hm, Rep.of_take hd hv hN he, by omega, hcm⟩, rfl⟩

theorem val_take_next (xs : List Int) (k : Nat) : val 65536 (xs.take (k + 1)) = val 65536 (xs.take k) + 65536 ^ k * xs.getD k 0 := by
  by_cases h : k < xs.length
  · have hx : xs[k]? = some xs[k] := List.getElem?_eq_getElem h
    rw [val_take_succ hx]
    simp [List.getD, hx]
  · rw [List.take_of_length_le (by omega), List.take_of_length_le (by omega)]
    simp [List.getD, List.getElem?_eq_none (by omega : xs.length ≤ k)]
theorem getD_some {xs : List Int} {k : Nat} {x : Int} (h : xs[k]? = some x) : xs.getD k 0 = x := by simp [List.getD, h]
theorem getD_none {xs : List Int} {k : Nat} (h : xs.length ≤ k) : xs.getD k 0 = 0 := by simp [List.getD, List.getElem?_eq_none h]
theorem plus_step {xs ys out : List Int} {k : Nat} {c s : Int} (hI : val 65536 out + c * 65536 ^ k = val 65536 (xs.take k) + val 65536 (ys.take k)) (hl : out.length = k) (hs : s = c + xs.getD k 0 + ys.getD k 0) :
    val 65536 (out ++ [s % 65536]) + s / 65536 * 65536 ^ (k + 1) = val 65536 (xs.take (k + 1)) + val 65536 (ys.take (k + 1)) := by
  rw [val_snoc, hl, val_take_next, val_take_next, Int.pow_succ]
  have h := Int.mul_ediv_add_emod s 65536
  generalize s / 65536 = q at *
  generalize s % 65536 = r at *
  have hs' : r = c + xs.getD k 0 + ys.getD k 0 - 65536 * q := by omega
  subst hs'
  grind
theorem less_step {xs ys out : List Int} {k : Nat} {c c' s : Int} (hI : val 65536 out = val 65536 (xs.take k) - val 65536 (ys.take k) + c * 65536 ^ k) (hl : out.length = k) (hs : s = xs.getD k 0 - c - ys.getD k 0 + 65536 * c') :
    val 65536 (out ++ [s]) = val 65536 (xs.take (k + 1)) - val 65536 (ys.take (k + 1)) + c' * 65536 ^ (k + 1) := by
  rw [val_snoc, hl, val_take_next, val_take_next, Int.pow_succ, hs]
  grind

set_option maxHeartbeats 1000000 in
theorem compare_any (va vb : Value) (n m : Nat) (w : World) (ha : Z16 w va n) (hb : Z16 w vb m) :
    Calls Try.prog 130 #[va, vb] w fun e w' => e = .returned (.int .i64 (cmpI n m)) ∧ Ext w w' := by
  obtain ⟨A, la, ca, xs, rfl, hA, hrx, hca, hcam⟩ := ha
  obtain ⟨B, lb, cb, ys, rfl, hB, hry, hcb, hcbm⟩ := hb
  have HA := Lib.hid hA
  have HB := Lib.hid hB
  have HRX := Lib.hid hrx
  have HRY := Lib.hid hry
  have HLA : Hid (xs.length = la) := hA.1
  have HLB : Hid (ys.length = lb) := hB.1
  clear hA hB hrx hry
  by_cases hne : la = lb
  · subst hne
    have hnb : ((la : Int) != (la : Int)) = false := by simp
    go_enter Try.func130, Try.ntmps130
    go_wp2
    go_loopg [5] (la + 1) (fun g i wr => ∃ k : Nat, g = k + 1 ∧ k ≤ la ∧ i = .int .i64 ((k : Int) - 1) ∧ Hid (xs.drop k = ys.drop k) ∧ Ext w wr)
    case atStart => exact ⟨la, rfl, Nat.le_refl _, rfl, by rw [List.drop_eq_nil_of_le (by rw [HLA.out]; exact Nat.le_refl _), List.drop_eq_nil_of_le (by rw [HLB.out]; exact Nat.le_refl _)]; rfl, Ext.refl w⟩
    case round =>
      obtain ⟨k, rfl, hk, rfl, hd, hX⟩ := hrel
      have HX := Lib.hid hX
      clear hX
      rcases Nat.eq_zero_or_pos k with h0 | h0
      · subst h0
        rw [show (((0 : Nat) : Int) - 1) = -1 by omega]
        go_wp2
        go_ret
        refine ⟨?_, HX.out⟩
        have e : xs = ys := by simpa using hd.out
        have := HRX.out.2.2
        rw [e, HRY.out.2.2] at this
        rw [cmpI_eq (by omega)]
        rfl
      · obtain ⟨i, rfl⟩ : ∃ i, k = i + 1 := ⟨k - 1, by omega⟩
        obtain ⟨b, off, x, rfl, hx, hwf, hc⟩ := (HA.out.ext HX.out).get (j := i) (by omega)
        obtain ⟨b', off', y, rfl, hy, hwf', hc'⟩ := (HB.out.ext HX.out).get (j := i) (by omega)
        obtain ⟨hx0, hx1⟩ := i64_bounds hwf
        obtain ⟨hy0, hy1⟩ := i64_bounds hwf'
        have HXX := Lib.hid hx
        have HYY := Lib.hid hy
        have hi1 : (((i + 1 : Nat) : Int) - 1) = (i : Int) := by omega
        have hi2 : (i : Int) < (la : Int) := by omega
        have hi0 : (0 : Int) ≤ (i : Int) := by omega
        rw [hi1]
        clear hx hwf hy hwf' hi1
        by_cases hxy : x = y
        · have hb1 : (x != y) = false := by simpa using hxy
          have HXY := Lib.hid hxy
          clear hxy
          go_wp2
          go_quiet (fail)
          go_wp2
          go_roundg (i + 1)
          case rel => exact ⟨i, rfl, by omega, by go_num, by
            have h1 := List.getElem?_eq_some_iff.1 HXX.out
            have h2 := List.getElem?_eq_some_iff.1 HYY.out
            show xs.drop i = ys.drop i
            rw [List.drop_eq_getElem_cons h1.1, List.drop_eq_getElem_cons h2.1, h1.2, h2.2, HXY.out, hd.out], HX.out.drewN _⟩
          case measure => omega
        · have hb1 : (x != y) = true := by simpa using hxy
          by_cases hlt : x < y
          · have HLT := Lib.hid hlt
            clear hxy
            go_wp2
            go_quiet (fail)
            go_wp2
            go_quiet (fail)
            go_wp2
            go_ret
            have := cmp_step (by omega) (by rw [HLA.out, HLB.out]) HRX.out.1 HRY.out.1 hd.out HXX.out HYY.out HLT.out
            rw [HRX.out.2.2, HRY.out.2.2] at this
            exact ⟨by rw [cmpI_lt (by omega)]; rfl, (HX.out.drewN _).drewN _⟩
          · have HLT : Hid (y < x) := by show y < x; omega
            clear hxy
            go_wp2
            go_quiet (fail)
            go_wp2
            go_quiet (fail)
            go_wp2
            go_ret
            have := cmp_step (by omega) (by rw [HLA.out, HLB.out]) HRY.out.1 HRX.out.1 hd.out.symm HYY.out HXX.out HLT.out
            rw [HRX.out.2.2, HRY.out.2.2] at this
            exact ⟨by rw [cmpI_gt (by omega)]; rfl, (HX.out.drewN _).drewN _⟩
  · have hnb : ((la : Int) != (lb : Int)) = true := by simp; omega
    by_cases hlt : la < lb
    · have := HRX.out.lt_of_len (by omega) HRY.out (by rw [HLA.out, HLB.out]; exact hlt)
      rw [cmpI_lt this]
      clear this hne
      go_enter Try.func130, Try.ntmps130
      go_wp2
      go_ret
      exact ⟨rfl, Ext.refl w⟩
    · have := HRY.out.lt_of_len (by omega) HRX.out (by rw [HLA.out, HLB.out]; omega)
      rw [cmpI_gt this]
      clear this hne
      go_enter Try.func130, Try.ntmps130
      go_wp2
      go_ret
      exact ⟨rfl, Ext.refl w⟩

set_option maxHeartbeats 2000000 in
theorem plus_any (va vb : Value) (n m L : Nat) (w : World) (ha : Z16 w va n) (hb : Z16 w vb m) (fn : Fit 65536 n L) (fm : Fit 65536 m L) (hL : L ≤ 1000000) :
    Calls Try.prog 129 #[va, vb] w (RetN .i64 65536 w (n + m)) := by
  obtain ⟨A, la, ca, xs, rfl, hA, hrx, hca, hcam⟩ := ha
  obtain ⟨B, lb, cb, ys, rfl, hB, hry, hcb, hcbm⟩ := hb
  have hla := fn.len (by omega) hrx
  have hlb := fm.len (by omega) hry
  rw [hA.1] at hla
  rw [hB.1] at hlb
  have HA := Lib.hid hA
  have HB := Lib.hid hB
  have HRX := Lib.hid hrx
  have HRY := Lib.hid hry
  have HLA : Hid (xs.length = la) := hA.1
  have HLB : Hid (ys.length = lb) := hB.1
  clear hA hB hrx hry fn fm
  go_enter Try.func129, Try.ntmps129
  go_wp2
  go_loopg [5, 6, 7] (la + lb + 1) (fun g v cy i wr => ∃ (k : Nat) (c : Int) (out : List Int), g = la + lb + 1 - k ∧ k ≤ la + lb + 1 ∧ (k ≤ la ∨ k ≤ lb ∨ c = 0) ∧ i = .int .i64 (k : Int) ∧ cy = .int .i64 c ∧ 0 ≤ c ∧ c ≤ 1 ∧ Hid (wr.ownsRow w.heap.size 3 1 v k (out.map (.int .i64))) ∧ Hid (Dg 65536 out) ∧ Hid (out.length = k) ∧ Hid (val 65536 out + c * 65536 ^ k = val 65536 (xs.take k) + val 65536 (ys.take k)) ∧ Hid (Ext w wr))
  case atStart => exact ⟨0, 0, [], rfl, by omega, by omega, rfl, rfl, by omega, by omega, World.ownsRow_nil _ _ _ _, Dg.nil, rfl, by simp [Hid, val], Ext.refl w⟩
  case round =>
    obtain ⟨k, c, out, rfl, hk, hor, rfl, rfl, hc0, hc1, HO, HD, HLO, HI, HX⟩ := hrel
    have hk0 : (0 : Int) ≤ (k : Int) := by omega
    have hown := HO.out
    by_cases h1 : k < la
    · have h1I : (k : Int) < (la : Int) := by omega
      obtain ⟨b1, o1, x, rfl, hx, hwf, hcx⟩ := (HA.out.ext HX.out).get h1
      obtain ⟨hx0, hx1⟩ := HRX.out.1.get hx
      have HXX := Lib.hid (getD_some hx)
      clear hx hwf
      by_cases h2 : k < lb
      · have h2I : (k : Int) < (lb : Int) := by omega
        obtain ⟨b2, o2, y, rfl, hy, hwf, hcy⟩ := (HB.out.ext HX.out).get h2
        obtain ⟨hy0, hy1⟩ := HRY.out.1.get hy
        have HYY := Lib.hid (getD_some hy)
        clear hy hwf
        have HS : Hid (c + x + y = c + xs.getD k 0 + ys.getD k 0) := by show _ = _; rw [HXX.out, HYY.out]
        have hs0 : 0 ≤ c + x + y := by omega
        have hs1 : c + x + y ≤ 131071 := by omega
        have hm0 := Int.emod_nonneg (c + x + y) (show (65536 : Int) ≠ 0 by omega)
        have hm1 := Int.emod_lt_of_pos (c + x + y) (show (0 : Int) < 65536 by omega)
        have HST := Lib.hid (plus_step HI.out HLO.out HS.out)
        have HDD := Lib.hid (HD.out.append (Dg.one ⟨hm0, hm1⟩))
        clear hm0 hm1
        go_wp2_with (at_builtin; refine wpList_app _ elI rfl _ _ rfl w.heap.size _ k _ rfl (hown.alloc _) _ 1 1 [.int .i64 ((c + x + y) % 65536)] rfl rfl (At.new _ [_] _) (by simp [Value.oneCell']) (by omega) (by unfold maxLen; omega) (by have := HX.out.size; simp; omega) ?_; intro v1 w1 hown1 hgr1 _; have HO1 := Lib.hid hown1; have HX1 := Lib.hid (Ext.push HX.out HO.out hgr1); clear hown1 hgr1)
        go_roundg (la + lb + 1 - (k + 1))
        case rel => exact ⟨k + 1, (c + x + y) / 65536, out ++ [(c + x + y) % 65536], rfl, by omega, by omega, by go_num, rfl, by omega, by omega, by rw [List.map_append]; exact HO1.out, HDD.out, by rw [List.length_append, HLO.out]; rfl, HST.out, HX1.out⟩
        case measure => omega
      · have HYY : Hid (ys.getD k 0 = 0) := getD_none (by rw [HLB.out]; omega)
        have HS : Hid (c + x = c + xs.getD k 0 + ys.getD k 0) := by show _ = _; rw [HXX.out, HYY.out]; omega
        have hs0 : 0 ≤ c + x := by omega
        have hs1 : c + x ≤ 131071 := by omega
        have hm0 := Int.emod_nonneg (c + x) (show (65536 : Int) ≠ 0 by omega)
        have hm1 := Int.emod_lt_of_pos (c + x) (show (0 : Int) < 65536 by omega)
        have HST := Lib.hid (plus_step HI.out HLO.out HS.out)
        have HDD := Lib.hid (HD.out.append (Dg.one ⟨hm0, hm1⟩))
        clear hm0 hm1
        go_wp2_with (at_builtin; refine wpList_app _ elI rfl _ _ rfl w.heap.size _ k _ rfl (hown.alloc _) _ 1 1 [.int .i64 ((c + x) % 65536)] rfl rfl (At.new _ [_] _) (by simp [Value.oneCell']) (by omega) (by unfold maxLen; omega) (by have := HX.out.size; simp; omega) ?_; intro v1 w1 hown1 hgr1 _; have HO1 := Lib.hid hown1; have HX1 := Lib.hid (Ext.push HX.out HO.out hgr1); clear hown1 hgr1)
        go_roundg (la + lb + 1 - (k + 1))
        case rel => exact ⟨k + 1, (c + x) / 65536, out ++ [(c + x) % 65536], rfl, by omega, by omega, by go_num, rfl, by omega, by omega, by rw [List.map_append]; exact HO1.out, HDD.out, by rw [List.length_append, HLO.out]; rfl, HST.out, HX1.out⟩
        case measure => omega
    · have HXX : Hid (xs.getD k 0 = 0) := getD_none (by rw [HLA.out]; omega)
      by_cases h2 : k < lb
      · have h2I : (k : Int) < (lb : Int) := by omega
        obtain ⟨b2, o2, y, rfl, hy, hwf, hcy⟩ := (HB.out.ext HX.out).get h2
        obtain ⟨hy0, hy1⟩ := HRY.out.1.get hy
        have HYY := Lib.hid (getD_some hy)
        clear hy hwf
        have HS : Hid (c + y = c + xs.getD k 0 + ys.getD k 0) := by show _ = _; rw [HXX.out, HYY.out]; omega
        have hs0 : 0 ≤ c + y := by omega
        have hs1 : c + y ≤ 131071 := by omega
        have hm0 := Int.emod_nonneg (c + y) (show (65536 : Int) ≠ 0 by omega)
        have hm1 := Int.emod_lt_of_pos (c + y) (show (0 : Int) < 65536 by omega)
        have HST := Lib.hid (plus_step HI.out HLO.out HS.out)
        have HDD := Lib.hid (HD.out.append (Dg.one ⟨hm0, hm1⟩))
        clear hm0 hm1
        go_wp2_with (at_builtin; refine wpList_app _ elI rfl _ _ rfl w.heap.size _ k _ rfl (hown.alloc _) _ 1 1 [.int .i64 ((c + y) % 65536)] rfl rfl (At.new _ [_] _) (by simp [Value.oneCell']) (by omega) (by unfold maxLen; omega) (by have := HX.out.size; simp; omega) ?_; intro v1 w1 hown1 hgr1 _; have HO1 := Lib.hid hown1; have HX1 := Lib.hid (Ext.push HX.out HO.out hgr1); clear hown1 hgr1)
        go_roundg (la + lb + 1 - (k + 1))
        case rel => exact ⟨k + 1, (c + y) / 65536, out ++ [(c + y) % 65536], rfl, by omega, by omega, by go_num, rfl, by omega, by omega, by rw [List.map_append]; exact HO1.out, HDD.out, by rw [List.length_append, HLO.out]; rfl, HST.out, HX1.out⟩
        case measure => omega
      · have HYY : Hid (ys.getD k 0 = 0) := getD_none (by rw [HLB.out]; omega)
        by_cases h3 : 0 < c
        · have HS : Hid (c = c + xs.getD k 0 + ys.getD k 0) := by show _ = _; rw [HXX.out, HYY.out]; omega
          have hs0 : 0 ≤ c := by omega
          have hs1 : c ≤ 131071 := by omega
          have hm0 := Int.emod_nonneg (c) (show (65536 : Int) ≠ 0 by omega)
          have hm1 := Int.emod_lt_of_pos (c) (show (0 : Int) < 65536 by omega)
          have HST := Lib.hid (plus_step HI.out HLO.out HS.out)
          have HDD := Lib.hid (HD.out.append (Dg.one ⟨hm0, hm1⟩))
          clear hm0 hm1
          go_wp2_with (at_builtin; refine wpList_app _ elI rfl _ _ rfl w.heap.size _ k _ rfl (hown.alloc _) _ 1 1 [.int .i64 ((c) % 65536)] rfl rfl (At.new _ [_] _) (by simp [Value.oneCell']) (by omega) (by unfold maxLen; omega) (by have := HX.out.size; simp; omega) ?_; intro v1 w1 hown1 hgr1 _; have HO1 := Lib.hid hown1; have HX1 := Lib.hid (Ext.push HX.out HO.out hgr1); clear hown1 hgr1)
          go_roundg (la + lb + 1 - (k + 1))
          case rel => exact ⟨k + 1, (c) / 65536, out ++ [(c) % 65536], rfl, by omega, by omega, by go_num, rfl, by omega, by omega, by rw [List.map_append]; exact HO1.out, HDD.out, by rw [List.length_append, HLO.out]; rfl, HST.out, HX1.out⟩
          case measure => omega
        · obtain rfl : c = 0 := by omega
          have hI := HI.out
          rw [List.take_of_length_le (by rw [HLA.out]; omega), List.take_of_length_le (by rw [HLB.out]; omega), HRX.out.2.2, HRY.out.2.2] at hI
          have HV : Hid (val 65536 out = ((n + m : Nat) : Int)) := by show _ = _; omega
          clear hI hown
          obtain ⟨A2, c2, rfl⟩ := own_slice HO.out
          have HOS : Hid (OwnS .i64 3 w.heap.size wr A2 k c2 out) := ⟨HO.out, HLO.out, dg_wf HD.out⟩
          obtain ⟨hc1', hc2'⟩ := HOS.out.cap
          go_wp2_with fail
          refine (trimN HOS.out.ints HD.out HV.out hc1' hc2').mono ?_
          rintro e _ ⟨v, rfl, hv, rfl⟩
          have HZ := Lib.hid hv
          clear hv
          go_wp2
          go_ret
          exact ⟨_, rfl, HZ.out, HX.out⟩

end Go.Proofs.Ytagcgldhhdecjaa
namespace Go.Proofs.Ytagcgldhhdecjaa
open Go.RowKit

/-- What a call returns that makes a number in memory of its own. -/
def RetOwn (w : World) (n : Nat) (e : Ending) (w' : World) : Prop := ∃ A l c xs, e = .returned (.slice A l c) ∧ OwnS .i64 3 w.heap.size w' A l c xs ∧ Rep 65536 xs n ∧ Ext w w'
theorem RetOwn.n {w : World} {n : Nat} {e : Ending} {w' : World} (h : RetOwn w n e w') : RetN .i64 65536 w n e w' := by
  obtain ⟨A, l, c, xs, h1, h2, h3, h4⟩ := h
  exact ⟨_, h1, h2.natv h3, h4⟩
theorem trimO {A : Option Addr} {n c N base : Nat} {xs : List Int} {w : World} (h : OwnS .i64 3 base w A n c xs) (hd : Dg 65536 xs) (he : val 65536 xs = (N : Int)) :
    Calls Try.prog 132 #[.slice A n c] w fun e w' => ∃ l ys, e = .returned (.slice A l c) ∧ OwnS .i64 3 base w A l c ys ∧ Rep 65536 ys N ∧ w = w' := by
  refine (trim_any A n c xs w h.ints h.cap.1 h.cap.2).mono ?_
  rintro e w' ⟨m, hm, hN, hv, rfl, rfl⟩
  exact ⟨m, _, rfl, h.front hm, Rep.of_take hd hv hN he, rfl⟩
theorem less_end {n m : Int} {c p o : Int} (h : o = n - m + c * p) (hc0 : 0 ≤ c) (_hc1 : c ≤ 1) (hp : 0 < p) (ho : o < p) (hnm : m ≤ n) : o = n - m := by
  by_cases h1 : c = 0
  · rw [h, h1]; omega
  · obtain rfl : c = 1 := by omega
    omega

set_option maxHeartbeats 2000000 in
theorem less_own (va vb : Value) (n m L : Nat) (w : World) (ha : Z16 w va n) (hb : Z16 w vb m) (fn : Fit 65536 n L) (hL : L ≤ 1000000) (hmn : m ≤ n) :
    Calls Try.prog 131 #[va, vb] w (RetOwn w (n - m)) := by
  obtain ⟨A, la, ca, xs, rfl, hA, hrx, hca, hcam⟩ := ha
  obtain ⟨B, lb, cb, ys, rfl, hB, hry, hcb, hcbm⟩ := hb
  have hla := fn.len (by omega) hrx
  rw [hA.1] at hla
  have hlen : lb ≤ la := by
    apply Nat.le_of_not_lt
    intro h
    have := hrx.lt_of_len (by omega) hry (by rw [hA.1, hB.1]; exact h)
    omega
  have HA := Lib.hid hA
  have HB := Lib.hid hB
  have HRX := Lib.hid hrx
  have HRY := Lib.hid hry
  have HLA : Hid (xs.length = la) := hA.1
  have HLB : Hid (ys.length = lb) := hB.1
  have HMN := Lib.hid hmn
  clear hA hB hrx hry fn hmn
  go_enter Try.func131, Try.ntmps131
  go_wp2
  go_loopg [5, 6, 7] la (fun g v cy i wr => ∃ (k : Nat) (c : Int) (out : List Int), g = la - k ∧ k ≤ la ∧ i = .int .i64 (k : Int) ∧ cy = .int .i64 c ∧ 0 ≤ c ∧ c ≤ 1 ∧ Hid (wr.ownsRow w.heap.size 3 1 v k (out.map (.int .i64))) ∧ Hid (Dg 65536 out) ∧ Hid (out.length = k) ∧ Hid (val 65536 out = val 65536 (xs.take k) - val 65536 (ys.take k) + c * 65536 ^ k) ∧ Hid (Ext w wr))
  case atStart => exact ⟨0, 0, [], rfl, by omega, rfl, rfl, by omega, by omega, World.ownsRow_nil _ _ _ _, Dg.nil, rfl, by simp [Hid, val], Ext.refl w⟩
  case round =>
    obtain ⟨k, c, out, rfl, hk, rfl, rfl, hc0, hc1, HO, HD, HLO, HI, HX⟩ := hrel
    have hk0 : (0 : Int) ≤ (k : Int) := by omega
    have hown := HO.out
    by_cases h1 : k < la
    · have h1I : (k : Int) < (la : Int) := by omega
      obtain ⟨b1, o1, x, rfl, hx, hwf, hcx⟩ := (HA.out.ext HX.out).get h1
      obtain ⟨hx0, hx1⟩ := HRX.out.1.get hx
      have HXX := Lib.hid (getD_some hx)
      clear hx hwf
      by_cases h2 : k < lb
      · have h2I : (k : Int) < (lb : Int) := by omega
        obtain ⟨b2, o2, y, rfl, hy, hwf, hcy⟩ := (HB.out.ext HX.out).get h2
        obtain ⟨hy0, hy1⟩ := HRY.out.1.get hy
        have HYY := Lib.hid (getD_some hy)
        clear hy hwf
        by_cases hs : x - c - y < 0
        · have HS : Hid (x - c - y + 65536 = xs.getD k 0 - c - ys.getD k 0 + 65536 * 1) := by show _ = _; rw [HXX.out, HYY.out]; omega
          have HST := Lib.hid (less_step HI.out HLO.out HS.out)
          have HDD := Lib.hid (HD.out.append (Dg.one (B := 65536) (x := x - c - y + 65536) ⟨by omega, by omega⟩))
          go_wp2_with (at_builtin; refine wpList_app _ elI rfl _ _ rfl w.heap.size _ k _ rfl (hown.alloc _) _ 1 1 [.int .i64 (x - c - y + 65536)] rfl rfl (At.new _ [_] _) (by simp [Value.oneCell']) (by omega) (by unfold maxLen; omega) (by have := HX.out.size; simp; omega) ?_; intro v1 w1 hown1 hgr1 _; have HO1 := Lib.hid hown1; have HX1 := Lib.hid (Ext.push HX.out HO.out hgr1); clear hown1 hgr1)
          go_roundg (la - (k + 1))
          case rel => exact ⟨k + 1, 1, out ++ [x - c - y + 65536], rfl, by omega, by go_num, rfl, by omega, by omega, by rw [List.map_append]; exact HO1.out, HDD.out, by rw [List.length_append, HLO.out]; rfl, HST.out, HX1.out⟩
          case measure => omega
        · have HS : Hid (x - c - y = xs.getD k 0 - c - ys.getD k 0 + 65536 * 0) := by show _ = _; rw [HXX.out, HYY.out]; omega
          have HST := Lib.hid (less_step HI.out HLO.out HS.out)
          have HDD := Lib.hid (HD.out.append (Dg.one (B := 65536) (x := x - c - y) ⟨by omega, by omega⟩))
          go_wp2_with (at_builtin; refine wpList_app _ elI rfl _ _ rfl w.heap.size _ k _ rfl (hown.alloc _) _ 1 1 [.int .i64 (x - c - y)] rfl rfl (At.new _ [_] _) (by simp [Value.oneCell']) (by omega) (by unfold maxLen; omega) (by have := HX.out.size; simp; omega) ?_; intro v1 w1 hown1 hgr1 _; have HO1 := Lib.hid hown1; have HX1 := Lib.hid (Ext.push HX.out HO.out hgr1); clear hown1 hgr1)
          go_roundg (la - (k + 1))
          case rel => exact ⟨k + 1, 0, out ++ [x - c - y], rfl, by omega, by go_num, rfl, by omega, by omega, by rw [List.map_append]; exact HO1.out, HDD.out, by rw [List.length_append, HLO.out]; rfl, HST.out, HX1.out⟩
          case measure => omega
      · have HYY : Hid (ys.getD k 0 = 0) := getD_none (by rw [HLB.out]; omega)
        by_cases hs : x - c < 0
        · have HS : Hid (x - c + 65536 = xs.getD k 0 - c - ys.getD k 0 + 65536 * 1) := by show _ = _; rw [HXX.out, HYY.out]; omega
          have HST := Lib.hid (less_step HI.out HLO.out HS.out)
          have HDD := Lib.hid (HD.out.append (Dg.one (B := 65536) (x := x - c + 65536) ⟨by omega, by omega⟩))
          go_wp2_with (at_builtin; refine wpList_app _ elI rfl _ _ rfl w.heap.size _ k _ rfl (hown.alloc _) _ 1 1 [.int .i64 (x - c + 65536)] rfl rfl (At.new _ [_] _) (by simp [Value.oneCell']) (by omega) (by unfold maxLen; omega) (by have := HX.out.size; simp; omega) ?_; intro v1 w1 hown1 hgr1 _; have HO1 := Lib.hid hown1; have HX1 := Lib.hid (Ext.push HX.out HO.out hgr1); clear hown1 hgr1)
          go_roundg (la - (k + 1))
          case rel => exact ⟨k + 1, 1, out ++ [x - c + 65536], rfl, by omega, by go_num, rfl, by omega, by omega, by rw [List.map_append]; exact HO1.out, HDD.out, by rw [List.length_append, HLO.out]; rfl, HST.out, HX1.out⟩
          case measure => omega
        · have HS : Hid (x - c = xs.getD k 0 - c - ys.getD k 0 + 65536 * 0) := by show _ = _; rw [HXX.out, HYY.out]; omega
          have HST := Lib.hid (less_step HI.out HLO.out HS.out)
          have HDD := Lib.hid (HD.out.append (Dg.one (B := 65536) (x := x - c) ⟨by omega, by omega⟩))
          go_wp2_with (at_builtin; refine wpList_app _ elI rfl _ _ rfl w.heap.size _ k _ rfl (hown.alloc _) _ 1 1 [.int .i64 (x - c)] rfl rfl (At.new _ [_] _) (by simp [Value.oneCell']) (by omega) (by unfold maxLen; omega) (by have := HX.out.size; simp; omega) ?_; intro v1 w1 hown1 hgr1 _; have HO1 := Lib.hid hown1; have HX1 := Lib.hid (Ext.push HX.out HO.out hgr1); clear hown1 hgr1)
          go_roundg (la - (k + 1))
          case rel => exact ⟨k + 1, 0, out ++ [x - c], rfl, by omega, by go_num, rfl, by omega, by omega, by rw [List.map_append]; exact HO1.out, HDD.out, by rw [List.length_append, HLO.out]; rfl, HST.out, HX1.out⟩
          case measure => omega
    · obtain rfl : la = k := by omega
      have hI := HI.out
      rw [List.take_of_length_le (by rw [HLA.out]; omega), List.take_of_length_le (by rw [HLB.out]; omega), HRX.out.2.2, HRY.out.2.2] at hI
      have hvl := val_lt (B := 65536) (by omega) HD.out
      rw [HLO.out] at hvl
      have HV : Hid (val 65536 out = ((n - m : Nat) : Int)) := by
        have := less_end hI hc0 hc1 (pow_pos' (by omega) la) hvl (by have := HMN.out; omega)
        show _ = _
        have := HMN.out
        omega
      clear hI hown hvl
      obtain ⟨A2, c2, rfl⟩ := own_slice HO.out
      have HOS : Hid (OwnS .i64 3 w.heap.size wr A2 la c2 out) := ⟨HO.out, HLO.out, dg_wf HD.out⟩
      obtain ⟨hc1', hc2'⟩ := HOS.out.cap
      go_wp2_with fail
      refine (trimO HOS.out HD.out HV.out).mono ?_
      rintro e _ ⟨l2, ys2, rfl, hv, hr, rfl⟩
      have HZ := Lib.hid hv
      have HR := Lib.hid hr
      clear hv hr
      go_wp2
      go_ret
      exact ⟨_, _, _, _, rfl, HZ.out, HR.out, HX.out⟩
theorem less_any (va vb : Value) (n m L : Nat) (w : World) (ha : Z16 w va n) (hb : Z16 w vb m) (fn : Fit 65536 n L) (hL : L ≤ 1000000) (hmn : m ≤ n) :
    Calls Try.prog 131 #[va, vb] w (RetN .i64 65536 w (n - m)) := (less_own va vb n m L w ha hb fn hL hmn).mono fun _ _ h => h.n

/-- n, by the limbs from k on: quotient so far, rest so far. -/
theorem short_next {xs out : List Int} {k : Nat} {d rest x : Int} (hx : xs[k]? = some x) (ho : out[k]? = some 0) (hd : 0 < d) (hI : val 65536 (xs.drop (k + 1)) = val 65536 (out.drop (k + 1)) * d + rest) :
    val 65536 (xs.drop k) = val 65536 ((out.set k ((rest * 65536 + x) / d)).drop k) * d + (rest * 65536 + x) % d := by
  have hk : k < out.length := (List.getElem?_eq_some_iff.1 ho).1
  have hs : (out.set k ((rest * 65536 + x) / d))[k]? = some ((rest * 65536 + x) / d) := by simp [hk]
  rw [val_drop hx, val_drop hs, List.drop_set_of_lt (by omega), hI]
  have h := Int.mul_ediv_add_emod (rest * 65536 + x) d
  generalize (rest * 65536 + x) / d = q at *
  generalize (rest * 65536 + x) % d = r at *
  grind

set_option maxRecDepth 100000 in
set_option maxHeartbeats 2000000 in
theorem rshort_any (va : Value) (n L : Nat) (d : Int) (w : World) (ha : Z16 w va n) (fn : Fit 65536 n L) (hL : L ≤ 1000000) (hd0 : 0 < d) (hd1 : d ≤ 65536) :
    Calls Try.prog 133 #[va, .int .i64 d] w fun e w' => ∃ v, e = .returned (.tuple #[v, .int .i64 ((n : Int) % d)]) ∧ Z16 w' v (n / d.toNat) ∧ Ext w w' := by
  obtain ⟨A, la, ca, xs, rfl, hA, hrx, hca, hcam⟩ := ha
  have hla := fn.len (by omega) hrx
  rw [hA.1] at hla
  have HA := Lib.hid hA
  have HRX := Lib.hid hrx
  have HLA : Hid (xs.length = la) := hA.1
  clear hA hrx fn
  have hdz : (d == 0) = false := by simp; omega
  have hdz' : ¬ d = 0 := by omega
  go_enter Try.func133, Try.ntmps133
  go_wp2_with (at_make; refine wpList_mk _ elI rfl rfl _ _ rfl w.heap.size _ _ _ _ la la rfl rfl (by omega) (by omega) (Nat.le_refl _) (by omega) (by unfold maxLen; omega) (Nat.le_refl _) ?_; intro w1 hown1 hext1 hsz1)
  have HO1 := Lib.hid (OwnS.made hown1)
  have HX1 := Lib.hid hext1
  clear hown1 hext1 hsz1
  go_loopg [7, 8] la (fun g r i wr => ∃ (k : Nat) (rest : Int) (out : List Int), k = g ∧ k ≤ la ∧ i = .int .i64 ((k : Int) - 1) ∧ r = .int .i64 rest ∧ 0 ≤ rest ∧ rest < d ∧ Hid (OwnS .i64 3 w.heap.size wr (some ⟨w.heap.size, 0, none⟩) la la out) ∧ Hid (Dg 65536 out) ∧ Hid (out.take k = List.replicate k 0) ∧ Hid (val 65536 (xs.drop k) = val 65536 (out.drop k) * d + rest) ∧ Hid (Ext w wr))
  case atStart => exact ⟨la, 0, _, rfl, by omega, rfl, rfl, by omega, by omega, HO1.out, Dg.zeros (by omega) _, by simp [Hid], by rw [List.drop_eq_nil_of_le (by rw [HLA.out]; omega), List.drop_eq_nil_of_le (by simp)]; simp [Hid, val], HX1.out⟩
  case round =>
    clear HO1 HX1
    obtain ⟨k, rest, out, rfl, hk, rfl, rfl, hr0, hr1, HO, HD, HZ, HI, HX⟩ := hrel
    rcases Nat.eq_zero_or_pos k with h0 | h0
    · subst h0
      have hI := HI.out
      simp only [List.drop_zero] at hI
      rw [HRX.out.2.2] at hI
      have hq : (n : Int) % d = rest := by
        rw [hI, Int.add_comm, Int.add_mul_emod_self_right, Int.emod_eq_of_lt hr0 hr1]
      have HQ := Lib.hid hq
      have hvn := val_nonneg (B := 65536) (by omega) HD.out
      have HV : Hid (val 65536 out = ((n / d.toNat : Nat) : Int)) := by
        show _ = _
        have e : ((d.toNat : Nat) : Int) = d := by omega
        rw [Int.natCast_ediv, e, hI, Int.add_comm, Int.add_mul_ediv_right _ _ hdz', Int.ediv_eq_zero_of_lt hr0 hr1]
        omega
      clear hI hq hvn
      rw [show (((0 : Nat) : Int) - 1) = -1 by omega]
      obtain ⟨hc1', hc2'⟩ := HO.out.cap
      go_wp2_with fail
      refine (trimN HO.out.ints HD.out HV.out hc1' hc2').mono ?_
      rintro e _ ⟨v, rfl, hv, rfl⟩
      have HZ := Lib.hid hv
      clear hv
      go_wp2
      go_ret2
      exact ⟨_, by rw [HQ.out]; rfl, HZ.out, HX.out⟩
    · obtain ⟨j, rfl⟩ : ∃ j, k = j + 1 := ⟨k - 1, by omega⟩
      have hkc : ((j + 1 : Nat) : Int) - 1 = (j : Int) := by omega
      rw [hkc]
      have hj0 : (0 : Int) ≤ (j : Int) := by omega
      have hjl : (j : Int) < (la : Int) := by omega
      obtain ⟨b1, o1, x, rfl, hx, hwf, hcx⟩ := (HA.out.ext HX.out).get (show j < la by omega)
      obtain ⟨hx0, hx1⟩ := HRX.out.1.get hx
      obtain ⟨g, z, hg, hz, _, hcz, hfz, _, hst⟩ := HO.out.store (j := j) (by omega)
      obtain rfl : w.heap.size = g := by injection hg with hg; injection hg
      have hz0 : z = 0 := by
        have h1 : (out.take (j + 1))[j]? = some z := by rw [List.getElem?_take, if_pos (by omega)]; exact hz
        rw [HZ.out] at h1
        rw [List.getElem?_replicate] at h1
        simp at h1
        exact h1.symm
      subst hz0
      have hs0 : 0 ≤ rest * 65536 + x := by omega
      have hs1 : rest * 65536 + x < d * 65536 := by omega
      have hq0 : 0 ≤ (rest * 65536 + x) / d := Int.ediv_nonneg hs0 (by omega)
      have hq1 : (rest * 65536 + x) / d < 65536 := Int.ediv_lt_of_lt_mul hd0 (by omega)
      have hm0 := Int.emod_nonneg (rest * 65536 + x) hdz'
      have hm1 := Int.emod_lt_of_pos (rest * 65536 + x) hd0
      have HN := Lib.hid (short_next hx hz hd0 HI.out)
      have HOO := Lib.hid (hst.out _ (wf16 ⟨hq0, hq1⟩))
      have HDD := Lib.hid (HD.out.set ⟨hq0, hq1⟩ j)
      have HZZ : Hid ((out.set j ((rest * 65536 + x) / d)).take j = List.replicate j 0) := by
        show _ = _
        rw [List.take_set_of_le (by omega)]
        have h1 : (out.take (j + 1)).take j = out.take j := by rw [List.take_take]; congr 1; omega
        rw [← h1, HZ.out, List.take_replicate]
        congr 1; omega
      have HXX := Lib.hid (HX.out.setCell (p := ⟨w.heap.size, j, none⟩) (Nat.le_refl _) (.int .i64 ((rest * 65536 + x) / d)))
      have hb1 : rest * 65536 + x ≤ 9223372036854775807 := by omega
      have hb2 : -9223372036854775808 ≤ (rest * 65536 + x) / d := by omega
      have hb3 : (rest * 65536 + x) / d ≤ 9223372036854775807 := by omega
      clear hx hz hg hwf hst
      go_wp2
      go_roundg j
      case rel => exact ⟨j, _, _, rfl, by omega, by go_num, rfl, hm0, hm1, HOO.out, HDD.out, HZZ.out, HN.out, HXX.out⟩
      case measure => omega

end Go.Proofs.Ytagcgldhhdecjaa
namespace Go.Proofs.Ytagcgldhhdecjaa
open Go.RowKit

theorem prod16 {x y : Int} (hx : 0 ≤ x ∧ x < 65536) (hy : 0 ≤ y ∧ y < 65536) : 0 ≤ x * y ∧ x * y ≤ 4294836225 := by
  have h1 := Int.mul_nonneg hx.1 hy.1
  have h2 : x * y ≤ 65535 * y := Int.mul_le_mul_of_nonneg_right (by omega) hy.1
  omega

set_option maxRecDepth 100000 in
set_option maxHeartbeats 2000000 in
theorem times16_any (va vb : Value) (n m La Lb : Nat) (w : World) (ha : Z16 w va n) (hb : Z16 w vb m) (hn : Fit 65536 n La) (hm : Fit 65536 m Lb) (hL : La ≤ 1000000) (hM : Lb ≤ 1000000) :
    Calls Try.prog 114 #[va, vb] w (RetN .i64 65536 w (n * m)) := by
  obtain ⟨A, la, ca, xs, rfl, hA, hrx, hca, hcam⟩ := ha
  obtain ⟨B, lb, cb, ys, rfl, hB, hry, hcb, hcbm⟩ := hb
  have hla := hn.len (by omega) hrx
  have hlb := hm.len (by omega) hry
  rw [hA.1] at hla
  rw [hB.1] at hlb
  have HA := Lib.hid hA
  have HB := Lib.hid hB
  have HN := Lib.hid hrx
  have HM := Lib.hid hry
  have HLA : Hid (xs.length = la) := hA.1
  have HLB : Hid (ys.length = lb) := hB.1
  clear hA hB hrx hry hn hm
  go_enter Try.func114, Try.ntmps114
  go_wp2_with (at_make; refine wpList_mk _ elI rfl rfl _ _ rfl w.heap.size _ _ _ _ (la + lb) (la + lb) rfl rfl (by omega) (by omega) (Nat.le_refl _) (by omega) (by unfold maxLen; omega) (Nat.le_refl _) ?_; intro w1 hown1 hext1 hsz1)
  have HO1 := Lib.hid (OwnS.made hown1)
  have HX1 := Lib.hid hext1
  clear hown1 hext1 hsz1
  go_loopg [6] la (fun g i wr => ∃ (k : Nat) (out : List Int), g = la - k ∧ k ≤ la ∧ i = .int .i64 k ∧ Hid (OwnS .i64 3 w.heap.size wr (some ⟨w.heap.size, 0, none⟩) (la + lb) (la + lb) out) ∧ Hid (Dg 65536 out) ∧ Hid (val 65536 (out.take (k + lb)) = val 65536 (xs.take k) * m) ∧ Hid (Ext w wr))
  case atStart => exact ⟨0, _, rfl, by omega, rfl, HO1.out, Dg.zeros (by omega) _, by simp [Hid, val, List.take_replicate, val_zeros], HX1.out⟩
  case round =>
    clear HO1 HX1
    obtain ⟨k, out, rfl, hk, rfl, HO, HD, hI, HX⟩ := hrel
    by_cases hlt : k < la
    · obtain ⟨b1, o1, x, hAe, hx, hwf, hcx⟩ := (HA.out.ext HX.out).get hlt
      subst hAe
      obtain ⟨hx0, hx1⟩ := HN.out.1.get hx
      have HXX := Lib.hid hx
      have hk0 : (0 : Int) ≤ (k : Int) := by omega
      have hk1 : (k : Int) < (la : Int) := by omega
      have HCX := Lib.hid (HA.out.ext HX.out)
      clear hx hwf hcx
      obtain ⟨wo, rfl⟩ : ∃ wo : World, wo = wr := ⟨_, rfl⟩
      go_wp2
      go_loopg [7, 8] lb (fun g cy i wr => ∃ (j : Nat) (c : Int) (out : List Int), g = lb - j ∧ j ≤ lb ∧ i = .int .i64 j ∧ cy = .int .i64 c ∧ 0 ≤ c ∧ c ≤ 65535 ∧ Hid (OwnS .i64 3 w.heap.size wr (some ⟨w.heap.size, 0, none⟩) (la + lb) (la + lb) out) ∧ Hid (Dg 65536 out) ∧ Hid (val 65536 (out.take (k + lb)) + c * 65536 ^ (k + j) = val 65536 (xs.take k) * m + x * val 65536 (ys.take j) * 65536 ^ k) ∧ Hid (Ext w wr))
      case atStart => exact ⟨0, 0, out, rfl, by omega, rfl, rfl, by omega, by omega, HO.out, HD.out, by simp [Hid, val]; exact hI.out, HX.out⟩
      case round =>
        clear HO HD hI HX HCX
        obtain ⟨j, c, out1, rfl, hj, rfl, rfl, hc0, hc1, HOr, HDr, hI1, HXr⟩ := hrel
        obtain ⟨b1', o1', x', hAe, hx, hwf, hcx⟩ := (HA.out.ext HXr.out).get hlt
        obtain ⟨rfl, rfl⟩ : b1' = b1 ∧ o1' = o1 := by injection hAe with h; injection h with h1 h2; exact ⟨h1.symm, h2.symm⟩
        obtain rfl : x' = x := by have := HXX.out; rw [hx] at this; injection this
        clear hAe hx hwf
        have hj0 : (0 : Int) ≤ (j : Int) := by omega
        have hkj0 : (0 : Int) ≤ (k : Int) + (j : Int) := by omega
        have hkj2 : IntKind.i64.wrap ((k : Int) + (j : Int)) = (k : Int) + (j : Int) := IntWalk.i64_in _ (by omega)
        have hkj3 : ((k : Int) + (j : Int)).toNat = k + j := by omega
        by_cases hlt2 : j < lb
        · obtain ⟨b2, o2, y, hBe, hy, hwf, hcy⟩ := (HB.out.ext HXr.out).get hlt2
          subst hBe
          obtain ⟨hy0, hy1⟩ := HM.out.1.get hy
          have HYY := Lib.hid hy
          obtain ⟨g, z, hg, hz, hwz, hcz⟩ := HOr.out.get (j := k + j) (by omega)
          obtain rfl : w.heap.size = g := by injection hg with hg; injection hg
          obtain ⟨hz0, hz1⟩ := HDr.out.get hz
          have HZ := Lib.hid hz
          have hj1 : (j : Int) < (lb : Int) := by omega
          have hkj1 : (k : Int) + (j : Int) < ((la + lb : Nat) : Int) := by omega
          obtain ⟨hp0, hp1⟩ := prod16 ⟨hx0, hx1⟩ ⟨hy0, hy1⟩
          have hw1 : IntKind.i64.wrap (x' * y) = x' * y := IntWalk.i64_in _ (by omega)
          have hw2 : IntKind.i64.wrap (x' * y + z) = x' * y + z := IntWalk.i64_in _ (by omega)
          have hw3 : IntKind.i64.wrap (x' * y + z + c) = x' * y + z + c := IntWalk.i64_in _ (by omega)
          have hs0 : 0 ≤ (x' * y + z + c) % 65536 ∧ (x' * y + z + c) % 65536 < 65536 := by omega
          have hs1 : 0 ≤ x' * y + z + c := by omega
          have hs2 : x' * y + z + c ≤ 4294967295 := by omega
          have HI := Lib.hid (mul_step (ys := ys) (s := x' * y + z + c) hI1.out (by omega) (by rw [HOr.out.len]; omega) hz (by simp [List.getD, HYY.out]))
          have HDD := Lib.hid (HDr.out.set hs0 (k + j))
          clear hy hwf hz hg hwz
          go_wp2_with fail
          go_quiet (fail)
          clear hw1 hw2 hw3 hcx hcy hcz
          have HO2 := Lib.hid (HOr.out.ext ((Ext.refl wr).drewN nq))
          have HX2 := Lib.hid (HXr.out.drewN nq)
          generalize wr.drewN nq = w2 at HO2 HX2 ⊢
          obtain ⟨g, z', hg, hz, hwz, hcz, hfz, _, hst⟩ := HO2.out.store (j := k + j) (by omega)
          obtain rfl : w.heap.size = g := by injection hg with hg; injection hg
          have HS := Lib.hid (hst.out _ (wf16 hs0))
          clear hz hg hwz hst hs0
          generalize x' * y + z + c = s at *
          go_wp2
          go_roundg (lb - (j + 1))
          case rel => exact ⟨j + 1, s / 65536, _, rfl, by omega, by go_num, rfl, by omega, by omega, HS.out, HDD.out, HI.out, HX2.out.setCell (Nat.le_refl _) _⟩
          case measure => omega
        · obtain rfl : j = lb := by omega
          obtain ⟨g, z, hg, hz, hwz, hcz, hfz, _, hst⟩ := HOr.out.store (j := k + j) (by omega)
          obtain rfl : w.heap.size = g := by injection hg with hg; injection hg
          have hkj1 : (k : Int) + (j : Int) < ((la + j : Nat) : Int) := by omega
          have HS := Lib.hid (hst.out c (wf16 (by omega)))
          have HDD := Lib.hid (HDr.out.set (u := c) (by omega) (k + j))
          have HI := Lib.hid (mul_next (xs := xs) (V := m) (by have := hI1.out; rw [val_take_all (xs := ys) (by rw [HLB.out]; omega), HM.out.2.2] at this; exact this) rfl (by rw [HOr.out.len]; omega) (by simp [List.getD, HXX.out]))
          clear hz hg hwz hst hcx
          go_wp2
          go_roundg (la - (k + 1))
          case rel => exact ⟨k + 1, _, rfl, by omega, by go_num, HS.out, HDD.out, by have := HI.out; rw [show k + j + 1 = k + 1 + j by omega] at this; exact this, HXr.out.setCell (Nat.le_refl _) _⟩
          case measure => omega
    · obtain rfl : k = la := by omega
      have HV : Hid (val 65536 out = ((n * m : Nat) : Int)) := by
        have h2 := hI.out
        rw [val_take_all (by rw [HO.out.len]; omega), val_take_all (by rw [HLA.out]; omega), HN.out.2.2, ← Int.natCast_mul] at h2
        exact h2
      go_wp2_with fail
      refine (trimN HO.out.ints HD.out HV.out (by omega) (by omega)).mono ?_
      rintro e w' ⟨v, rfl, hv, rfl⟩
      have HW := Lib.hid hv
      clear hv
      go_wp2
      go_ret
      exact ⟨_, rfl, HW.out, HX.out⟩
end Go.Proofs.Ytagcgldhhdecjaa
namespace Go.Proofs.Ytagcgldhhdecjaa
open Go.RowKit

theorem OwnS.at {k : IntKind} {e : TypeId} {base : Nat} {w : World} {A : Option Addr} {n c : Nat} {xs : List Int} (h : OwnS k e base w A n c xs) (hn : 0 < n) : ∃ g, A = some ⟨g, 0, none⟩ ∧ base ≤ g ∧ g < w.heap.size := by
  obtain ⟨g, x, hA, _, _, hc, _, hg, _⟩ := h.store hn
  exact ⟨g, hA, hg, World.block_lt_of_cell? w _ hc⟩

end Go.Proofs.Ytagcgldhhdecjaa
namespace Go.Proofs.Ytagcgldhhdecjaa

/-- A number with a sign. -/
def sgn (s : Bool) (n : Nat) : Int := if s then -(n : Int) else n
theorem sgn_abs (s : Bool) (n : Nat) : (sgn s n).natAbs = n := by cases s <;> simp [sgn]
theorem sgn_int (x : Int) : sgn (decide (x < 0)) x.natAbs = x := by
  by_cases h : x < 0 <;> simp [sgn, h] <;> omega
/-- The sign that a number bears: none if it is 0. -/
def nz (s : Bool) (n : Nat) : Bool := s && decide (n ≠ 0)
theorem nz_pos (s : Bool) {n : Nat} (h : n ≠ 0) : nz s n = s := by simp [nz, h]
theorem sgn_neg_iff (s : Bool) (n : Nat) : decide (sgn s n < 0) = nz s n := by
  unfold nz
  cases s
  · simp [sgn]
  · by_cases h : n = 0
    · simp [sgn, h]
    · have : -(n : Int) < 0 := by omega
      simp [sgn, h]; omega

/-- The rational number of a sign, a numerator and a denominator. -/
def ratV (s : Bool) (n d : Nat) : Rat := mkRat (sgn s n) d

theorem sgn_div (s : Bool) {n g : Nat} (h : g ∣ n) : sgn s n / (g : Int) = sgn s (n / g) := by
  obtain ⟨k, rfl⟩ := h
  rcases Nat.eq_zero_or_pos g with h0 | h0
  · subst h0; cases s <;> simp [sgn]
  · rw [Nat.mul_div_cancel_left _ h0]
    cases s
    · simp only [sgn]; rw [if_neg (by simp), if_neg (by simp), Int.natCast_mul, Int.mul_ediv_cancel_left _ (by omega)]
    · simp only [sgn]; rw [if_pos trivial, if_pos trivial, Int.natCast_mul, ← Int.mul_neg, Int.mul_ediv_cancel_left _ (by omega)]
/-- In lowest terms. -/
theorem ratV_red (s : Bool) (n d : Nat) (hd : 0 < d) : (ratV s n d).num = sgn s (n / Nat.gcd n d) ∧ (ratV s n d).den = d / Nat.gcd n d := by
  have h : ratV s n d = Rat.normalize (sgn s n) d (by omega) := (Rat.normalize_eq_mkRat _).symm
  rw [h, Rat.normalize_eq]
  simp only [sgn_abs]
  exact ⟨sgn_div s (Nat.gcd_dvd_left n d), trivial⟩
theorem ratV_neg (s : Bool) (n d : Nat) (hd : 0 < d) : decide ((ratV s n d).num < 0) = nz s n ∧ (ratV s n d).num.natAbs = n / Nat.gcd n d := by
  rw [(ratV_red s n d hd).1, sgn_abs, sgn_neg_iff]
  refine ⟨?_, rfl⟩
  unfold nz
  have hg : 0 < Nat.gcd n d := Nat.gcd_pos_of_pos_right n hd
  congr 1
  have : n / Nat.gcd n d = 0 ↔ n = 0 := by
    constructor
    · intro h
      have hk := Nat.div_mul_cancel (Nat.gcd_dvd_left n d)
      rw [h, Nat.zero_mul] at hk
      exact hk.symm
    · rintro rfl; simp
  simp only [ne_eq, this]
section
variable {s t : Bool} {n m d e : Nat}
end
/-- How many words a rational number has. -/
def FitQ (q : Rat) (L : Nat) : Prop := Fit 4294967296 q.num.natAbs L ∧ Fit 4294967296 q.den L
/-- The sign of a number. -/
def sgnQ (q : Rat) : Int := if q.num < 0 then -1 else if q.num = 0 then 0 else 1
end Go.Proofs.Ytagcgldhhdecjaa
namespace Go.Proofs.Ytagcgldhhdecjaa
open Go.RowKit

/-- A value that is no integer. -/
def NoInt (v : Value) : Prop := ∀ k x, v ≠ .int k x
theorem noInt_bool (b : Bool) : NoInt (.bool b) := fun _ _ h => by cases h
theorem noInt_slice (A : Option Addr) (l c : Nat) : NoInt (.slice A l c) := fun _ _ h => by cases h
/-- Storing into a block that holds no integers changes no slice of integers. -/
theorem Ints.past {k : IntKind} {w : World} {A : Option Addr} {n : Nat} {xs : List Int} {g : Nat} (h : Ints k w A n xs) (hg : ∀ i v, w.cell? ⟨g, i, none⟩ = some v → NoInt v) (i : Nat) (u : Value) : Ints k (w.setCell ⟨g, i, none⟩ u) A n xs := by
  refine ⟨h.1, h.2.1, fun hne => ?_⟩
  obtain ⟨b, off, hA, hc⟩ := h.2.2 hne
  have hb : b ≠ g := by
    intro e
    subst e
    have h0 : ∃ v, (xs.map (Value.int k))[0]? = some v := by
      cases hm : xs.map (Value.int k) with
      | nil => exact absurd hm hne
      | cons v vs => exact ⟨v, rfl⟩
    obtain ⟨v, hv⟩ := h0
    have h1 := hg _ _ (hc 0 v hv)
    rw [List.getElem?_map] at hv
    cases hx : xs[0]? with
    | none => rw [hx] at hv; simp at hv
    | some x => rw [hx] at hv; simp at hv; exact h1 k x hv.symm
  refine ⟨b, off, hA, fun j v hv => ?_⟩
  have hlt := World.block_lt_of_cell? w _ (hc j v hv)
  have hh : (w.setCell ⟨g, i, none⟩ u).heap[b]? = w.heap[b]? := Below.heap_setCell w ⟨g, i, none⟩ u b hb
  have := hc j v hv
  unfold World.cell? at this ⊢
  simp only [hh]
  exact this
/-- A block that holds no integers. -/
def NoInts (w : World) (g : Nat) : Prop := ∃ t cs, Blk w g t cs ∧ ∀ v ∈ cs, NoInt v
theorem NoInts.cell {w : World} {g : Nat} (h : NoInts w g) : ∀ i v, w.cell? ⟨g, i, none⟩ = some v → NoInt v := by
  obtain ⟨t, cs, hB, hv⟩ := h
  intro i v hc
  rw [hB.cell i] at hc
  exact hv v (Array.mem_of_getElem? hc)
theorem NoInts.set {w : World} {g : Nat} (h : NoInts w g) (i : Nat) {u : Value} (hu : NoInt u) : NoInts (w.setCell ⟨g, i, none⟩ u) g := by
  obtain ⟨t, cs, hB, hv⟩ := h
  refine ⟨t, _, hB.set i u, fun v hm => ?_⟩
  rcases Array.mem_or_eq_of_mem_setIfInBounds hm with h | h
  · exact hv v h
  · subst h; exact hu
theorem NoInts.alloc {w : World} {g : Nat} (h : NoInts w g) (o : Obj) : NoInts (w.alloc o) g := by
  obtain ⟨t, cs, hB, hv⟩ := h
  exact ⟨t, cs, hB.alloc o, hv⟩
theorem NoInts.ext {w w' : World} {g : Nat} (h : NoInts w g) (he : Ext w w') : NoInts w' g := by
  obtain ⟨t, cs, hB, hv⟩ := h
  exact ⟨t, cs, hB.ext he, hv⟩
theorem NoInts.three {w : World} {g : Nat} {t : TypeId} {b : Bool} {A1 A2 : Option Addr} {l1 c1 l2 c2 : Nat} (h : Blk w g t #[.bool b, .slice A1 l1 c1, .slice A2 l2 c2]) : NoInts w g :=
  ⟨t, _, h, fun v hv => by
    simp at hv
    rcases hv with rfl | rfl | rfl
    · exact noInt_bool _
    · exact noInt_slice _ _ _
    · exact noInt_slice _ _ _⟩
theorem Ext.boxed {w0 w : World} {g : Nat} (h : Ext w0 w) (hg : w0.heap.size ≤ g) (x y z : Value) : Ext w0 (((w.setCell ⟨g, 0, none⟩ x).setCell ⟨g, 1, none⟩ y).setCell ⟨g, 2, none⟩ z) :=
  ((h.setCell hg x).setCell hg y).setCell hg z

end Go.Proofs.Ytagcgldhhdecjaa
namespace Go.Proofs.Ytagcgldhhdecjaa
open Go.RowKit
theorem Blk.at_ {W : World} {t : TypeId} {cs : Array Value} {g : Nat} (hg : W.heap.size = g) : Blk (W.alloc (.cells cs t)) g t cs := hg ▸ Blk.new W t cs
theorem Ext.two {w0 w : World} {g : Nat} (h : Ext w0 w) (hg : w0.heap.size ≤ g) (x y : Value) : Ext w0 ((w.setCell ⟨g, 0, none⟩ x).setCell ⟨g, 1, none⟩ y) := (h.setCell hg x).setCell hg y
end Go.Proofs.Ytagcgldhhdecjaa
namespace Go.Proofs.Ytagcgldhhdecjaa
open Go.RowKit

/-- An integer of the reference. -/
def IntZ (w : World) (v : Value) (z : Int) : Prop := ∃ A l c, v = .agg #[.bool (decide (z < 0)), .slice A l c] ∧ Z16 w (.slice A l c) z.natAbs
theorem IntZ.ext {w w' : World} {v : Value} {z : Int} (h : IntZ w v z) (he : Ext w w') : IntZ w' v z := by
  obtain ⟨A, l, c, h1, h2⟩ := h
  exact ⟨A, l, c, h1, h2.ext he⟩
/-- What a call returns that makes an integer. -/
def RetZ (w : World) (z : Int) (e : Ending) (w' : World) : Prop := ∃ v, e = .returned v ∧ IntZ w' v z ∧ Ext w w'
theorem nats_past {w : World} {v : Value} {n g : Nat} {k : IntKind} {B : Int} (h : NatV k B w v n) (hN : NoInts w g) (i : Nat) (x : Value) : NatV k B (w.setCell ⟨g, i, none⟩ x) v n := by
  obtain ⟨A, m, c, xs, h1, h2, h3⟩ := h
  exact ⟨A, m, c, xs, h1, h2.past hN.cell i x, h3⟩
theorem NoInts.two {w : World} {g : Nat} {t : TypeId} {b : Bool} {A1 : Option Addr} {l1 c1 : Nat} (h : Blk w g t #[.bool b, .slice A1 l1 c1]) : NoInts w g :=
  ⟨t, _, h, fun v hv => by
    simp at hv
    rcases hv with rfl | rfl
    · exact noInt_bool _
    · exact noInt_slice _ _ _⟩
theorem small_step {out : List Int} {k : Nat} {u N : Int} (hl : out.length = k) (hI : val 65536 out + u * 65536 ^ k = N) : val 65536 (out ++ [u % 65536]) + u / 65536 * 65536 ^ (k + 1) = N := by
  rw [val_snoc, hl, Int.pow_succ, ← hI]
  have h := Int.mul_ediv_add_emod u 65536
  generalize u / 65536 = q at *
  generalize u % 65536 = r at *
  grind

set_option maxRecDepth 100000 in
set_option maxHeartbeats 2000000 in
theorem small_any (n : Int) (w : World) (h0 : -9223372036854775808 ≤ n) (h1 : n ≤ 9223372036854775807) :
    Calls Try.prog 90 #[.int .i64 n] w (RetZ w n) := by
  obtain ⟨N, U, hN0, hN1, hNn, hu, hNu, hNp⟩ : ∃ N U : Int, 0 ≤ N ∧ N ≤ 9223372036854775808 ∧ Hid (N = (n.natAbs : Int)) ∧ IntKind.u64.wrap n = U ∧ (n < 0 → IntKind.u64.wrap (-U) = N) ∧ (¬ n < 0 → U = N) := by
    refine ⟨(n.natAbs : Int), IntKind.u64.wrap n, by omega, by omega, rfl, rfl, fun h => ?_, fun h => ?_⟩
    · rw [IntKind.wrap_u64, IntKind.wrap_u64]; omega
    · rw [IntKind.wrap_u64]; omega
  by_cases hneg : n < 0
  · have hw := hNu hneg
    have hb : decide (n < 0) = true := decide_eq_true hneg
    clear hNu hNp
    go_enter Try.func90, Try.ntmps90
    go_wp2_with fail
    clear hu hw
    go_loopg [3, 4] N.toNat (fun g s v wr => ∃ (k : Nat) (u : Int) (out : List Int), g = u.toNat ∧ s = .int .u64 u ∧ 0 ≤ u ∧ u ≤ 9223372036854775808 ∧ k ≤ 4 ∧ Hid (u * 65536 ^ k ≤ 9223372036854775808) ∧ Hid (wr.ownsRow (w.heap.size + 1) 3 1 v k (out.map (.int .i64))) ∧ Hid (Dg 65536 out) ∧ Hid (out.length = k) ∧ Hid (u = 0 → Nm out) ∧ Hid (val 65536 out + u * 65536 ^ k = N) ∧ Hid (Blk wr w.heap.size 99 #[.bool false, .slice none 0 0]) ∧ Hid (Ext w wr))
    case atStart => exact ⟨0, N, [], rfl, rfl, hN0, hN1, by omega, by simp [Hid]; omega, World.ownsRow_nil _ _ _ _, Dg.nil, rfl, fun _ => Nm.nil, by simp [Hid, val], Blk.new _ _ _, (Ext.refl w).alloc _⟩
    case round =>
      obtain ⟨k, u, out, rfl, rfl, hu0, hu1, hk4, HB, HO, HD, HLO, HNM, HI, KR, HX⟩ := hrel
      by_cases hz : u = 0
      · subst hz
        have hI := HI.out
        rw [Int.zero_mul, Int.add_zero] at hI
        obtain ⟨A2, c2, rfl⟩ := own_slice HO.out
        have HOS : Hid (OwnS .i64 3 (w.heap.size + 1) wr A2 k c2 out) := ⟨HO.out, HLO.out, dg_wf HD.out⟩
        have HV : Hid (Z16 wr (.slice A2 k c2) n.natAbs) := ⟨A2, k, c2, out, rfl, HOS.out.ints, ⟨HD.out, HNM.out rfl, by rw [hI, hNn.out]⟩, HOS.out.cap.1, HOS.out.cap.2⟩
        clear hI HI HNM
        have r0 : wr.cell? ⟨w.heap.size, 0, none⟩ = some (.bool false) := KR.out.cell 0
        have r1 : wr.cell? ⟨w.heap.size, 1, none⟩ = some (.slice none 0 0) := KR.out.cell 1
        have f0 : wr.frozen? ⟨w.heap.size, 0, none⟩ = false := KR.out.free 0
        have f1 : wr.frozen? ⟨w.heap.size, 1, none⟩ = false := KR.out.free 1
        go_wp2
        refine bodyPost_ret (v := .agg #[.bool true, .slice A2 k c2]) (by simp [results, Try.results90, go_sem, *]) rfl ?_
        refine ⟨_, rfl, ⟨A2, k, c2, by rw [hb], ?_⟩, HX.out.two (Nat.le_refl _) _ _⟩
        have hNI := NoInts.two KR.out
        exact nats_past (nats_past HV.out hNI 0 _) (hNI.set 0 (noInt_bool _)) 1 _
      · have hup : 0 < u := by omega
        have hkl : k < 4 := by
          apply Nat.lt_of_not_le
          intro h
          obtain rfl : k = 4 := by omega
          have := HB.out
          rw [show (65536 : Int) ^ 4 = 18446744073709551616 by decide] at this
          omega
        have hm0 := Int.emod_nonneg u (show (65536 : Int) ≠ 0 by omega)
        have hm1 := Int.emod_lt_of_pos u (show (0 : Int) < 65536 by omega)
        have hw2 : IntKind.i64.wrap (u % 65536) = u % 65536 := IntWalk.i64_in _ (by omega)
        have HST := Lib.hid (small_step HLO.out HI.out)
        have HDD := Lib.hid (HD.out.append (Dg.one ⟨hm0, hm1⟩))
        have HBB : Hid (u / 65536 * 65536 ^ (k + 1) ≤ 9223372036854775808) := by
          show _ ≤ _
          have h2 := HB.out
          have h3 : u / 65536 * 65536 ≤ u := Int.ediv_mul_le u (by omega)
          have h4 : u / 65536 * 65536 * 65536 ^ k ≤ u * 65536 ^ k := Int.mul_le_mul_of_nonneg_right h3 (Int.le_of_lt (pow_pos' (by omega) k))
          have h5 : u / 65536 * 65536 ^ (k + 1) = u / 65536 * 65536 * 65536 ^ k := by rw [Int.pow_succ]; grind
          omega
        have HNN : Hid (u / 65536 = 0 → Nm (out ++ [u % 65536])) := fun h => Nm.snoc (by omega)
        have hown := HO.out
        clear hm0 hm1
        go_wp2_with (at_builtin; refine wpList_app _ elI rfl _ _ rfl (w.heap.size + 1) _ k _ rfl (hown.alloc _) _ 1 1 [.int .i64 (u % 65536)] rfl rfl (At.new _ [_] _) (by simp [Value.oneCell']) (by omega) (by unfold maxLen; omega) (by have := KR.out.lt; simp; omega) ?_; intro v1 w1 hown1 hgr1 _; have HO1 := Lib.hid hown1; have HX1 := Lib.hid (Ext.push HX.out (World.ownsRow.mono' HO.out (Nat.le_succ _)) hgr1); have KR1 := Lib.hid ((KR.out.alloc _).grown hgr1 (fun e => by have := (HO.out.lt _ e.symm).1; omega)); clear hown1 hgr1)
        go_roundg (u / 65536).toNat
        case rel => exact ⟨k + 1, u / 65536, out ++ [u % 65536], rfl, rfl, by omega, by omega, by omega, HBB.out, by rw [List.map_append]; exact HO1.out, HDD.out, by rw [List.length_append, HLO.out]; rfl, HNN.out, HST.out, KR1.out, HX1.out⟩
        case measure => omega
  · obtain rfl := hNp hneg
    have hb : decide (n < 0) = false := decide_eq_false hneg
    clear hNu hNp
    go_enter Try.func90, Try.ntmps90
    go_wp2_with fail
    clear hu
    go_loopg [3, 4] U.toNat (fun g s v wr => ∃ (k : Nat) (u : Int) (out : List Int), g = u.toNat ∧ s = .int .u64 u ∧ 0 ≤ u ∧ u ≤ 9223372036854775808 ∧ k ≤ 4 ∧ Hid (u * 65536 ^ k ≤ 9223372036854775808) ∧ Hid (wr.ownsRow (w.heap.size + 1) 3 1 v k (out.map (.int .i64))) ∧ Hid (Dg 65536 out) ∧ Hid (out.length = k) ∧ Hid (u = 0 → Nm out) ∧ Hid (val 65536 out + u * 65536 ^ k = U) ∧ Hid (Blk wr w.heap.size 99 #[.bool false, .slice none 0 0]) ∧ Hid (Ext w wr))
    case atStart => exact ⟨0, U, [], rfl, rfl, hN0, hN1, by omega, by simp [Hid]; omega, World.ownsRow_nil _ _ _ _, Dg.nil, rfl, fun _ => Nm.nil, by simp [Hid, val], Blk.new _ _ _, (Ext.refl w).alloc _⟩
    case round =>
      obtain ⟨k, u, out, rfl, rfl, hu0, hu1, hk4, HB, HO, HD, HLO, HNM, HI, KR, HX⟩ := hrel
      by_cases hz : u = 0
      · subst hz
        have hI := HI.out
        rw [Int.zero_mul, Int.add_zero] at hI
        obtain ⟨A2, c2, rfl⟩ := own_slice HO.out
        have HOS : Hid (OwnS .i64 3 (w.heap.size + 1) wr A2 k c2 out) := ⟨HO.out, HLO.out, dg_wf HD.out⟩
        have HV : Hid (Z16 wr (.slice A2 k c2) n.natAbs) := ⟨A2, k, c2, out, rfl, HOS.out.ints, ⟨HD.out, HNM.out rfl, by rw [hI, hNn.out]⟩, HOS.out.cap.1, HOS.out.cap.2⟩
        clear hI HI HNM
        have r0 : wr.cell? ⟨w.heap.size, 0, none⟩ = some (.bool false) := KR.out.cell 0
        have r1 : wr.cell? ⟨w.heap.size, 1, none⟩ = some (.slice none 0 0) := KR.out.cell 1
        have f0 : wr.frozen? ⟨w.heap.size, 0, none⟩ = false := KR.out.free 0
        have f1 : wr.frozen? ⟨w.heap.size, 1, none⟩ = false := KR.out.free 1
        go_wp2
        refine bodyPost_ret (v := .agg #[.bool false, .slice A2 k c2]) (by simp [results, Try.results90, go_sem, *]) rfl ?_
        refine ⟨_, rfl, ⟨A2, k, c2, by rw [hb], ?_⟩, HX.out.two (Nat.le_refl _) _ _⟩
        have hNI := NoInts.two KR.out
        exact nats_past (nats_past HV.out hNI 0 _) (hNI.set 0 (noInt_bool _)) 1 _
      · have hup : 0 < u := by omega
        have hkl : k < 4 := by
          apply Nat.lt_of_not_le
          intro h
          obtain rfl : k = 4 := by omega
          have := HB.out
          rw [show (65536 : Int) ^ 4 = 18446744073709551616 by decide] at this
          omega
        have hm0 := Int.emod_nonneg u (show (65536 : Int) ≠ 0 by omega)
        have hm1 := Int.emod_lt_of_pos u (show (0 : Int) < 65536 by omega)
        have hw2 : IntKind.i64.wrap (u % 65536) = u % 65536 := IntWalk.i64_in _ (by omega)
        have HST := Lib.hid (small_step HLO.out HI.out)
        have HDD := Lib.hid (HD.out.append (Dg.one ⟨hm0, hm1⟩))
        have HBB : Hid (u / 65536 * 65536 ^ (k + 1) ≤ 9223372036854775808) := by
          show _ ≤ _
          have h2 := HB.out
          have h3 : u / 65536 * 65536 ≤ u := Int.ediv_mul_le u (by omega)
          have h4 : u / 65536 * 65536 * 65536 ^ k ≤ u * 65536 ^ k := Int.mul_le_mul_of_nonneg_right h3 (Int.le_of_lt (pow_pos' (by omega) k))
          have h5 : u / 65536 * 65536 ^ (k + 1) = u / 65536 * 65536 * 65536 ^ k := by rw [Int.pow_succ]; grind
          omega
        have HNN : Hid (u / 65536 = 0 → Nm (out ++ [u % 65536])) := fun h => Nm.snoc (by omega)
        have hown := HO.out
        clear hm0 hm1
        go_wp2_with (at_builtin; refine wpList_app _ elI rfl _ _ rfl (w.heap.size + 1) _ k _ rfl (hown.alloc _) _ 1 1 [.int .i64 (u % 65536)] rfl rfl (At.new _ [_] _) (by simp [Value.oneCell']) (by omega) (by unfold maxLen; omega) (by have := KR.out.lt; simp; omega) ?_; intro v1 w1 hown1 hgr1 _; have HO1 := Lib.hid hown1; have HX1 := Lib.hid (Ext.push HX.out (World.ownsRow.mono' HO.out (Nat.le_succ _)) hgr1); have KR1 := Lib.hid ((KR.out.alloc _).grown hgr1 (fun e => by have := (HO.out.lt _ e.symm).1; omega)); clear hown1 hgr1)
        go_roundg (u / 65536).toNat
        case rel => exact ⟨k + 1, u / 65536, out ++ [u % 65536], rfl, rfl, by omega, by omega, by omega, HBB.out, by rw [List.map_append]; exact HO1.out, HDD.out, by rw [List.length_append, HLO.out]; rfl, HNN.out, HST.out, KR1.out, HX1.out⟩
        case measure => omega

end Go.Proofs.Ytagcgldhhdecjaa
namespace Go.Proofs.Ytagcgldhhdecjaa
open Go.RowKit

/-- The estimate by the most significant limbs is not too small. -/
theorem guess_ge {r v top vt p : Int} (hr : r < (top + 1) * p) (hv : vt * p ≤ v) (hvt : 0 < vt) (hp : 0 < p) (hr0 : 0 ≤ r) : r / v ≤ top / vt := by
  have hv0 : 0 < v := Int.lt_of_lt_of_le (Int.mul_pos hvt hp) hv
  rw [Int.le_ediv_iff_mul_le hvt]
  have h1 : r / v * v ≤ r := Int.ediv_mul_le r (by omega)
  have h0 : 0 ≤ r / v := Int.ediv_nonneg hr0 (by omega)
  have h2 : r / v * (vt * p) ≤ r / v * v := Int.mul_le_mul_of_nonneg_left hv h0
  have h3 : r / v * vt * p < (top + 1) * p := by rw [Int.mul_assoc]; omega
  have h4 : r / v * vt < top + 1 := Int.lt_of_mul_lt_mul_right h3 (by omega)
  omega
theorem val_top {xs : List Int} {k : Nat} {x : Int} (hd : Dg 65536 xs) (hl : xs.length = k + 1) (hx : xs[k]? = some x) : val 65536 xs < (x + 1) * 65536 ^ k ∧ x * 65536 ^ k ≤ val 65536 xs := by
  have h1 := val_split (B := 65536) xs (k := k) (by omega)
  rw [val_drop hx, List.drop_eq_nil_of_le (by omega)] at h1
  have h2 := val_lt (B := 65536) (by omega) (hd.take k)
  have h3 := val_nonneg (B := 65536) (by omega) (hd.take k)
  rw [List.length_take, show min k xs.length = k by omega] at h2
  simp only [val, Int.mul_zero, Int.add_zero] at h1
  rw [h1, Int.add_mul, Int.one_mul, Int.mul_comm x]
  omega
theorem val_top2 {xs : List Int} {k : Nat} {x y : Int} (hd : Dg 65536 xs) (hl : xs.length = k + 2) (hx : xs[k + 1]? = some x) (hy : xs[k]? = some y) : val 65536 xs < (x * 65536 + y + 1) * 65536 ^ k := by
  have h1 := val_split (B := 65536) xs (k := k) (by omega)
  rw [val_drop hy, val_drop hx, List.drop_eq_nil_of_le (by omega)] at h1
  have h2 := val_lt (B := 65536) (by omega) (hd.take k)
  rw [List.length_take, show min k xs.length = k by omega] at h2
  simp only [val, Int.mul_zero, Int.add_zero] at h1
  have h4 : (x * 65536 + y + 1) * 65536 ^ k = 65536 ^ k * (y + 65536 * x) + 65536 ^ k := by grind
  rw [h1, h4]
  omega
/-- One digit of the quotient: d is the digit, x the limb of the dividend. -/
theorem quo_next {us q : List Int} {k : Nat} {V R x d : Int} (hx : us[k]? = some x) (hq : k < q.length) (hI : val 65536 (us.drop (k + 1)) = val 65536 (q.drop (k + 1)) * V + R) :
    val 65536 (us.drop k) = val 65536 ((q.set k d).drop k) * V + (R * 65536 + x - d * V) := by
  have hs : (q.set k d)[k]? = some d := by simp [hq]
  rw [val_drop hx, val_drop hs, List.drop_set_of_lt (by omega), hI]
  grind
/-- What comes out. -/
theorem quo_end {n m f Q R : Nat} (h : n * f = Q * (m * f) + R) (hR : R < m * f) (hf : 0 < f) : Q = n / m ∧ R / f = n % m := by
  have hm : 0 < m := by
    rcases Nat.eq_zero_or_pos m with h0 | h0
    · subst h0; simp at hR
    · exact h0
  have h1 : R = (n - Q * m) * f := by
    have e : Q * (m * f) = Q * m * f := by rw [Nat.mul_assoc]
    rw [Nat.sub_mul]
    omega
  have h2 : n - Q * m < m := by
    rw [h1] at hR
    exact Nat.lt_of_mul_lt_mul_right hR
  have h3 : Q * m ≤ n := by
    apply Nat.le_of_mul_le_mul_right _ hf
    rw [Nat.mul_assoc]; omega
  have h4 : n = m * Q + (n - Q * m) := by rw [Nat.mul_comm m Q]; omega
  have h5 : n / m = Q := by
    rw [h4, Nat.mul_add_div hm, Nat.div_eq_of_lt h2]; rfl
  refine ⟨h5.symm, ?_⟩
  rw [h1, Nat.mul_div_cancel _ hf]
  have := Nat.div_add_mod n m
  rw [h5, Nat.mul_comm] at this
  omega
end Go.Proofs.Ytagcgldhhdecjaa
namespace Go.Proofs.Ytagcgldhhdecjaa
open Go.RowKit

/-- What divide returns. -/
def RetDR (w : World) (q r : Nat) (e : Ending) (w' : World) : Prop := ∃ vq vr, e = .returned (.tuple #[vq, vr]) ∧ Z16 w' vq q ∧ Z16 w' vr r ∧ Ext w w'
theorem grownBy_set' (w : World) (g i : Nat) (u : Value) : w.grownBy (w.setCell ⟨g, i, none⟩ u) (some g) :=
  ⟨rfl, rfl, rfl, by simp, fun k _ hk => heap_setCell_other w ⟨g, i, none⟩ k u (fun e => hk (by simp [e]))⟩
theorem OwnS.far {k : IntKind} {e : TypeId} {base g n c : Nat} {w : World} {A : Option Addr} {xs : List Int} (h : OwnS k e base w A n c xs) (hg : g < base) (i : Nat) (u : Value) : OwnS k e base (w.setCell ⟨g, i, none⟩ u) A n c xs := by
  refine ⟨World.ownsRow.kept h.own (grownBy_set' w g i u) ?_, h.len, h.wf⟩
  rcases hv : (Value.slice A n c).ownBlock with _ | b
  · exact .inl rfl
  · right
    intro e
    injection e with e
    have := (h.own.lt b hv).1
    omega
theorem run_L (b : Bool) (A : Option Addr) (l c : Nat) (w : World) : (Instr.field 99 (.agg #[.bool b, .slice A l c]) 1).run Try.prog w = .ok (.slice A l c) w := by kernel_rfl
theorem ints_one {w : World} {x : Int} (h : (Lit.int .i64 x).wf = true) (t : TypeId) : Ints .i64 (w.alloc (.cells #[.int .i64 x] t)) (some ⟨w.heap.size, 0, none⟩) 1 [x] :=
  ⟨rfl, fun y hy => by simp at hy; subst hy; exact h, At.new w [.int .i64 x] t⟩

set_option maxRecDepth 100000 in
set_option maxHeartbeats 1000000 in
theorem rdiv_less (va vb : Value) (n m : Nat) (w : World) (ha : Z16 w va n) (hb : Z16 w vb m) (h : n < m) :
    Calls Try.prog 116 #[va, vb] w (RetDR w (n / m) (n % m)) := by
  obtain ⟨A, la, ca, xs, rfl, hA⟩ := ha
  obtain ⟨B, lb, cb, ys, rfl, hB⟩ := hb
  have HA : Hid (Z16 w (.slice A la ca) n) := ⟨A, la, ca, xs, rfl, hA⟩
  have HB : Hid (Z16 w (.slice B lb cb) m) := ⟨B, lb, cb, ys, rfl, hB⟩
  have HQ : Hid (n / m = 0 ∧ n % m = n) := ⟨Nat.div_eq_of_lt h, Nat.mod_eq_of_lt h⟩
  have HC := Lib.hid (cmpI_lt h)
  clear hA hB h
  go_enter Try.func116, Try.ntmps116
  go_wp2_with fail
  refine (compare_any _ _ n m _ HA.out HB.out).mono ?_
  rw [HC.out]
  rintro e w1 ⟨rfl, hX⟩
  have HX := Lib.hid hX
  clear hX
  go_wp2
  go_ret2
  exact ⟨_, _, rfl, by rw [HQ.out.1]; exact NatV.zero, by rw [HQ.out.2]; exact HA.out.ext HX.out, HX.out⟩

set_option maxRecDepth 100000 in
set_option maxHeartbeats 1000000 in
theorem rdiv_one (va : Value) (B : Option Addr) (cb : Nat) (y : Int) (n m L : Nat) (w : World) (ha : Z16 w va n) (hB : Ints .i64 w B 1 [y]) (hr : Rep 65536 [y] m) (hcb : 1 ≤ cb ∧ cb ≤ 9223372036854775807) (fn : Fit 65536 n L) (hL : L ≤ 1000000) (h : m ≤ n) :
    Calls Try.prog 116 #[va, .slice B 1 cb] w (RetDR w (n / m) (n % m)) := by
  obtain ⟨hy, hm⟩ := hr.single (by omega)
  obtain ⟨hy0, hy1⟩ := hr.1.get (k := 0) rfl
  obtain ⟨hcb1, hcb2⟩ := hcb
  obtain ⟨A, la, ca, xs, rfl, hA⟩ := ha
  have HA : Hid (Z16 w (.slice A la ca) n) := ⟨A, la, ca, xs, rfl, hA⟩
  have HB : Hid (Z16 w (.slice B 1 cb) m) := ⟨B, 1, cb, [y], rfl, hB, hr, hcb1, hcb2⟩
  have HI := Lib.hid hB
  have HF := Lib.hid fn
  obtain ⟨b, o, y', rfl, hyy, _, hc⟩ := hB.get (j := 0) (by omega)
  obtain rfl : y = y' := by simpa using hyy
  have hyp : 0 < y := by omega
  have hc0 : ¬ cmpI n m < 0 := by
    unfold cmpI
    rw [if_neg (by omega)]
    split <;> omega
  obtain ⟨ci, hci⟩ : ∃ c, cmpI n m = c := ⟨_, rfl⟩
  rw [hci] at hc0
  have HC := Lib.hid hci
  have HQ : Hid (n / y.toNat = n / m ∧ (n : Int) % y = ((n % m : Nat) : Int)) := by
    refine ⟨by rw [hy]; simp, ?_⟩
    rw [hy]; exact (Int.natCast_emod n m).symm
  have hrr : (n : Int) % y < y := Int.emod_lt_of_pos _ hyp
  have hrr0 : 0 ≤ (n : Int) % y := Int.emod_nonneg _ (by omega)
  have HRM : Hid (n % m < 65536) := by
    show _ < _
    have := HQ.out.2
    omega
  clear hA hB h hci hr hy hm hyy fn hrr hrr0
  go_enter Try.func116, Try.ntmps116
  go_wp2_with fail
  refine (compare_any _ _ n m _ HA.out HB.out).mono ?_
  rw [HC.out]
  rintro e w1 ⟨rfl, hX⟩
  have HX := Lib.hid hX
  have hc1 := hX.cell hc
  rw [Nat.add_zero] at hc1
  clear hX
  go_wp2_with fail
  refine (rshort_any _ n L y _ (HA.out.ext HX.out) HF.out hL hyp (by omega)).mono ?_
  rw [HQ.out.1, HQ.out.2]
  rintro e w2 ⟨v, rfl, hv, hX⟩
  have HX2 := Lib.hid (HX.out.trans hX)
  have HV := Lib.hid hv
  clear hX hv hc1 hc
  have hrm := HRM.out
  generalize hrn : n % m = r at hrm ⊢
  have HRN := Lib.hid hrn
  clear hrn
  go_wp2_with fail
  refine (small_any (r : Int) _ (by omega) (by omega)).mono ?_
  rintro e w3 ⟨v3, rfl, hv3, hX⟩
  obtain ⟨A3, l3, c3, rfl, hz⟩ := hv3
  have HX3 := Lib.hid (HX2.out.trans hX)
  have HV3 := Lib.hid (HV.out.ext hX)
  have HZ := Lib.hid hz
  have hL := run_L (decide ((r : Int) < 0)) A3 l3 c3
  clear hX hz
  go_wp2
  go_ret2
  exact ⟨_, _, rfl, HV3.out, by rw [HRN.out]; simpa using HZ.out, HX3.out⟩
end Go.Proofs.Ytagcgldhhdecjaa
