/- Lemmas of the proof that follows (Delays, part 3): walks of functions by contract, and plain lemmas. Conditions: none. -/
import Derived.Test.YtagcgldhhdecjaaDelaysB
namespace Go.Proofs.Ytagcgldhhdecjaa

theorem upTo_spec (l : List Int) (lv : Int) (k i : Nat) : i ≤ upTo l lv k i ∧ upTo l lv k i ≤ i + k ∧ (∀ j, i ≤ j → j < upTo l lv k i → l.getD j 0 < lv) ∧ (upTo l lv k i < i + k → lv ≤ l.getD (upTo l lv k i) 0) := by
  induction k generalizing i with
  | zero => simp only [upTo]; exact ⟨Nat.le_refl _, Nat.le_refl _, fun j h1 h2 => by omega, fun h => by omega⟩
  | succ k ih =>
    unfold upTo
    split
    · rename_i h
      obtain ⟨h1, h2, h3, h4⟩ := ih (i + 1)
      refine ⟨by omega, by omega, fun j q1 q2 => ?_, fun q => h4 (by omega)⟩
      by_cases e : j = i
      · subst e; exact h
      · exact h3 j (by omega) q2
    · exact ⟨Nat.le_refl _, by omega, fun j h1 h2 => by omega, fun _ => by omega⟩
theorem upTo_unique {l : List Int} {lv : Int} {k i c : Nat} (h1 : i ≤ c) (h2 : c ≤ i + k) (h3 : ∀ j, i ≤ j → j < c → l.getD j 0 < lv) (h4 : c < i + k → lv ≤ l.getD c 0) : upTo l lv k i = c := by
  obtain ⟨q1, q2, q3, q4⟩ := upTo_spec l lv k i
  rcases Nat.lt_trichotomy (upTo l lv k i) c with h | h | h
  · have := h3 _ q1 h; have := q4 (by omega); omega
  · exact h
  · have := q3 _ h1 h; have := h4 (by omega); omega

section
variable {l : List Int} {lv : Int} {e : Ech} {f p t : Nat}
theorem EGood.part (h : EGood l lv e f p t) (hs : Smp l) : PartE l e := by
  obtain ⟨h1, h2, h3, h4, h5, h6, _⟩ := h
  exact ⟨hs, by omega, by omega, by omega, by omega⟩
/-- Where an echo crosses its level. -/
theorem EGood.cross (h : EGood l lv e f p t) : f ≤ crossE l e ∧ crossE l e ≤ p ∧ (∀ j, f ≤ j → j < crossE l e → l.getD j 0 < e.level) ∧ e.level ≤ l.getD (crossE l e) 0 := by
  have hc : crossE l e = upTo l e.level (t - f) f := by unfold crossE; rw [h.frm, h.til]; congr 1; omega
  obtain ⟨q1, q2, q3, q4⟩ := upTo_spec l e.level (t - f) f
  rw [← hc] at q1 q2 q3 q4
  have h1 := h.le
  have h2 := h.top
  have h3 := h.pt
  have h4 := h.fp
  have hp : crossE l e ≤ p := by
    rcases Nat.lt_or_ge p (crossE l e) with hh | hh
    · have := q3 p h4 hh; omega
    · exact hh
  exact ⟨q1, hp, q3, q4 (by omega)⟩
/-- The three ways of an echo's time. -/
theorem EGood.time (h : EGood l lv e f p t) (hs : Smp l) : timeF l e = if crossE l e = 0 ∨ e.level ≤ l.getD (crossE l e - 1) 0 then ((0, 0), 32) else ((256 * ((crossE l e : Int) - 1) + 256 * (e.level - l.getD (crossE l e - 1) 0 - 1) / (l.getD (crossE l e) 0 - l.getD (crossE l e - 1) 0),
    256 * ((crossE l e : Int) - 1) + (256 * (e.level - l.getD (crossE l e - 1) 0) + l.getD (crossE l e) 0 - l.getD (crossE l e - 1) 0 - 1) / (l.getD (crossE l e) 0 - l.getD (crossE l e - 1) 0)), 0) := by
  obtain ⟨h1, h2, h3, h4⟩ := h.cross
  have h5 := h.til
  have h6 := h.pt
  unfold timeF
  rw [if_neg (fun hh => hh (h.part hs)), if_neg (by omega)]
/-- An echo that is cut off begins with the samples, or with a sample that is not below its level. -/
theorem EGood.cut (h : EGood l lv e f p t) (hc : crossE l e = 0 ∨ e.level ≤ l.getD (crossE l e - 1) 0) : crossE l e = 0 ∧ f = 0 := by
  obtain ⟨h1, h2, h3, h4⟩ := h.cross
  rcases hc with hc | hc
  · exact ⟨hc, by omega⟩
  · by_cases e0 : crossE l e = f
    · rcases h.start with (h5 | h5) | h5
      · omega
      · rw [e0] at hc; have := h.lev; omega
      · rw [e0] at h4; omega
    · have := h3 (crossE l e - 1) (by omega) (by omega)
      omega
end

theorem crossE_late {l : List Int} {n : Nat} {b : Int} {e : Ech} (h0 : 0 ≤ e.frm) (h1 : e.frm ≤ e.til) : crossE (lateL n b l) (e.shift n) = crossE l e + n := by
  unfold crossE Ech.shift
  simp only
  obtain ⟨q1, q2, q3, q4⟩ := upTo_spec l e.level (e.til - e.frm).toNat e.frm.toNat
  have e1 : (e.til + (n : Int) - (e.frm + n)).toNat = (e.til - e.frm).toNat := by omega
  have e2 : (e.frm + (n : Int)).toNat = e.frm.toNat + n := by omega
  rw [e1, e2]
  refine upTo_unique (by omega) (by omega) (fun j a b => ?_) fun a => ?_
  · have := q3 (j - n) (by omega) (by omega)
    rw [show j = j - n + n by omega, lateL_getD]; exact this
  · rw [lateL_getD]; exact q4 (by omega)
/-- Put in front: every echo has a time, which is later by so much. -/
theorem time_late {l : List Int} {n : Nat} {b lv : Int} {e : Ech} {f p t : Nat} (h : EGood l lv e f p t) (hs : Smp l) (hs' : Smp (lateL n b l)) (hn : 0 < n) (hb : b < lv) :
    (timeF (lateL n b l) (e.shift n)).2 = 0 ∧ ((timeF l e).2 = 0 → (timeF l e).1.1 + 256 * n = (timeF (lateL n b l) (e.shift n)).1.1 ∧ (timeF l e).1.2 + 256 * n = (timeF (lateL n b l) (e.shift n)).1.2) ∧ ((timeF l e).2 ≠ 0 → (timeF l e).2 = 32 ∧ e.frm = 0) := by
  obtain ⟨_, p1, p2, p3, p4⟩ := h.part hs
  have hc := crossE_late (n := n) (b := b) (l := l) p1 (by omega)
  obtain ⟨c1, c2, c3, c4⟩ := h.cross
  have c5 := h.pt
  have c6 := h.tl
  have hP' : PartE (lateL n b l) (e.shift n) := ⟨hs', by simp only [Ech.shift]; omega, by rw [lateL_len]; simp only [Ech.shift]; omega, by simp only [Ech.shift]; omega, by rw [lateL_len]; simp only [Ech.shift]; omega⟩
  have hto : ¬ ((crossE l e + n : Nat) : Int) = (e.shift n).til := by have := h.til; simp only [Ech.shift]; omega
  have e1 : (e.shift n).level = e.level := rfl
  have hlv := h.lev
  by_cases hcut : crossE l e = 0 ∨ e.level ≤ l.getD (crossE l e - 1) 0
  · obtain ⟨z1, z2⟩ := h.cut hcut
    have ht : timeF l e = ((0, 0), 32) := by rw [h.time hs, if_pos hcut]
    have hl : (timeF (lateL n b l) (e.shift n)).2 = 0 := by
      unfold timeF
      rw [if_neg (fun hh => hh hP'), hc, if_neg hto, e1, if_neg]
      rw [z1, Nat.zero_add]
      have := lateL_front (b := b) (l := l) (i := n - 1) (n := n) (by omega)
      omega
    rw [ht]
    have := h.frm
    exact ⟨hl, fun hh => by simp at hh, fun _ => ⟨rfl, by omega⟩⟩
  · have hcut' : ¬ (crossE l e + n = 0 ∨ e.level ≤ (lateL n b l).getD (crossE l e + n - 1) 0) := by
      rw [show crossE l e + n - 1 = crossE l e - 1 + n by omega, lateL_getD]
      omega
    have hq : timeF (lateL n b l) (e.shift n) = (((timeF l e).1.1 + 256 * n, (timeF l e).1.2 + 256 * n), 0) := by
      rw [h.time hs, if_neg hcut]
      unfold timeF
      rw [if_neg (fun hh => hh hP'), hc, if_neg hto, e1, if_neg hcut', lateL_getD, show crossE l e + n - 1 = crossE l e - 1 + n by omega, lateL_getD]
      have e2 : ((crossE l e + n : Nat) : Int) = (crossE l e : Int) + n := by omega
      rw [e2]
      simp only
      congr 2 <;> omega
    have hz : (timeF l e).2 = 0 := by rw [h.time hs, if_neg hcut]
    rw [hq]
    exact ⟨rfl, fun _ => ⟨rfl, rfl⟩, fun hh => absurd hz hh⟩

end Go.Proofs.Ytagcgldhhdecjaa
namespace Go.Proofs.Ytagcgldhhdecjaa

def okR (a b : Int) : Prop := -1152921504606846976 ≤ a ∧ a ≤ b ∧ b ≤ 1152921504606846976
instance (a b : Int) : Decidable (okR a b) := inferInstanceAs (Decidable (_ ∧ _))
theorem ChainE.order {l : List Int} {lv : Int} {a b : Nat} {es : List Ech} (h : ChainE l lv a es b) : (es.Pairwise fun e f => e.til ≤ f.frm) ∧ (∀ e ∈ es, (a : Int) ≤ e.frm ∧ e.til ≤ b) ∧ a ≤ b := by
  induction es generalizing a with
  | nil => obtain rfl : a = b := h; simp
  | cons x es ih =>
    obtain ⟨p, t, h1, h2⟩ := h
    obtain ⟨k1, k2, k3⟩ := ih h2
    have q1 := h1.frm
    have q2 := h1.til
    have q3 := h1.fp
    have q4 := h1.pt
    refine ⟨?_, ?_, by omega⟩
    · rw [List.pairwise_cons]
      exact ⟨fun e he => by have := (k2 e he).1; omega, k1⟩
    · intro e he
      rcases List.mem_cons.1 he with rfl | he
      · omega
      · have := k2 e he; omega
section
variable {l : List Int} {lv : Int} {e : Ech} {f p t : Nat}
/-- Where a time is: within the step ahead of the crossing. -/
theorem EGood.time_in (h : EGood l lv e f p t) (hs : Smp l) (hz : (timeF l e).2 = 0) : 0 ≤ (timeF l e).1.1 ∧ 256 * ((crossE l e : Int) - 1) ≤ (timeF l e).1.1 ∧ (timeF l e).1.1 ≤ (timeF l e).1.2 ∧ (timeF l e).1.2 ≤ 256 * (crossE l e : Int) ∧ (timeF l e).1.2 ≤ 65536 ∧ 1 ≤ crossE l e := by
  obtain ⟨h1, h2, h3, h4⟩ := h.cross
  have hp := h.pt
  have ht := h.tl
  have h256 := hs.1
  by_cases hcut : crossE l e = 0 ∨ e.level ≤ l.getD (crossE l e - 1) 0
  · rw [h.time hs, if_pos hcut] at hz; simp at hz
  · rw [h.time hs, if_neg hcut]
    simp only
    have h5 : 1 ≤ crossE l e := by omega
    have h6 : l.getD (crossE l e - 1) 0 < e.level := by omega
    generalize l.getD (crossE l e - 1) 0 = s at h6 ⊢
    generalize l.getD (crossE l e) 0 = u at h4 ⊢
    have hd : 0 < u - s := by omega
    have a0 : 0 ≤ 256 * (e.level - s - 1) / (u - s) := Int.ediv_nonneg (by omega) (by omega)
    have a1 : (256 * (e.level - s) + u - s - 1) / (u - s) ≤ 256 := by
      refine Int.le_of_lt_add_one (Int.ediv_lt_of_lt_mul hd ?_)
      omega
    have a2 : 256 * (e.level - s - 1) / (u - s) ≤ (256 * (e.level - s) + u - s - 1) / (u - s) := Int.ediv_le_ediv hd (by omega)
    omega
end
end Go.Proofs.Ytagcgldhhdecjaa
namespace Go.Proofs.Ytagcgldhhdecjaa
open Go.RowKit

set_option maxRecDepth 100000 in
set_option maxHeartbeats 2000000 in
theorem partW_any (A : Option Addr) (n c : Nat) (l : List Int) (f t p lv tp : Int) (w : World) (h : Ints .i64 w A n l) :
    Calls Try.prog 66 #[.slice A n c, .agg #[.int .i64 f, .int .i64 t, .int .i64 p, .int .i64 lv, .int .i64 tp]] w (fun e w' => e = .returned (.bool (decide (PartE l ⟨f, t, p, lv, tp⟩))) ∧ Ext w w') := by
  have H := Lib.hid (h.ext ((Ext.refl w).alloc (.cells #[.int .i64 f, .int .i64 t, .int .i64 p, .int .i64 lv, .int .i64 tp] 42)))
  have HL := Lib.hid h.1
  clear h
  by_cases hs : Smp l
  · have HS : Hid (decide (Smp l) = true) := Lib.hid (decide_eq_true hs)
    have HSM := Lib.hid hs
    clear hs
    go_enter Try.func66, Try.ntmps66
    go_wp2_with fail
    refine (sampled_any A n c l _ H.out).mono ?_
    rw [HS.out]
    rintro e _ ⟨rfl, rfl⟩
    go_wp2
    all_goals
      go_ret
      refine ⟨?_, (Ext.refl w).alloc _⟩
      have hl := HL.out
      first
      | (have q : decide (PartE l ⟨f, t, p, lv, tp⟩) = false := decide_eq_false (by unfold PartE; simp only; omega)
         rw [q]; rfl)
      | (have q : decide (PartE l ⟨f, t, p, lv, tp⟩) = decide (t ≤ (n : Int)) := by
           rw [decide_eq_decide]; unfold PartE; simp only; have := HSM.out; rw [hl]; constructor
           · intro h; omega
           · intro h; refine ⟨this, ?_⟩; omega
         rw [q]; rfl)
  · have HS : Hid (decide (Smp l) = false) := Lib.hid (decide_eq_false hs)
    have q : Hid (decide (PartE l ⟨f, t, p, lv, tp⟩) = false) := Lib.hid (decide_eq_false fun h => hs h.1)
    clear hs
    go_enter Try.func66, Try.ntmps66
    go_wp2_with fail
    refine (sampled_any A n c l _ H.out).mono ?_
    rw [HS.out]
    rintro e _ ⟨rfl, rfl⟩
    go_wp2
    go_ret
    exact ⟨by rw [q.out]; rfl, (Ext.refl w).alloc _⟩

set_option maxRecDepth 100000 in
set_option maxHeartbeats 8000000 in
theorem time_any (A : Option Addr) (n c : Nat) (l : List Int) (f t p lv tp : Int) (w : World) (h : Ints .i64 w A n l) :
    Calls Try.prog 32 #[.slice A n c, .agg #[.int .i64 f, .int .i64 t, .int .i64 p, .int .i64 lv, .int .i64 tp]] w (fun e w' => e = .returned (.tuple #[.agg #[.int .i64 (timeF l ⟨f, t, p, lv, tp⟩).1.1, .int .i64 (timeF l ⟨f, t, p, lv, tp⟩).1.2], .int .i64 (timeF l ⟨f, t, p, lv, tp⟩).2]) ∧ Ext w w') := by
  have hX0 := ((Ext.refl w).alloc (.cells #[.int .i64 f, .int .i64 t, .int .i64 p, .int .i64 lv, .int .i64 tp] 42)).alloc (.cells #[.int .i64 0, .int .i64 0] 44)
  have hB1 := (Blk.new w 42 #[.int .i64 f, .int .i64 t, .int .i64 p, .int .i64 lv, .int .i64 tp]).alloc (.cells #[.int .i64 0, .int .i64 0] 44)
  have hB2 := Blk.new (w.alloc (.cells #[.int .i64 f, .int .i64 t, .int .i64 p, .int .i64 lv, .int .i64 tp] 42)) 44 #[.int .i64 0, .int .i64 0]
  have es : (w.alloc (.cells #[.int .i64 f, .int .i64 t, .int .i64 p, .int .i64 lv, .int .i64 tp] 42)).heap.size = w.heap.size + 1 := by simp
  rw [es] at hB2
  have hI := h.ext hX0
  have HL := Lib.hid h.1
  clear h es
  by_cases hp : ¬ PartE l ⟨f, t, p, lv, tp⟩
  · have q : Hid (decide (PartE l ⟨f, t, p, lv, tp⟩) = false) := Lib.hid (decide_eq_false hp)
    have HB : Hid (timeF l ⟨f, t, p, lv, tp⟩ = ((0, 0), 2)) := Lib.hid (by unfold timeF; rw [if_pos hp])
    clear hp
    go_enter Try.func32, Try.ntmps32
    go_wp2_with fail
    refine (partW_any A n c l f t p lv tp _ hI).mono ?_
    rw [q.out]
    rintro e w1 ⟨rfl, hX⟩
    have HX := Lib.hid (hX0.trans hX)
    have s0 := (hB2.ext hX).cell 0
    have s1 := (hB2.ext hX).cell 1
    have z0 := (hB2.ext hX).free 0
    have z1 := (hB2.ext hX).free 1
    simp only [List.getElem?_toArray, List.getElem?_cons_zero, List.getElem?_cons_succ] at s0 s1
    go_wp2
    refine bodyPost_ret (v := .tuple #[.agg #[.int .i64 0, .int .i64 0], .int .i64 2]) (by simp [results, Try.results32, go_sem, *]) rfl ?_
    exact ⟨by rw [HB.out], (HX.out.setCell (by simp) _).setCell (by simp) _⟩
  have hp' := Decidable.not_not.1 hp
  have q : Hid (decide (PartE l ⟨f, t, p, lv, tp⟩) = true) := Lib.hid (decide_eq_true hp')
  obtain ⟨hs, h1, h2, h3, h4⟩ := hp'
  simp only at h1 h2 h3 h4
  rw [HL.out] at h2 h4
  have hn256 : n ≤ 256 := by have := hs.1; have := HL.out; omega
  have HSM := Lib.hid hs
  obtain ⟨fr, rfl⟩ : ∃ x : Nat, f = x := ⟨f.toNat, by omega⟩
  obtain ⟨tn, rfl⟩ : ∃ x : Nat, t = x := ⟨t.toNat, by omega⟩
  have HB : Hid (timeF l ⟨fr, tn, p, lv, tp⟩ = if (crossE l ⟨fr, tn, p, lv, tp⟩ : Int) = tn then ((0, 0), 2) else if crossE l ⟨fr, tn, p, lv, tp⟩ = 0 ∨ lv ≤ l.getD (crossE l ⟨fr, tn, p, lv, tp⟩ - 1) 0 then ((0, 0), 32)
      else ((256 * ((crossE l ⟨fr, tn, p, lv, tp⟩ : Int) - 1) + 256 * (lv - l.getD (crossE l ⟨fr, tn, p, lv, tp⟩ - 1) 0 - 1) / (l.getD (crossE l ⟨fr, tn, p, lv, tp⟩) 0 - l.getD (crossE l ⟨fr, tn, p, lv, tp⟩ - 1) 0),
        256 * ((crossE l ⟨fr, tn, p, lv, tp⟩ : Int) - 1) + (256 * (lv - l.getD (crossE l ⟨fr, tn, p, lv, tp⟩ - 1) 0) + l.getD (crossE l ⟨fr, tn, p, lv, tp⟩) 0 - l.getD (crossE l ⟨fr, tn, p, lv, tp⟩ - 1) 0 - 1) / (l.getD (crossE l ⟨fr, tn, p, lv, tp⟩) 0 - l.getD (crossE l ⟨fr, tn, p, lv, tp⟩ - 1) 0)), 0)) := Lib.hid (by unfold timeF; rw [if_neg hp])
  have HU0 : Hid (upTo l lv (tn - fr) fr = crossE l ⟨fr, tn, p, lv, tp⟩) := Lib.hid (by unfold crossE; simp only; congr 1; omega)
  generalize crossE l ⟨fr, tn, p, lv, tp⟩ = cr at HB HU0
  generalize timeF l ⟨fr, tn, p, lv, tp⟩ = R at HB ⊢
  obtain ⟨b, off, x0, hA, _, _, _⟩ := hI.get (j := fr) (by omega)
  subst hA
  clear hp hs
  go_enter Try.func32, Try.ntmps32
  go_wp2_with fail
  refine (partW_any _ n c l fr tn p lv tp _ hI).mono ?_
  rw [q.out]
  rintro e w1 ⟨rfl, hX⟩
  have HX := Lib.hid (hX0.trans hX)
  have HI := Lib.hid (hI.ext hX)
  have HB1 := Lib.hid (hB1.ext hX)
  have HB2 := Lib.hid (hB2.ext hX)
  have e0 := HB1.out.cell 0
  simp only [List.getElem?_toArray, List.getElem?_cons_zero, List.getElem?_cons_succ] at e0
  clear hX hX0 hI hB1 hB2
  go_wp2_with fail
  clear e0
  go_loopg [6] (tn - fr) (fun f2 iv wr => ∃ z : Nat, f2 = tn - z ∧ fr ≤ z ∧ z ≤ tn ∧ iv = .int .i64 (z : Int) ∧ Hid (upTo l lv (tn - z) z = cr) ∧ Hid (Ext w1 wr))
  case atStart => exact ⟨fr, rfl, by omega, by omega, rfl, HU0, Lib.hid (Ext.refl _)⟩
  case round =>
    obtain ⟨z, rfl, hz1, hz2, rfl, HU, HXr⟩ := hrel
    have e1 := (HB1.out.ext HXr.out).cell 1
    have e3 := (HB1.out.ext HXr.out).cell 3
    simp only [List.getElem?_toArray, List.getElem?_cons_zero, List.getElem?_cons_succ] at e1 e3
    by_cases hzt : z < tn
    · obtain ⟨b', off', x, e, hx, _, cx⟩ := (HI.out.ext HXr.out).get (j := z) (by omega)
      injection e with e
      injection e with e1' e2'
      subst e1' e2'
      have HXx := Lib.hid (getD_at hx)
      obtain ⟨bx1, bx2⟩ := HSM.out.2 x (List.mem_of_getElem? hx)
      clear hx
      by_cases hxl : x < lv
      · have q1 : decide (x < lv) = true := decide_eq_true hxl
        have HU2 : Hid (upTo l lv (tn - (z + 1)) (z + 1) = cr) := Lib.hid (by
          have h := HU.out
          rw [show tn - z = tn - (z + 1) + 1 by omega, upTo, HXx.out, if_pos hxl] at h
          exact h)
        clear hxl
        go_wp2_with fail
        go_region
        go_wp2
        go_roundg (tn - (z + 1))
        case rel => exact ⟨z + 1, rfl, by omega, by omega, by go_num, HU2, Lib.hid HXr.out.drew⟩
        case measure => omega
      · have q1 : decide (x < lv) = false := decide_eq_false hxl
        have HC : Hid (cr = z) := Lib.hid (by
          have h := HU.out
          rw [show tn - z = tn - (z + 1) + 1 by omega, upTo, HXx.out, if_neg hxl] at h
          exact h.symm)
        have gz : ((z : Int) == (tn : Int)) = false := by simp; omega
        have hlx : lv ≤ x := by omega
        have HHL := Lib.hid hlx
        clear hxl hlx
        go_wp2_with fail
        go_region
        go_wp2_with fail
        have s0 := (HB2.out.ext HXr.out).cell 0
        have s1 := (HB2.out.ext HXr.out).cell 1
        have y0' := (HB2.out.ext HXr.out).free 0
        have y1' := (HB2.out.ext HXr.out).free 1
        simp only [List.getElem?_toArray, List.getElem?_cons_zero, List.getElem?_cons_succ] at s0 s1
        by_cases hz0 : z = 0
        · subst hz0
          go_region
          go_wp2
          refine bodyPost_ret (v := .tuple #[.agg #[.int .i64 0, .int .i64 0], .int .i64 32]) (by simp [results, Try.results32, go_sem, *]) rfl ?_
          exact ⟨by rw [HB.out, HC.out]; rw [if_neg (by omega), if_pos (.inl rfl)], (((HX.out.trans HXr.out).drew.drew).setCell (by simp) _).setCell (by simp) _⟩
        · obtain ⟨y0, rfl⟩ : ∃ y0, z = y0 + 1 := ⟨z - 1, by omega⟩
          obtain ⟨b', off', y, e, hy, _, cy⟩ := (HI.out.ext HXr.out).get (j := y0) (by omega)
          injection e with e
          injection e with e1' e2'
          subst e1' e2'
          have HYy := Lib.hid (getD_at hy)
          obtain ⟨by1, by2⟩ := HSM.out.2 y (List.mem_of_getElem? hy)
          clear hy
          have gz0 : ((y0 : Int) + 1 == 0) = false := by simp; omega
          by_cases hyl : lv ≤ y
          · have q2 : decide (lv ≤ y) = true := decide_eq_true hyl
            have HYL := Lib.hid hyl
            clear hyl
            go_region
            go_wp2
            refine bodyPost_ret (v := .tuple #[.agg #[.int .i64 0, .int .i64 0], .int .i64 32]) (by simp [results, Try.results32, go_sem, *]) rfl ?_
            exact ⟨by rw [HB.out, HC.out]; rw [if_neg (by omega), if_pos (.inr (by rw [Nat.add_sub_cancel, HYy.out]; exact HYL.out))], (((HX.out.trans HXr.out).drew.drew).setCell (by simp) _).setCell (by simp) _⟩
          · have q2 : decide (lv ≤ y) = false := decide_eq_false hyl
            have hxy : y < x := by have := HHL.out; omega
            have hly : y < lv := by omega
            have hlx := HHL.out
            obtain ⟨Q1, hQ1⟩ : ∃ Q, 256 * (lv - y - 1) / (x - y) = Q := ⟨_, rfl⟩
            obtain ⟨Q2, hQ2⟩ : ∃ Q, (256 * (lv - y) + x - y - 1) / (x - y) = Q := ⟨_, rfl⟩
            have b1 : 0 ≤ Q1 := by rw [← hQ1]; exact Int.ediv_nonneg (by omega) (by omega)
            have b2 : Q1 ≤ 256 * (lv - y - 1) := by rw [← hQ1]; exact Int.ediv_le_self _ (by omega)
            have b3 : 0 ≤ Q2 := by rw [← hQ2]; exact Int.ediv_nonneg (by omega) (by omega)
            have b4 : Q2 ≤ 256 * (lv - y) + x - y - 1 := by rw [← hQ2]; exact Int.ediv_le_self _ (by omega)
            have t1 : (256 * (lv - y - 1)).tdiv (x - y) = Q1 := by rw [Int.tdiv_eq_ediv_of_nonneg (by omega)]; exact hQ1
            have t2 : (256 * (lv - y) + x - y - 1).tdiv (x - y) = Q2 := by rw [Int.tdiv_eq_ediv_of_nonneg (by omega)]; exact hQ2
            have HQ1 := Lib.hid hQ1
            have HQ2 := Lib.hid hQ2
            clear hQ1 hQ2 hyl
            go_region
            go_wp2_with fail
            go_region
            go_wp2
            have eR : R = ((256 * (y0 : Int) + Q1, 256 * (y0 : Int) + Q2), 0) := by
              rw [HB.out, HC.out, if_neg (by omega), if_neg (by rw [Nat.add_sub_cancel, HYy.out]; omega), Nat.add_sub_cancel, HYy.out, HXx.out, HQ1.out, HQ2.out, show ((y0 + 1 : Nat) : Int) - 1 = y0 by omega]
            refine bodyPost_ret (v := .tuple #[.agg #[.int .i64 (256 * (y0 : Int) + Q1), .int .i64 (256 * (y0 : Int) + Q2)], .int .i64 0]) (by simp [results, Try.results32, go_sem, *]) rfl ?_
            exact ⟨by rw [eR], ((((HX.out.trans HXr.out).setCell (by simp) _).setCell (by simp) _).drew).drew.drew⟩
    · obtain rfl : z = tn := by omega
      have HC : Hid (cr = z) := Lib.hid (by
        have h := HU.out
        rw [Nat.sub_self, upTo] at h
        exact h.symm)
      have s0 := (HB2.out.ext HXr.out).cell 0
      have s1 := (HB2.out.ext HXr.out).cell 1
      have y0' := (HB2.out.ext HXr.out).free 0
      have y1' := (HB2.out.ext HXr.out).free 1
      simp only [List.getElem?_toArray, List.getElem?_cons_zero, List.getElem?_cons_succ] at s0 s1
      go_wp2_with fail
      go_region
      go_wp2
      refine bodyPost_ret (v := .tuple #[.agg #[.int .i64 0, .int .i64 0], .int .i64 2]) (by simp [results, Try.results32, go_sem, *]) rfl ?_
      exact ⟨by rw [HB.out, HC.out]; rw [if_pos rfl], (((HX.out.trans HXr.out).drew).setCell (by simp) _).setCell (by simp) _⟩
end Go.Proofs.Ytagcgldhhdecjaa
namespace Go.Proofs.Ytagcgldhhdecjaa
open Go.RowKit

def lst1 : List Int := [1, 1, 9, 20, 9, 1, 1]
theorem first_echo : echoesF lst1 ⟨5, 4, 150, 0⟩ = ([⟨2, 5, 3, 6, 20⟩], 0) := by kernel_rfl
theorem first_time : timeF lst1 ⟨2, 5, 3, 6, 20⟩ = ((384, 416), 0) := by kernel_rfl
theorem ints1 (w : World) : Ints .i64 (w.alloc (.cells #[.int .i64 1, .int .i64 1, .int .i64 9, .int .i64 20, .int .i64 9, .int .i64 1, .int .i64 1] 3)) (some ⟨w.heap.size, 0, none⟩) 7 lst1 :=
  ⟨rfl, by decide, At.new' _ _ _ rfl⟩
set_option maxRecDepth 100000 in
set_option maxHeartbeats 2000000 in
theorem firstW_any (w : World) : Calls Try.prog 20 #[] w (fun e w' => e = .returned (.bool true) ∧ Ext w w') := by
  have hI := ints1 w
  have hX0 := (Ext.refl w).alloc (.cells #[.int .i64 1, .int .i64 1, .int .i64 9, .int .i64 20, .int .i64 9, .int .i64 1, .int .i64 1] 3)
  go_enter Try.func20, Try.ntmps20
  go_wp2_with fail
  refine (echoes_any _ 7 7 lst1 ⟨5, 4, 150, 0⟩ _ hI).mono ?_
  rw [first_echo]
  rintro e w1 ⟨v, rfl, hE, hX⟩
  replace hX0 := hX0.trans hX
  clear hX hI
  obtain ⟨g, c, e, rfl, he, hc⟩ := hE.get (j := 0) (by decide)
  simp only [List.getElem?_cons_zero, Option.some.injEq] at he
  subst he
  have c0 := hc 0 _ rfl
  have c1 := hc 1 _ rfl
  have c2 := hc 2 _ rfl
  have c3 := hc 3 _ rfl
  have c4 := hc 4 _ rfl
  have hg : g < w1.heap.size := World.block_lt_of_cell? _ _ c0
  simp only [Nat.zero_mul, Nat.zero_add, List.length_cons, List.length_nil] at c0 c1 c2 c3 c4 ⊢
  have hI := ints1 w1
  have hcap := own_cap hE
  clear hc hE
  go_wp2_with fail
  refine (time_any _ 7 7 lst1 2 5 3 6 20 _ hI).mono ?_
  rw [first_time]
  rintro e w2 ⟨rfl, hX⟩
  have HX := Lib.hid ((hX0.trans ((Ext.refl w1).alloc _)).trans hX)
  clear hX hX0 hI c0 c1 c2 c3 c4
  go_wp2
  go_ret
  exact ⟨rfl, HX.out.alloc _⟩
end Go.Proofs.Ytagcgldhhdecjaa
namespace Go.Proofs.Ytagcgldhhdecjaa
open Go.RowKit

set_option maxRecDepth 100000 in
set_option maxHeartbeats 1000000 in
theorem validW_any (A : Option Addr) (n c : Nat) (l : List Int) (w : World) (h : Ints .i64 w A n l) :
    Calls Try.prog 30 #[.slice A n c] w (fun e w' => e = .returned (.bool (decide (Smp l))) ∧ w = w') := by
  have H := Lib.hid h
  have HL := Lib.hid h.1
  clear h
  by_cases hn : 256 < n
  · have HS : Hid (decide (Smp l) = false) := Lib.hid (decide_eq_false fun s => by have := s.1; have := HL.out; omega)
    go_enter Try.func30, Try.ntmps30
    go_wp2
    go_ret
    exact ⟨by rw [HS.out]; rfl, rfl⟩
  go_enter Try.func30, Try.ntmps30
  go_wp2_with fail
  go_loopg [3] n (fun f iv wr => ∃ k : Nat, f = n - k ∧ k ≤ n ∧ iv = .int .i64 (k : Int) ∧ Hid (∀ x ∈ l.take k, 0 ≤ x ∧ x ≤ 1023) ∧ w = wr)
  case atStart => exact ⟨0, rfl, by omega, rfl, Lib.hid (by simp), rfl⟩
  case round =>
    obtain ⟨k, rfl, hk, rfl, HA, rfl⟩ := hrel
    by_cases hlt : k < n
    · obtain ⟨b, off, x, rfl, hx, _, hc⟩ := H.out.get hlt
      have HX := Lib.hid hx
      clear hx
      by_cases h0 : x < 0
      · have HS : Hid (decide (Smp l) = false) := Lib.hid (decide_eq_false fun s => by have := (s.2 x (List.mem_of_getElem? HX.out)).1; omega)
        go_wp2
        go_ret
        exact ⟨by rw [HS.out]; rfl, rfl⟩
      · by_cases h1 : 1023 < x
        · have HS : Hid (decide (Smp l) = false) := Lib.hid (decide_eq_false fun s => by have := (s.2 x (List.mem_of_getElem? HX.out)).2; omega)
          go_wp2
          go_ret
          exact ⟨by rw [HS.out]; rfl, rfl⟩
        · go_wp2
          go_roundg (n - (k + 1))
          case rel =>
            refine ⟨k + 1, rfl, by omega, by go_num, Lib.hid fun y hy => ?_, rfl⟩
            rw [List.take_add_one, HX.out] at hy
            rcases List.mem_append.1 hy with hy | hy
            · exact HA.out y hy
            · simp at hy; subst hy; omega
          case measure => omega
    · have HS : Hid (decide (Smp l) = true) := Lib.hid (decide_eq_true (by
        refine ⟨by have := HL.out; omega, fun x hx => HA.out x ?_⟩
        rwa [List.take_of_length_le (by have := HL.out; omega)]))
      go_wp2
      go_ret
      exact ⟨by rw [HS.out]; rfl, rfl⟩

set_option maxRecDepth 100000 in
set_option maxHeartbeats 2000000 in
theorem fineW_any (d : Det) (w : World) :
    Calls Try.prog 31 #[.agg #[.int .i64 d.level, .int .i64 d.drop, .int .i64 d.step, .int .i64 d.delay]] w (fun e w' => e = .returned (.bool (decide (DetOk d))) ∧ Ext w w') := by
  obtain ⟨lv, dr, st, de⟩ := d
  simp only
  go_enter Try.func31, Try.ntmps31
  go_wp2
  all_goals
    go_ret
    refine ⟨?_, (Ext.refl w).alloc _⟩
    first
    | (have q : decide (DetOk ⟨lv, dr, st, de⟩) = false := decide_eq_false (by unfold DetOk; simp only; omega)
       rw [q]; rfl)
    | (have q : decide (DetOk ⟨lv, dr, st, de⟩) = decide (de ≤ 1048576) := by rw [decide_eq_decide]; unfold DetOk; simp only; omega
       rw [q]; rfl)

end Go.Proofs.Ytagcgldhhdecjaa
namespace Go.Proofs.Ytagcgldhhdecjaa
open Go.RowKit

/-- What Digitize computes. -/
def HgtOk (l : List Int) : Prop := l.length ≤ 256 ∧ ∀ x ∈ l, 0 ≤ x ∧ x ≤ 16383
instance (l : List Int) : Decidable (HgtOk l) := inferInstanceAs (Decidable (_ ∧ _))
/-- A row of integers of a call's own. -/
def IntL (base : Nat) (w : World) (v : Value) (xs : List Int) : Prop := ∃ A c, v = .slice A xs.length c ∧ OwnS .i64 3 base w A xs.length c xs
theorem IntL.nil (base : Nat) (w : World) : IntL base w (.slice none 0 0) [] := ⟨none, 0, rfl, World.ownsRow_nil _ _ _ _, rfl, by simp⟩
theorem IntL.ext {base : Nat} {w w' : World} {v : Value} {xs : List Int} (h : IntL base w v xs) (he : Ext w w') : IntL base w' v xs := by
  obtain ⟨A, c, h1, h2⟩ := h
  exact ⟨A, c, h1, h2.ext he⟩
theorem elN : Elem Try.prog 22 3 1 8 (.int .i64 0) := Elem.mk' (by kernel_rfl) (by kernel_rfl) rfl (by decide)
theorem i64_wf {z : Int} (h : -9223372036854775808 ≤ z ∧ z ≤ 9223372036854775807) : (Lit.int .i64 z).wf = true := by
  simp [Lit.wf, IntKind.min, IntKind.max, IntKind.bits, IntKind.signed]; omega
end Go.Proofs.Ytagcgldhhdecjaa
namespace Go.Proofs.Ytagcgldhhdecjaa
open Go.RowKit

theorem echoesF_good {l : List Int} {d : Det} (hd : DetOk d) (hs : Smp l) (hl : l ≠ []) : echoesF l d = ((allE l d).take 15, 0) := by
  unfold echoesF
  rw [if_neg (fun h => h hd), if_neg hl, if_neg (fun h => h hs)]
theorem good_cells {l : List Int} {lv : Int} {e : Ech} {f p t : Nat} (h : EGood l lv e f p t) (hs : Smp l) : e.level ≤ 1023 ∧ e.top ≤ 1023 ∧ lv ≤ e.level ∧ e.level ≤ e.top := by
  have hx := h.part hs
  have h1 := h.top
  have h2 := h.lev
  have h3 := h.le
  have hb : l.getD p 0 ≤ 1023 := by
    rw [List.getD_eq_getElem?_getD]
    cases hj : l[p]? with
    | none => simp
    | some x => have := hs.2 x (List.mem_of_getElem? hj); simpa using this.2
  omega

end Go.Proofs.Ytagcgldhhdecjaa
namespace Go.Proofs.Ytagcgldhhdecjaa
open Go.RowKit

set_option maxRecDepth 100000 in
set_option maxHeartbeats 2000000 in
theorem delays_r20 (ga gb N ca cb k : Nat) (x0 x1 x2 x3 x4 y0 y1 y2 y3 y4 : Int) (w : World) (a0 : w.cell? ⟨ga, k * 5, none⟩ = some (.int .i64 x0)) (a1 : w.cell? ⟨ga, k * 5 + 1, none⟩ = some (.int .i64 x1)) (a2 : w.cell? ⟨ga, k * 5 + 2, none⟩ = some (.int .i64 x2)) (a3 : w.cell? ⟨ga, k * 5 + 3, none⟩ = some (.int .i64 x3)) (a4 : w.cell? ⟨ga, k * 5 + 4, none⟩ = some (.int .i64 x4)) (d0 : w.cell? ⟨gb, k * 5, none⟩ = some (.int .i64 y0)) (d1 : w.cell? ⟨gb, k * 5 + 1, none⟩ = some (.int .i64 y1)) (d2 : w.cell? ⟨gb, k * 5 + 2, none⟩ = some (.int .i64 y2)) (d3 : w.cell? ⟨gb, k * 5 + 3, none⟩ = some (.int .i64 y3)) (d4 : w.cell? ⟨gb, k * 5 + 4, none⟩ = some (.int .i64 y4)) (hk : k < N) (hN : N ≤ 15) (a : Act) (Q : Exit → Act → World → Prop) (hsize : 113 ≤ a.tmps.size)
    (s12 : a.tmps[12]? = some (.slice (some ⟨ga, 0, none⟩) N ca))
    (s13 : a.tmps[13]? = some (.slice (some ⟨gb, 0, none⟩) N cb))
    (s15 : a.tmps[15]? = some (.int .i64 (k : Int)))
    (hend : ∀ (xv0 xv1 xv2 xv3 xv4 xv5 xv6 xv7 xv8 xv9 xv10 xv11 : Value) (W : World), (xv0 = .slice (some ⟨ga, 0, none⟩) N ca) → (xv1 = .int .i64 (k : Int)) → (xv2 = .pointer (some ⟨ga, k * 5, none⟩)) → (xv3 = .agg #[.int .i64 x0, .int .i64 x1, .int .i64 x2, .int .i64 x3, .int .i64 x4]) → (xv4 = .slice (some ⟨gb, 0, none⟩) N cb) → (xv5 = .int .i64 (k : Int)) → (xv6 = .pointer (some ⟨gb, k * 5, none⟩)) → (xv7 = .agg #[.int .i64 y0, .int .i64 y1, .int .i64 y2, .int .i64 y3, .int .i64 y4]) → (∃ g, xv8 = .pointer (some ⟨g, 0, none⟩) ∧ w.heap.size ≤ g ∧ Blk W g 42 #[.int .i64 x0, .int .i64 x1, .int .i64 x2, .int .i64 x3, .int .i64 x4]) → (∃ g, xv9 = .pointer (some ⟨g, 0, none⟩) ∧ w.heap.size ≤ g ∧ Blk W g 42 #[.int .i64 y0, .int .i64 y1, .int .i64 y2, .int .i64 y3, .int .i64 y4]) → (xv8 ≠ xv9) → Ext w W → wpList Try.prog (rops Try.f6 20).toArray Q [] ((((((((((((a.put (some 105) xv0).put (some 106) xv1).put (some 107) xv2).put (some 108) xv3).put (some 109) xv4).put (some 110) xv5).put (some 111) xv6).put (some 112) xv7).put (some 16) xv8).put (some 17) xv9).put (none) xv10).put (none) xv11) W) :
    (Code.region 20 (rops Try.f6 20).toArray true).wp Try.prog Q a w := by
  have hsz : ∀ d, some d ∈ ([some 105, some 106, some 107, some 108, some 109, some 110, some 111, some 112, some 16, some 17, none, none] : List (Option Tmp)) → d < a.tmps.size := slots_lt (by decide) hsize
  refine wp_region_g 12 [some 105, some 106, some 107, some 108, some 109, some 110, some 111, some 112, some 16, some 17, none, none] [[], [], [0, 1], [2], [], [], [4, 5], [6], [], [], [3, 8], [7, 9]] [[], [], [], [], [], [], [], [], [10], [11], [], []] (fun (done : Nat → Prop) (us : Nat → Value) (W : World) => Ext w W ∧ (done 0 → us 0 = .slice (some ⟨ga, 0, none⟩) N ca) ∧ (done 1 → us 1 = .int .i64 (k : Int)) ∧ (done 2 → us 2 = .pointer (some ⟨ga, k * 5, none⟩)) ∧ (done 3 → us 3 = .agg #[.int .i64 x0, .int .i64 x1, .int .i64 x2, .int .i64 x3, .int .i64 x4]) ∧ (done 4 → us 4 = .slice (some ⟨gb, 0, none⟩) N cb) ∧ (done 5 → us 5 = .int .i64 (k : Int)) ∧ (done 6 → us 6 = .pointer (some ⟨gb, k * 5, none⟩)) ∧ (done 7 → us 7 = .agg #[.int .i64 y0, .int .i64 y1, .int .i64 y2, .int .i64 y3, .int .i64 y4]) ∧ Loc w W 42 #[.int .i64 0, .int .i64 0, .int .i64 0, .int .i64 0, .int .i64 0] #[.int .i64 x0, .int .i64 x1, .int .i64 x2, .int .i64 x3, .int .i64 x4] (done 8) (done 10) (us 8) ∧ Loc w W 42 #[.int .i64 0, .int .i64 0, .int .i64 0, .int .i64 0, .int .i64 0] #[.int .i64 y0, .int .i64 y1, .int .i64 y2, .int .i64 y3, .int .i64 y4] (done 9) (done 11) (us 9) ∧ Far (done 8) (done 9) (us 8) (us 9)) (by kernel_rfl) (by kernel_rfl) hsz (fun p q us W h => by have e : p = q := funext fun k => propext (h k); rw [e]; exact id) (fun us => ⟨(Ext.refl w).drew, fun h => h.elim, fun h => h.elim, fun h => h.elim, fun h => h.elim, fun h => h.elim, fun h => h.elim, fun h => h.elim, fun h => h.elim, Loc.unmade id, Loc.unmade id, fun h => h.elim⟩) ?_ ?_
  · clear hend
    simp only [rops, Try.f6, regOf, Option.bind_some, Nat.reduceBEq, if_true, if_false, Bool.false_eq_true, Option.getD_some]
    simp only [List.take_succ_cons, List.take_zero]
    refine ⟨?_, ?_, ?_, ?_, ?_, ?_, ?_, ?_, ?_, ?_, ?_, ?_, trivial⟩
    · intro done us W hJ hdep haft hnot b hb hb' K hK Q'
      obtain ⟨hX0, cc0, cc1, cc2, cc3, cc4, cc5, cc6, cc7, ll8, ll9, f8_9⟩ := hJ
      have e12 := (hb' 12 (by simp)).trans s12
      clear hb hb'
      have hfin := hK (.slice (some ⟨ga, 0, none⟩) N ca) _ ⟨hX0, fun _ => rfl, fun h => cc1 (h.resolve_right (by decide)), fun h => cc2 (h.resolve_right (by decide)), fun h => cc3 (h.resolve_right (by decide)), fun h => cc4 (h.resolve_right (by decide)), fun h => cc5 (h.resolve_right (by decide)), fun h => cc6 (h.resolve_right (by decide)), fun h => cc7 (h.resolve_right (by decide)), Loc.same ll8 ⟨fun h => h.resolve_right (by decide), .inl⟩ ⟨fun h => h.resolve_right (by decide), .inl⟩, Loc.same ll9 ⟨fun h => h.resolve_right (by decide), .inl⟩ ⟨fun h => h.resolve_right (by decide), .inl⟩, fun h h' => f8_9 (h.resolve_right (by decide)) (h'.resolve_right (by decide))⟩
      clear hK cc0 cc1 cc2 cc3 cc4 cc5 cc6 cc7 ll8 ll9 f8_9
      go_simp
      exact hfin
    · intro done us W hJ hdep haft hnot b hb hb' K hK Q'
      obtain ⟨hX0, cc0, cc1, cc2, cc3, cc4, cc5, cc6, cc7, ll8, ll9, f8_9⟩ := hJ
      have e15 := (hb' 15 (by simp)).trans s15
      clear hb hb'
      have hfin := hK (.int .i64 (k : Int)) _ ⟨hX0, fun h => cc0 (h.resolve_right (by decide)), fun _ => rfl, fun h => cc2 (h.resolve_right (by decide)), fun h => cc3 (h.resolve_right (by decide)), fun h => cc4 (h.resolve_right (by decide)), fun h => cc5 (h.resolve_right (by decide)), fun h => cc6 (h.resolve_right (by decide)), fun h => cc7 (h.resolve_right (by decide)), Loc.same ll8 ⟨fun h => h.resolve_right (by decide), .inl⟩ ⟨fun h => h.resolve_right (by decide), .inl⟩, Loc.same ll9 ⟨fun h => h.resolve_right (by decide), .inl⟩ ⟨fun h => h.resolve_right (by decide), .inl⟩, fun h h' => f8_9 (h.resolve_right (by decide)) (h'.resolve_right (by decide))⟩
      clear hK cc0 cc1 cc2 cc3 cc4 cc5 cc6 cc7 ll8 ll9 f8_9
      go_simp
      exact hfin
    · intro done us W hJ hdep haft hnot b hb hb' K hK Q'
      obtain ⟨hX0, cc0, cc1, cc2, cc3, cc4, cc5, cc6, cc7, ll8, ll9, f8_9⟩ := hJ
      simp only [List.getD_cons_succ, List.getD_cons_zero, List.mem_cons, List.not_mem_nil, or_false, forall_eq_or_imp, forall_eq] at hdep
      have e105 := hb 0 105 rfl
      rw [cc0 hdep.1] at e105
      have e106 := hb 1 106 rfl
      rw [cc1 hdep.2] at e106
      clear hb hb'
      have hfin := hK (.pointer (some ⟨ga, k * 5, none⟩)) _ ⟨hX0, fun h => cc0 (h.resolve_right (by decide)), fun h => cc1 (h.resolve_right (by decide)), fun _ => rfl, fun h => cc3 (h.resolve_right (by decide)), fun h => cc4 (h.resolve_right (by decide)), fun h => cc5 (h.resolve_right (by decide)), fun h => cc6 (h.resolve_right (by decide)), fun h => cc7 (h.resolve_right (by decide)), Loc.same ll8 ⟨fun h => h.resolve_right (by decide), .inl⟩ ⟨fun h => h.resolve_right (by decide), .inl⟩, Loc.same ll9 ⟨fun h => h.resolve_right (by decide), .inl⟩ ⟨fun h => h.resolve_right (by decide), .inl⟩, fun h h' => f8_9 (h.resolve_right (by decide)) (h'.resolve_right (by decide))⟩
      clear hK cc0 cc1 cc2 cc3 cc4 cc5 cc6 cc7 ll8 ll9 f8_9
      go_simp
      exact hfin
    · intro done us W hJ hdep haft hnot b hb hb' K hK Q'
      obtain ⟨hX0, cc0, cc1, cc2, cc3, cc4, cc5, cc6, cc7, ll8, ll9, f8_9⟩ := hJ
      simp only [List.getD_cons_succ, List.getD_cons_zero, List.mem_cons, List.not_mem_nil, or_false, forall_eq] at hdep
      have e107 := hb 2 107 rfl
      rw [cc2 hdep] at e107
      clear hb hb'
      have q0 := Ext.cell hX0 a0
      have q1 := Ext.cell hX0 a1
      have q2 := Ext.cell hX0 a2
      have q3 := Ext.cell hX0 a3
      have q4 := Ext.cell hX0 a4
      have hfin := hK (.agg #[.int .i64 x0, .int .i64 x1, .int .i64 x2, .int .i64 x3, .int .i64 x4]) _ ⟨hX0, fun h => cc0 (h.resolve_right (by decide)), fun h => cc1 (h.resolve_right (by decide)), fun h => cc2 (h.resolve_right (by decide)), fun _ => rfl, fun h => cc4 (h.resolve_right (by decide)), fun h => cc5 (h.resolve_right (by decide)), fun h => cc6 (h.resolve_right (by decide)), fun h => cc7 (h.resolve_right (by decide)), Loc.same ll8 ⟨fun h => h.resolve_right (by decide), .inl⟩ ⟨fun h => h.resolve_right (by decide), .inl⟩, Loc.same ll9 ⟨fun h => h.resolve_right (by decide), .inl⟩ ⟨fun h => h.resolve_right (by decide), .inl⟩, fun h h' => f8_9 (h.resolve_right (by decide)) (h'.resolve_right (by decide))⟩
      clear hK cc0 cc1 cc2 cc3 cc4 cc5 cc6 cc7 ll8 ll9 f8_9
      go_simp
      exact hfin
    · intro done us W hJ hdep haft hnot b hb hb' K hK Q'
      obtain ⟨hX0, cc0, cc1, cc2, cc3, cc4, cc5, cc6, cc7, ll8, ll9, f8_9⟩ := hJ
      have e13 := (hb' 13 (by simp)).trans s13
      clear hb hb'
      have hfin := hK (.slice (some ⟨gb, 0, none⟩) N cb) _ ⟨hX0, fun h => cc0 (h.resolve_right (by decide)), fun h => cc1 (h.resolve_right (by decide)), fun h => cc2 (h.resolve_right (by decide)), fun h => cc3 (h.resolve_right (by decide)), fun _ => rfl, fun h => cc5 (h.resolve_right (by decide)), fun h => cc6 (h.resolve_right (by decide)), fun h => cc7 (h.resolve_right (by decide)), Loc.same ll8 ⟨fun h => h.resolve_right (by decide), .inl⟩ ⟨fun h => h.resolve_right (by decide), .inl⟩, Loc.same ll9 ⟨fun h => h.resolve_right (by decide), .inl⟩ ⟨fun h => h.resolve_right (by decide), .inl⟩, fun h h' => f8_9 (h.resolve_right (by decide)) (h'.resolve_right (by decide))⟩
      clear hK cc0 cc1 cc2 cc3 cc4 cc5 cc6 cc7 ll8 ll9 f8_9
      go_simp
      exact hfin
    · intro done us W hJ hdep haft hnot b hb hb' K hK Q'
      obtain ⟨hX0, cc0, cc1, cc2, cc3, cc4, cc5, cc6, cc7, ll8, ll9, f8_9⟩ := hJ
      have e15 := (hb' 15 (by simp)).trans s15
      clear hb hb'
      have hfin := hK (.int .i64 (k : Int)) _ ⟨hX0, fun h => cc0 (h.resolve_right (by decide)), fun h => cc1 (h.resolve_right (by decide)), fun h => cc2 (h.resolve_right (by decide)), fun h => cc3 (h.resolve_right (by decide)), fun h => cc4 (h.resolve_right (by decide)), fun _ => rfl, fun h => cc6 (h.resolve_right (by decide)), fun h => cc7 (h.resolve_right (by decide)), Loc.same ll8 ⟨fun h => h.resolve_right (by decide), .inl⟩ ⟨fun h => h.resolve_right (by decide), .inl⟩, Loc.same ll9 ⟨fun h => h.resolve_right (by decide), .inl⟩ ⟨fun h => h.resolve_right (by decide), .inl⟩, fun h h' => f8_9 (h.resolve_right (by decide)) (h'.resolve_right (by decide))⟩
      clear hK cc0 cc1 cc2 cc3 cc4 cc5 cc6 cc7 ll8 ll9 f8_9
      go_simp
      exact hfin
    · intro done us W hJ hdep haft hnot b hb hb' K hK Q'
      obtain ⟨hX0, cc0, cc1, cc2, cc3, cc4, cc5, cc6, cc7, ll8, ll9, f8_9⟩ := hJ
      simp only [List.getD_cons_succ, List.getD_cons_zero, List.mem_cons, List.not_mem_nil, or_false, forall_eq_or_imp, forall_eq] at hdep
      have e109 := hb 4 109 rfl
      rw [cc4 hdep.1] at e109
      have e110 := hb 5 110 rfl
      rw [cc5 hdep.2] at e110
      clear hb hb'
      have hfin := hK (.pointer (some ⟨gb, k * 5, none⟩)) _ ⟨hX0, fun h => cc0 (h.resolve_right (by decide)), fun h => cc1 (h.resolve_right (by decide)), fun h => cc2 (h.resolve_right (by decide)), fun h => cc3 (h.resolve_right (by decide)), fun h => cc4 (h.resolve_right (by decide)), fun h => cc5 (h.resolve_right (by decide)), fun _ => rfl, fun h => cc7 (h.resolve_right (by decide)), Loc.same ll8 ⟨fun h => h.resolve_right (by decide), .inl⟩ ⟨fun h => h.resolve_right (by decide), .inl⟩, Loc.same ll9 ⟨fun h => h.resolve_right (by decide), .inl⟩ ⟨fun h => h.resolve_right (by decide), .inl⟩, fun h h' => f8_9 (h.resolve_right (by decide)) (h'.resolve_right (by decide))⟩
      clear hK cc0 cc1 cc2 cc3 cc4 cc5 cc6 cc7 ll8 ll9 f8_9
      go_simp
      exact hfin
    · intro done us W hJ hdep haft hnot b hb hb' K hK Q'
      obtain ⟨hX0, cc0, cc1, cc2, cc3, cc4, cc5, cc6, cc7, ll8, ll9, f8_9⟩ := hJ
      simp only [List.getD_cons_succ, List.getD_cons_zero, List.mem_cons, List.not_mem_nil, or_false, forall_eq] at hdep
      have e111 := hb 6 111 rfl
      rw [cc6 hdep] at e111
      clear hb hb'
      have q0 := Ext.cell hX0 d0
      have q1 := Ext.cell hX0 d1
      have q2 := Ext.cell hX0 d2
      have q3 := Ext.cell hX0 d3
      have q4 := Ext.cell hX0 d4
      have hfin := hK (.agg #[.int .i64 y0, .int .i64 y1, .int .i64 y2, .int .i64 y3, .int .i64 y4]) _ ⟨hX0, fun h => cc0 (h.resolve_right (by decide)), fun h => cc1 (h.resolve_right (by decide)), fun h => cc2 (h.resolve_right (by decide)), fun h => cc3 (h.resolve_right (by decide)), fun h => cc4 (h.resolve_right (by decide)), fun h => cc5 (h.resolve_right (by decide)), fun h => cc6 (h.resolve_right (by decide)), fun _ => rfl, Loc.same ll8 ⟨fun h => h.resolve_right (by decide), .inl⟩ ⟨fun h => h.resolve_right (by decide), .inl⟩, Loc.same ll9 ⟨fun h => h.resolve_right (by decide), .inl⟩ ⟨fun h => h.resolve_right (by decide), .inl⟩, fun h h' => f8_9 (h.resolve_right (by decide)) (h'.resolve_right (by decide))⟩
      clear hK cc0 cc1 cc2 cc3 cc4 cc5 cc6 cc7 ll8 ll9 f8_9
      go_simp
      exact hfin
    · intro done us W hJ hdep haft hnot b hb hb' K hK Q'
      obtain ⟨hX0, cc0, cc1, cc2, cc3, cc4, cc5, cc6, cc7, ll8, ll9, f8_9⟩ := hJ
      simp only [List.getD_cons_succ, List.getD_cons_zero, List.mem_cons, List.not_mem_nil, or_false, forall_eq_or_imp, forall_eq] at haft
      clear hb hb'
      have hfin := hK _ _ ⟨hX0.alloc _, fun h => cc0 (h.resolve_right (by decide)), fun h => cc1 (h.resolve_right (by decide)), fun h => cc2 (h.resolve_right (by decide)), fun h => cc3 (h.resolve_right (by decide)), fun h => cc4 (h.resolve_right (by decide)), fun h => cc5 (h.resolve_right (by decide)), fun h => cc6 (h.resolve_right (by decide)), fun h => cc7 (h.resolve_right (by decide)), Loc.new w W hX0 (fun h => h.elim haft (by decide)) (Ext.refl _), Loc.same (ll9.ext ((Ext.refl _).alloc _)) ⟨fun h => h.resolve_right (by decide), .inl⟩ ⟨fun h => h.resolve_right (by decide), .inl⟩, fun _ h => Ne.symm (ll9.far_new (h.resolve_right (by decide)))⟩
      clear hK hX0 cc0 cc1 cc2 cc3 cc4 cc5 cc6 cc7 ll8 ll9 f8_9
      go_simp
      exact hfin
    · intro done us W hJ hdep haft hnot b hb hb' K hK Q'
      obtain ⟨hX0, cc0, cc1, cc2, cc3, cc4, cc5, cc6, cc7, ll8, ll9, f8_9⟩ := hJ
      simp only [List.getD_cons_succ, List.getD_cons_zero, List.mem_cons, List.not_mem_nil, or_false, forall_eq_or_imp, forall_eq] at haft
      clear hb hb'
      have hfin := hK _ _ ⟨hX0.alloc _, fun h => cc0 (h.resolve_right (by decide)), fun h => cc1 (h.resolve_right (by decide)), fun h => cc2 (h.resolve_right (by decide)), fun h => cc3 (h.resolve_right (by decide)), fun h => cc4 (h.resolve_right (by decide)), fun h => cc5 (h.resolve_right (by decide)), fun h => cc6 (h.resolve_right (by decide)), fun h => cc7 (h.resolve_right (by decide)), Loc.same (ll8.ext ((Ext.refl _).alloc _)) ⟨fun h => h.resolve_right (by decide), .inl⟩ ⟨fun h => h.resolve_right (by decide), .inl⟩, Loc.new w W hX0 (fun h => h.elim haft (by decide)) (Ext.refl _), fun h _ => ll8.far_new (h.resolve_right (by decide))⟩
      clear hK hX0 cc0 cc1 cc2 cc3 cc4 cc5 cc6 cc7 ll8 ll9 f8_9
      go_simp
      exact hfin
    · intro done us W hJ hdep haft hnot b hb hb' K hK Q'
      obtain ⟨hX0, cc0, cc1, cc2, cc3, cc4, cc5, cc6, cc7, ll8, ll9, f8_9⟩ := hJ
      simp only [List.getD_cons_succ, List.getD_cons_zero, List.mem_cons, List.not_mem_nil, or_false, forall_eq_or_imp, forall_eq] at hdep
      have e16 := hb 8 16 rfl
      have e108 := hb 3 108 rfl
      rw [cc3 hdep.1] at e108
      obtain ⟨g, eg, hg, hB⟩ := ll8.stored hdep.2 hnot
      rw [eg] at e16
      have q0 : W.cell? ⟨g, 0, none⟩ = some (.int .i64 0) := hB.cell 0
      have z0 : W.frozen? ⟨g, 0, none⟩ = false := hB.free 0
      have q1 : W.cell? ⟨g, 1, none⟩ = some (.int .i64 0) := hB.cell 1
      have z1 : W.frozen? ⟨g, 1, none⟩ = false := hB.free 1
      have q2 : W.cell? ⟨g, 2, none⟩ = some (.int .i64 0) := hB.cell 2
      have z2 : W.frozen? ⟨g, 2, none⟩ = false := hB.free 2
      have q3 : W.cell? ⟨g, 3, none⟩ = some (.int .i64 0) := hB.cell 3
      have z3 : W.frozen? ⟨g, 3, none⟩ = false := hB.free 3
      have q4 : W.cell? ⟨g, 4, none⟩ = some (.int .i64 0) := hB.cell 4
      have z4 : W.frozen? ⟨g, 4, none⟩ = false := hB.free 4
      clear hb hb'
      have hfin := hK undef _ ⟨(((((hX0.setCell hg _).setCell hg _).setCell hg _).setCell hg _).setCell hg _), fun h => cc0 (h.resolve_right (by decide)), fun h => cc1 (h.resolve_right (by decide)), fun h => cc2 (h.resolve_right (by decide)), fun h => cc3 (h.resolve_right (by decide)), fun h => cc4 (h.resolve_right (by decide)), fun h => cc5 (h.resolve_right (by decide)), fun h => cc6 (h.resolve_right (by decide)), fun h => cc7 (h.resolve_right (by decide)), ⟨fun _ => ⟨g, eg, hg, fun _ => (Blk.set (Blk.set (Blk.set (Blk.set (Blk.set hB 0 _) 1 _) 2 _) 3 _) 4 _), fun h => absurd (.inr rfl) h⟩⟩, Loc.same (Loc.keep (Loc.keep (Loc.keep (Loc.keep (Loc.keep ll9 (f := (fun h k => Ne.symm (f8_9 k h))) hdep.2 eg) (f := (fun h k => Ne.symm (f8_9 k h))) hdep.2 eg) (f := (fun h k => Ne.symm (f8_9 k h))) hdep.2 eg) (f := (fun h k => Ne.symm (f8_9 k h))) hdep.2 eg) (f := (fun h k => Ne.symm (f8_9 k h))) hdep.2 eg) ⟨fun h => h.resolve_right (by decide), .inl⟩ ⟨fun h => h.resolve_right (by decide), .inl⟩, fun h h' => f8_9 (h.resolve_right (by decide)) (h'.resolve_right (by decide))⟩
      clear hK hX0 cc0 cc1 cc2 cc3 cc4 cc5 cc6 cc7 ll8 ll9 f8_9
      go_simp
      exact hfin
    · intro done us W hJ hdep haft hnot b hb hb' K hK Q'
      obtain ⟨hX0, cc0, cc1, cc2, cc3, cc4, cc5, cc6, cc7, ll8, ll9, f8_9⟩ := hJ
      simp only [List.getD_cons_succ, List.getD_cons_zero, List.mem_cons, List.not_mem_nil, or_false, forall_eq_or_imp, forall_eq] at hdep
      have e17 := hb 9 17 rfl
      have e112 := hb 7 112 rfl
      rw [cc7 hdep.1] at e112
      obtain ⟨g, eg, hg, hB⟩ := ll9.stored hdep.2 hnot
      rw [eg] at e17
      have q0 : W.cell? ⟨g, 0, none⟩ = some (.int .i64 0) := hB.cell 0
      have z0 : W.frozen? ⟨g, 0, none⟩ = false := hB.free 0
      have q1 : W.cell? ⟨g, 1, none⟩ = some (.int .i64 0) := hB.cell 1
      have z1 : W.frozen? ⟨g, 1, none⟩ = false := hB.free 1
      have q2 : W.cell? ⟨g, 2, none⟩ = some (.int .i64 0) := hB.cell 2
      have z2 : W.frozen? ⟨g, 2, none⟩ = false := hB.free 2
      have q3 : W.cell? ⟨g, 3, none⟩ = some (.int .i64 0) := hB.cell 3
      have z3 : W.frozen? ⟨g, 3, none⟩ = false := hB.free 3
      have q4 : W.cell? ⟨g, 4, none⟩ = some (.int .i64 0) := hB.cell 4
      have z4 : W.frozen? ⟨g, 4, none⟩ = false := hB.free 4
      clear hb hb'
      have hfin := hK undef _ ⟨(((((hX0.setCell hg _).setCell hg _).setCell hg _).setCell hg _).setCell hg _), fun h => cc0 (h.resolve_right (by decide)), fun h => cc1 (h.resolve_right (by decide)), fun h => cc2 (h.resolve_right (by decide)), fun h => cc3 (h.resolve_right (by decide)), fun h => cc4 (h.resolve_right (by decide)), fun h => cc5 (h.resolve_right (by decide)), fun h => cc6 (h.resolve_right (by decide)), fun h => cc7 (h.resolve_right (by decide)), Loc.same (Loc.keep (Loc.keep (Loc.keep (Loc.keep (Loc.keep ll8 (f := f8_9) hdep.2 eg) (f := f8_9) hdep.2 eg) (f := f8_9) hdep.2 eg) (f := f8_9) hdep.2 eg) (f := f8_9) hdep.2 eg) ⟨fun h => h.resolve_right (by decide), .inl⟩ ⟨fun h => h.resolve_right (by decide), .inl⟩, ⟨fun _ => ⟨g, eg, hg, fun _ => (Blk.set (Blk.set (Blk.set (Blk.set (Blk.set hB 0 _) 1 _) 2 _) 3 _) 4 _), fun h => absurd (.inr rfl) h⟩⟩, fun h h' => f8_9 (h.resolve_right (by decide)) (h'.resolve_right (by decide))⟩
      clear hK hX0 cc0 cc1 cc2 cc3 cc4 cc5 cc6 cc7 ll8 ll9 f8_9
      go_simp
      exact hfin
  · intro us W hJ
    obtain ⟨hX0, cc0, cc1, cc2, cc3, cc4, cc5, cc6, cc7, ll8, ll9, f8_9⟩ := hJ
    rw [show (rops Try.f6 20).drop 12 = [] by kernel_rfl]
    exact hend (us 0) (us 1) (us 2) (us 3) (us 4) (us 5) (us 6) (us 7) (us 8) (us 9) (us 10) (us 11) W (cc0 (show 0 < 12 by decide)) (cc1 (show 1 < 12 by decide)) (cc2 (show 2 < 12 by decide)) (cc3 (show 3 < 12 by decide)) (cc4 (show 4 < 12 by decide)) (cc5 (show 5 < 12 by decide)) (cc6 (show 6 < 12 by decide)) (cc7 (show 7 < 12 by decide)) (ll8.done (show 8 < 12 by decide) (show 10 < 12 by decide)) (ll9.done (show 9 < 12 by decide) (show 11 < 12 by decide)) (f8_9 (show 8 < 12 by decide) (show 9 < 12 by decide)) hX0
set_option maxRecDepth 100000 in
set_option maxHeartbeats 16000000 in
theorem waveDelays_walk (A : Option Addr) (n c : Nat) (l : List Int) (f : Int × Int × Int × Int) (more : Int) (w : World) (h : Ints .i64 w A n l) (hcap : n ≤ c ∧ c ≤ 9223372036854775807) (hm0 : 0 ≤ more ∧ more ≤ 255) :
    Calls Try.prog 6 #[.slice A n c, .agg #[.int .i64 f.1, .int .i64 f.2.1, .int .i64 f.2.2.1, .int .i64 f.2.2.2], .int .u8 more] w (fun e w' => e = .returned (.bool true) ∧ Ext w w') := by
  obtain ⟨lv, dr, st, de⟩ := f
  simp only
  have HCP := Lib.hid hcap
  clear hcap
  obtain ⟨hm1, hm2⟩ := hm0
  obtain ⟨m, hm⟩ : ∃ m : Nat, 1 + more % 100 = (m : Int) := ⟨(1 + more % 100).toNat, by omega⟩
  have hm3 : 1 ≤ m ∧ m ≤ 100 := by omega
  obtain ⟨hm4, hm5⟩ := hm3
  have hX0 := (Ext.refl w).alloc (.cells #[.int .i64 lv, .int .i64 dr, .int .i64 st, .int .i64 de] 33)
  have hB0 := Blk.new w 33 #[.int .i64 lv, .int .i64 dr, .int .i64 st, .int .i64 de]
  have H := Lib.hid h
  have HL := Lib.hid h.1
  clear h
  by_cases hs : ¬ Smp l
  · have q1 : Hid (decide (Smp l) = false) := Lib.hid (decide_eq_false hs)
    clear hs
    go_enter Try.func6, Try.ntmps6
    go_wp2_with fail
    refine (validW_any A n c l _ (H.out.ext hX0)).mono ?_
    rw [q1.out]
    rintro e _ ⟨rfl, rfl⟩
    go_wp2_with fail
    refine (firstW_any _).mono ?_
    rintro e w9 ⟨rfl, hX⟩
    have HX := Lib.hid (hX0.trans hX)
    clear hX
    go_wp2
    go_ret
    exact ⟨rfl, HX.out⟩
  have hs' := Decidable.not_not.1 hs
  have q1 : Hid (decide (Smp l) = true) := Lib.hid (decide_eq_true hs')
  have HSM := Lib.hid hs'
  clear hs hs'
  by_cases hd : ¬ DetOk ⟨lv, dr, st, de⟩
  · have q2 : Hid (decide (DetOk ⟨lv, dr, st, de⟩) = false) := Lib.hid (decide_eq_false hd)
    clear hd
    go_enter Try.func6, Try.ntmps6
    go_wp2_with fail
    refine (validW_any A n c l _ (H.out.ext hX0)).mono ?_
    rw [q1.out]
    rintro e _ ⟨rfl, rfl⟩
    go_wp2_with fail
    refine (fineW_any ⟨lv, dr, st, de⟩ _).mono ?_
    rw [q2.out]
    rintro e w1 ⟨rfl, hX⟩
    replace hX0 := hX0.trans hX
    clear hX
    go_wp2_with fail
    refine (firstW_any _).mono ?_
    rintro e w9 ⟨rfl, hX⟩
    have HX := Lib.hid (hX0.trans hX)
    clear hX
    go_wp2
    go_ret
    exact ⟨rfl, HX.out⟩
  have hd' := Decidable.not_not.1 hd
  have q2 : Hid (decide (DetOk ⟨lv, dr, st, de⟩) = true) := Lib.hid (decide_eq_true hd')
  have HDT := Lib.hid hd'
  clear hd hd'
  by_cases hn : n = 0
  · subst hn
    go_enter Try.func6, Try.ntmps6
    go_wp2_with fail
    refine (validW_any A 0 c l _ (H.out.ext hX0)).mono ?_
    rw [q1.out]
    rintro e _ ⟨rfl, rfl⟩
    go_wp2_with fail
    refine (fineW_any ⟨lv, dr, st, de⟩ _).mono ?_
    rw [q2.out]
    rintro e w1 ⟨rfl, hX⟩
    replace hX0 := hX0.trans hX
    clear hX
    go_wp2_with fail
    refine (firstW_any _).mono ?_
    rintro e w9 ⟨rfl, hX⟩
    have HX := Lib.hid (hX0.trans hX)
    clear hX
    go_wp2
    go_ret
    exact ⟨rfl, HX.out⟩
  have HNE : Hid (l ≠ []) := Lib.hid (by intro e; subst e; have := HL.out; simp at this; omega)
  have g0 : ((n : Int) == 0) = false := by simpa using hn
  have hn256 : n ≤ 256 := by have := HSM.out.1; have := HL.out; omega
  by_cases hnm : 256 < (n : Int) + (m : Int)
  · go_enter Try.func6, Try.ntmps6
    go_wp2_with fail
    refine (validW_any A n c l _ (H.out.ext hX0)).mono ?_
    rw [q1.out]
    rintro e _ ⟨rfl, rfl⟩
    go_wp2_with fail
    refine (fineW_any ⟨lv, dr, st, de⟩ _).mono ?_
    rw [q2.out]
    rintro e w1 ⟨rfl, hX⟩
    replace hX0 := hX0.trans hX
    clear hX
    go_wp2_with fail
    refine (firstW_any _).mono ?_
    rintro e w9 ⟨rfl, hX⟩
    have HX := Lib.hid (hX0.trans hX)
    clear hX
    go_wp2
    go_ret
    exact ⟨rfl, HX.out⟩
  go_enter Try.func6, Try.ntmps6
  go_wp2_with fail
  refine (validW_any A n c l _ (H.out.ext hX0)).mono ?_
  rw [q1.out]
  rintro e _ ⟨rfl, rfl⟩
  go_wp2_with fail
  refine (fineW_any ⟨lv, dr, st, de⟩ _).mono ?_
  rw [q2.out]
  rintro e w1 ⟨rfl, hX⟩
  have HX := Lib.hid (hX0.trans hX)
  have HD := Lib.hid (hB0.ext hX)
  clear hX hX0 hB0
  have HBF : Hid (baseF l = ((medV l : Int), 0)) := Lib.hid (by unfold baseF; rw [if_neg]; rintro (h | h); exact HNE.out h; exact h HSM.out)
  have hmed := medV_le l
  have hlv1 : 1 ≤ lv := HDT.out.1
  have hal := allE_late (n := m) HSM.out HNE.out (d := ⟨lv, dr, st, de⟩) HDT.out.1
  have hgood : ∀ e ∈ (allE l ⟨lv, dr, st, de⟩).take 15, ∃ f p t, EGood l (medV l + lv) e f p t := fun e he => good_of_mem (d := ⟨lv, dr, st, de⟩) HDT.out.2.2.1 (List.mem_of_mem_take he)
  have hsu : Smp (lateL m (medV l : Int) l) := by
    refine ⟨by rw [lateL_len, HL.out]; omega, fun y hy => ?_⟩
    unfold lateL at hy
    rcases List.mem_append.1 hy with hy | hy
    · have := List.eq_of_mem_replicate hy; subst this; omega
    · exact HSM.out.2 y hy
  have hnu : lateL m (medV l : Int) l ≠ [] := by intro h; have := lateL_len m (medV l : Int) l; rw [h] at this; simp at this; omega
  have hea : echoesF l ⟨lv, dr, st, de⟩ = ((allE l ⟨lv, dr, st, de⟩).take 15, 0) := echoesF_good HDT.out HSM.out HNE.out
  have heb : echoesF (lateL m (medV l : Int) l) ⟨lv, dr, st, de⟩ = (((allE l ⟨lv, dr, st, de⟩).take 15).map (Ech.shift m), 0) := by
    rw [echoesF_good HDT.out hsu hnu, hal, List.map_take]
  have hN15 : ((allE l ⟨lv, dr, st, de⟩).take 15).length ≤ 15 := List.length_take_le _ _
  generalize (allE l ⟨lv, dr, st, de⟩).take 15 = ea at hea heb hgood hN15
  clear hal hnu
  generalize medV l = mv at HBF hmed hgood hsu hea heb
  obtain ⟨N, hN⟩ : ∃ N, ea.length = N := ⟨_, rfl⟩
  rw [hN] at hN15
  have HNA := Lib.hid hN
  have HNB : Hid ((ea.map (Ech.shift m)).length = N) := Lib.hid (by rw [List.length_map]; exact hN)
  have HE1 := Lib.hid hea
  have HE2 := Lib.hid heb
  have GOOD := Lib.hid hgood
  have HSU := Lib.hid hsu
  clear hea heb hgood hN hsu
  go_wp2_with fail
  refine (base_any A n c l _ (H.out.ext HX.out)).mono ?_
  rw [HBF.out]
  rintro e w3 ⟨rfl, hX⟩
  replace HX := Lib.hid (HX.out.trans hX)
  replace HD := Lib.hid (HD.out.ext hX)
  clear hX
  have gb1 : ¬ (mv : Int) < 0 := by omega
  go_wp2_with fail
  go_loopg [10, 11] m (fun f2 ov iv wr => ∃ (k : Nat) (Au : Option Addr) (cu : Nat), f2 = m - k ∧ k ≤ m ∧ iv = .int .i64 (k : Int) ∧ ov = .slice Au k cu ∧ Hid (OwnS .i64 3 w.heap.size wr Au k cu (List.replicate k (mv : Int))) ∧ Hid (Ext w wr) ∧ Hid (Blk wr w.heap.size 33 #[.int .i64 lv, .int .i64 dr, .int .i64 st, .int .i64 de]))
  case atStart => exact ⟨0, none, 0, rfl, by omega, rfl, rfl, Lib.hid ⟨World.ownsRow_nil _ _ _ _, rfl, by simp⟩, HX, HD⟩
  case round =>
    clear HX HD
    obtain ⟨k, Au, cu, rfl, hk, rfl, rfl, HU, HX, HD⟩ := hrel
    have hown' := HU.out.own
    have hsz := HX.out.size
    have hll : ((List.replicate k (mv : Int)).map (Value.int .i64)).length = k := by simp
    by_cases hlt : k < m
    · go_wp2_with (at_builtin; refine wpList_app _ elN rfl _ _ rfl w.heap.size (.slice Au k cu) k ((List.replicate k (mv : Int)).map (Value.int .i64)) rfl (hown'.alloc _) _ 1 1 [.int .i64 (mv : Int)] rfl rfl (At.new' _ [_] _ rfl) (by simp [Value.oneCell']) (by omega) (by unfold maxLen; omega) (by simp; omega) ?_; intro v5 w5 hown5 hgr5 _; have HX5 := Lib.hid (HX.out.push hown' hgr5); have HD5 := Lib.hid (blk_away (HD.out.alloc _) (Keeps.of_grown (L := (Value.slice Au k cu).ownBlock.toList) hgr5 (fun k hk => by rw [hk]; simp)) (fun k hk => NoRow.of_own (hown'.alloc _) (by simpa using hk) (by decide))); have HOW5 := Lib.hid hown5; clear hown5 hgr5)
      go_roundg (m - (k + 1))
      case rel =>
        have ho := HOW5.out
        obtain ⟨A2, c2, rfl⟩ := own_slice ho
        have e : List.replicate (k + 1) (mv : Int) = List.replicate k (mv : Int) ++ [(mv : Int)] := List.replicate_succ'
        refine ⟨k + 1, A2, c2, rfl, by omega, by go_num, rfl, Lib.hid ?_, HX5, HD5⟩
        rw [e]
        refine ⟨by rw [List.map_append]; exact ho, by simp, ?_⟩
        intro z hz
        have : z = (mv : Int) := by
          rcases List.mem_append.1 hz with hz | hz
          · exact List.eq_of_mem_replicate hz
          · simpa using hz
        subst this
        exact i64_wf (by omega)
      case measure => omega
    obtain rfl : k = m := by omega
    have hI := H.out.ext HX.out
    go_upto_region 13 with (at_builtin; refine wpList_app _ elN rfl _ _ rfl w.heap.size (.slice Au k cu) k ((List.replicate k (mv : Int)).map (Value.int .i64)) rfl hown' A n c (l.map (Value.int .i64)) rfl (by rw [List.length_map, HL.out, Nat.mul_one]) hI.2.2 (ints_oneCell _ _) (by omega) (by unfold maxLen; omega) (by omega) ?_; intro v5 w5 hown5 hgr5 _; have HX5 := Lib.hid (HX.out.app hown' hgr5); have HD5 := Lib.hid (blk_away HD.out (Keeps.of_grown (L := (Value.slice Au k cu).ownBlock.toList) hgr5 (fun k hk => by rw [hk]; simp)) (fun k hk => NoRow.of_own hown' (by simpa using hk) (by decide))); obtain ⟨Au2, cu2, rfl⟩ := own_slice hown5; have HOW5 := Lib.hid hown5; clear hown5 hgr5)
    have hup : OwnS .i64 3 w.heap.size w5 Au2 (k + n) cu2 (lateL k (mv : Int) l) := by
      refine ⟨by unfold lateL; rw [List.map_append]; exact HOW5.out, by rw [lateL_len, HL.out], ?_⟩
      intro z hz
      have h1 := HSU.out.2 z hz
      exact i64_wf (by omega)
    have HUP := Lib.hid hup
    replace HX := HX5
    replace HD := HD5
    have HI := Lib.hid (H.out.ext HX.out)
    clear hup HU hown' hI HOW5 HX5 HD5
    obtain ⟨m, hkm⟩ : ∃ x, k = x := ⟨_, rfl⟩
    rw [hkm] at HUP HE2 HNB HSU hm4 hm5 hm hnm ⊢
    clear hkm hlt hk hll
    generalize w5 = wr at HX HD HUP HI ⊢
    have c0 := HD.out.cell 0
    have c1 := HD.out.cell 1
    have c2 := HD.out.cell 2
    have c3 := HD.out.cell 3
    simp only [List.getElem?_toArray, List.getElem?_cons_zero, List.getElem?_cons_succ] at c0 c1 c2 c3
    go_wp2_with fail
    refine (echoes_any A n c l ⟨lv, dr, st, de⟩ _ HI.out).mono ?_
    rw [HE1.out]
    rintro e wa ⟨va, rfl, hEa, hX⟩
    simp only at hEa ⊢
    obtain ⟨Aa, ca, rfl⟩ := own_slice hEa
    rw [HNA.out] at hEa ⊢
    have HEA := Lib.hid hEa
    replace HX := Lib.hid (HX.out.trans hX)
    replace HD := Lib.hid (HD.out.ext hX)
    replace HUP := Lib.hid (HUP.out.ext hX)
    replace HI := Lib.hid (HI.out.ext hX)
    clear hX hEa c0 c1 c2 c3
    generalize wr.heap.size = Ba at HEA
    have c0 := HD.out.cell 0
    have c1 := HD.out.cell 1
    have c2 := HD.out.cell 2
    have c3 := HD.out.cell 3
    simp only [List.getElem?_toArray, List.getElem?_cons_zero, List.getElem?_cons_succ] at c0 c1 c2 c3
    go_wp2_with fail
    refine (echoes_any Au2 (m + n) cu2 (lateL m (mv : Int) l) ⟨lv, dr, st, de⟩ _ HUP.out.ints).mono ?_
    rw [HE2.out]
    rintro e wb ⟨vb, rfl, hEb, hX⟩
    simp only at hEb ⊢
    obtain ⟨Ab, cb, rfl⟩ := own_slice hEb
    rw [HNB.out] at hEb ⊢
    have HEB := Lib.hid hEb
    replace HX := Lib.hid (HX.out.trans hX)
    replace HUP := Lib.hid (HUP.out.ext hX)
    replace HI := Lib.hid (HI.out.ext hX)
    replace HEA := Lib.hid (HEA.out.ext hX)
    clear hX hEb c0 c1 c2 c3 HD
    generalize wa.heap.size = Bb at HEB
    have gNN : ((N : Int) != (N : Int)) = false := by simp
    go_wp2_with fail
    go_loopg [15] N (fun f2 iv wr => ∃ (k : Nat), f2 = N - k ∧ k ≤ N ∧ iv = .int .i64 (k : Int) ∧ Hid (Ext w wr) ∧ Hid (EcL Ba wr (.slice Aa N ca) ea) ∧ Hid (EcL Bb wr (.slice Ab N cb) (ea.map (Ech.shift m))) ∧ Hid (OwnS .i64 3 w.heap.size wr Au2 (m + n) cu2 (lateL m (mv : Int) l)) ∧ Hid (Ints .i64 wr A n l))
    case atStart => exact ⟨0, rfl, by omega, rfl, HX, HEA, HEB, HUP, HI⟩
    case round =>
      clear HX HEA HEB HUP HI
      obtain ⟨k, rfl, hk, rfl, HX, HEA, HEB, HUP, HI⟩ := hrel
      by_cases hlt : k < N
      · have q5 : decide (k < N) = true := decide_eq_true hlt
        obtain ⟨ga, ca', x, hva, hra, ha⟩ := HEA.out.get (by rw [HNA.out]; exact hlt)
        obtain ⟨gb, cb', y, hvb, hrb, hb⟩ := HEB.out.get (by rw [HNB.out]; exact hlt)
        injection hva with hva hva2 hva3
        injection hvb with hvb hvb2 hvb3
        subst hva hvb
        clear hva2 hva3 hvb2 hvb3
        have hyx : y = x.shift m := by
          have h1 : (ea.map (Ech.shift m))[k]? = some y := hrb
          rw [List.getElem?_map, hra] at h1
          exact (Option.some.inj h1).symm
        obtain ⟨ff, pp, tt, hgood⟩ := GOOD.out x (List.mem_of_getElem? hra)
        obtain ⟨hl1, hl2, hl3, hl4⟩ := good_cells hgood HSM.out
        obtain ⟨ht1, ht2, ht3⟩ := time_late (n := m) (b := (mv : Int)) hgood HSM.out HSU.out (by omega) (by omega)
        have hin := hgood.time_in HSM.out
        have hz1 := hgood.frm
        have hz2 := hgood.til
        have hz3 := hgood.peak
        have hz4 := hgood.fp
        have hz5 := hgood.pt
        have hz6 := hgood.tl
        rw [HL.out] at hz6
        rw [← hyx] at ht1 ht2
        obtain ⟨x0, x1, x2, x3, x4⟩ := x
        obtain ⟨y0, y1, y2, y3, y4⟩ := y
        unfold Ech.shift at hyx
        injection hyx with e0 e1 e2 e3 e4
        subst e0 e1 e2 e3 e4
        simp only at hl1 hl2 hl3 hl4 hz1 hz2 hz3 ht3
        obtain ⟨⟨⟨lo, hi⟩, te⟩, htr⟩ : ∃ r, timeF l ⟨x0, x1, x2, y3, y4⟩ = r := ⟨_, rfl⟩
        obtain ⟨⟨⟨lo2, hi2⟩, te2⟩, htl⟩ : ∃ r, timeF (lateL m (mv : Int) l) ⟨x0 + m, x1 + m, x2 + m, y3, y4⟩ = r := ⟨_, rfl⟩
        rw [htr, htl] at ht2
        rw [htl] at ht1
        rw [htr] at ht3 hin
        simp only at ht1 ht2 ht3 hin
        subst ht1
        have HT := Lib.hid htr
        have HTU := Lib.hid htl
        have a0 := ha 0 _ rfl
        have a1 := ha 1 _ rfl
        have a2 := ha 2 _ rfl
        have a3 := ha 3 _ rfl
        have a4 := ha 4 _ rfl
        have d0 := hb 0 _ rfl
        have d1 := hb 1 _ rfl
        have d2 := hb 2 _ rfl
        have d3 := hb 3 _ rfl
        have d4 := hb 4 _ rfl
        simp only [Nat.add_zero] at a0 d0
        simp only at a0 a1 a2 a3 a4 d0 d1 d2 d3 d4
        have g1 : (x0 + (m : Int) != x0 + (m : Int)) = false := by simp
        have g2 : (x1 + (m : Int) != x1 + (m : Int)) = false := by simp
        have g3 : (x2 + (m : Int) != x2 + (m : Int)) = false := by simp
        have g4 : (y3 != y3) = false := by simp
        have g5 : (y4 != y4) = false := by simp
        have qw0 : IntKind.i64.wrap (x0 + (m : Int)) = x0 + m := IntWalk.i64_in _ (by omega)
        have qw1 : IntKind.i64.wrap (x1 + (m : Int)) = x1 + m := IntWalk.i64_in _ (by omega)
        have qw2 : IntKind.i64.wrap (x2 + (m : Int)) = x2 + m := IntWalk.i64_in _ (by omega)
        have HIN := Lib.hid (And.intro ht2 (And.intro ht3 hin))
        clear ha hb hra hrb htr htl ht2 ht3 hin hgood hz1 hz2 hz3 hz4 hz5 hz6 hl1 hl2 hl3 hl4
        go_upto_region 20 with (fail)
        refine delays_r20 ga gb N ca cb k x0 x1 x2 y3 y4 (x0 + m) (x1 + m) (x2 + m) y3 y4 wr a0 a1 a2 a3 a4 d0 d1 d2 d3 d4 hlt hN15 _ _ (by simp) rfl rfl rfl ?_
        rintro xv0 xv1 xv2 xv3 xv4 xv5 xv6 xv7 xv8 xv9 xv10 xv11 W rfl rfl rfl rfl rfl rfl rfl rfl ⟨gx, rfl, hgx, hbx⟩ ⟨gy, rfl, hgy, hby⟩ hxy hXW
        simp only [rops, Try.f6, regOf, Option.bind_some, Nat.reduceBEq, if_true, if_false, Bool.false_eq_true, Option.getD_some, List.drop_succ_cons, List.drop_zero]
        simp only [Act.put, List.setIfInBounds_toArray, List.set_cons_succ, List.set_cons_zero]
        have KX := Lib.hid hbx
        have KY := Lib.hid hby
        replace HX := Lib.hid (HX.out.trans hXW)
        replace HEA := Lib.hid (HEA.out.ext hXW)
        replace HEB := Lib.hid (HEB.out.ext hXW)
        replace HUP := Lib.hid (HUP.out.ext hXW)
        replace HI := Lib.hid (HI.out.ext hXW)
        clear hXW hbx hby hxy a0 a1 a2 a3 a4 d0 d1 d2 d3 d4
        have cX0 : W.cell? ⟨gx, 0, none⟩ = some (.int .i64 x0) := KX.out.cell 0
        have cX1 : W.cell? ⟨gx, 1, none⟩ = some (.int .i64 x1) := KX.out.cell 1
        have cX2 : W.cell? ⟨gx, 2, none⟩ = some (.int .i64 x2) := KX.out.cell 2
        have cX3 : W.cell? ⟨gx, 3, none⟩ = some (.int .i64 y3) := KX.out.cell 3
        have cX4 : W.cell? ⟨gx, 4, none⟩ = some (.int .i64 y4) := KX.out.cell 4
        have cY0 : W.cell? ⟨gy, 0, none⟩ = some (.int .i64 (x0 + (m : Int))) := KY.out.cell 0
        have cY1 : W.cell? ⟨gy, 1, none⟩ = some (.int .i64 (x1 + (m : Int))) := KY.out.cell 1
        have cY2 : W.cell? ⟨gy, 2, none⟩ = some (.int .i64 (x2 + (m : Int))) := KY.out.cell 2
        have cY3 : W.cell? ⟨gy, 3, none⟩ = some (.int .i64 y3) := KY.out.cell 3
        have cY4 : W.cell? ⟨gy, 4, none⟩ = some (.int .i64 y4) := KY.out.cell 4
        go_wp2_with fail
        clear cX0 cX1 cX2 cX3 cX4 cY0 cY1 cY2 cY3 cY4
        refine (time_any A n c l x0 x1 x2 y3 y4 _ HI.out).mono ?_
        rw [HT.out]
        rintro e w21 ⟨rfl, hX⟩
        replace hX : Ext W w21 := by with_reducible exact hX
        replace HX := Lib.hid (HX.out.trans hX)
        replace HEA := Lib.hid (HEA.out.ext hX)
        replace HEB := Lib.hid (HEB.out.ext hX)
        replace HUP := Lib.hid (HUP.out.ext hX)
        replace HI := Lib.hid (HI.out.ext hX)
        replace KX := Lib.hid (KX.out.ext hX)
        replace KY := Lib.hid (KY.out.ext hX)
        clear hX
        have cX0 : w21.cell? ⟨gx, 0, none⟩ = some (.int .i64 x0) := KX.out.cell 0
        have cX1 : w21.cell? ⟨gx, 1, none⟩ = some (.int .i64 x1) := KX.out.cell 1
        have cX2 : w21.cell? ⟨gx, 2, none⟩ = some (.int .i64 x2) := KX.out.cell 2
        have cX3 : w21.cell? ⟨gx, 3, none⟩ = some (.int .i64 y3) := KX.out.cell 3
        have cX4 : w21.cell? ⟨gx, 4, none⟩ = some (.int .i64 y4) := KX.out.cell 4
        have cY0 : w21.cell? ⟨gy, 0, none⟩ = some (.int .i64 (x0 + (m : Int))) := KY.out.cell 0
        have cY1 : w21.cell? ⟨gy, 1, none⟩ = some (.int .i64 (x1 + (m : Int))) := KY.out.cell 1
        have cY2 : w21.cell? ⟨gy, 2, none⟩ = some (.int .i64 (x2 + (m : Int))) := KY.out.cell 2
        have cY3 : w21.cell? ⟨gy, 3, none⟩ = some (.int .i64 y3) := KY.out.cell 3
        have cY4 : w21.cell? ⟨gy, 4, none⟩ = some (.int .i64 y4) := KY.out.cell 4
        go_upto_region 24 with (fail)
        clear cX0 cX1 cX2 cX3 cX4 cY0 cY1 cY2 cY3 cY4
        have hXa : Ext w21 (w21.alloc (.cells #[.int .i64 lo, .int .i64 hi] 44)) := (Ext.refl _).alloc _
        have kS := Blk.new w21 44 #[.int .i64 lo, .int .i64 hi]
        have zX := KX.out.lt
        have zY := KY.out.lt
        have zg := HX.out.size
        replace HX := Lib.hid (HX.out.trans hXa)
        replace HEA := Lib.hid (HEA.out.ext hXa)
        replace HEB := Lib.hid (HEB.out.ext hXa)
        replace HUP := Lib.hid (HUP.out.ext hXa)
        replace HI := Lib.hid (HI.out.ext hXa)
        replace KX := Lib.hid (KX.out.ext hXa)
        replace KY := Lib.hid (KY.out.ext hXa)
        generalize (w21.alloc (.cells #[.int .i64 lo, .int .i64 hi] 44)) = w22 at HX HEA HEB HUP HI KX KY kS ⊢
        have KS := Lib.hid kS
        clear kS hXa
        have cX0 : w22.cell? ⟨gx, 0, none⟩ = some (.int .i64 x0) := KX.out.cell 0
        have cX1 : w22.cell? ⟨gx, 1, none⟩ = some (.int .i64 x1) := KX.out.cell 1
        have cX2 : w22.cell? ⟨gx, 2, none⟩ = some (.int .i64 x2) := KX.out.cell 2
        have cX3 : w22.cell? ⟨gx, 3, none⟩ = some (.int .i64 y3) := KX.out.cell 3
        have cX4 : w22.cell? ⟨gx, 4, none⟩ = some (.int .i64 y4) := KX.out.cell 4
        have cY0 : w22.cell? ⟨gy, 0, none⟩ = some (.int .i64 (x0 + (m : Int))) := KY.out.cell 0
        have cY1 : w22.cell? ⟨gy, 1, none⟩ = some (.int .i64 (x1 + (m : Int))) := KY.out.cell 1
        have cY2 : w22.cell? ⟨gy, 2, none⟩ = some (.int .i64 (x2 + (m : Int))) := KY.out.cell 2
        have cY3 : w22.cell? ⟨gy, 3, none⟩ = some (.int .i64 y3) := KY.out.cell 3
        have cY4 : w22.cell? ⟨gy, 4, none⟩ = some (.int .i64 y4) := KY.out.cell 4
        have cS0 : w22.cell? ⟨w21.heap.size, 0, none⟩ = some (.int .i64 lo) := KS.out.cell 0
        have cS1 : w22.cell? ⟨w21.heap.size, 1, none⟩ = some (.int .i64 hi) := KS.out.cell 1
        go_wp2_with fail
        clear cX0 cX1 cX2 cX3 cX4 cY0 cY1 cY2 cY3 cY4 cS0 cS1
        refine (time_any Au2 (m + n) cu2 (lateL m (mv : Int) l) (x0 + m) (x1 + m) (x2 + m) y3 y4 _ HUP.out.ints).mono ?_
        rw [HTU.out]
        rintro e w23 ⟨rfl, hX⟩
        replace hX : Ext w22 w23 := by with_reducible exact hX
        replace HX := Lib.hid (HX.out.trans hX)
        replace HEA := Lib.hid (HEA.out.ext hX)
        replace HEB := Lib.hid (HEB.out.ext hX)
        replace HUP := Lib.hid (HUP.out.ext hX)
        replace HI := Lib.hid (HI.out.ext hX)
        replace KX := Lib.hid (KX.out.ext hX)
        replace KY := Lib.hid (KY.out.ext hX)
        replace KS := Lib.hid (KS.out.ext hX)
        clear hX
        have cX0 : w23.cell? ⟨gx, 0, none⟩ = some (.int .i64 x0) := KX.out.cell 0
        have cX1 : w23.cell? ⟨gx, 1, none⟩ = some (.int .i64 x1) := KX.out.cell 1
        have cX2 : w23.cell? ⟨gx, 2, none⟩ = some (.int .i64 x2) := KX.out.cell 2
        have cX3 : w23.cell? ⟨gx, 3, none⟩ = some (.int .i64 y3) := KX.out.cell 3
        have cX4 : w23.cell? ⟨gx, 4, none⟩ = some (.int .i64 y4) := KX.out.cell 4
        have cY0 : w23.cell? ⟨gy, 0, none⟩ = some (.int .i64 (x0 + (m : Int))) := KY.out.cell 0
        have cY1 : w23.cell? ⟨gy, 1, none⟩ = some (.int .i64 (x1 + (m : Int))) := KY.out.cell 1
        have cY2 : w23.cell? ⟨gy, 2, none⟩ = some (.int .i64 (x2 + (m : Int))) := KY.out.cell 2
        have cY3 : w23.cell? ⟨gy, 3, none⟩ = some (.int .i64 y3) := KY.out.cell 3
        have cY4 : w23.cell? ⟨gy, 4, none⟩ = some (.int .i64 y4) := KY.out.cell 4
        have cS0 : w23.cell? ⟨w21.heap.size, 0, none⟩ = some (.int .i64 lo) := KS.out.cell 0
        have cS1 : w23.cell? ⟨w21.heap.size, 1, none⟩ = some (.int .i64 hi) := KS.out.cell 1
        go_upto_region 25 with (fail)
        clear cX0 cX1 cX2 cX3 cX4 cY0 cY1 cY2 cY3 cY4 cS0 cS1
        have hXa : Ext w23 (w23.alloc (.cells #[.int .i64 lo2, .int .i64 hi2] 44)) := (Ext.refl _).alloc _
        have kT := Blk.new w23 44 #[.int .i64 lo2, .int .i64 hi2]
        have zX := KX.out.lt
        have zY := KY.out.lt
        have zS := KS.out.lt
        have zg := HX.out.size
        replace HX := Lib.hid (HX.out.trans hXa)
        replace HEA := Lib.hid (HEA.out.ext hXa)
        replace HEB := Lib.hid (HEB.out.ext hXa)
        replace HUP := Lib.hid (HUP.out.ext hXa)
        replace HI := Lib.hid (HI.out.ext hXa)
        replace KX := Lib.hid (KX.out.ext hXa)
        replace KY := Lib.hid (KY.out.ext hXa)
        replace KS := Lib.hid (KS.out.ext hXa)
        generalize (w23.alloc (.cells #[.int .i64 lo2, .int .i64 hi2] 44)) = w24 at HX HEA HEB HUP HI KX KY KS kT ⊢
        have KT := Lib.hid kT
        clear kT hXa
        have cX0 : w24.cell? ⟨gx, 0, none⟩ = some (.int .i64 x0) := KX.out.cell 0
        have cX1 : w24.cell? ⟨gx, 1, none⟩ = some (.int .i64 x1) := KX.out.cell 1
        have cX2 : w24.cell? ⟨gx, 2, none⟩ = some (.int .i64 x2) := KX.out.cell 2
        have cX3 : w24.cell? ⟨gx, 3, none⟩ = some (.int .i64 y3) := KX.out.cell 3
        have cX4 : w24.cell? ⟨gx, 4, none⟩ = some (.int .i64 y4) := KX.out.cell 4
        have cY0 : w24.cell? ⟨gy, 0, none⟩ = some (.int .i64 (x0 + (m : Int))) := KY.out.cell 0
        have cY1 : w24.cell? ⟨gy, 1, none⟩ = some (.int .i64 (x1 + (m : Int))) := KY.out.cell 1
        have cY2 : w24.cell? ⟨gy, 2, none⟩ = some (.int .i64 (x2 + (m : Int))) := KY.out.cell 2
        have cY3 : w24.cell? ⟨gy, 3, none⟩ = some (.int .i64 y3) := KY.out.cell 3
        have cY4 : w24.cell? ⟨gy, 4, none⟩ = some (.int .i64 y4) := KY.out.cell 4
        have cS0 : w24.cell? ⟨w21.heap.size, 0, none⟩ = some (.int .i64 lo) := KS.out.cell 0
        have cS1 : w24.cell? ⟨w21.heap.size, 1, none⟩ = some (.int .i64 hi) := KS.out.cell 1
        have cT0 : w24.cell? ⟨w23.heap.size, 0, none⟩ = some (.int .i64 lo2) := KT.out.cell 0
        have cT1 : w24.cell? ⟨w23.heap.size, 1, none⟩ = some (.int .i64 hi2) := KT.out.cell 1
        by_cases hte : te = 0
        · obtain ⟨h2, _, h3⟩ := HIN.out
          obtain ⟨t1, t2⟩ := h2 hte
          obtain ⟨b1, _, b2, _, b3, _⟩ := h3 hte
          subst hte t1 t2
          have qa : IntKind.i64.wrap (256 * (m : Int)) = 256 * m := IntWalk.i64_in _ (by omega)
          have qb : IntKind.i64.wrap (lo + 256 * (m : Int)) = lo + 256 * m := IntWalk.i64_in _ (by omega)
          have qc : IntKind.i64.wrap (hi + 256 * (m : Int)) = hi + 256 * m := IntWalk.i64_in _ (by omega)
          have qd : (lo + 256 * (m : Int) != lo + 256 * (m : Int)) = false := by simp
          have qe : (hi + 256 * (m : Int) != hi + 256 * (m : Int)) = false := by simp
          clear h2 h3
          go_wp2
          go_roundg (N - (k + 1))
          case rel => exact ⟨k + 1, rfl, by omega, by go_num, HX, HEA, HEB, HUP, HI⟩
          case measure => omega
        obtain ⟨_, h2, _⟩ := HIN.out
        obtain ⟨t1, t2⟩ := h2 hte
        subst t1 t2
        clear h2 hte
        go_wp2
        go_roundg (N - (k + 1))
        case rel => exact ⟨k + 1, rfl, by omega, by go_num, HX, HEA, HEB, HUP, HI⟩
        case measure => omega
      · obtain rfl : k = N := by omega
        go_wp2_with fail
        refine (firstW_any _).mono ?_
        rintro e w9 ⟨rfl, hX⟩
        replace HX := Lib.hid (HX.out.trans hX)
        clear hX
        go_wp2
        go_ret
        exact ⟨rfl, HX.out⟩
end Go.Proofs.Ytagcgldhhdecjaa
