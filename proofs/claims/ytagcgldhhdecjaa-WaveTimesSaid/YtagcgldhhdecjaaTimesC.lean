/- Lemmas of the proof that follows (Times, part 3): walks of functions by contract, and plain lemmas. Conditions: none. -/
import Derived.Test.YtagcgldhhdecjaaTimesB
namespace Go.Proofs.Ytagcgldhhdecjaa
open Go.RowKit

set_option maxRecDepth 100000 in
set_option maxHeartbeats 1000000 in
theorem samplesR_any (A : Option Addr) (n c : Nat) (l : List Int) (w : World) (h : Ints .i64 w A n l) :
    Calls Try.prog 61 #[.slice A n c] w (fun e w' => e = .returned (.bool (decide (Smp l))) ∧ w = w') := by
  have H := Lib.hid h
  have HL := Lib.hid h.1
  clear h
  by_cases hn : 256 < n
  · have HS : Hid (decide (Smp l) = false) := Lib.hid (decide_eq_false fun s => by have := s.1; have := HL.out; omega)
    go_enter Try.func61, Try.ntmps61
    go_wp2
    go_ret
    exact ⟨by rw [HS.out]; rfl, rfl⟩
  go_enter Try.func61, Try.ntmps61
  go_wp2_with fail
  go_loopg [3] n (fun f iv wr => ∃ k : Nat, f = n - k ∧ k ≤ n ∧ iv = .int .i64 (k : Int) ∧ Hid (∀ x ∈ l.take k, 0 ≤ x ∧ x ≤ 1023) ∧ w = wr)
  case atStart => exact ⟨0, rfl, by omega, rfl, Lib.hid (by simp), rfl⟩
  case round =>
    obtain ⟨k, rfl, hk, rfl, HA, rfl⟩ := hrel
    by_cases hlt : k < n
    · obtain ⟨b, off, x, rfl, hx, _, hc⟩ := H.out.get hlt
      have HX := Lib.hid hx
      clear hx
      by_cases h0 : x < 0
      · have HS : Hid (decide (Smp l) = false) := Lib.hid (decide_eq_false fun s => by have := (s.2 x (List.mem_of_getElem? HX.out)).1; omega)
        go_wp2
        go_ret
        exact ⟨by rw [HS.out]; rfl, rfl⟩
      · by_cases h1 : 1023 < x
        · have HS : Hid (decide (Smp l) = false) := Lib.hid (decide_eq_false fun s => by have := (s.2 x (List.mem_of_getElem? HX.out)).2; omega)
          go_wp2
          go_ret
          exact ⟨by rw [HS.out]; rfl, rfl⟩
        · go_wp2
          go_roundg (n - (k + 1))
          case rel =>
            refine ⟨k + 1, rfl, by omega, by go_num, Lib.hid fun y hy => ?_, rfl⟩
            rw [List.take_add_one, HX.out] at hy
            rcases List.mem_append.1 hy with hy | hy
            · exact HA.out y hy
            · simp at hy; subst hy; omega
          case measure => omega
    · have HS : Hid (decide (Smp l) = true) := Lib.hid (decide_eq_true (by
        refine ⟨by have := HL.out; omega, fun x hx => HA.out x ?_⟩
        rwa [List.take_of_length_le (by have := HL.out; omega)]))
      go_wp2
      go_ret
      exact ⟨by rw [HS.out]; rfl, rfl⟩

theorem cntLe_take {l : List Int} {v : Int} {k : Nat} {x : Int} (h : l[k]? = some x) : cntLe v (l.take (k + 1)) = cntLe v (l.take k) + (if x ≤ v then 1 else 0) := by
  unfold cntLe
  rw [List.take_add_one, h, List.filter_append, List.length_append]
  congr 1
  by_cases hx : x ≤ v <;> simp [hx]
set_option maxRecDepth 100000 in
set_option maxHeartbeats 4000000 in
theorem baseR_any (A : Option Addr) (n c : Nat) (l : List Int) (w : World) (h : Ints .i64 w A n l) :
    Calls Try.prog 22 #[.slice A n c] w (fun e w' => e = .returned (.tuple #[.int .i64 (baseF l).1, .int .i64 (baseF l).2]) ∧ w = w') := by
  have H := Lib.hid h
  have HL := Lib.hid h.1
  clear h
  by_cases hn : n = 0
  · subst hn
    have HB : Hid (baseF l = (0, 2)) := Lib.hid (by unfold baseF; rw [if_pos (.inl (List.eq_nil_of_length_eq_zero HL.out))])
    go_enter Try.func22, Try.ntmps22
    go_wp2
    go_ret2
    exact ⟨by rw [HB.out]; rfl, rfl⟩
  have g0 : ((n : Int) == 0) = false := by simpa using hn
  by_cases hs : Smp l
  · have HS : Hid (decide (Smp l) = true) := Lib.hid (decide_eq_true hs)
    have hne : l ≠ [] := by intro e; subst e; have := HL.out; simp at this; omega
    have HB : Hid (baseF l = ((medV l : Int), 0)) := Lib.hid (by unfold baseF; rw [if_neg]; rintro (h | h); exact hne h; exact h hs)
    have HM : Hid (leastV l ((n - 1) / 2) 1023 0 = medV l) := Lib.hid (by unfold medV; rw [HL.out])
    have hn256 : n ≤ 256 := by have := hs.1; have := HL.out; omega
    obtain ⟨hz, hhz⟩ : ∃ hz, (n - 1) / 2 = hz := ⟨_, rfl⟩
    rw [hhz] at HM
    have hq : ((n : Int) - 1).tdiv 2 = (hz : Int) := by rw [Int.tdiv_eq_ediv_of_nonneg (by omega)]; omega
    have hzb : hz ≤ 128 := by omega
    generalize medV l = mv at HB HM
    clear hs hne hhz
    go_enter Try.func22, Try.ntmps22
    go_wp2_with fail
    refine (samplesR_any _ n c l _ H.out).mono ?_
    rw [HS.out]
    rintro e _ ⟨rfl, rfl⟩
    go_wp2_with fail
    go_loopg [4] 1023 (fun f iv wr => ∃ k : Nat, f = 1023 - k ∧ k ≤ 1023 ∧ iv = .int .i64 (k : Int) ∧ Hid (leastV l hz (1023 - k) k = mv) ∧ w = wr)
    case atStart => exact ⟨0, rfl, by omega, rfl, HM, rfl⟩
    case round =>
      clear HM
      obtain ⟨k, rfl, hk, rfl, HM, rfl⟩ := hrel
      by_cases hlt : k < 1023
      · have q1 : decide ((k : Int) < 1023) = true := decide_eq_true (by omega)
        have HLT := Lib.hid hlt
        clear hlt
        go_wp2_with fail
        go_loopg [5, 6] n (fun f2 nv jv wr => ∃ j s : Nat, f2 = n - j ∧ j ≤ n ∧ s ≤ j ∧ nv = .int .i64 (s : Int) ∧ jv = .int .i64 (j : Int) ∧ Hid (cntLe k (l.take j) = s) ∧ w = wr)
        case atStart => exact ⟨0, 0, rfl, by omega, by omega, rfl, rfl, Lib.hid rfl, rfl⟩
        case round =>
          obtain ⟨j, s, rfl, hj, hsj, rfl, rfl, HC, rfl⟩ := hrel
          by_cases hjn : j < n
          · obtain ⟨b, off, x, rfl, hx, _, hc⟩ := H.out.get hjn
            have HC2 := Lib.hid (cntLe_take (v := (k : Int)) hx)
            clear hx
            by_cases hxk : x ≤ (k : Int)
            · have HC3 : Hid (cntLe k (l.take (j + 1)) = s + 1) := Lib.hid (by rw [HC2.out, HC.out, if_pos hxk])
              go_wp2
              go_roundg (n - (j + 1))
              case rel => exact ⟨j + 1, s + 1, rfl, by omega, by omega, by go_num, by go_num, HC3, rfl⟩
              case measure => omega
            · have HC3 : Hid (cntLe k (l.take (j + 1)) = s) := Lib.hid (by rw [HC2.out, HC.out, if_neg hxk, Nat.add_zero])
              go_wp2
              go_roundg (n - (j + 1))
              case rel => exact ⟨j + 1, s, rfl, by omega, by omega, by go_num, by go_num, HC3, rfl⟩
              case measure => omega
          · obtain rfl : j = n := by omega
            have HC2 : Hid (cntLe k l = s) := Lib.hid (by have := HC.out; rwa [List.take_of_length_le (by have := HL.out; omega)] at this)
            by_cases hks : hz < s
            · have HE : Hid (mv = k) := Lib.hid (by
                have hlt := HLT.out
                have h1 := HM.out
                rw [show 1023 - k = 1022 - k + 1 by omega, leastV, HC2.out, if_pos hks] at h1
                exact h1.symm)
              go_wp2
              go_ret2
              exact ⟨by rw [HB.out, HE.out]; rfl, rfl⟩
            · have HM2 : Hid (leastV l hz (1023 - (k + 1)) (k + 1) = mv) := Lib.hid (by
                have hlt := HLT.out
                have h1 := HM.out
                rw [show 1023 - k = 1023 - (k + 1) + 1 by omega, leastV, HC2.out, if_neg hks] at h1
                exact h1)
              go_wp2
              go_roundg (1023 - (k + 1))
              case rel => exact ⟨k + 1, rfl, by have := HLT.out; omega, by go_num, HM2, rfl⟩
              case measure => have := HLT.out; omega
      · obtain rfl : k = 1023 := by omega
        have HE : Hid (mv = 1023) := Lib.hid HM.out.symm
        go_wp2
        go_ret2
        exact ⟨by rw [HB.out, HE.out]; rfl, rfl⟩
  · have HS : Hid (decide (Smp l) = false) := Lib.hid (decide_eq_false hs)
    have HB : Hid (baseF l = (0, 2)) := Lib.hid (by unfold baseF; rw [if_pos (.inr hs)])
    clear hs
    go_enter Try.func22, Try.ntmps22
    go_wp2_with fail
    refine (samplesR_any A n c l _ H.out).mono ?_
    rw [HS.out]
    rintro e _ ⟨rfl, rfl⟩
    go_wp2
    go_ret2
    exact ⟨by rw [HB.out]; rfl, rfl⟩

end Go.Proofs.Ytagcgldhhdecjaa
namespace Go.Proofs.Ytagcgldhhdecjaa
open Go.RowKit

def WithE (n : Nat) (e : Ech) : Prop := 0 ≤ e.frm ∧ e.frm < n ∧ e.frm < e.til ∧ e.til ≤ n
instance (n : Nat) (e : Ech) : Decidable (WithE n e) := inferInstanceAs (Decidable (_ ∧ _))
theorem partE_iff {l : List Int} {n : Nat} {e : Ech} (h : l.length = n) : PartE l e ↔ Smp l ∧ WithE n e := by
  unfold PartE WithE
  rw [h]
set_option maxRecDepth 100000 in
set_option maxHeartbeats 2000000 in
theorem withR_any (A : Option Addr) (n c : Nat) (f t p lv tp : Int) (w : World) :
    Calls Try.prog 67 #[.slice A n c, .agg #[.int .i64 f, .int .i64 t, .int .i64 p, .int .i64 lv, .int .i64 tp]] w (fun e w' => e = .returned (.bool (decide (WithE n ⟨f, t, p, lv, tp⟩))) ∧ Ext w w') := by
  go_enter Try.func67, Try.ntmps67
  go_wp2
  all_goals
    go_ret
    refine ⟨?_, (Ext.refl w).alloc _⟩
    first
    | (have q : decide (WithE n ⟨f, t, p, lv, tp⟩) = false := decide_eq_false (by unfold WithE; simp only; omega)
       rw [q]; rfl)
    | (have q : decide (WithE n ⟨f, t, p, lv, tp⟩) = decide (t ≤ (n : Int)) := by
         rw [decide_eq_decide]; unfold WithE; simp only; omega
       rw [q]; rfl)
set_option maxRecDepth 100000 in
set_option maxHeartbeats 4000000 in
theorem energyR_any (A : Option Addr) (n c : Nat) (l : List Int) (f t p lv tp : Int) (w : World) (h : Ints .i64 w A n l) (hcap : n ≤ c ∧ c ≤ 9223372036854775807) :
    Calls Try.prog 35 #[.slice A n c, .agg #[.int .i64 f, .int .i64 t, .int .i64 p, .int .i64 lv, .int .i64 tp]] w (fun e w' => e = .returned (.tuple #[.int .i64 (energyF l ⟨f, t, p, lv, tp⟩).1, .int .i64 (energyF l ⟨f, t, p, lv, tp⟩).2]) ∧ Ext w w') := by
  have hXb := (Ext.refl w).alloc (.cells #[.int .i64 f, .int .i64 t, .int .i64 p, .int .i64 lv, .int .i64 tp] 42)
  have hBb := Blk.new w 42 #[.int .i64 f, .int .i64 t, .int .i64 p, .int .i64 lv, .int .i64 tp]
  have hIb := h.ext hXb
  have HL := Lib.hid h.1
  clear h
  by_cases hp : ¬ PartE l ⟨f, t, p, lv, tp⟩
  · have q : Hid (decide (PartE l ⟨f, t, p, lv, tp⟩) = false) := Lib.hid (decide_eq_false hp)
    have HB : Hid (energyF l ⟨f, t, p, lv, tp⟩ = (0, 2)) := Lib.hid (by unfold energyF; rw [if_pos hp])
    rw [partE_iff HL.out] at hp
    by_cases hsw : l = [] ∨ ¬ Smp l
    · have HF : Hid (baseF l = (0, 2)) := Lib.hid (by unfold baseF; rw [if_pos hsw])
      clear hp hsw q
      go_enter Try.func35, Try.ntmps35
      go_wp2_with fail
      refine (baseR_any A n c l _ hIb).mono ?_
      rw [HF.out]
      rintro e _ ⟨rfl, rfl⟩
      go_wp2
      go_ret2
      exact ⟨by rw [HB.out]; rfl, hXb⟩
    · have HF : Hid (baseF l = ((medV l : Int), 0)) := Lib.hid (by unfold baseF; rw [if_neg hsw])
      have hw : ¬ WithE n ⟨f, t, p, lv, tp⟩ := fun h => hp ⟨Decidable.not_not.1 fun h' => hsw (.inr h'), h⟩
      have q2 : Hid (decide (WithE n ⟨f, t, p, lv, tp⟩) = false) := Lib.hid (decide_eq_false hw)
      clear hp hsw q hw
      go_enter Try.func35, Try.ntmps35
      go_wp2_with fail
      refine (baseR_any A n c l _ hIb).mono ?_
      rw [HF.out]
      rintro e _ ⟨rfl, rfl⟩
      go_wp2_with fail
      refine (withR_any A n c f t p lv tp _).mono ?_
      rw [q2.out]
      rintro e w1 ⟨rfl, hX⟩
      go_wp2
      go_ret2
      exact ⟨by rw [HB.out]; rfl, hXb.trans hX⟩
  have hp' := Decidable.not_not.1 hp
  have q : Hid (decide (PartE l ⟨f, t, p, lv, tp⟩) = true) := Lib.hid (decide_eq_true hp')
  have HB : Hid (energyF l ⟨f, t, p, lv, tp⟩ = (enerN l (medV l) (t - f).toNat f.toNat, 0)) := Lib.hid (by unfold energyF; rw [if_neg hp])
  obtain ⟨hs, h1, h2, h3, h4⟩ := hp'
  simp only at h1 h2 h3 h4
  rw [HL.out] at h2 h4
  have hne : l ≠ [] := by intro e; subst e; have := HL.out; simp at this; omega
  have HF : Hid (baseF l = ((medV l : Int), 0)) := Lib.hid (by unfold baseF; rw [if_neg]; rintro (h | h); exact hne h; exact h hs)
  have hn256 : n ≤ 256 := by have := hs.1; have := HL.out; omega
  have HSM := Lib.hid hs
  have hmed := medV_le l
  generalize medV l = mv at HF HB hmed
  obtain ⟨fr, rfl⟩ : ∃ x : Nat, f = x := ⟨f.toNat, by omega⟩
  obtain ⟨tn, rfl⟩ : ∃ x : Nat, t = x := ⟨t.toNat, by omega⟩
  rw [show ((tn : Int) - fr).toNat = tn - fr by omega, show ((fr : Int)).toNat = fr by omega] at HB
  obtain ⟨b, off, x0, hA, _, _, _⟩ := hIb.get (j := fr) (by omega)
  subst hA
  have qW : Hid (decide (WithE n ⟨fr, tn, p, lv, tp⟩) = true) := Lib.hid (decide_eq_true ((partE_iff HL.out).1 (Decidable.not_not.1 hp)).2)
  clear hp hs hne
  go_enter Try.func35, Try.ntmps35
  go_wp2_with fail
  refine (baseR_any _ n c l _ hIb).mono ?_
  rw [HF.out]
  rintro e _ ⟨rfl, rfl⟩
  go_wp2_with fail
  refine (withR_any _ n c fr tn p lv tp _).mono ?_
  rw [qW.out]
  rintro e w2 ⟨rfl, hX⟩
  replace hXb := hXb.trans hX
  replace hIb := hIb.ext hX
  replace hBb := hBb.ext hX
  clear hX
  have c0 := hBb.cell 0
  have c1 := hBb.cell 1
  simp only [List.getElem?_toArray, List.getElem?_cons_zero, List.getElem?_cons_succ] at c0 c1
  have HI := Lib.hid hIb
  have HX := Lib.hid hXb
  clear hIb hXb hBb
  go_wp2_with fail
  go_loopg [8, 9] (tn - fr) (fun f2 sv iv wr => ∃ (k : Nat) (s : Int), f2 = tn - fr - k ∧ k ≤ tn - fr ∧ -261888 ≤ s ∧ s ≤ 261888 ∧ sv = .int .i64 s ∧ iv = .int .i64 ((fr + k : Nat) : Int) ∧ Hid (enerN l mv k fr = s) ∧ w2 = wr)
  case atStart => exact ⟨0, 0, rfl, by omega, by omega, by omega, rfl, by go_num, Lib.hid rfl, rfl⟩
  case round =>
    obtain ⟨k, s, rfl, hk, hs1, hs2, rfl, rfl, HS, rfl⟩ := hrel
    by_cases hlt : k < tn - fr
    · obtain ⟨b', off', x, e, hx, _, hc⟩ := HI.out.get (j := fr + k) (by omega)
      injection e with e
      injection e with e1 e2
      subst e1 e2
      have bx := HSM.out.2 x (List.mem_of_getElem? hx)
      obtain ⟨bx1, bx2⟩ := bx
      have HS2 := Lib.hid (enerN_snoc l mv k fr)
      have hbd := enerN_bound (l := l) (b := (mv : Int)) HSM.out.2 (by omega) (k + 1) fr
      rw [HS2.out, HS.out, getD_at hx] at hbd
      have HS3 : Hid (enerN l mv (k + 1) fr = s + (x - mv)) := Lib.hid (by rw [HS2.out, HS.out, getD_at hx])
      clear hx
      obtain ⟨y, hy⟩ : ∃ y, s + (x - (mv : Int)) = y := ⟨_, rfl⟩
      rw [hy] at hbd HS3
      have qw1 : IntKind.i64.wrap (x - (mv : Int)) = x - mv := IntWalk.i64_in _ (by omega)
      have qw2 : IntKind.i64.wrap (s + (x - (mv : Int))) = s + (x - mv) := IntWalk.i64_in _ (by omega)
      go_wp2
      go_roundg (tn - fr - (k + 1))
      case rel => exact ⟨k + 1, s + (x - mv), by omega, by omega, by omega, by omega, by go_num, by go_num, by rw [hy]; exact HS3, rfl⟩
      case measure => omega
    · obtain rfl : k = tn - fr := by omega
      go_wp2
      go_ret2
      exact ⟨by rw [HB.out, HS.out]; rfl, HX.out⟩

set_option maxRecDepth 100000 in
set_option maxHeartbeats 8000000 in
theorem timeR_any (A : Option Addr) (n c : Nat) (l : List Int) (f t p lv tp : Int) (w : World) (h : Ints .i64 w A n l) :
    Calls Try.prog 33 #[.slice A n c, .agg #[.int .i64 f, .int .i64 t, .int .i64 p, .int .i64 lv, .int .i64 tp]] w (fun e w' => e = .returned (.tuple #[.agg #[.int .i64 (timeF l ⟨f, t, p, lv, tp⟩).1.1, .int .i64 (timeF l ⟨f, t, p, lv, tp⟩).1.2], .int .i64 (timeF l ⟨f, t, p, lv, tp⟩).2]) ∧ Ext w w') := by
  have hX0 := ((Ext.refl w).alloc (.cells #[.int .i64 f, .int .i64 t, .int .i64 p, .int .i64 lv, .int .i64 tp] 42)).alloc (.cells #[.int .i64 0, .int .i64 0] 44)
  have hB1 := (Blk.new w 42 #[.int .i64 f, .int .i64 t, .int .i64 p, .int .i64 lv, .int .i64 tp]).alloc (.cells #[.int .i64 0, .int .i64 0] 44)
  have hB2 := Blk.new (w.alloc (.cells #[.int .i64 f, .int .i64 t, .int .i64 p, .int .i64 lv, .int .i64 tp] 42)) 44 #[.int .i64 0, .int .i64 0]
  have es : (w.alloc (.cells #[.int .i64 f, .int .i64 t, .int .i64 p, .int .i64 lv, .int .i64 tp] 42)).heap.size = w.heap.size + 1 := by simp
  rw [es] at hB2
  have hI := h.ext hX0
  have HL := Lib.hid h.1
  clear h es
  by_cases hp : ¬ PartE l ⟨f, t, p, lv, tp⟩
  · have q : Hid (decide (PartE l ⟨f, t, p, lv, tp⟩) = false) := Lib.hid (decide_eq_false hp)
    have HB : Hid (timeF l ⟨f, t, p, lv, tp⟩ = ((0, 0), 2)) := Lib.hid (by unfold timeF; rw [if_pos hp])
    rw [partE_iff HL.out] at hp
    by_cases hs : ¬ Smp l
    · have qs : Hid (decide (Smp l) = false) := Lib.hid (decide_eq_false hs)
      clear hp q hs
      go_enter Try.func33, Try.ntmps33
      go_wp2_with fail
      refine (samplesR_any A n c l _ hI).mono ?_
      rw [qs.out]
      rintro e _ ⟨rfl, rfl⟩
      have s0 := hB2.cell 0
      have s1 := hB2.cell 1
      have z0 := hB2.free 0
      have z1 := hB2.free 1
      simp only [List.getElem?_toArray, List.getElem?_cons_zero, List.getElem?_cons_succ] at s0 s1
      go_wp2
      refine bodyPost_ret (v := .tuple #[.agg #[.int .i64 0, .int .i64 0], .int .i64 2]) (by simp [results, Try.results33, go_sem, *]) rfl ?_
      exact ⟨by rw [HB.out], hX0⟩
    have hw : ¬ WithE n ⟨f, t, p, lv, tp⟩ := fun h => hp ⟨Decidable.not_not.1 hs, h⟩
    have qs : Hid (decide (Smp l) = true) := Lib.hid (decide_eq_true (Decidable.not_not.1 hs))
    have q2 : Hid (decide (WithE n ⟨f, t, p, lv, tp⟩) = false) := Lib.hid (decide_eq_false hw)
    clear hp hs q hw
    go_enter Try.func33, Try.ntmps33
    go_wp2_with fail
    refine (samplesR_any A n c l _ hI).mono ?_
    rw [qs.out]
    rintro e _ ⟨rfl, rfl⟩
    go_wp2_with fail
    refine (withR_any A n c f t p lv tp _).mono ?_
    rw [q2.out]
    rintro e w1 ⟨rfl, hX⟩
    have HX := Lib.hid (hX0.trans hX)
    have s0 := (hB2.ext hX).cell 0
    have s1 := (hB2.ext hX).cell 1
    have z0 := (hB2.ext hX).free 0
    have z1 := (hB2.ext hX).free 1
    simp only [List.getElem?_toArray, List.getElem?_cons_zero, List.getElem?_cons_succ] at s0 s1
    go_wp2
    refine bodyPost_ret (v := .tuple #[.agg #[.int .i64 0, .int .i64 0], .int .i64 2]) (by simp [results, Try.results33, go_sem, *]) rfl ?_
    exact ⟨by rw [HB.out], (HX.out.setCell (by simp) _).setCell (by simp) _⟩
  have hp' := Decidable.not_not.1 hp
  have q : Hid (decide (PartE l ⟨f, t, p, lv, tp⟩) = true) := Lib.hid (decide_eq_true hp')
  obtain ⟨hs, h1, h2, h3, h4⟩ := hp'
  simp only at h1 h2 h3 h4
  rw [HL.out] at h2 h4
  have hn256 : n ≤ 256 := by have := hs.1; have := HL.out; omega
  have HSM := Lib.hid hs
  obtain ⟨fr, rfl⟩ : ∃ x : Nat, f = x := ⟨f.toNat, by omega⟩
  obtain ⟨tn, rfl⟩ : ∃ x : Nat, t = x := ⟨t.toNat, by omega⟩
  have HB : Hid (timeF l ⟨fr, tn, p, lv, tp⟩ = if (crossE l ⟨fr, tn, p, lv, tp⟩ : Int) = tn then ((0, 0), 2) else if crossE l ⟨fr, tn, p, lv, tp⟩ = 0 ∨ lv ≤ l.getD (crossE l ⟨fr, tn, p, lv, tp⟩ - 1) 0 then ((0, 0), 32)
      else ((256 * ((crossE l ⟨fr, tn, p, lv, tp⟩ : Int) - 1) + 256 * (lv - l.getD (crossE l ⟨fr, tn, p, lv, tp⟩ - 1) 0 - 1) / (l.getD (crossE l ⟨fr, tn, p, lv, tp⟩) 0 - l.getD (crossE l ⟨fr, tn, p, lv, tp⟩ - 1) 0),
        256 * ((crossE l ⟨fr, tn, p, lv, tp⟩ : Int) - 1) + (256 * (lv - l.getD (crossE l ⟨fr, tn, p, lv, tp⟩ - 1) 0) + l.getD (crossE l ⟨fr, tn, p, lv, tp⟩) 0 - l.getD (crossE l ⟨fr, tn, p, lv, tp⟩ - 1) 0 - 1) / (l.getD (crossE l ⟨fr, tn, p, lv, tp⟩) 0 - l.getD (crossE l ⟨fr, tn, p, lv, tp⟩ - 1) 0)), 0)) := Lib.hid (by unfold timeF; rw [if_neg hp])
  have HU0 : Hid (upTo l lv (tn - fr) fr = crossE l ⟨fr, tn, p, lv, tp⟩) := Lib.hid (by unfold crossE; simp only; congr 1; omega)
  generalize crossE l ⟨fr, tn, p, lv, tp⟩ = cr at HB HU0
  generalize timeF l ⟨fr, tn, p, lv, tp⟩ = R at HB ⊢
  obtain ⟨b, off, x0, hA, _, _, _⟩ := hI.get (j := fr) (by omega)
  subst hA
  have qW : Hid (decide (WithE n ⟨fr, tn, p, lv, tp⟩) = true) := Lib.hid (decide_eq_true ((partE_iff HL.out).1 (Decidable.not_not.1 hp)).2)
  have qS : Hid (decide (Smp l) = true) := Lib.hid (decide_eq_true hs)
  clear hp hs
  go_enter Try.func33, Try.ntmps33
  go_wp2_with fail
  refine (samplesR_any _ n c l _ hI).mono ?_
  rw [qS.out]
  rintro e _ ⟨rfl, rfl⟩
  go_wp2_with fail
  refine (withR_any _ n c fr tn p lv tp _).mono ?_
  rw [qW.out]
  rintro e w1 ⟨rfl, hX⟩
  have HX := Lib.hid (hX0.trans hX)
  have HI := Lib.hid (hI.ext hX)
  have HB1 := Lib.hid (hB1.ext hX)
  have HB2 := Lib.hid (hB2.ext hX)
  have e0 := HB1.out.cell 0
  simp only [List.getElem?_toArray, List.getElem?_cons_zero, List.getElem?_cons_succ] at e0
  clear hX hX0 hI hB1 hB2
  go_wp2_with fail
  clear e0
  go_loopg [6] (tn - fr) (fun f2 iv wr => ∃ z : Nat, f2 = tn - z ∧ fr ≤ z ∧ z ≤ tn ∧ iv = .int .i64 (z : Int) ∧ Hid (upTo l lv (tn - z) z = cr) ∧ Hid (Ext w1 wr))
  case atStart => exact ⟨fr, rfl, by omega, by omega, rfl, HU0, Lib.hid (Ext.refl _)⟩
  case round =>
    obtain ⟨z, rfl, hz1, hz2, rfl, HU, HXr⟩ := hrel
    have e1 := (HB1.out.ext HXr.out).cell 1
    have e3 := (HB1.out.ext HXr.out).cell 3
    simp only [List.getElem?_toArray, List.getElem?_cons_zero, List.getElem?_cons_succ] at e1 e3
    by_cases hzt : z < tn
    · obtain ⟨b', off', x, e, hx, _, cx⟩ := (HI.out.ext HXr.out).get (j := z) (by omega)
      injection e with e
      injection e with e1' e2'
      subst e1' e2'
      have HXx := Lib.hid (getD_at hx)
      obtain ⟨bx1, bx2⟩ := HSM.out.2 x (List.mem_of_getElem? hx)
      clear hx
      by_cases hxl : x < lv
      · have q1 : decide (x < lv) = true := decide_eq_true hxl
        have HU2 : Hid (upTo l lv (tn - (z + 1)) (z + 1) = cr) := Lib.hid (by
          have h := HU.out
          rw [show tn - z = tn - (z + 1) + 1 by omega, upTo, HXx.out, if_pos hxl] at h
          exact h)
        clear hxl
        go_wp2_with fail
        go_region
        go_wp2
        go_roundg (tn - (z + 1))
        case rel => exact ⟨z + 1, rfl, by omega, by omega, by go_num, HU2, Lib.hid HXr.out.drew⟩
        case measure => omega
      · have q1 : decide (x < lv) = false := decide_eq_false hxl
        have HC : Hid (cr = z) := Lib.hid (by
          have h := HU.out
          rw [show tn - z = tn - (z + 1) + 1 by omega, upTo, HXx.out, if_neg hxl] at h
          exact h.symm)
        have gz : ((z : Int) == (tn : Int)) = false := by simp; omega
        have hlx : lv ≤ x := by omega
        have HHL := Lib.hid hlx
        clear hxl hlx
        go_wp2_with fail
        go_region
        go_wp2_with fail
        have s0 := (HB2.out.ext HXr.out).cell 0
        have s1 := (HB2.out.ext HXr.out).cell 1
        have y0' := (HB2.out.ext HXr.out).free 0
        have y1' := (HB2.out.ext HXr.out).free 1
        simp only [List.getElem?_toArray, List.getElem?_cons_zero, List.getElem?_cons_succ] at s0 s1
        by_cases hz0 : z = 0
        · subst hz0
          go_region
          go_wp2
          refine bodyPost_ret (v := .tuple #[.agg #[.int .i64 0, .int .i64 0], .int .i64 32]) (by simp [results, Try.results33, go_sem, *]) rfl ?_
          exact ⟨by rw [HB.out, HC.out]; rw [if_neg (by omega), if_pos (.inl rfl)], (((HX.out.trans HXr.out).drew.drew).setCell (by simp) _).setCell (by simp) _⟩
        · obtain ⟨y0, rfl⟩ : ∃ y0, z = y0 + 1 := ⟨z - 1, by omega⟩
          obtain ⟨b', off', y, e, hy, _, cy⟩ := (HI.out.ext HXr.out).get (j := y0) (by omega)
          injection e with e
          injection e with e1' e2'
          subst e1' e2'
          have HYy := Lib.hid (getD_at hy)
          obtain ⟨by1, by2⟩ := HSM.out.2 y (List.mem_of_getElem? hy)
          clear hy
          have gz0 : ((y0 : Int) + 1 == 0) = false := by simp; omega
          by_cases hyl : lv ≤ y
          · have q2 : decide (lv ≤ y) = true := decide_eq_true hyl
            have HYL := Lib.hid hyl
            clear hyl
            go_region
            go_wp2
            refine bodyPost_ret (v := .tuple #[.agg #[.int .i64 0, .int .i64 0], .int .i64 32]) (by simp [results, Try.results33, go_sem, *]) rfl ?_
            exact ⟨by rw [HB.out, HC.out]; rw [if_neg (by omega), if_pos (.inr (by rw [Nat.add_sub_cancel, HYy.out]; exact HYL.out))], (((HX.out.trans HXr.out).drew.drew).setCell (by simp) _).setCell (by simp) _⟩
          · have q2 : decide (lv ≤ y) = false := decide_eq_false hyl
            have hxy : y < x := by have := HHL.out; omega
            have hly : y < lv := by omega
            have hlx := HHL.out
            obtain ⟨Q1, hQ1⟩ : ∃ Q, 256 * (lv - y - 1) / (x - y) = Q := ⟨_, rfl⟩
            obtain ⟨Q2, hQ2⟩ : ∃ Q, (256 * (lv - y) + x - y - 1) / (x - y) = Q := ⟨_, rfl⟩
            have b1 : 0 ≤ Q1 := by rw [← hQ1]; exact Int.ediv_nonneg (by omega) (by omega)
            have b2 : Q1 ≤ 256 * (lv - y - 1) := by rw [← hQ1]; exact Int.ediv_le_self _ (by omega)
            have b3 : 0 ≤ Q2 := by rw [← hQ2]; exact Int.ediv_nonneg (by omega) (by omega)
            have b4 : Q2 ≤ 256 * (lv - y) + x - y - 1 := by rw [← hQ2]; exact Int.ediv_le_self _ (by omega)
            have t1 : (256 * (lv - y - 1)).tdiv (x - y) = Q1 := by rw [Int.tdiv_eq_ediv_of_nonneg (by omega)]; exact hQ1
            have t2 : (256 * (lv - y) + x - y - 1).tdiv (x - y) = Q2 := by rw [Int.tdiv_eq_ediv_of_nonneg (by omega)]; exact hQ2
            have t3 : (256 * (lv - y) + (x - y) - 1).tdiv (x - y) = Q2 := by rw [show 256 * (lv - y) + (x - y) - 1 = 256 * (lv - y) + x - y - 1 by omega]; exact t2
            have t4 : (256 * (lv - y) + (x - y) - 1) / (x - y) = Q2 := by rw [show 256 * (lv - y) + (x - y) - 1 = 256 * (lv - y) + x - y - 1 by omega]; exact hQ2
            have HQ1 := Lib.hid hQ1
            clear t2
            have HQ2 := Lib.hid hQ2
            clear hQ1 hQ2 hyl
            go_region
            go_wp2_with fail
            go_region
            go_wp2_with fail
            go_region
            go_wp2
            have eR : R = ((256 * (y0 : Int) + Q1, 256 * (y0 : Int) + Q2), 0) := by
              rw [HB.out, HC.out, if_neg (by omega), if_neg (by rw [Nat.add_sub_cancel, HYy.out]; omega), Nat.add_sub_cancel, HYy.out, HXx.out, HQ1.out, HQ2.out, show ((y0 + 1 : Nat) : Int) - 1 = y0 by omega]
            refine bodyPost_ret (v := .tuple #[.agg #[.int .i64 (256 * (y0 : Int) + Q1), .int .i64 (256 * (y0 : Int) + Q2)], .int .i64 0]) (by simp [results, Try.results33, go_sem, *]) rfl ?_
            exact ⟨by rw [eR], ((((HX.out.trans HXr.out).setCell (by simp) _).setCell (by simp) _).drew).drew.drew.drew⟩
    · obtain rfl : z = tn := by omega
      have HC : Hid (cr = z) := Lib.hid (by
        have h := HU.out
        rw [Nat.sub_self, upTo] at h
        exact h.symm)
      have s0 := (HB2.out.ext HXr.out).cell 0
      have s1 := (HB2.out.ext HXr.out).cell 1
      have y0' := (HB2.out.ext HXr.out).free 0
      have y1' := (HB2.out.ext HXr.out).free 1
      simp only [List.getElem?_toArray, List.getElem?_cons_zero, List.getElem?_cons_succ] at s0 s1
      go_wp2_with fail
      go_region
      go_wp2
      refine bodyPost_ret (v := .tuple #[.agg #[.int .i64 0, .int .i64 0], .int .i64 2]) (by simp [results, Try.results33, go_sem, *]) rfl ?_
      exact ⟨by rw [HB.out, HC.out]; rw [if_pos rfl], (((HX.out.trans HXr.out).drew).setCell (by simp) _).setCell (by simp) _⟩
end Go.Proofs.Ytagcgldhhdecjaa
namespace Go.Proofs.Ytagcgldhhdecjaa
open Go.RowKit
theorem Blk.at_ {W : World} {t : TypeId} {cs : Array Value} {g : Nat} (hg : W.heap.size = g) : Blk (W.alloc (.cells cs t)) g t cs := hg ▸ Blk.new W t cs
end Go.Proofs.Ytagcgldhhdecjaa
namespace Go.Proofs.Ytagcgldhhdecjaa
open Go.RowKit

set_option maxRecDepth 100000 in
set_option maxHeartbeats 2000000 in
theorem times_big (A : Option Addr) (n c : Nat) (l : List Int) (f t p lv tp : Int) (w : World) (hn : 1000 < n) :
    Calls Try.prog 7 #[.slice A n c, .agg #[.int .i64 f, .int .i64 t, .int .i64 p, .int .i64 lv, .int .i64 tp]] w (fun e w' => e = .returned (.bool true) ∧ Ext w w') := by
  have hXe : Ext w (w.alloc (.cells #[.int .i64 f, .int .i64 t, .int .i64 p, .int .i64 lv, .int .i64 tp] 42)) := ((Ext.refl w).alloc _)
  have kE : Blk (w.alloc (.cells #[.int .i64 f, .int .i64 t, .int .i64 p, .int .i64 lv, .int .i64 tp] 42)) w.heap.size 42 #[.int .i64 f, .int .i64 t, .int .i64 p, .int .i64 lv, .int .i64 tp] := Blk.at_ (by simp)
  go_enter Try.func7, Try.ntmps7
  go_wp2_with fail
  generalize (w.alloc (.cells #[.int .i64 f, .int .i64 t, .int .i64 p, .int .i64 lv, .int .i64 tp] 42)) = w1 at hXe kE ⊢
  have HX := Lib.hid hXe
  clear hXe
  have KE := Lib.hid kE
  clear kE
  refine (firstW_any _).mono ?_
  rintro e w2 ⟨rfl, hX⟩
  replace hX : Ext w1 w2 := by with_reducible exact hX
  replace HX := Lib.hid (HX.out.trans hX)
  replace KE := Lib.hid (KE.out.ext hX)
  clear hX
  go_wp2
  go_ret
  exact ⟨rfl, HX.out⟩

set_option maxRecDepth 100000 in
set_option maxHeartbeats 2000000 in
theorem times_small (A : Option Addr) (n c : Nat) (l : List Int) (f t p lv tp : Int) (w : World) (hn : ¬ 1000 < n) (h : Ints .i64 w A n l) (hcap : n ≤ c ∧ c ≤ 9223372036854775807) :
    Calls Try.prog 7 #[.slice A n c, .agg #[.int .i64 f, .int .i64 t, .int .i64 p, .int .i64 lv, .int .i64 tp]] w (fun e w' => e = .returned (.bool true) ∧ Ext w w') := by
  obtain ⟨⟨⟨lo, hi⟩, te⟩, hT⟩ : ∃ r, timeF l ⟨f, t, p, lv, tp⟩ = r := ⟨_, rfl⟩
  obtain ⟨⟨en, ee⟩, hE⟩ : ∃ r, energyF l ⟨f, t, p, lv, tp⟩ = r := ⟨_, rfl⟩
  have HT := Lib.hid hT
  have HE := Lib.hid hE
  have H := Lib.hid h
  have HC := Lib.hid hcap
  clear hT hE h hcap
  have q1 : (te == te) = true := by simp
  have q2 : (en == en) = true := by simp
  have q3 : (ee == ee) = true := by simp
  have q4 : (lo == lo) = true := by simp
  have q5 : (hi == hi) = true := by simp
  have hXe : Ext w (w.alloc (.cells #[.int .i64 f, .int .i64 t, .int .i64 p, .int .i64 lv, .int .i64 tp] 42)) := ((Ext.refl w).alloc _)
  have kE : Blk (w.alloc (.cells #[.int .i64 f, .int .i64 t, .int .i64 p, .int .i64 lv, .int .i64 tp] 42)) w.heap.size 42 #[.int .i64 f, .int .i64 t, .int .i64 p, .int .i64 lv, .int .i64 tp] := Blk.at_ (by simp)
  go_enter Try.func7, Try.ntmps7
  go_wp2_with fail
  generalize (w.alloc (.cells #[.int .i64 f, .int .i64 t, .int .i64 p, .int .i64 lv, .int .i64 tp] 42)) = w1 at hXe kE ⊢
  have HX := Lib.hid hXe
  clear hXe
  have KE := Lib.hid kE
  clear kE
  have cE0 : w1.cell? ⟨w.heap.size, 0, none⟩ = some (.int .i64 f) := KE.out.cell 0
  have cE1 : w1.cell? ⟨w.heap.size, 1, none⟩ = some (.int .i64 t) := KE.out.cell 1
  have cE2 : w1.cell? ⟨w.heap.size, 2, none⟩ = some (.int .i64 p) := KE.out.cell 2
  have cE3 : w1.cell? ⟨w.heap.size, 3, none⟩ = some (.int .i64 lv) := KE.out.cell 3
  have cE4 : w1.cell? ⟨w.heap.size, 4, none⟩ = some (.int .i64 tp) := KE.out.cell 4
  clear cE0 cE1 cE2 cE3 cE4
  refine (time_any A n c l f t p lv tp _ (H.out.ext HX.out)).mono ?_
  rw [HT.out]
  rintro e w2 ⟨rfl, hX⟩
  replace hX : Ext w1 w2 := by with_reducible exact hX
  replace HX := Lib.hid (HX.out.trans hX)
  replace KE := Lib.hid (KE.out.ext hX)
  clear hX
  have cE0 : w2.cell? ⟨w.heap.size, 0, none⟩ = some (.int .i64 f) := KE.out.cell 0
  have cE1 : w2.cell? ⟨w.heap.size, 1, none⟩ = some (.int .i64 t) := KE.out.cell 1
  have cE2 : w2.cell? ⟨w.heap.size, 2, none⟩ = some (.int .i64 p) := KE.out.cell 2
  have cE3 : w2.cell? ⟨w.heap.size, 3, none⟩ = some (.int .i64 lv) := KE.out.cell 3
  have cE4 : w2.cell? ⟨w.heap.size, 4, none⟩ = some (.int .i64 tp) := KE.out.cell 4
  go_upto_region 4 with (fail)
  clear cE0 cE1 cE2 cE3 cE4
  have hXa : Ext w2 (w2.alloc (.cells #[.int .i64 lo, .int .i64 hi] 44)) := (Ext.refl _).alloc _
  have kS := Blk.new w2 44 #[.int .i64 lo, .int .i64 hi]
  have zE := KE.out.lt
  have zg := HX.out.size
  replace HX := Lib.hid (HX.out.trans hXa)
  replace KE := Lib.hid (KE.out.ext hXa)
  generalize (w2.alloc (.cells #[.int .i64 lo, .int .i64 hi] 44)) = w3 at HX KE kS ⊢
  have KS := Lib.hid kS
  clear kS hXa
  have cE0 : w3.cell? ⟨w.heap.size, 0, none⟩ = some (.int .i64 f) := KE.out.cell 0
  have cE1 : w3.cell? ⟨w.heap.size, 1, none⟩ = some (.int .i64 t) := KE.out.cell 1
  have cE2 : w3.cell? ⟨w.heap.size, 2, none⟩ = some (.int .i64 p) := KE.out.cell 2
  have cE3 : w3.cell? ⟨w.heap.size, 3, none⟩ = some (.int .i64 lv) := KE.out.cell 3
  have cE4 : w3.cell? ⟨w.heap.size, 4, none⟩ = some (.int .i64 tp) := KE.out.cell 4
  have cS0 : w3.cell? ⟨w2.heap.size, 0, none⟩ = some (.int .i64 lo) := KS.out.cell 0
  have cS1 : w3.cell? ⟨w2.heap.size, 1, none⟩ = some (.int .i64 hi) := KS.out.cell 1
  go_wp2_with fail
  clear cE0 cE1 cE2 cE3 cE4 cS0 cS1
  refine (timeR_any A n c l f t p lv tp _ (H.out.ext HX.out)).mono ?_
  rw [HT.out]
  rintro e w4 ⟨rfl, hX⟩
  replace hX : Ext w3 w4 := by with_reducible exact hX
  replace HX := Lib.hid (HX.out.trans hX)
  replace KE := Lib.hid (KE.out.ext hX)
  replace KS := Lib.hid (KS.out.ext hX)
  clear hX
  have cE0 : w4.cell? ⟨w.heap.size, 0, none⟩ = some (.int .i64 f) := KE.out.cell 0
  have cE1 : w4.cell? ⟨w.heap.size, 1, none⟩ = some (.int .i64 t) := KE.out.cell 1
  have cE2 : w4.cell? ⟨w.heap.size, 2, none⟩ = some (.int .i64 p) := KE.out.cell 2
  have cE3 : w4.cell? ⟨w.heap.size, 3, none⟩ = some (.int .i64 lv) := KE.out.cell 3
  have cE4 : w4.cell? ⟨w.heap.size, 4, none⟩ = some (.int .i64 tp) := KE.out.cell 4
  have cS0 : w4.cell? ⟨w2.heap.size, 0, none⟩ = some (.int .i64 lo) := KS.out.cell 0
  have cS1 : w4.cell? ⟨w2.heap.size, 1, none⟩ = some (.int .i64 hi) := KS.out.cell 1
  go_upto_region 5 with (fail)
  clear cE0 cE1 cE2 cE3 cE4 cS0 cS1
  have hXa : Ext w4 (w4.alloc (.cells #[.int .i64 lo, .int .i64 hi] 44)) := (Ext.refl _).alloc _
  have kU := Blk.new w4 44 #[.int .i64 lo, .int .i64 hi]
  have zE := KE.out.lt
  have zS := KS.out.lt
  have zg := HX.out.size
  replace HX := Lib.hid (HX.out.trans hXa)
  replace KE := Lib.hid (KE.out.ext hXa)
  replace KS := Lib.hid (KS.out.ext hXa)
  generalize (w4.alloc (.cells #[.int .i64 lo, .int .i64 hi] 44)) = w5 at HX KE KS kU ⊢
  have KU := Lib.hid kU
  clear kU hXa
  have cE0 : w5.cell? ⟨w.heap.size, 0, none⟩ = some (.int .i64 f) := KE.out.cell 0
  have cE1 : w5.cell? ⟨w.heap.size, 1, none⟩ = some (.int .i64 t) := KE.out.cell 1
  have cE2 : w5.cell? ⟨w.heap.size, 2, none⟩ = some (.int .i64 p) := KE.out.cell 2
  have cE3 : w5.cell? ⟨w.heap.size, 3, none⟩ = some (.int .i64 lv) := KE.out.cell 3
  have cE4 : w5.cell? ⟨w.heap.size, 4, none⟩ = some (.int .i64 tp) := KE.out.cell 4
  have cS0 : w5.cell? ⟨w2.heap.size, 0, none⟩ = some (.int .i64 lo) := KS.out.cell 0
  have cS1 : w5.cell? ⟨w2.heap.size, 1, none⟩ = some (.int .i64 hi) := KS.out.cell 1
  have cU0 : w5.cell? ⟨w4.heap.size, 0, none⟩ = some (.int .i64 lo) := KU.out.cell 0
  have cU1 : w5.cell? ⟨w4.heap.size, 1, none⟩ = some (.int .i64 hi) := KU.out.cell 1
  go_wp2_with fail
  clear cE0 cE1 cE2 cE3 cE4 cS0 cS1 cU0 cU1
  refine (energy_any A n c l f t p lv tp _ (H.out.ext HX.out) HC.out).mono ?_
  rw [HE.out]
  rintro e w6 ⟨rfl, hX⟩
  replace hX : Ext w5 w6 := by with_reducible exact hX
  replace HX := Lib.hid (HX.out.trans hX)
  replace KE := Lib.hid (KE.out.ext hX)
  replace KS := Lib.hid (KS.out.ext hX)
  replace KU := Lib.hid (KU.out.ext hX)
  clear hX
  have cE0 : w6.cell? ⟨w.heap.size, 0, none⟩ = some (.int .i64 f) := KE.out.cell 0
  have cE1 : w6.cell? ⟨w.heap.size, 1, none⟩ = some (.int .i64 t) := KE.out.cell 1
  have cE2 : w6.cell? ⟨w.heap.size, 2, none⟩ = some (.int .i64 p) := KE.out.cell 2
  have cE3 : w6.cell? ⟨w.heap.size, 3, none⟩ = some (.int .i64 lv) := KE.out.cell 3
  have cE4 : w6.cell? ⟨w.heap.size, 4, none⟩ = some (.int .i64 tp) := KE.out.cell 4
  have cS0 : w6.cell? ⟨w2.heap.size, 0, none⟩ = some (.int .i64 lo) := KS.out.cell 0
  have cS1 : w6.cell? ⟨w2.heap.size, 1, none⟩ = some (.int .i64 hi) := KS.out.cell 1
  have cU0 : w6.cell? ⟨w4.heap.size, 0, none⟩ = some (.int .i64 lo) := KU.out.cell 0
  have cU1 : w6.cell? ⟨w4.heap.size, 1, none⟩ = some (.int .i64 hi) := KU.out.cell 1
  go_wp2_with fail
  clear cE0 cE1 cE2 cE3 cE4 cS0 cS1 cU0 cU1
  refine (energyR_any A n c l f t p lv tp _ (H.out.ext HX.out) HC.out).mono ?_
  rw [HE.out]
  rintro e w7 ⟨rfl, hX⟩
  replace hX : Ext w6 w7 := by with_reducible exact hX
  replace HX := Lib.hid (HX.out.trans hX)
  replace KE := Lib.hid (KE.out.ext hX)
  replace KS := Lib.hid (KS.out.ext hX)
  replace KU := Lib.hid (KU.out.ext hX)
  clear hX
  have cE0 : w7.cell? ⟨w.heap.size, 0, none⟩ = some (.int .i64 f) := KE.out.cell 0
  have cE1 : w7.cell? ⟨w.heap.size, 1, none⟩ = some (.int .i64 t) := KE.out.cell 1
  have cE2 : w7.cell? ⟨w.heap.size, 2, none⟩ = some (.int .i64 p) := KE.out.cell 2
  have cE3 : w7.cell? ⟨w.heap.size, 3, none⟩ = some (.int .i64 lv) := KE.out.cell 3
  have cE4 : w7.cell? ⟨w.heap.size, 4, none⟩ = some (.int .i64 tp) := KE.out.cell 4
  have cS0 : w7.cell? ⟨w2.heap.size, 0, none⟩ = some (.int .i64 lo) := KS.out.cell 0
  have cS1 : w7.cell? ⟨w2.heap.size, 1, none⟩ = some (.int .i64 hi) := KS.out.cell 1
  have cU0 : w7.cell? ⟨w4.heap.size, 0, none⟩ = some (.int .i64 lo) := KU.out.cell 0
  have cU1 : w7.cell? ⟨w4.heap.size, 1, none⟩ = some (.int .i64 hi) := KU.out.cell 1
  go_wp2_with fail
  clear cE0 cE1 cE2 cE3 cE4 cS0 cS1 cU0 cU1
  refine (firstW_any _).mono ?_
  rintro e w8 ⟨rfl, hX⟩
  replace hX : Ext w7 w8 := by with_reducible exact hX
  replace HX := Lib.hid (HX.out.trans hX)
  replace KE := Lib.hid (KE.out.ext hX)
  replace KS := Lib.hid (KS.out.ext hX)
  replace KU := Lib.hid (KU.out.ext hX)
  clear hX
  go_wp2
  go_ret
  exact ⟨rfl, HX.out⟩

theorem waveTimes_walk (A : Option Addr) (n c : Nat) (l : List Int) (f : Int × Int × Int × Int × Int) (w : World) (h : Ints .i64 w A n l) (hcap : n ≤ c ∧ c ≤ 9223372036854775807) :
    Calls Try.prog 7 #[.slice A n c, .agg #[.int .i64 f.1, .int .i64 f.2.1, .int .i64 f.2.2.1, .int .i64 f.2.2.2.1, .int .i64 f.2.2.2.2]] w (fun e w' => e = .returned (.bool true) ∧ Ext w w') := by
  by_cases hn : 1000 < n
  · exact times_big A n c l _ _ _ _ _ w hn
  · exact times_small A n c l _ _ _ _ _ w hn h hcap
end Go.Proofs.Ytagcgldhhdecjaa
