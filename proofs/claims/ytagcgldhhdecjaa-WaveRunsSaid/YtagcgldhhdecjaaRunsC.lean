/- Lemmas of the proof that follows (Runs, part 3): walks of functions by contract, and plain lemmas. Conditions: none. -/
import Derived.Test.YtagcgldhhdecjaaRunsB
namespace Go.Proofs.Ytagcgldhhdecjaa
open Go.RowKit

set_option maxRecDepth 100000 in
set_option maxHeartbeats 1000000 in
theorem samplesR_any (A : Option Addr) (n c : Nat) (l : List Int) (w : World) (h : Ints .i64 w A n l) :
    Calls Try.prog 61 #[.slice A n c] w (fun e w' => e = .returned (.bool (decide (Smp l))) ∧ w = w') := by
  have H := Lib.hid h
  have HL := Lib.hid h.1
  clear h
  by_cases hn : 256 < n
  · have HS : Hid (decide (Smp l) = false) := Lib.hid (decide_eq_false fun s => by have := s.1; have := HL.out; omega)
    go_enter Try.func61, Try.ntmps61
    go_wp2
    go_ret
    exact ⟨by rw [HS.out]; rfl, rfl⟩
  go_enter Try.func61, Try.ntmps61
  go_wp2_with fail
  go_loopg [3] n (fun f iv wr => ∃ k : Nat, f = n - k ∧ k ≤ n ∧ iv = .int .i64 (k : Int) ∧ Hid (∀ x ∈ l.take k, 0 ≤ x ∧ x ≤ 1023) ∧ w = wr)
  case atStart => exact ⟨0, rfl, by omega, rfl, Lib.hid (by simp), rfl⟩
  case round =>
    obtain ⟨k, rfl, hk, rfl, HA, rfl⟩ := hrel
    by_cases hlt : k < n
    · obtain ⟨b, off, x, rfl, hx, _, hc⟩ := H.out.get hlt
      have HX := Lib.hid hx
      clear hx
      by_cases h0 : x < 0
      · have HS : Hid (decide (Smp l) = false) := Lib.hid (decide_eq_false fun s => by have := (s.2 x (List.mem_of_getElem? HX.out)).1; omega)
        go_wp2
        go_ret
        exact ⟨by rw [HS.out]; rfl, rfl⟩
      · by_cases h1 : 1023 < x
        · have HS : Hid (decide (Smp l) = false) := Lib.hid (decide_eq_false fun s => by have := (s.2 x (List.mem_of_getElem? HX.out)).2; omega)
          go_wp2
          go_ret
          exact ⟨by rw [HS.out]; rfl, rfl⟩
        · go_wp2
          go_roundg (n - (k + 1))
          case rel =>
            refine ⟨k + 1, rfl, by omega, by go_num, Lib.hid fun y hy => ?_, rfl⟩
            rw [List.take_add_one, HX.out] at hy
            rcases List.mem_append.1 hy with hy | hy
            · exact HA.out y hy
            · simp at hy; subst hy; omega
          case measure => omega
    · have HS : Hid (decide (Smp l) = true) := Lib.hid (decide_eq_true (by
        refine ⟨by have := HL.out; omega, fun x hx => HA.out x ?_⟩
        rwa [List.take_of_length_le (by have := HL.out; omega)]))
      go_wp2
      go_ret
      exact ⟨by rw [HS.out]; rfl, rfl⟩

theorem cntLe_take {l : List Int} {v : Int} {k : Nat} {x : Int} (h : l[k]? = some x) : cntLe v (l.take (k + 1)) = cntLe v (l.take k) + (if x ≤ v then 1 else 0) := by
  unfold cntLe
  rw [List.take_add_one, h, List.filter_append, List.length_append]
  congr 1
  by_cases hx : x ≤ v <;> simp [hx]
set_option maxRecDepth 100000 in
set_option maxHeartbeats 4000000 in
theorem baseR_any (A : Option Addr) (n c : Nat) (l : List Int) (w : World) (h : Ints .i64 w A n l) :
    Calls Try.prog 22 #[.slice A n c] w (fun e w' => e = .returned (.tuple #[.int .i64 (baseF l).1, .int .i64 (baseF l).2]) ∧ w = w') := by
  have H := Lib.hid h
  have HL := Lib.hid h.1
  clear h
  by_cases hn : n = 0
  · subst hn
    have HB : Hid (baseF l = (0, 2)) := Lib.hid (by unfold baseF; rw [if_pos (.inl (List.eq_nil_of_length_eq_zero HL.out))])
    go_enter Try.func22, Try.ntmps22
    go_wp2
    go_ret2
    exact ⟨by rw [HB.out]; rfl, rfl⟩
  have g0 : ((n : Int) == 0) = false := by simpa using hn
  by_cases hs : Smp l
  · have HS : Hid (decide (Smp l) = true) := Lib.hid (decide_eq_true hs)
    have hne : l ≠ [] := by intro e; subst e; have := HL.out; simp at this; omega
    have HB : Hid (baseF l = ((medV l : Int), 0)) := Lib.hid (by unfold baseF; rw [if_neg]; rintro (h | h); exact hne h; exact h hs)
    have HM : Hid (leastV l ((n - 1) / 2) 1023 0 = medV l) := Lib.hid (by unfold medV; rw [HL.out])
    have hn256 : n ≤ 256 := by have := hs.1; have := HL.out; omega
    obtain ⟨hz, hhz⟩ : ∃ hz, (n - 1) / 2 = hz := ⟨_, rfl⟩
    rw [hhz] at HM
    have hq : ((n : Int) - 1).tdiv 2 = (hz : Int) := by rw [Int.tdiv_eq_ediv_of_nonneg (by omega)]; omega
    have hzb : hz ≤ 128 := by omega
    generalize medV l = mv at HB HM
    clear hs hne hhz
    go_enter Try.func22, Try.ntmps22
    go_wp2_with fail
    refine (samplesR_any _ n c l _ H.out).mono ?_
    rw [HS.out]
    rintro e _ ⟨rfl, rfl⟩
    go_wp2_with fail
    go_loopg [4] 1023 (fun f iv wr => ∃ k : Nat, f = 1023 - k ∧ k ≤ 1023 ∧ iv = .int .i64 (k : Int) ∧ Hid (leastV l hz (1023 - k) k = mv) ∧ w = wr)
    case atStart => exact ⟨0, rfl, by omega, rfl, HM, rfl⟩
    case round =>
      clear HM
      obtain ⟨k, rfl, hk, rfl, HM, rfl⟩ := hrel
      by_cases hlt : k < 1023
      · have q1 : decide ((k : Int) < 1023) = true := decide_eq_true (by omega)
        have HLT := Lib.hid hlt
        clear hlt
        go_wp2_with fail
        go_loopg [5, 6] n (fun f2 nv jv wr => ∃ j s : Nat, f2 = n - j ∧ j ≤ n ∧ s ≤ j ∧ nv = .int .i64 (s : Int) ∧ jv = .int .i64 (j : Int) ∧ Hid (cntLe k (l.take j) = s) ∧ w = wr)
        case atStart => exact ⟨0, 0, rfl, by omega, by omega, rfl, rfl, Lib.hid rfl, rfl⟩
        case round =>
          obtain ⟨j, s, rfl, hj, hsj, rfl, rfl, HC, rfl⟩ := hrel
          by_cases hjn : j < n
          · obtain ⟨b, off, x, rfl, hx, _, hc⟩ := H.out.get hjn
            have HC2 := Lib.hid (cntLe_take (v := (k : Int)) hx)
            clear hx
            by_cases hxk : x ≤ (k : Int)
            · have HC3 : Hid (cntLe k (l.take (j + 1)) = s + 1) := Lib.hid (by rw [HC2.out, HC.out, if_pos hxk])
              go_wp2
              go_roundg (n - (j + 1))
              case rel => exact ⟨j + 1, s + 1, rfl, by omega, by omega, by go_num, by go_num, HC3, rfl⟩
              case measure => omega
            · have HC3 : Hid (cntLe k (l.take (j + 1)) = s) := Lib.hid (by rw [HC2.out, HC.out, if_neg hxk, Nat.add_zero])
              go_wp2
              go_roundg (n - (j + 1))
              case rel => exact ⟨j + 1, s, rfl, by omega, by omega, by go_num, by go_num, HC3, rfl⟩
              case measure => omega
          · obtain rfl : j = n := by omega
            have HC2 : Hid (cntLe k l = s) := Lib.hid (by have := HC.out; rwa [List.take_of_length_le (by have := HL.out; omega)] at this)
            by_cases hks : hz < s
            · have HE : Hid (mv = k) := Lib.hid (by
                have hlt := HLT.out
                have h1 := HM.out
                rw [show 1023 - k = 1022 - k + 1 by omega, leastV, HC2.out, if_pos hks] at h1
                exact h1.symm)
              go_wp2
              go_ret2
              exact ⟨by rw [HB.out, HE.out]; rfl, rfl⟩
            · have HM2 : Hid (leastV l hz (1023 - (k + 1)) (k + 1) = mv) := Lib.hid (by
                have hlt := HLT.out
                have h1 := HM.out
                rw [show 1023 - k = 1023 - (k + 1) + 1 by omega, leastV, HC2.out, if_neg hks] at h1
                exact h1)
              go_wp2
              go_roundg (1023 - (k + 1))
              case rel => exact ⟨k + 1, rfl, by have := HLT.out; omega, by go_num, HM2, rfl⟩
              case measure => have := HLT.out; omega
      · obtain rfl : k = 1023 := by omega
        have HE : Hid (mv = 1023) := Lib.hid HM.out.symm
        go_wp2
        go_ret2
        exact ⟨by rw [HB.out, HE.out]; rfl, rfl⟩
  · have HS : Hid (decide (Smp l) = false) := Lib.hid (decide_eq_false hs)
    have HB : Hid (baseF l = (0, 2)) := Lib.hid (by unfold baseF; rw [if_pos (.inr hs)])
    clear hs
    go_enter Try.func22, Try.ntmps22
    go_wp2_with fail
    refine (samplesR_any A n c l _ H.out).mono ?_
    rw [HS.out]
    rintro e _ ⟨rfl, rfl⟩
    go_wp2
    go_ret2
    exact ⟨by rw [HB.out]; rfl, rfl⟩

theorem highs_drop {lv : Int} {l : List Int} {i : Nat} {s : Int} (h : l[i]? = some s) : highs lv (l.drop i) = if lv ≤ s then highs lv (l.drop (i + 1)) + 1 else 0 := by
  rw [drop_get h]
  by_cases hs : lv ≤ s
  · rw [highs_hi hs, if_pos hs]
  · rw [highs_lo (by omega), if_neg hs]
set_option maxRecDepth 100000 in
set_option maxHeartbeats 8000000 in
theorem runsR_any (A : Option Addr) (n c : Nat) (l : List Int) (lv : Int) (w : World) (h : Ints .i64 w A n l) :
    Calls Try.prog 24 #[.slice A n c, .int .i64 lv] w (RetRn w (runsF l lv)) := by
  have H := Lib.hid h
  have HL := Lib.hid h.1
  clear h
  by_cases hs : ¬ Smp l
  · have HS : Hid (decide (Smp l) = false) := Lib.hid (decide_eq_false hs)
    have HB : Hid (runsF l lv = ([], 2)) := Lib.hid (by unfold runsF; rw [if_neg hs])
    clear hs
    go_enter Try.func24, Try.ntmps24
    go_wp2_with fail
    refine (samplesR_any A n c l _ H.out).mono ?_
    rw [HS.out]
    rintro e _ ⟨rfl, rfl⟩
    go_wp2
    go_ret2
    exact ⟨_, by rw [HB.out]; rfl, by rw [HB.out]; exact PrL.nil _ _, Ext.refl _⟩
  have hs' := Decidable.not_not.1 hs
  have HS : Hid (decide (Smp l) = true) := Lib.hid (decide_eq_true hs')
  have HB : Hid (runsF l lv = (runsP lv 0 l none, 0)) := Lib.hid (by unfold runsF; rw [if_pos hs'])
  have HZ := Lib.hid (runsR_zero lv l)
  have hn256 : n ≤ 256 := by have := hs'.1; have := HL.out; omega
  clear hs hs'
  go_enter Try.func24, Try.ntmps24
  go_wp2_with fail
  refine (samplesR_any A n c l _ H.out).mono ?_
  rw [HS.out]
  rintro e _ ⟨rfl, rfl⟩
  go_wp2_with fail
  go_loopg [6, 7] n (fun f ov iv wr => ∃ (k : Nat) (done : List (Nat × Nat)), f = n - k ∧ k ≤ n ∧ done.length ≤ k ∧ iv = .int .i64 (k : Int) ∧ Hid (PrL w.heap.size wr ov done) ∧ Hid (runsR lv l 0 = done ++ runsR lv l k) ∧ Hid (Ext w wr))
  case atStart => exact ⟨0, [], rfl, by omega, by simp, rfl, Lib.hid (PrL.nil _ _), Lib.hid rfl, Lib.hid (Ext.refl _)⟩
  case round =>
    obtain ⟨k, done, rfl, hk, hdk, rfl, HP, HR, HX⟩ := hrel
    by_cases hlt : k < n
    · obtain ⟨b, off, x, rfl, hx, _, hc⟩ := (H.out.ext HX.out).get hlt
      have hown := HP.out
      obtain ⟨A1, c1, hso⟩ := own_slice hown
      subst hso
      by_cases hlv : x < lv
      · have HR2 : Hid (runsR lv l 0 = done ++ runsR lv l (k + 1)) := Lib.hid (by rw [HR.out, runsR_low hx hlv])
        clear hx hown
        go_wp2
        go_roundg (n - (k + 1))
        case rel => exact ⟨k + 1, done, rfl, by omega, by omega, by go_num, HP, HR2, HX⟩
        case measure => omega
      · have hge : lv ≤ x := by omega
        have hprev : (0 < k ∧ lv ≤ l.getD (k - 1) 0) ∨ ¬ (0 < k ∧ lv ≤ l.getD (k - 1) 0) := Decidable.em _
        rcases hprev with hpv | hpv
        · have HR2 : Hid (runsR lv l 0 = done ++ runsR lv l (k + 1)) := Lib.hid (by rw [HR.out, runsR_in hx hge hpv])
          obtain ⟨k0, rfl⟩ : ∃ k0, k = k0 + 1 := ⟨k - 1, by omega⟩
          obtain ⟨b', off', y, e, hy, _, cy⟩ := (H.out.ext HX.out).get (j := k0) (by omega)
          injection e with e
          injection e with e1 e2
          subst e1 e2
          have hyl : lv ≤ y := by have := hpv.2; rwa [Nat.add_sub_cancel, getD_at hy] at this
          clear hx hown hy hpv
          go_wp2
          go_roundg (n - (k0 + 1 + 1))
          case rel => exact ⟨k0 + 1 + 1, done, rfl, by omega, by omega, by go_num, HP, HR2, HX⟩
          case measure => omega
        · have HR2 : Hid (runsR lv l 0 = done ++ ((k, k + highs lv (l.drop k)) :: runsR lv l (k + 1))) := Lib.hid (by rw [HR.out, runsR_start hx hge hpv])
          have HPV := Lib.hid hpv
          have HHX := Lib.hid (highs_drop (lv := lv) hx)
          clear hpv hx
          have hcase : k = 0 ∨ ∃ k0 y, k = k0 + 1 ∧ l[k0]? = some y ∧ y < lv := by
            rcases Nat.eq_zero_or_pos k with h0 | h0
            · exact .inl h0
            · obtain ⟨b', off', y, e, hy, _, cy⟩ := (H.out.ext HX.out).get (j := k - 1) (by omega)
              exact .inr ⟨k - 1, y, by omega, hy, by have h2 := HPV.out; rw [getD_at hy] at h2; omega⟩
          clear hown
          rcases hcase with hk0 | ⟨k0, y, hk0, hy, hyl⟩
          · subst hk0
            rw [Nat.add_zero] at hc
            go_wp2_with fail
            go_loopg [8] (n - 0) (fun f2 jv wr2 => ∃ z : Nat, f2 = n - z ∧ 0 ≤ z ∧ z ≤ n ∧ jv = .int .i64 (z : Int) ∧ Hid (0 + highs lv (l.drop (0)) = z + highs lv (l.drop z)) ∧ wr = wr2)
            case atStart => exact ⟨0, rfl, by omega, by omega, by go_num, Lib.hid rfl, rfl⟩
            case round =>
              obtain ⟨z, rfl, hz1, hz2, rfl, HV, rfl⟩ := hrel
              by_cases hzn : z < n
              · obtain ⟨b', off', x', e, hx', _, hc'⟩ := (H.out.ext HX.out).get hzn
                injection e with e
                injection e with e1 e2
                subst e1 e2
                have HH' := Lib.hid (highs_drop (lv := lv) hx')
                clear hx'
                by_cases hlz : lv ≤ x'
                · have HV2 : Hid (0 + highs lv (l.drop (0)) = z + 1 + highs lv (l.drop (z + 1))) := Lib.hid (by rw [HV.out, HH'.out, if_pos hlz]; omega)
                  go_wp2
                  go_roundg (n - (z + 1))
                  case rel => exact ⟨z + 1, rfl, by omega, by omega, by go_num, HV2, rfl⟩
                  case measure => omega
                · have HE : Hid (0 + highs lv (l.drop (0)) = z) := Lib.hid (by rw [HV.out, HH'.out, if_neg hlz]; omega)
                  have hown' : wr.ownsRow w.heap.size 30 2 (.slice A1 done.length c1) done.length (rowV done) := HP.out
                  have hsz := HX.out.size
                  go_wp2_with (at_builtin; refine wpList_app _ elP rfl _ _ rfl w.heap.size (.slice A1 done.length c1) done.length (rowV done) rfl (hown'.alloc _) _ 1 1 [.int .i64 ((0 : Nat) : Int), .int .i64 (z : Int)] rfl rfl (At.new' _ [_, _] _ rfl) (by simp [Value.oneCell']) (by omega) (by unfold maxLen; omega) (by simp; omega) ?_; intro v5 w5 hown5 hgr5 _)
                  go_roundg (n - (0 + 1))
                  case rel =>
                    refine ⟨0 + 1, done ++ [(0, z)], rfl, by omega, by rw [List.length_append]; simp only [List.length_cons, List.length_nil]; omega, by go_num, Lib.hid ?_, Lib.hid (by rw [HR2.out, HE.out]; simp), Lib.hid (HX.out.push hown' hgr5)⟩
                    unfold PrL
                    rw [rowV_snoc, List.length_append]
                    exact hown5
                  case measure => omega
              · have HE : Hid (0 + highs lv (l.drop (0)) = z) := Lib.hid (by rw [HV.out, List.drop_of_length_le (by have := HL.out; omega)]; rfl)
                obtain rfl : z = n := by omega
                have hown' : wr.ownsRow w.heap.size 30 2 (.slice A1 done.length c1) done.length (rowV done) := HP.out
                have hsz := HX.out.size
                go_wp2_with (at_builtin; refine wpList_app _ elP rfl _ _ rfl w.heap.size (.slice A1 done.length c1) done.length (rowV done) rfl (hown'.alloc _) _ 1 1 [.int .i64 ((0 : Nat) : Int), .int .i64 (z : Int)] rfl rfl (At.new' _ [_, _] _ rfl) (by simp [Value.oneCell']) (by omega) (by unfold maxLen; omega) (by simp; omega) ?_; intro v5 w5 hown5 hgr5 _)
                go_roundg (z - (0 + 1))
                case rel =>
                  refine ⟨0 + 1, done ++ [(0, z)], rfl, by omega, by rw [List.length_append]; simp only [List.length_cons, List.length_nil]; omega, by go_num, Lib.hid ?_, Lib.hid (by rw [HR2.out, HE.out]; simp), Lib.hid (HX.out.push hown' hgr5)⟩
                  unfold PrL
                  rw [rowV_snoc, List.length_append]
                  exact hown5
                case measure => omega
          · subst hk0
            obtain ⟨b', off', y', e, hy', _, cy⟩ := (H.out.ext HX.out).get (j := k0) (by omega)
            injection e with e
            injection e with e1 e2
            subst e1 e2
            obtain rfl : y' = y := by rw [hy'] at hy; injection hy
            clear hy hy'
            go_wp2_with fail
            go_loopg [8] (n - (k0 + 1)) (fun f2 jv wr2 => ∃ z : Nat, f2 = n - z ∧ k0 + 1 ≤ z ∧ z ≤ n ∧ jv = .int .i64 (z : Int) ∧ Hid (k0 + 1 + highs lv (l.drop (k0 + 1)) = z + highs lv (l.drop z)) ∧ wr = wr2)
            case atStart => exact ⟨k0 + 1, rfl, by omega, by omega, by go_num, Lib.hid rfl, rfl⟩
            case round =>
              obtain ⟨z, rfl, hz1, hz2, rfl, HV, rfl⟩ := hrel
              by_cases hzn : z < n
              · obtain ⟨b', off', x', e, hx', _, hc'⟩ := (H.out.ext HX.out).get hzn
                injection e with e
                injection e with e1 e2
                subst e1 e2
                have HH' := Lib.hid (highs_drop (lv := lv) hx')
                clear hx'
                by_cases hlz : lv ≤ x'
                · have HV2 : Hid (k0 + 1 + highs lv (l.drop (k0 + 1)) = z + 1 + highs lv (l.drop (z + 1))) := Lib.hid (by rw [HV.out, HH'.out, if_pos hlz]; omega)
                  go_wp2
                  go_roundg (n - (z + 1))
                  case rel => exact ⟨z + 1, rfl, by omega, by omega, by go_num, HV2, rfl⟩
                  case measure => omega
                · have HE : Hid (k0 + 1 + highs lv (l.drop (k0 + 1)) = z) := Lib.hid (by rw [HV.out, HH'.out, if_neg hlz]; omega)
                  have hown' : wr.ownsRow w.heap.size 30 2 (.slice A1 done.length c1) done.length (rowV done) := HP.out
                  have hsz := HX.out.size
                  go_wp2_with (at_builtin; refine wpList_app _ elP rfl _ _ rfl w.heap.size (.slice A1 done.length c1) done.length (rowV done) rfl (hown'.alloc _) _ 1 1 [.int .i64 ((k0 + 1 : Nat) : Int), .int .i64 (z : Int)] rfl rfl (At.new' _ [_, _] _ rfl) (by simp [Value.oneCell']) (by omega) (by unfold maxLen; omega) (by simp; omega) ?_; intro v5 w5 hown5 hgr5 _)
                  go_roundg (n - (k0 + 1 + 1))
                  case rel =>
                    refine ⟨k0 + 1 + 1, done ++ [(k0 + 1, z)], rfl, by omega, by rw [List.length_append]; simp only [List.length_cons, List.length_nil]; omega, by go_num, Lib.hid ?_, Lib.hid (by rw [HR2.out, HE.out]; simp), Lib.hid (HX.out.push hown' hgr5)⟩
                    unfold PrL
                    rw [rowV_snoc, List.length_append]
                    exact hown5
                  case measure => omega
              · have HE : Hid (k0 + 1 + highs lv (l.drop (k0 + 1)) = z) := Lib.hid (by rw [HV.out, List.drop_of_length_le (by have := HL.out; omega)]; rfl)
                obtain rfl : z = n := by omega
                have hown' : wr.ownsRow w.heap.size 30 2 (.slice A1 done.length c1) done.length (rowV done) := HP.out
                have hsz := HX.out.size
                go_wp2_with (at_builtin; refine wpList_app _ elP rfl _ _ rfl w.heap.size (.slice A1 done.length c1) done.length (rowV done) rfl (hown'.alloc _) _ 1 1 [.int .i64 ((k0 + 1 : Nat) : Int), .int .i64 (z : Int)] rfl rfl (At.new' _ [_, _] _ rfl) (by simp [Value.oneCell']) (by omega) (by unfold maxLen; omega) (by simp; omega) ?_; intro v5 w5 hown5 hgr5 _)
                go_roundg (z - (k0 + 1 + 1))
                case rel =>
                  refine ⟨k0 + 1 + 1, done ++ [(k0 + 1, z)], rfl, by omega, by rw [List.length_append]; simp only [List.length_cons, List.length_nil]; omega, by go_num, Lib.hid ?_, Lib.hid (by rw [HR2.out, HE.out]; simp), Lib.hid (HX.out.push hown' hgr5)⟩
                  unfold PrL
                  rw [rowV_snoc, List.length_append]
                  exact hown5
                case measure => omega
    · obtain rfl : k = n := by omega
      have hown := HP.out
      obtain ⟨A1, c1, hso⟩ := own_slice hown
      subst hso
      have HE : Hid (runsP lv 0 l none = done) := Lib.hid (by
        have h1 := HR.out
        have h2 := runsR_end lv l
        rw [HL.out] at h2
        rw [HZ.out, h2, List.append_nil] at h1
        exact h1)
      clear hown
      go_wp2
      go_ret2
      exact ⟨_, by rw [HB.out]; rfl, by rw [HB.out]; simp only; rw [HE.out]; exact HP.out, HX.out⟩
end Go.Proofs.Ytagcgldhhdecjaa
namespace Go.Proofs.Ytagcgldhhdecjaa
open Go.RowKit

theorem eqPair (x y : Int) (W : World) : (Op.equalIn 10000 30 (.agg #[.int .i64 x, .int .i64 y]) (.agg #[.int .i64 x, .int .i64 y])).run Try.prog W = .ok true W := by
  have hsome : (Try.prog.info? 3).isSome = true := by kernel_rfl
  obtain ⟨i, hi⟩ := Option.isSome_iff_exists.1 hsome
  have hc : Try.prog.cellsOf 3 = 1 := by kernel_rfl
  rw [run_equalIn_array W 9999 _ _ Try.underlying30 hi, hc]
  have hr : List.range 2 = [0, 1] := rfl
  have hu := Try.underlying3
  rw [hr]
  simp [Op.eqItems, go_sem]
set_option maxRecDepth 100000 in
set_option maxHeartbeats 4000000 in
theorem waveRuns_walk (A : Option Addr) (n c : Nat) (l : List Int) (lv : Int) (w : World) (h : Ints .i64 w A n l) :
    Calls Try.prog 3 #[.slice A n c, .int .i64 lv] w (fun e w' => e = .returned (.bool true) ∧ Ext w w') := by
  have H := Lib.hid h
  have HL := Lib.hid h.1
  clear h
  by_cases hn : 1000 < n
  · go_enter Try.func3, Try.ntmps3
    go_wp2_with fail
    refine (firstW_any w).mono ?_
    rintro e w1 ⟨rfl, hX⟩
    have HX := Lib.hid hX
    clear hX
    go_wp2
    go_ret
    exact ⟨rfl, HX.out⟩
  have hlen : (runsF l lv).1.length ≤ 257 := by
    unfold runsF
    split
    · rename_i hs
      have := runsP_len lv 0 l none
      have := hs.1
      simp only [Option.toList_none, List.length_nil, Nat.add_zero] at *
      omega
    · simp
  generalize hb : baseF l = bf
  generalize hr : runsF l lv = rf at hlen
  obtain ⟨b1, b2⟩ := bf
  obtain ⟨rs, r2⟩ := rf
  have HBF := Lib.hid hb
  have HRF := Lib.hid hr
  clear hb hr
  simp only at hlen
  go_enter Try.func3, Try.ntmps3
  go_wp2_with fail
  refine (base_any A n c l w H.out).mono ?_
  rw [HBF.out]
  rintro e w1 ⟨rfl, hX⟩
  have HX := Lib.hid hX
  clear hX
  go_wp2_with fail
  refine (baseR_any A n c l w1 (H.out.ext HX.out)).mono ?_
  rw [HBF.out]
  rintro e _ ⟨rfl, rfl⟩
  go_wp2_with fail
  refine (runs_any A n c l lv w1 (H.out.ext HX.out)).mono ?_
  rw [HRF.out]
  rintro e w2 ⟨va, rfl, hPa, hX⟩
  replace HX := Lib.hid (HX.out.trans hX)
  simp only at hPa ⊢
  clear hX
  go_wp2_with fail
  refine (runsR_any A n c l lv w2 (H.out.ext HX.out)).mono ?_
  rw [HRF.out]
  rintro e w3 ⟨vb, rfl, hPb, hX⟩
  replace HX := Lib.hid (HX.out.trans hX)
  simp only at hPb ⊢
  have HPa := Lib.hid (hPa.ext hX)
  have HPb := Lib.hid hPb
  obtain ⟨Aa, ca, rfl⟩ := own_slice hPa
  obtain ⟨Ab, cb, rfl⟩ := own_slice hPb
  clear hX hPa hPb
  obtain ⟨nr, hnr⟩ : ∃ nr, rs.length = nr := ⟨_, rfl⟩
  rw [hnr] at hlen HPa HPb ⊢
  have HNR := Lib.hid hnr
  clear hnr
  have g1 : (b1 != b1) = false := by simp
  have g2 : (b2 != b2) = false := by simp
  have g3 : (r2 != r2) = false := by simp
  have g4 : ((nr : Int) != (nr : Int)) = false := by simp
  go_wp2_with fail
  go_loopg [13] nr (fun f iv wr => ∃ k : Nat, f = nr - k ∧ k ≤ nr ∧ iv = .int .i64 (k : Int) ∧ Hid (Ext w3 wr))
  case atStart => exact ⟨0, rfl, by omega, rfl, Lib.hid (Ext.refl _)⟩
  case round =>
    obtain ⟨k, rfl, hk, rfl, HXr⟩ := hrel
    by_cases hlt : k < nr
    · have q1 : decide (k < nr) = true := decide_eq_true hlt
      obtain ⟨ga, ca', r, hva, hra, a0, a1⟩ := (HPa.out.ext HXr.out).get (by rw [HNR.out]; exact hlt)
      obtain ⟨gb, cb', r', hvb, hrb, d0, d1⟩ := (HPb.out.ext HXr.out).get (by rw [HNR.out]; exact hlt)
      obtain rfl : r = r' := by rw [hra] at hrb; injection hrb
      injection hva with hva hva2 hva3
      injection hvb with hvb hvb2 hvb3
      subst hva hvb
      clear hra hrb hva2 hva3 hvb2 hvb3
      obtain ⟨x, y⟩ := r
      simp only at a0 a1 d0 d1
      have hq := eqPair x y wr.drew
      go_wp2_with fail
      go_region
      go_wp2
      go_roundg (nr - (k + 1))
      case rel => exact ⟨k + 1, rfl, by omega, by go_num, Lib.hid HXr.out.drew⟩
      case measure => omega
    · obtain rfl : k = nr := by omega
      go_wp2_with fail
      refine (firstW_any wr).mono ?_
      rintro e w4 ⟨rfl, hX⟩
      replace HX := Lib.hid ((HX.out.trans HXr.out).trans hX)
      clear hX
      go_wp2
      go_ret
      exact ⟨rfl, HX.out⟩
end Go.Proofs.Ytagcgldhhdecjaa
