/- Lemmas of the proof that follows (Echoes, part 3): walks of functions by contract, and plain lemmas. Conditions: none. -/
import Derived.Test.YtagcgldhhdecjaaEchoesB
namespace Go.Proofs.Ytagcgldhhdecjaa
open Go.RowKit

set_option maxRecDepth 100000 in
set_option maxHeartbeats 1000000 in
theorem samplesR_any (A : Option Addr) (n c : Nat) (l : List Int) (w : World) (h : Ints .i64 w A n l) :
    Calls Try.prog 61 #[.slice A n c] w (fun e w' => e = .returned (.bool (decide (Smp l))) ∧ w = w') := by
  have H := Lib.hid h
  have HL := Lib.hid h.1
  clear h
  by_cases hn : 256 < n
  · have HS : Hid (decide (Smp l) = false) := Lib.hid (decide_eq_false fun s => by have := s.1; have := HL.out; omega)
    go_enter Try.func61, Try.ntmps61
    go_wp2
    go_ret
    exact ⟨by rw [HS.out]; rfl, rfl⟩
  go_enter Try.func61, Try.ntmps61
  go_wp2_with fail
  go_loopg [3] n (fun f iv wr => ∃ k : Nat, f = n - k ∧ k ≤ n ∧ iv = .int .i64 (k : Int) ∧ Hid (∀ x ∈ l.take k, 0 ≤ x ∧ x ≤ 1023) ∧ w = wr)
  case atStart => exact ⟨0, rfl, by omega, rfl, Lib.hid (by simp), rfl⟩
  case round =>
    obtain ⟨k, rfl, hk, rfl, HA, rfl⟩ := hrel
    by_cases hlt : k < n
    · obtain ⟨b, off, x, rfl, hx, _, hc⟩ := H.out.get hlt
      have HX := Lib.hid hx
      clear hx
      by_cases h0 : x < 0
      · have HS : Hid (decide (Smp l) = false) := Lib.hid (decide_eq_false fun s => by have := (s.2 x (List.mem_of_getElem? HX.out)).1; omega)
        go_wp2
        go_ret
        exact ⟨by rw [HS.out]; rfl, rfl⟩
      · by_cases h1 : 1023 < x
        · have HS : Hid (decide (Smp l) = false) := Lib.hid (decide_eq_false fun s => by have := (s.2 x (List.mem_of_getElem? HX.out)).2; omega)
          go_wp2
          go_ret
          exact ⟨by rw [HS.out]; rfl, rfl⟩
        · go_wp2
          go_roundg (n - (k + 1))
          case rel =>
            refine ⟨k + 1, rfl, by omega, by go_num, Lib.hid fun y hy => ?_, rfl⟩
            rw [List.take_add_one, HX.out] at hy
            rcases List.mem_append.1 hy with hy | hy
            · exact HA.out y hy
            · simp at hy; subst hy; omega
          case measure => omega
    · have HS : Hid (decide (Smp l) = true) := Lib.hid (decide_eq_true (by
        refine ⟨by have := HL.out; omega, fun x hx => HA.out x ?_⟩
        rwa [List.take_of_length_le (by have := HL.out; omega)]))
      go_wp2
      go_ret
      exact ⟨by rw [HS.out]; rfl, rfl⟩

theorem cntLe_take {l : List Int} {v : Int} {k : Nat} {x : Int} (h : l[k]? = some x) : cntLe v (l.take (k + 1)) = cntLe v (l.take k) + (if x ≤ v then 1 else 0) := by
  unfold cntLe
  rw [List.take_add_one, h, List.filter_append, List.length_append]
  congr 1
  by_cases hx : x ≤ v <;> simp [hx]
set_option maxRecDepth 100000 in
set_option maxHeartbeats 4000000 in
theorem baseR_any (A : Option Addr) (n c : Nat) (l : List Int) (w : World) (h : Ints .i64 w A n l) :
    Calls Try.prog 22 #[.slice A n c] w (fun e w' => e = .returned (.tuple #[.int .i64 (baseF l).1, .int .i64 (baseF l).2]) ∧ w = w') := by
  have H := Lib.hid h
  have HL := Lib.hid h.1
  clear h
  by_cases hn : n = 0
  · subst hn
    have HB : Hid (baseF l = (0, 2)) := Lib.hid (by unfold baseF; rw [if_pos (.inl (List.eq_nil_of_length_eq_zero HL.out))])
    go_enter Try.func22, Try.ntmps22
    go_wp2
    go_ret2
    exact ⟨by rw [HB.out]; rfl, rfl⟩
  have g0 : ((n : Int) == 0) = false := by simpa using hn
  by_cases hs : Smp l
  · have HS : Hid (decide (Smp l) = true) := Lib.hid (decide_eq_true hs)
    have hne : l ≠ [] := by intro e; subst e; have := HL.out; simp at this; omega
    have HB : Hid (baseF l = ((medV l : Int), 0)) := Lib.hid (by unfold baseF; rw [if_neg]; rintro (h | h); exact hne h; exact h hs)
    have HM : Hid (leastV l ((n - 1) / 2) 1023 0 = medV l) := Lib.hid (by unfold medV; rw [HL.out])
    have hn256 : n ≤ 256 := by have := hs.1; have := HL.out; omega
    obtain ⟨hz, hhz⟩ : ∃ hz, (n - 1) / 2 = hz := ⟨_, rfl⟩
    rw [hhz] at HM
    have hq : ((n : Int) - 1).tdiv 2 = (hz : Int) := by rw [Int.tdiv_eq_ediv_of_nonneg (by omega)]; omega
    have hzb : hz ≤ 128 := by omega
    generalize medV l = mv at HB HM
    clear hs hne hhz
    go_enter Try.func22, Try.ntmps22
    go_wp2_with fail
    refine (samplesR_any _ n c l _ H.out).mono ?_
    rw [HS.out]
    rintro e _ ⟨rfl, rfl⟩
    go_wp2_with fail
    go_loopg [4] 1023 (fun f iv wr => ∃ k : Nat, f = 1023 - k ∧ k ≤ 1023 ∧ iv = .int .i64 (k : Int) ∧ Hid (leastV l hz (1023 - k) k = mv) ∧ w = wr)
    case atStart => exact ⟨0, rfl, by omega, rfl, HM, rfl⟩
    case round =>
      clear HM
      obtain ⟨k, rfl, hk, rfl, HM, rfl⟩ := hrel
      by_cases hlt : k < 1023
      · have q1 : decide ((k : Int) < 1023) = true := decide_eq_true (by omega)
        have HLT := Lib.hid hlt
        clear hlt
        go_wp2_with fail
        go_loopg [5, 6] n (fun f2 nv jv wr => ∃ j s : Nat, f2 = n - j ∧ j ≤ n ∧ s ≤ j ∧ nv = .int .i64 (s : Int) ∧ jv = .int .i64 (j : Int) ∧ Hid (cntLe k (l.take j) = s) ∧ w = wr)
        case atStart => exact ⟨0, 0, rfl, by omega, by omega, rfl, rfl, Lib.hid rfl, rfl⟩
        case round =>
          obtain ⟨j, s, rfl, hj, hsj, rfl, rfl, HC, rfl⟩ := hrel
          by_cases hjn : j < n
          · obtain ⟨b, off, x, rfl, hx, _, hc⟩ := H.out.get hjn
            have HC2 := Lib.hid (cntLe_take (v := (k : Int)) hx)
            clear hx
            by_cases hxk : x ≤ (k : Int)
            · have HC3 : Hid (cntLe k (l.take (j + 1)) = s + 1) := Lib.hid (by rw [HC2.out, HC.out, if_pos hxk])
              go_wp2
              go_roundg (n - (j + 1))
              case rel => exact ⟨j + 1, s + 1, rfl, by omega, by omega, by go_num, by go_num, HC3, rfl⟩
              case measure => omega
            · have HC3 : Hid (cntLe k (l.take (j + 1)) = s) := Lib.hid (by rw [HC2.out, HC.out, if_neg hxk, Nat.add_zero])
              go_wp2
              go_roundg (n - (j + 1))
              case rel => exact ⟨j + 1, s, rfl, by omega, by omega, by go_num, by go_num, HC3, rfl⟩
              case measure => omega
          · obtain rfl : j = n := by omega
            have HC2 : Hid (cntLe k l = s) := Lib.hid (by have := HC.out; rwa [List.take_of_length_le (by have := HL.out; omega)] at this)
            by_cases hks : hz < s
            · have HE : Hid (mv = k) := Lib.hid (by
                have hlt := HLT.out
                have h1 := HM.out
                rw [show 1023 - k = 1022 - k + 1 by omega, leastV, HC2.out, if_pos hks] at h1
                exact h1.symm)
              go_wp2
              go_ret2
              exact ⟨by rw [HB.out, HE.out]; rfl, rfl⟩
            · have HM2 : Hid (leastV l hz (1023 - (k + 1)) (k + 1) = mv) := Lib.hid (by
                have hlt := HLT.out
                have h1 := HM.out
                rw [show 1023 - k = 1023 - (k + 1) + 1 by omega, leastV, HC2.out, if_neg hks] at h1
                exact h1)
              go_wp2
              go_roundg (1023 - (k + 1))
              case rel => exact ⟨k + 1, rfl, by have := HLT.out; omega, by go_num, HM2, rfl⟩
              case measure => have := HLT.out; omega
      · obtain rfl : k = 1023 := by omega
        have HE : Hid (mv = 1023) := Lib.hid HM.out.symm
        go_wp2
        go_ret2
        exact ⟨by rw [HB.out, HE.out]; rfl, rfl⟩
  · have HS : Hid (decide (Smp l) = false) := Lib.hid (decide_eq_false hs)
    have HB : Hid (baseF l = (0, 2)) := Lib.hid (by unfold baseF; rw [if_pos (.inr hs)])
    clear hs
    go_enter Try.func22, Try.ntmps22
    go_wp2_with fail
    refine (samplesR_any A n c l _ H.out).mono ?_
    rw [HS.out]
    rintro e _ ⟨rfl, rfl⟩
    go_wp2
    go_ret2
    exact ⟨by rw [HB.out]; rfl, rfl⟩

theorem highs_drop {lv : Int} {l : List Int} {i : Nat} {s : Int} (h : l[i]? = some s) : highs lv (l.drop i) = if lv ≤ s then highs lv (l.drop (i + 1)) + 1 else 0 := by
  rw [drop_get h]
  by_cases hs : lv ≤ s
  · rw [highs_hi hs, if_pos hs]
  · rw [highs_lo (by omega), if_neg hs]
set_option maxRecDepth 100000 in
set_option maxHeartbeats 8000000 in
theorem runsR_any (A : Option Addr) (n c : Nat) (l : List Int) (lv : Int) (w : World) (h : Ints .i64 w A n l) :
    Calls Try.prog 24 #[.slice A n c, .int .i64 lv] w (RetRn w (runsF l lv)) := by
  have H := Lib.hid h
  have HL := Lib.hid h.1
  clear h
  by_cases hs : ¬ Smp l
  · have HS : Hid (decide (Smp l) = false) := Lib.hid (decide_eq_false hs)
    have HB : Hid (runsF l lv = ([], 2)) := Lib.hid (by unfold runsF; rw [if_neg hs])
    clear hs
    go_enter Try.func24, Try.ntmps24
    go_wp2_with fail
    refine (samplesR_any A n c l _ H.out).mono ?_
    rw [HS.out]
    rintro e _ ⟨rfl, rfl⟩
    go_wp2
    go_ret2
    exact ⟨_, by rw [HB.out]; rfl, by rw [HB.out]; exact PrL.nil _ _, Ext.refl _⟩
  have hs' := Decidable.not_not.1 hs
  have HS : Hid (decide (Smp l) = true) := Lib.hid (decide_eq_true hs')
  have HB : Hid (runsF l lv = (runsP lv 0 l none, 0)) := Lib.hid (by unfold runsF; rw [if_pos hs'])
  have HZ := Lib.hid (runsR_zero lv l)
  have hn256 : n ≤ 256 := by have := hs'.1; have := HL.out; omega
  clear hs hs'
  go_enter Try.func24, Try.ntmps24
  go_wp2_with fail
  refine (samplesR_any A n c l _ H.out).mono ?_
  rw [HS.out]
  rintro e _ ⟨rfl, rfl⟩
  go_wp2_with fail
  go_loopg [6, 7] n (fun f ov iv wr => ∃ (k : Nat) (done : List (Nat × Nat)), f = n - k ∧ k ≤ n ∧ done.length ≤ k ∧ iv = .int .i64 (k : Int) ∧ Hid (PrL w.heap.size wr ov done) ∧ Hid (runsR lv l 0 = done ++ runsR lv l k) ∧ Hid (Ext w wr))
  case atStart => exact ⟨0, [], rfl, by omega, by simp, rfl, Lib.hid (PrL.nil _ _), Lib.hid rfl, Lib.hid (Ext.refl _)⟩
  case round =>
    obtain ⟨k, done, rfl, hk, hdk, rfl, HP, HR, HX⟩ := hrel
    by_cases hlt : k < n
    · obtain ⟨b, off, x, rfl, hx, _, hc⟩ := (H.out.ext HX.out).get hlt
      have hown := HP.out
      obtain ⟨A1, c1, hso⟩ := own_slice hown
      subst hso
      by_cases hlv : x < lv
      · have HR2 : Hid (runsR lv l 0 = done ++ runsR lv l (k + 1)) := Lib.hid (by rw [HR.out, runsR_low hx hlv])
        clear hx hown
        go_wp2
        go_roundg (n - (k + 1))
        case rel => exact ⟨k + 1, done, rfl, by omega, by omega, by go_num, HP, HR2, HX⟩
        case measure => omega
      · have hge : lv ≤ x := by omega
        have hprev : (0 < k ∧ lv ≤ l.getD (k - 1) 0) ∨ ¬ (0 < k ∧ lv ≤ l.getD (k - 1) 0) := Decidable.em _
        rcases hprev with hpv | hpv
        · have HR2 : Hid (runsR lv l 0 = done ++ runsR lv l (k + 1)) := Lib.hid (by rw [HR.out, runsR_in hx hge hpv])
          obtain ⟨k0, rfl⟩ : ∃ k0, k = k0 + 1 := ⟨k - 1, by omega⟩
          obtain ⟨b', off', y, e, hy, _, cy⟩ := (H.out.ext HX.out).get (j := k0) (by omega)
          injection e with e
          injection e with e1 e2
          subst e1 e2
          have hyl : lv ≤ y := by have := hpv.2; rwa [Nat.add_sub_cancel, getD_at hy] at this
          clear hx hown hy hpv
          go_wp2
          go_roundg (n - (k0 + 1 + 1))
          case rel => exact ⟨k0 + 1 + 1, done, rfl, by omega, by omega, by go_num, HP, HR2, HX⟩
          case measure => omega
        · have HR2 : Hid (runsR lv l 0 = done ++ ((k, k + highs lv (l.drop k)) :: runsR lv l (k + 1))) := Lib.hid (by rw [HR.out, runsR_start hx hge hpv])
          have HPV := Lib.hid hpv
          have HHX := Lib.hid (highs_drop (lv := lv) hx)
          clear hpv hx
          have hcase : k = 0 ∨ ∃ k0 y, k = k0 + 1 ∧ l[k0]? = some y ∧ y < lv := by
            rcases Nat.eq_zero_or_pos k with h0 | h0
            · exact .inl h0
            · obtain ⟨b', off', y, e, hy, _, cy⟩ := (H.out.ext HX.out).get (j := k - 1) (by omega)
              exact .inr ⟨k - 1, y, by omega, hy, by have h2 := HPV.out; rw [getD_at hy] at h2; omega⟩
          clear hown
          rcases hcase with hk0 | ⟨k0, y, hk0, hy, hyl⟩
          · subst hk0
            rw [Nat.add_zero] at hc
            go_wp2_with fail
            go_loopg [8] (n - 0) (fun f2 jv wr2 => ∃ z : Nat, f2 = n - z ∧ 0 ≤ z ∧ z ≤ n ∧ jv = .int .i64 (z : Int) ∧ Hid (0 + highs lv (l.drop (0)) = z + highs lv (l.drop z)) ∧ wr = wr2)
            case atStart => exact ⟨0, rfl, by omega, by omega, by go_num, Lib.hid rfl, rfl⟩
            case round =>
              obtain ⟨z, rfl, hz1, hz2, rfl, HV, rfl⟩ := hrel
              by_cases hzn : z < n
              · obtain ⟨b', off', x', e, hx', _, hc'⟩ := (H.out.ext HX.out).get hzn
                injection e with e
                injection e with e1 e2
                subst e1 e2
                have HH' := Lib.hid (highs_drop (lv := lv) hx')
                clear hx'
                by_cases hlz : lv ≤ x'
                · have HV2 : Hid (0 + highs lv (l.drop (0)) = z + 1 + highs lv (l.drop (z + 1))) := Lib.hid (by rw [HV.out, HH'.out, if_pos hlz]; omega)
                  go_wp2
                  go_roundg (n - (z + 1))
                  case rel => exact ⟨z + 1, rfl, by omega, by omega, by go_num, HV2, rfl⟩
                  case measure => omega
                · have HE : Hid (0 + highs lv (l.drop (0)) = z) := Lib.hid (by rw [HV.out, HH'.out, if_neg hlz]; omega)
                  have hown' : wr.ownsRow w.heap.size 30 2 (.slice A1 done.length c1) done.length (rowV done) := HP.out
                  have hsz := HX.out.size
                  go_wp2_with (at_builtin; refine wpList_app _ elP rfl _ _ rfl w.heap.size (.slice A1 done.length c1) done.length (rowV done) rfl (hown'.alloc _) _ 1 1 [.int .i64 ((0 : Nat) : Int), .int .i64 (z : Int)] rfl rfl (At.new' _ [_, _] _ rfl) (by simp [Value.oneCell']) (by omega) (by unfold maxLen; omega) (by simp; omega) ?_; intro v5 w5 hown5 hgr5 _)
                  go_roundg (n - (0 + 1))
                  case rel =>
                    refine ⟨0 + 1, done ++ [(0, z)], rfl, by omega, by rw [List.length_append]; simp only [List.length_cons, List.length_nil]; omega, by go_num, Lib.hid ?_, Lib.hid (by rw [HR2.out, HE.out]; simp), Lib.hid (HX.out.push hown' hgr5)⟩
                    unfold PrL
                    rw [rowV_snoc, List.length_append]
                    exact hown5
                  case measure => omega
              · have HE : Hid (0 + highs lv (l.drop (0)) = z) := Lib.hid (by rw [HV.out, List.drop_of_length_le (by have := HL.out; omega)]; rfl)
                obtain rfl : z = n := by omega
                have hown' : wr.ownsRow w.heap.size 30 2 (.slice A1 done.length c1) done.length (rowV done) := HP.out
                have hsz := HX.out.size
                go_wp2_with (at_builtin; refine wpList_app _ elP rfl _ _ rfl w.heap.size (.slice A1 done.length c1) done.length (rowV done) rfl (hown'.alloc _) _ 1 1 [.int .i64 ((0 : Nat) : Int), .int .i64 (z : Int)] rfl rfl (At.new' _ [_, _] _ rfl) (by simp [Value.oneCell']) (by omega) (by unfold maxLen; omega) (by simp; omega) ?_; intro v5 w5 hown5 hgr5 _)
                go_roundg (z - (0 + 1))
                case rel =>
                  refine ⟨0 + 1, done ++ [(0, z)], rfl, by omega, by rw [List.length_append]; simp only [List.length_cons, List.length_nil]; omega, by go_num, Lib.hid ?_, Lib.hid (by rw [HR2.out, HE.out]; simp), Lib.hid (HX.out.push hown' hgr5)⟩
                  unfold PrL
                  rw [rowV_snoc, List.length_append]
                  exact hown5
                case measure => omega
          · subst hk0
            obtain ⟨b', off', y', e, hy', _, cy⟩ := (H.out.ext HX.out).get (j := k0) (by omega)
            injection e with e
            injection e with e1 e2
            subst e1 e2
            obtain rfl : y' = y := by rw [hy'] at hy; injection hy
            clear hy hy'
            go_wp2_with fail
            go_loopg [8] (n - (k0 + 1)) (fun f2 jv wr2 => ∃ z : Nat, f2 = n - z ∧ k0 + 1 ≤ z ∧ z ≤ n ∧ jv = .int .i64 (z : Int) ∧ Hid (k0 + 1 + highs lv (l.drop (k0 + 1)) = z + highs lv (l.drop z)) ∧ wr = wr2)
            case atStart => exact ⟨k0 + 1, rfl, by omega, by omega, by go_num, Lib.hid rfl, rfl⟩
            case round =>
              obtain ⟨z, rfl, hz1, hz2, rfl, HV, rfl⟩ := hrel
              by_cases hzn : z < n
              · obtain ⟨b', off', x', e, hx', _, hc'⟩ := (H.out.ext HX.out).get hzn
                injection e with e
                injection e with e1 e2
                subst e1 e2
                have HH' := Lib.hid (highs_drop (lv := lv) hx')
                clear hx'
                by_cases hlz : lv ≤ x'
                · have HV2 : Hid (k0 + 1 + highs lv (l.drop (k0 + 1)) = z + 1 + highs lv (l.drop (z + 1))) := Lib.hid (by rw [HV.out, HH'.out, if_pos hlz]; omega)
                  go_wp2
                  go_roundg (n - (z + 1))
                  case rel => exact ⟨z + 1, rfl, by omega, by omega, by go_num, HV2, rfl⟩
                  case measure => omega
                · have HE : Hid (k0 + 1 + highs lv (l.drop (k0 + 1)) = z) := Lib.hid (by rw [HV.out, HH'.out, if_neg hlz]; omega)
                  have hown' : wr.ownsRow w.heap.size 30 2 (.slice A1 done.length c1) done.length (rowV done) := HP.out
                  have hsz := HX.out.size
                  go_wp2_with (at_builtin; refine wpList_app _ elP rfl _ _ rfl w.heap.size (.slice A1 done.length c1) done.length (rowV done) rfl (hown'.alloc _) _ 1 1 [.int .i64 ((k0 + 1 : Nat) : Int), .int .i64 (z : Int)] rfl rfl (At.new' _ [_, _] _ rfl) (by simp [Value.oneCell']) (by omega) (by unfold maxLen; omega) (by simp; omega) ?_; intro v5 w5 hown5 hgr5 _)
                  go_roundg (n - (k0 + 1 + 1))
                  case rel =>
                    refine ⟨k0 + 1 + 1, done ++ [(k0 + 1, z)], rfl, by omega, by rw [List.length_append]; simp only [List.length_cons, List.length_nil]; omega, by go_num, Lib.hid ?_, Lib.hid (by rw [HR2.out, HE.out]; simp), Lib.hid (HX.out.push hown' hgr5)⟩
                    unfold PrL
                    rw [rowV_snoc, List.length_append]
                    exact hown5
                  case measure => omega
              · have HE : Hid (k0 + 1 + highs lv (l.drop (k0 + 1)) = z) := Lib.hid (by rw [HV.out, List.drop_of_length_le (by have := HL.out; omega)]; rfl)
                obtain rfl : z = n := by omega
                have hown' : wr.ownsRow w.heap.size 30 2 (.slice A1 done.length c1) done.length (rowV done) := HP.out
                have hsz := HX.out.size
                go_wp2_with (at_builtin; refine wpList_app _ elP rfl _ _ rfl w.heap.size (.slice A1 done.length c1) done.length (rowV done) rfl (hown'.alloc _) _ 1 1 [.int .i64 ((k0 + 1 : Nat) : Int), .int .i64 (z : Int)] rfl rfl (At.new' _ [_, _] _ rfl) (by simp [Value.oneCell']) (by omega) (by unfold maxLen; omega) (by simp; omega) ?_; intro v5 w5 hown5 hgr5 _)
                go_roundg (z - (k0 + 1 + 1))
                case rel =>
                  refine ⟨k0 + 1 + 1, done ++ [(k0 + 1, z)], rfl, by omega, by rw [List.length_append]; simp only [List.length_cons, List.length_nil]; omega, by go_num, Lib.hid ?_, Lib.hid (by rw [HR2.out, HE.out]; simp), Lib.hid (HX.out.push hown' hgr5)⟩
                  unfold PrL
                  rw [rowV_snoc, List.length_append]
                  exact hown5
                case measure => omega
    · obtain rfl : k = n := by omega
      have hown := HP.out
      obtain ⟨A1, c1, hso⟩ := own_slice hown
      subst hso
      have HE : Hid (runsP lv 0 l none = done) := Lib.hid (by
        have h1 := HR.out
        have h2 := runsR_end lv l
        rw [HL.out] at h2
        rw [HZ.out, h2, List.append_nil] at h1
        exact h1)
      clear hown
      go_wp2
      go_ret2
      exact ⟨_, by rw [HB.out]; rfl, by rw [HB.out]; simp only; rw [HE.out]; exact HP.out, HX.out⟩
end Go.Proofs.Ytagcgldhhdecjaa
namespace Go.Proofs.Ytagcgldhhdecjaa
open Go.RowKit

theorem EcL.far {base g : Nat} {w w' : World} {v : Value} {es : List Ech} (h : EcL base w v es) (hg : g < base) (hk : Keeps [g] w w') : EcL base w' v es := by
  refine ownsRow_keeps h hk fun k hk' => ?_
  have := (h.lt k hk').1
  simp
  omega
theorem hunN_lev (l : List Int) (d : Int) (k i : Nat) (h : Hun) (hs : Smp l) (hd : 0 ≤ d ∧ d ≤ 1023) (hl : -1000000 ≤ h.level ∧ h.level ≤ 1000000) : -1000000 ≤ (hunN l d k i h).level ∧ (hunN l d k i h).level ≤ 1000000 := by
  induction k generalizing i h with
  | zero => exact hl
  | succ k ih =>
    rw [hunN]
    apply ih
    have hb : ∀ j, 0 ≤ l.getD j 0 ∧ l.getD j 0 ≤ 1023 := fun j => by
      rw [List.getD_eq_getElem?_getD]
      cases hj : l[j]? with
      | none => simp
      | some x => have := hs.2 x (List.mem_of_getElem? hj); simpa using this
    unfold hunS
    have := hb h.valley
    split
    · split
      · exact hl
      · split
        · simp only; omega
        · exact hl
    · split
      · exact hl
      · split
        · exact hl
        · exact hl
set_option maxRecDepth 100000 in
set_option maxHeartbeats 2000000 in
theorem detR_any (d : Det) (w : World) :
    Calls Try.prog 28 #[.agg #[.int .i64 d.level, .int .i64 d.drop, .int .i64 d.step, .int .i64 d.delay]] w (fun e w' => e = .returned (.bool (decide (DetOk d))) ∧ Ext w w') := by
  obtain ⟨lv, dr, st, de⟩ := d
  simp only
  go_enter Try.func28, Try.ntmps28
  go_wp2
  all_goals
    go_ret
    refine ⟨?_, (Ext.refl w).alloc _⟩
    first
    | (have q : decide (DetOk ⟨lv, dr, st, de⟩) = false := decide_eq_false (by unfold DetOk; simp only; omega)
       rw [q]; rfl)
    | (have q : decide (DetOk ⟨lv, dr, st, de⟩) = decide (de ≤ 1048576) := by rw [decide_eq_decide]; unfold DetOk; simp only; omega
       rw [q]; rfl)

set_option maxRecDepth 100000 in
set_option maxHeartbeats 8000000 in
theorem run_any (A : Option Addr) (n c : Nat) (l : List Int) (a b : Nat) (lv dr : Int) (w : World) (h : Ints .i64 w A n l) (hs : Smp l) (hab : a < b) (hbn : b ≤ n) (hlv : -1000000 ≤ lv ∧ lv ≤ 1000000) (hdr : 0 ≤ dr ∧ dr ≤ 1023) :
    Calls Try.prog 65 #[.slice A n c, .int .i64 (a : Int), .int .i64 (b : Int), .int .i64 lv, .int .i64 dr] w (fun e w' => ∃ v, e = .returned v ∧ EcL w.heap.size w' v (hunR l dr lv (a, b)) ∧ Ext w w') := by
  have hX0 := (Ext.refl w).alloc (.cells #[.int .i64 (a : Int), .int .i64 0, .int .i64 (a : Int), .int .i64 lv, .int .i64 0] 42)
  have hB0 := Blk.new w 42 #[.int .i64 (a : Int), .int .i64 0, .int .i64 (a : Int), .int .i64 lv, .int .i64 0]
  have hge : w.heap.size ≤ w.heap.size := Nat.le_refl _
  have H := Lib.hid h
  have HL := Lib.hid h.1
  have HSM := Lib.hid hs
  have hn256 : n ≤ 256 := by have := hs.1; have := HL.out; omega
  obtain ⟨bk, off, x0, hA, _, _, hc0⟩ := h.get (j := a) (by omega)
  subst hA
  have hbw := World.block_lt_of_cell? _ _ hc0
  simp only at hbw
  clear h hs hc0
  go_enter Try.func65, Try.ntmps65
  go_upto_region 3 with (fail)
  generalize w.alloc (.cells #[.int .i64 (a : Int), .int .i64 0, .int .i64 (a : Int), .int .i64 lv, .int .i64 0] 42) = w1 at hX0 hB0 ⊢
  obtain ⟨g, hg⟩ : ∃ g, w.heap.size = g := ⟨_, rfl⟩
  rw [hg] at hge hB0 hbw ⊢
  have HX := Lib.hid hX0
  have HB := Lib.hid hB0
  have HG := Lib.hid hg
  clear hX0 hB0 hg
  go_wp2_with fail
  have h0g : w.heap.size = g := HG.out
  go_loopg [11, 13, 14, 15] (b - (a + 1)) (fun f ov fv vv iv wr => ∃ (z : Nat) (te tp : Int), f = b - z ∧ a + 1 ≤ z ∧ z ≤ b ∧ iv = .int .i64 (z : Int) ∧ fv = .bool (hunN l dr (z - (a + 1)) (a + 1) (hun0 a lv [])).fall ∧ vv = .int .i64 ((hunN l dr (z - (a + 1)) (a + 1) (hun0 a lv [])).valley : Int) ∧ Hid (EcL (g + 1) wr ov (hunN l dr (z - (a + 1)) (a + 1) (hun0 a lv [])).out) ∧ Hid (Blk wr g 42 #[.int .i64 ((hunN l dr (z - (a + 1)) (a + 1) (hun0 a lv [])).frm : Int), .int .i64 te, .int .i64 ((hunN l dr (z - (a + 1)) (a + 1) (hun0 a lv [])).peak : Int), .int .i64 (hunN l dr (z - (a + 1)) (a + 1) (hun0 a lv [])).level, .int .i64 tp]) ∧ Hid (Ext w wr))
  case atStart => exact ⟨a + 1, 0, 0, rfl, by omega, by omega, by go_num, by rw [Nat.sub_self]; rfl, by rw [Nat.sub_self]; rfl, by rw [Nat.sub_self]; exact Lib.hid (EcL.nil _ _), by rw [Nat.sub_self]; exact HB, HX⟩
  case round =>
    clear HX HB
    obtain ⟨z, te, tp, rfl, hz1, hz2, rfl, rfl, rfl, HE, HB, HX⟩ := hrel
    have hok := (HunOk.start l a lv 0 []).steps dr (z - (a + 1))
    have hlen := hunN_out l dr (z - (a + 1)) (a + 1) (hun0 a lv [])
    have hsn := hunN_snoc l dr (z - (a + 1)) (a + 1) (hun0 a lv [])
    rw [show z - (a + 1) + 1 = z + 1 - (a + 1) by omega, show a + 1 + (z - (a + 1)) = z by omega] at hsn
    rw [show a + 1 + (z - (a + 1)) = z by omega] at hok
    change HunOk l a z (hunN l dr (z - (a + 1)) (a + 1) (hun0 a lv [])) at hok
    have h0 : (hun0 a lv []).out.length = 0 := rfl
    rw [h0] at hlen
    have hlev := hunN_lev l dr (z - (a + 1)) (a + 1) (hun0 a lv []) HSM.out hdr hlv
    generalize hhq : hunN l dr (z - (a + 1)) (a + 1) (hun0 a lv []) = hq at HE HB hok hlen hsn hlev ⊢
    obtain ⟨fm, pk, le, fa, vl, ou⟩ := hq
    have HSN := Lib.hid hsn
    have HHQ := Lib.hid hhq
    clear hsn hhq h0
    simp only at hlen HE HB hlev ⊢
    obtain ⟨_, ⟨_, hpk⟩, hva⟩ := hok
    simp only at hpk hva
    obtain ⟨b1, o1, y, e, hy, _, cy⟩ := (H.out.ext HX.out).get (j := pk) (by omega)
    injection e with e
    injection e with e1 e2
    subst e1 e2
    have HY := Lib.hid (getD_at hy)
    obtain ⟨by1, by2⟩ := HSM.out.2 y (List.mem_of_getElem? hy)
    have p0 := HB.out.cell 0
    have p1 := HB.out.cell 1
    have p2 := HB.out.cell 2
    have p3 := HB.out.cell 3
    have p4 := HB.out.cell 4
    have y0 := HB.out.free 0
    have y1 := HB.out.free 1
    have y2 := HB.out.free 2
    have y3 := HB.out.free 3
    have y4 := HB.out.free 4
    simp only [List.getElem?_toArray, List.getElem?_cons_zero, List.getElem?_cons_succ] at p0 p1 p2 p3 p4
    have hsz := HX.out.size
    have hgl := HB.out.lt
    clear hy
    by_cases hzb : z < b
    · obtain ⟨b1, o1, x, e, hx, _, cx⟩ := (H.out.ext HX.out).get (j := z) (by omega)
      injection e with e
      injection e with e1 e2
      subst e1 e2
      have HX' := Lib.hid (getD_at hx)
      obtain ⟨bx1, bx2⟩ := HSM.out.2 x (List.mem_of_getElem? hx)
      clear hx
      by_cases hfa : fa = false
      · subst hfa
        have qw : IntKind.i64.wrap (y - x) = y - x := IntWalk.i64_in _ (by omega)
        by_cases hxy : y < x
        · have q1 : decide (y < x) = true := decide_eq_true hxy
          have HS : Hid (hunN l dr (z + 1 - (a + 1)) (a + 1) (hun0 a lv []) = ⟨fm, z, le, false, vl, ou⟩) := Lib.hid (by rw [HSN.out]; unfold hunS; simp only [Bool.false_eq_true, if_false, HX'.out, HY.out]; rw [if_pos hxy])
          clear hxy p0 p1 p3 p4 y0 y1 y3 y4
          go_wp2_with fail
          go_region
          go_wp2
          go_roundg (b - (z + 1))
          case rel =>
            refine ⟨z + 1, te, tp, rfl, by omega, by omega, by go_num, ?_, ?_, ?_, ?_, ?_⟩
            · rw [HS.out]
            · rw [HS.out]
            · rw [HS.out]; exact Lib.hid ((HE.out.far (by omega) (Keeps.refl [g] _ |>.setCell (.inl (by simp)) _)).ext (Ext.refl _).drew)
            · rw [HS.out]; exact Lib.hid (by simpa using (HB.out.set 2 (.int .i64 (z : Int))).drew)
            · exact Lib.hid ((HX.out.setCell (show w.heap.size ≤ g by omega) _).drew)
          case measure => omega
        · have q1 : decide (y < x) = false := decide_eq_false hxy
          by_cases hdx : dr ≤ y - x
          · have q3 : decide (dr ≤ y - x) = true := decide_eq_true hdx
            have HS : Hid (hunN l dr (z + 1 - (a + 1)) (a + 1) (hun0 a lv []) = ⟨fm, pk, le, true, z, ou⟩) := Lib.hid (by rw [HSN.out]; unfold hunS; simp only [Bool.false_eq_true, if_false, HX'.out, HY.out]; rw [if_neg hxy, if_pos hdx])
            clear hxy hdx p0 p1 p3 p4 y0 y1 y2 y3 y4
            go_wp2_with fail
            go_region
            go_wp2_with fail
            go_region
            go_wp2
            go_roundg (b - (z + 1))
            case rel =>
              refine ⟨z + 1, te, tp, rfl, by omega, by omega, by go_num, ?_, ?_, ?_, ?_, ?_⟩
              · rw [HS.out]
              · rw [HS.out]
              · rw [HS.out]; exact Lib.hid (HE.out.ext (Ext.refl wr).drew.drew)
              · rw [HS.out]; exact Lib.hid (HB.out.drew.drew)
              · exact Lib.hid (HX.out.drew.drew)
            case measure => omega
          · have q3 : decide (dr ≤ y - x) = false := decide_eq_false hdx
            have HS : Hid (hunN l dr (z + 1 - (a + 1)) (a + 1) (hun0 a lv []) = ⟨fm, pk, le, false, vl, ou⟩) := Lib.hid (by rw [HSN.out]; unfold hunS; simp only [Bool.false_eq_true, if_false, HX'.out, HY.out]; rw [if_neg hxy, if_neg hdx])
            clear hxy hdx p0 p1 p3 p4 y0 y1 y2 y3 y4
            go_wp2_with fail
            go_region
            go_wp2_with fail
            go_region
            go_wp2_with fail
            go_region
            go_wp2_with fail
            go_region
            go_wp2
            go_roundg (b - (z + 1))
            case rel =>
              refine ⟨z + 1, te, tp, rfl, by omega, by omega, by go_num, ?_, ?_, ?_, ?_, ?_⟩
              · rw [HS.out]
              · rw [HS.out]
              · rw [HS.out]; exact Lib.hid (HE.out.ext (Ext.refl wr).drew.drew.drew.drew)
              · rw [HS.out]; exact Lib.hid (HB.out.drew.drew.drew.drew)
              · exact Lib.hid (HX.out.drew.drew.drew.drew)
            case measure => omega
      · have hfa : fa = true := by simpa using hfa
        subst hfa
        have hva := hva rfl
        obtain ⟨b1, o1, u, e, hu, _, cu⟩ := (H.out.ext HX.out).get (j := vl) (by omega)
        injection e with e
        injection e with e1 e2
        subst e1 e2
        have HU := Lib.hid (getD_at hu)
        obtain ⟨bu1, bu2⟩ := HSM.out.2 u (List.mem_of_getElem? hu)
        clear hu
        have qw : IntKind.i64.wrap (x - u) = x - u := IntWalk.i64_in _ (by omega)
        by_cases hxu : x < u
        · have q1 : decide (x < u) = true := decide_eq_true hxu
          have HS : Hid (hunN l dr (z + 1 - (a + 1)) (a + 1) (hun0 a lv []) = ⟨fm, pk, le, true, z, ou⟩) := Lib.hid (by rw [HSN.out]; unfold hunS; simp only [if_true, HX'.out, HU.out]; rw [if_pos hxu])
          clear hxu p0 p1 p3 p4 y0 y1 y2 y3 y4
          go_wp2_with fail
          go_region
          go_wp2_with fail
          go_region
          go_wp2_with fail
          go_region
          go_wp2
          go_roundg (b - (z + 1))
          case rel =>
            refine ⟨z + 1, te, tp, rfl, by omega, by omega, by go_num, ?_, ?_, ?_, ?_, ?_⟩
            · rw [HS.out]
            · rw [HS.out]
            · rw [HS.out]; exact Lib.hid (HE.out.ext (Ext.refl wr).drew.drew.drew)
            · rw [HS.out]; exact Lib.hid (HB.out.drew.drew.drew)
            · exact Lib.hid (HX.out.drew.drew.drew)
          case measure => omega
        · have q1 : decide (x < u) = false := decide_eq_false hxu
          by_cases hdx : dr ≤ x - u
          · have q3 : decide (dr ≤ x - u) = true := decide_eq_true hdx
            have HS : Hid (hunN l dr (z + 1 - (a + 1)) (a + 1) (hun0 a lv []) = ⟨vl, z, u + dr, false, vl, ou ++ [⟨fm, vl, pk, le, y⟩]⟩) := Lib.hid (by rw [HSN.out]; unfold hunS; simp only [if_true, HX'.out, HU.out]; rw [if_neg hxu, if_pos hdx]; unfold Hun.close; simp only [HY.out])
            clear hxu hdx
            go_wp2_with fail
            go_region
            go_wp2_with fail
            go_region
            go_wp2_with fail
            go_region
            go_wp2_with fail
            go_region
            go_wp2_with fail
            go_region
            go_upto_region 15 with (fail)
            have cu0 : w.cell? ⟨bk, off + vl, none⟩ = some (.int .i64 u) := by
              obtain ⟨b3, o3, u3, e, hu3, _, cu3⟩ := H.out.get (j := vl) (by omega)
              injection e with e
              injection e with e1 e2
              subst e1 e2
              rw [cu3, ← getD_at hu3, HU.out]
            have qw2 : IntKind.i64.wrap (u + dr) = u + dr := IntWalk.i64_in _ (by omega)
            have hk4 : Keeps [g] wr ((wr.setCell ⟨g, 1, none⟩ (.int .i64 (vl : Int))).setCell ⟨g, 4, none⟩ (.int .i64 y)).drew.drew.drew.drew.drew := (((Keeps.refl [g] wr).setCell (.inl (by simp)) _).setCell (.inl (by simp)) _).drew.drew.drew.drew.drew
            have hB4 : Blk ((wr.setCell ⟨g, 1, none⟩ (.int .i64 (vl : Int))).setCell ⟨g, 4, none⟩ (.int .i64 y)).drew.drew.drew.drew.drew g 42 #[.int .i64 (fm : Int), .int .i64 (vl : Int), .int .i64 (pk : Int), .int .i64 le, .int .i64 y] := by simpa using ((HB.out.set 1 (.int .i64 (vl : Int))).set 4 (.int .i64 y)).drew.drew.drew.drew.drew
            have hE4 := HE.out.far (by omega) hk4
            have hX4 : Ext w ((wr.setCell ⟨g, 1, none⟩ (.int .i64 (vl : Int))).setCell ⟨g, 4, none⟩ (.int .i64 y)).drew.drew.drew.drew.drew := ((HX.out.setCell (show w.heap.size ≤ g by omega) _).setCell (show w.heap.size ≤ g by omega) _).drew.drew.drew.drew.drew
            generalize ((wr.setCell ⟨g, 1, none⟩ (.int .i64 (vl : Int))).setCell ⟨g, 4, none⟩ (.int .i64 y)).drew.drew.drew.drew.drew = w2 at hk4 hB4 hE4 hX4 ⊢
            clear hk4 cy cx cu p0 p1 p2 p3 p4 y0 y1 y2 y3 y4
            obtain ⟨A1, c1, hso⟩ := own_slice hE4
            subst hso
            have k0 := hB4.cell 0
            have k1 := hB4.cell 1
            have k2 := hB4.cell 2
            have k3 := hB4.cell 3
            have k4 := hB4.cell 4
            simp only [List.getElem?_toArray, List.getElem?_cons_zero, List.getElem?_cons_succ] at k0 k1 k2 k3 k4
            have hown' : w2.ownsRow (g + 1) 42 5 (.slice A1 ou.length c1) ou.length (echV ou) := hE4
            have hrow : ∀ k, (Value.slice A1 ou.length c1).ownBlock = some k → g + 1 ≤ k := fun k hk => (hown'.lt k hk).1
            have hlt2 := hB4.lt
            have HBX := Lib.hid hB4
            have HXX := Lib.hid hX4
            have HRW := Lib.hid hrow
            clear hB4 hE4 hX4 hrow
            go_wp2_with (at_builtin; refine wpList_app _ elE rfl _ _ rfl (g + 1) (.slice A1 ou.length c1) ou.length (echV ou) rfl (hown'.alloc _) _ 1 1 [.int .i64 (fm : Int), .int .i64 (vl : Int), .int .i64 (pk : Int), .int .i64 le, .int .i64 y] rfl rfl (At.new' _ [_, _, _, _, _] _ rfl) (by simp [Value.oneCell']) (by omega) (by unfold maxLen; omega) (by simp; omega) ?_; intro v5 w5 hown5 hgr5 _; have HX5 := Lib.hid ((HXX.out.alloc _).grown hgr5 (fun k hk => by have := HRW.out k hk; omega)); have HB5 := Lib.hid ((HBX.out.alloc _).grown hgr5 (fun e => by have := HRW.out g e.symm; omega)); clear k0 k1 k2 k3 k4; have k0 := HB5.out.cell 0; have k1 := HB5.out.cell 1; have k2 := HB5.out.cell 2; have k3 := HB5.out.cell 3; have k4 := HB5.out.cell 4; simp only [List.getElem?_toArray, List.getElem?_cons_zero, List.getElem?_cons_succ] at k0 k1 k2 k3 k4; have z0 := HB5.out.free 0; have z1 := HB5.out.free 1; have z2 := HB5.out.free 2; have z3 := HB5.out.free 3; have z4 := HB5.out.free 4; have cu5 := HX5.out.cell cu0)
            go_roundg (b - (z + 1))
            case rel =>
              refine ⟨z + 1, 0, 0, rfl, by omega, by omega, by go_num, ?_, ?_, ?_, ?_, ?_⟩
              · rw [HS.out]
              · rw [HS.out]
              · rw [HS.out]
                refine Lib.hid (EcL.far (g := g) (base := g + 1) (w := w5) ?_ (by omega) ((((((Keeps.refl [g] w5).setCell (.inl (by simp)) _).setCell (.inl (by simp)) _).setCell (.inl (by simp)) _).setCell (.inl (by simp)) _).setCell (.inl (by simp)) _))
                unfold EcL
                rw [echV_snoc, List.length_append]
                exact hown5
              · rw [HS.out]; exact Lib.hid (by simpa using (((((HB5.out.set 0 (.int .i64 (vl : Int))).set 1 (.int .i64 0)).set 2 (.int .i64 (z : Int))).set 3 (.int .i64 (u + dr))).set 4 (.int .i64 0)))
              · exact Lib.hid (((((HX5.out.setCell (show w.heap.size ≤ g by omega) _).setCell (show w.heap.size ≤ g by omega) _).setCell (show w.heap.size ≤ g by omega) _).setCell (show w.heap.size ≤ g by omega) _).setCell (show w.heap.size ≤ g by omega) _)
            case measure => omega
          · have q3 : decide (dr ≤ x - u) = false := decide_eq_false hdx
            have HS : Hid (hunN l dr (z + 1 - (a + 1)) (a + 1) (hun0 a lv []) = ⟨fm, pk, le, true, vl, ou⟩) := Lib.hid (by rw [HSN.out]; unfold hunS; simp only [if_true, HX'.out, HU.out]; rw [if_neg hxu, if_neg hdx])
            clear hxu hdx p0 p1 p3 p4 y0 y1 y2 y3 y4
            go_wp2_with fail
            go_region
            go_wp2_with fail
            go_region
            go_wp2_with fail
            go_region
            go_wp2_with fail
            go_region
            go_wp2
            go_roundg (b - (z + 1))
            case rel =>
              refine ⟨z + 1, te, tp, rfl, by omega, by omega, by go_num, ?_, ?_, ?_, ?_, ?_⟩
              · rw [HS.out]
              · rw [HS.out]
              · rw [HS.out]; exact Lib.hid (HE.out.ext (Ext.refl wr).drew.drew.drew.drew)
              · rw [HS.out]; exact Lib.hid (HB.out.drew.drew.drew.drew)
              · exact Lib.hid (HX.out.drew.drew.drew.drew)
            case measure => omega
    · obtain rfl : z = b := by omega
      clear y0 y2 y3
      go_wp2_with fail
      go_region
      go_upto_region 19 with (fail)
      have hk4 : Keeps [g] wr ((wr.setCell ⟨g, 1, none⟩ (.int .i64 (z : Int))).setCell ⟨g, 4, none⟩ (.int .i64 y)).drew := (((Keeps.refl [g] wr).setCell (.inl (by simp)) _).setCell (.inl (by simp)) _).drew
      have hB4 : Blk ((wr.setCell ⟨g, 1, none⟩ (.int .i64 (z : Int))).setCell ⟨g, 4, none⟩ (.int .i64 y)).drew g 42 #[.int .i64 (fm : Int), .int .i64 (z : Int), .int .i64 (pk : Int), .int .i64 le, .int .i64 y] := by simpa using ((HB.out.set 1 (.int .i64 (z : Int))).set 4 (.int .i64 y)).drew
      have hE4 := HE.out.far (by omega) hk4
      have hX4 : Ext w ((wr.setCell ⟨g, 1, none⟩ (.int .i64 (z : Int))).setCell ⟨g, 4, none⟩ (.int .i64 y)).drew := ((HX.out.setCell (show w.heap.size ≤ g by omega) _).setCell (show w.heap.size ≤ g by omega) _).drew
      generalize ((wr.setCell ⟨g, 1, none⟩ (.int .i64 (z : Int))).setCell ⟨g, 4, none⟩ (.int .i64 y)).drew = w2 at hk4 hB4 hE4 hX4 ⊢
      clear hk4 cy p0 p1 p2 p3 p4 y1 y4
      obtain ⟨A1, c1, hso⟩ := own_slice hE4
      subst hso
      have k0 := hB4.cell 0
      have k1 := hB4.cell 1
      have k2 := hB4.cell 2
      have k3 := hB4.cell 3
      have k4 := hB4.cell 4
      simp only [List.getElem?_toArray, List.getElem?_cons_zero, List.getElem?_cons_succ] at k0 k1 k2 k3 k4
      have hown' : w2.ownsRow (g + 1) 42 5 (.slice A1 ou.length c1) ou.length (echV ou) := hE4
      have hrow : ∀ k, (Value.slice A1 ou.length c1).ownBlock = some k → g + 1 ≤ k := fun k hk => (hown'.lt k hk).1
      have hlt2 := hB4.lt
      have HBX := Lib.hid hB4
      have HXX := Lib.hid hX4
      have HRW := Lib.hid hrow
      clear hB4 hE4 hX4 hrow
      go_wp2_with (at_builtin; refine wpList_app _ elE rfl _ _ rfl (g + 1) (.slice A1 ou.length c1) ou.length (echV ou) rfl (hown'.alloc _) _ 1 1 [.int .i64 (fm : Int), .int .i64 (z : Int), .int .i64 (pk : Int), .int .i64 le, .int .i64 y] rfl rfl (At.new' _ [_, _, _, _, _] _ rfl) (by simp [Value.oneCell']) (by omega) (by unfold maxLen; omega) (by simp; omega) ?_; intro v5 w5 hown5 hgr5 _; have HX5 := Lib.hid ((HXX.out.alloc _).grown hgr5 (fun k hk => by have := HRW.out k hk; omega)); have HOW5 := Lib.hid hown5; clear hown5 hgr5)
      go_ret
      refine ⟨v5, rfl, ?_, HX5.out⟩
      have h1 : EcL (g + 1) w5 v5 (ou ++ [⟨fm, z, pk, le, y⟩]) := by
        unfold EcL
        rw [echV_snoc, List.length_append]
        exact HOW5.out
      have h2 : hunR l dr lv (a, z) = ou ++ [⟨fm, z, pk, le, y⟩] := by
        unfold hunR
        simp only
        rw [HHQ.out]
        unfold Hun.close
        simp only [HY.out]
      rw [h2, h0g]
      exact World.ownsRow.mono' h1 (by omega)
end Go.Proofs.Ytagcgldhhdecjaa
namespace Go.Proofs.Ytagcgldhhdecjaa
open Go.RowKit

theorem echV_append (xs ys : List Ech) : echV (xs ++ ys) = echV xs ++ echV ys := by simp [echV]
theorem echV_one (es : List Ech) : ∀ u ∈ echV es, u.oneCell' = true := by
  intro u hu
  unfold echV at hu
  obtain ⟨e, _, he⟩ := List.mem_flatMap.1 hu
  simp [Ech.cells] at he
  rcases he with rfl | rfl | rfl | rfl | rfl <;> rfl

set_option maxRecDepth 100000 in
set_option maxHeartbeats 2000000 in
theorem echR_r13 (A : Option Addr) (n c gr nr cr k g3 base mv : Nat) (l : List Int) (lv dr : Int) (r1 r2 : Nat) (ms : List Ech) (N : Nat) (w : World) (p0 : w.cell? ⟨gr, k * 2, none⟩ = some (.int .i64 (r1 : Int))) (p1 : w.cell? ⟨gr, k * 2 + 1, none⟩ = some (.int .i64 (r2 : Int))) (d0 : w.cell? ⟨g3, 0, none⟩ = some (.int .i64 lv)) (d1 : w.cell? ⟨g3, 1, none⟩ = some (.int .i64 dr)) (hI : Ints .i64 w A n l) (hs : Smp l) (h1 : r1 < r2) (h2 : r2 ≤ n) (hmv : mv ≤ 1023) (hlv : 1 ≤ lv ∧ lv ≤ 1023) (hdr : 1 ≤ dr ∧ dr ≤ 1023) (hm : hunR l dr ((mv : Int) + lv) (r1, r2) = ms) (hN : ms.length = N) (hbs : base ≤ w.heap.size) (hk : k < nr) (hnr : nr ≤ 1000) (a : Act) (Q : Exit → Act → World → Prop) (hsize : 60 ≤ a.tmps.size)
    (s0 : a.tmps[0]? = some (.slice A n c))
    (s3 : a.tmps[3]? = some (.pointer (some ⟨g3, 0, none⟩)))
    (s6 : a.tmps[6]? = some (.int .i64 (mv : Int)))
    (s9 : a.tmps[9]? = some (.slice (some ⟨gr, 0, none⟩) nr cr))
    (s11 : a.tmps[11]? = some (.int .i64 (k : Int)))
    (hend : ∀ (xv0 xv1 xv2 xv3 xv4 xv5 xv6 xv7 xv8 xv9 xv10 xv11 xv12 xv13 xv14 xv15 xv16 xv17 xv18 : Value) (W : World), (xv0 = .slice A n c) → (xv1 = .slice (some ⟨gr, 0, none⟩) nr cr) → (xv2 = .int .i64 (k : Int)) → (xv3 = .pointer (some ⟨gr, k * 2, none⟩)) → (xv4 = .pointer (some ⟨gr, k * 2, none⟩)) → (xv5 = .int .i64 (r1 : Int)) → (xv6 = .slice (some ⟨gr, 0, none⟩) nr cr) → (xv7 = .int .i64 (k : Int)) → (xv8 = .pointer (some ⟨gr, k * 2, none⟩)) → (xv9 = .pointer (some ⟨gr, k * 2 + 1, none⟩)) → (xv10 = .int .i64 (r2 : Int)) → (xv11 = .int .i64 (mv : Int)) → (xv12 = .pointer (some ⟨g3, 0, none⟩)) → (xv13 = .int .i64 (lv)) → (xv14 = .int .i64 ((mv : Int) + lv)) → (xv15 = .pointer (some ⟨g3, 1, none⟩)) → (xv16 = .int .i64 (dr)) → (∃ A' c', xv17 = .slice A' N c' ∧ EcL base W xv17 ms) → (∃ A' c', xv18 = .slice A' N c' ∧ EcL base W xv18 ms) → Ext w W → wpList Try.prog (rops Try.f26 13).toArray Q ((rops Try.f26 13).drop 19) (((((((((((((((((((a.put (some 42) xv0).put (some 43) xv1).put (some 44) xv2).put (some 45) xv3).put (some 46) xv4).put (some 47) xv5).put (some 48) xv6).put (some 49) xv7).put (some 50) xv8).put (some 51) xv9).put (some 52) xv10).put (some 53) xv11).put (some 54) xv12).put (some 55) xv13).put (some 56) xv14).put (some 57) xv15).put (some 58) xv16).put (some 59) xv17).put (some 12) xv18) W) :
    (Code.region 13 (rops Try.f26 13).toArray true).wp Try.prog Q a w := by
  have hmono : ∀ (W W' : World) (j : Nat) (u : Value), Ext W W' → (fun (i : Nat) (v : Value) (W : World) => match i with
    | 0 => v = .slice A n c
    | 1 => v = .slice (some ⟨gr, 0, none⟩) nr cr
    | 2 => v = .int .i64 (k : Int)
    | 3 => v = .pointer (some ⟨gr, k * 2, none⟩)
    | 4 => v = .pointer (some ⟨gr, k * 2, none⟩)
    | 5 => v = .int .i64 (r1 : Int)
    | 6 => v = .slice (some ⟨gr, 0, none⟩) nr cr
    | 7 => v = .int .i64 (k : Int)
    | 8 => v = .pointer (some ⟨gr, k * 2, none⟩)
    | 9 => v = .pointer (some ⟨gr, k * 2 + 1, none⟩)
    | 10 => v = .int .i64 (r2 : Int)
    | 11 => v = .int .i64 (mv : Int)
    | 12 => v = .pointer (some ⟨g3, 0, none⟩)
    | 13 => v = .int .i64 (lv)
    | 14 => v = .int .i64 ((mv : Int) + lv)
    | 15 => v = .pointer (some ⟨g3, 1, none⟩)
    | 16 => v = .int .i64 (dr)
    | 17 => ∃ A' c', v = .slice A' N c' ∧ EcL base W v ms
    | 18 => ∃ A' c', v = .slice A' N c' ∧ EcL base W v ms
    | _ => True) j u W → (fun (i : Nat) (v : Value) (W : World) => match i with
    | 0 => v = .slice A n c
    | 1 => v = .slice (some ⟨gr, 0, none⟩) nr cr
    | 2 => v = .int .i64 (k : Int)
    | 3 => v = .pointer (some ⟨gr, k * 2, none⟩)
    | 4 => v = .pointer (some ⟨gr, k * 2, none⟩)
    | 5 => v = .int .i64 (r1 : Int)
    | 6 => v = .slice (some ⟨gr, 0, none⟩) nr cr
    | 7 => v = .int .i64 (k : Int)
    | 8 => v = .pointer (some ⟨gr, k * 2, none⟩)
    | 9 => v = .pointer (some ⟨gr, k * 2 + 1, none⟩)
    | 10 => v = .int .i64 (r2 : Int)
    | 11 => v = .int .i64 (mv : Int)
    | 12 => v = .pointer (some ⟨g3, 0, none⟩)
    | 13 => v = .int .i64 (lv)
    | 14 => v = .int .i64 ((mv : Int) + lv)
    | 15 => v = .pointer (some ⟨g3, 1, none⟩)
    | 16 => v = .int .i64 (dr)
    | 17 => ∃ A' c', v = .slice A' N c' ∧ EcL base W v ms
    | 18 => ∃ A' c', v = .slice A' N c' ∧ EcL base W v ms
    | _ => True) j u W' := by
    intro W W' j u hX h
    match j, h with
    | 0, h => exact h
    | 1, h => exact h
    | 2, h => exact h
    | 3, h => exact h
    | 4, h => exact h
    | 5, h => exact h
    | 6, h => exact h
    | 7, h => exact h
    | 8, h => exact h
    | 9, h => exact h
    | 10, h => exact h
    | 11, h => exact h
    | 12, h => exact h
    | 13, h => exact h
    | 14, h => exact h
    | 15, h => exact h
    | 16, h => exact h
    | 17, h => obtain ⟨A', c', h1', h2'⟩ := h; exact ⟨A', c', h1', h2'.ext hX⟩
    | 18, h => obtain ⟨A', c', h1', h2'⟩ := h; exact ⟨A', c', h1', h2'.ext hX⟩
    | _ + 19, h => exact h
  have hsz : ∀ d, some d ∈ ([some 42, some 43, some 44, some 45, some 46, some 47, some 48, some 49, some 50, some 51, some 52, some 53, some 54, some 55, some 56, some 57, some 58, some 59, some 12] : List (Option Tmp)) → d < a.tmps.size := slots_lt (by decide) hsize
  refine wp_region_j 19 [some 42, some 43, some 44, some 45, some 46, some 47, some 48, some 49, some 50, some 51, some 52, some 53, some 54, some 55, some 56, some 57, some 58, some 59, some 12] [[], [], [], [1, 2], [3], [4], [], [], [6, 7], [8], [9], [], [], [12], [11, 13], [], [15], [0, 5, 10, 14, 16], [17]] [[], [], [], [], [], [], [], [], [], [], [], [], [], [], [], [], [], [], []] (fun (i : Nat) (v : Value) (W : World) => match i with
    | 0 => v = .slice A n c
    | 1 => v = .slice (some ⟨gr, 0, none⟩) nr cr
    | 2 => v = .int .i64 (k : Int)
    | 3 => v = .pointer (some ⟨gr, k * 2, none⟩)
    | 4 => v = .pointer (some ⟨gr, k * 2, none⟩)
    | 5 => v = .int .i64 (r1 : Int)
    | 6 => v = .slice (some ⟨gr, 0, none⟩) nr cr
    | 7 => v = .int .i64 (k : Int)
    | 8 => v = .pointer (some ⟨gr, k * 2, none⟩)
    | 9 => v = .pointer (some ⟨gr, k * 2 + 1, none⟩)
    | 10 => v = .int .i64 (r2 : Int)
    | 11 => v = .int .i64 (mv : Int)
    | 12 => v = .pointer (some ⟨g3, 0, none⟩)
    | 13 => v = .int .i64 (lv)
    | 14 => v = .int .i64 ((mv : Int) + lv)
    | 15 => v = .pointer (some ⟨g3, 1, none⟩)
    | 16 => v = .int .i64 (dr)
    | 17 => ∃ A' c', v = .slice A' N c' ∧ EcL base W v ms
    | 18 => ∃ A' c', v = .slice A' N c' ∧ EcL base W v ms
    | _ => True) (fun _ W => Ext w W) (by kernel_rfl) (by kernel_rfl) hsz (fun _ _ _ _ h => h) ((Ext.refl w).drew) ?_ ?_
  · clear hend
    simp only [rops, Try.f26, regOf, Option.bind_some, Nat.reduceBEq, if_true, if_false, Bool.false_eq_true, Option.getD_some]
    simp only [List.take_succ_cons, List.take_zero]
    refine ⟨?_, ?_, ?_, ?_, ?_, ?_, ?_, ?_, ?_, ?_, ?_, ?_, ?_, ?_, ?_, ?_, ?_, ?_, ?_, trivial⟩
    · intro done us W hJ hdep haft hnot b hb hb' K hK Q'
      have e0 := (hb' 0 (by simp)).trans s0
      clear hb hb'
      go_simp
      exact hK _ _ rfl (fun _ _ _ h => h) hJ
    · intro done us W hJ hdep haft hnot b hb hb' K hK Q'
      have e9 := (hb' 9 (by simp)).trans s9
      clear hb hb'
      go_simp
      exact hK _ _ rfl (fun _ _ _ h => h) hJ
    · intro done us W hJ hdep haft hnot b hb hb' K hK Q'
      have e11 := (hb' 11 (by simp)).trans s11
      clear hb hb'
      go_simp
      exact hK _ _ rfl (fun _ _ _ h => h) hJ
    · intro done us W hJ hdep haft hnot b hb hb' K hK Q'
      simp only [List.getD_cons_succ, List.getD_cons_zero, List.mem_cons, List.not_mem_nil, or_false, forall_eq_or_imp, forall_eq] at hdep
      have e43 := hb 1 43 rfl
      have e44 := hb 2 44 rfl
      have d1 := hdep.1
      have d2 := hdep.2
      rw [d1.1] at e43
      rw [d2.1] at e44
      clear hb hb' hdep d1 d2
      go_simp
      exact hK _ _ rfl (fun _ _ _ h => h) hJ
    · intro done us W hJ hdep haft hnot b hb hb' K hK Q'
      simp only [List.getD_cons_succ, List.getD_cons_zero, List.mem_cons, List.not_mem_nil, or_false, forall_eq_or_imp, forall_eq] at hdep
      have e45 := hb 3 45 rfl
      have d3 := hdep
      rw [d3.1] at e45
      clear hb hb' hdep d3
      go_simp
      exact hK _ _ rfl (fun _ _ _ h => h) hJ
    · intro done us W hJ hdep haft hnot b hb hb' K hK Q'
      simp only [List.getD_cons_succ, List.getD_cons_zero, List.mem_cons, List.not_mem_nil, or_false, forall_eq_or_imp, forall_eq] at hdep
      have e46 := hb 4 46 rfl
      have d4 := hdep
      rw [d4.1] at e46
      clear hb hb' hdep d4
      have q := Ext.cell hJ p0
      go_simp
      exact hK _ _ rfl (fun _ _ _ h => h) hJ
    · intro done us W hJ hdep haft hnot b hb hb' K hK Q'
      have e9 := (hb' 9 (by simp)).trans s9
      clear hb hb'
      go_simp
      exact hK _ _ rfl (fun _ _ _ h => h) hJ
    · intro done us W hJ hdep haft hnot b hb hb' K hK Q'
      have e11 := (hb' 11 (by simp)).trans s11
      clear hb hb'
      go_simp
      exact hK _ _ rfl (fun _ _ _ h => h) hJ
    · intro done us W hJ hdep haft hnot b hb hb' K hK Q'
      simp only [List.getD_cons_succ, List.getD_cons_zero, List.mem_cons, List.not_mem_nil, or_false, forall_eq_or_imp, forall_eq] at hdep
      have e48 := hb 6 48 rfl
      have e49 := hb 7 49 rfl
      have d6 := hdep.1
      have d7 := hdep.2
      rw [d6.1] at e48
      rw [d7.1] at e49
      clear hb hb' hdep d6 d7
      go_simp
      exact hK _ _ rfl (fun _ _ _ h => h) hJ
    · intro done us W hJ hdep haft hnot b hb hb' K hK Q'
      simp only [List.getD_cons_succ, List.getD_cons_zero, List.mem_cons, List.not_mem_nil, or_false, forall_eq_or_imp, forall_eq] at hdep
      have e50 := hb 8 50 rfl
      have d8 := hdep
      rw [d8.1] at e50
      clear hb hb' hdep d8
      go_simp
      exact hK _ _ rfl (fun _ _ _ h => h) hJ
    · intro done us W hJ hdep haft hnot b hb hb' K hK Q'
      simp only [List.getD_cons_succ, List.getD_cons_zero, List.mem_cons, List.not_mem_nil, or_false, forall_eq_or_imp, forall_eq] at hdep
      have e51 := hb 9 51 rfl
      have d9 := hdep
      rw [d9.1] at e51
      clear hb hb' hdep d9
      have q := Ext.cell hJ p1
      go_simp
      exact hK _ _ rfl (fun _ _ _ h => h) hJ
    · intro done us W hJ hdep haft hnot b hb hb' K hK Q'
      have e6 := (hb' 6 (by simp)).trans s6
      clear hb hb'
      go_simp
      exact hK _ _ rfl (fun _ _ _ h => h) hJ
    · intro done us W hJ hdep haft hnot b hb hb' K hK Q'
      have e3 := (hb' 3 (by simp)).trans s3
      clear hb hb'
      go_simp
      exact hK _ _ rfl (fun _ _ _ h => h) hJ
    · intro done us W hJ hdep haft hnot b hb hb' K hK Q'
      simp only [List.getD_cons_succ, List.getD_cons_zero, List.mem_cons, List.not_mem_nil, or_false, forall_eq_or_imp, forall_eq] at hdep
      have e54 := hb 12 54 rfl
      have d12 := hdep
      rw [d12.1] at e54
      clear hb hb' hdep d12
      have q := Ext.cell hJ d0
      go_simp
      exact hK _ _ rfl (fun _ _ _ h => h) hJ
    · intro done us W hJ hdep haft hnot b hb hb' K hK Q'
      simp only [List.getD_cons_succ, List.getD_cons_zero, List.mem_cons, List.not_mem_nil, or_false, forall_eq_or_imp, forall_eq] at hdep
      have e53 := hb 11 53 rfl
      have e55 := hb 13 55 rfl
      have d11 := hdep.1
      have d13 := hdep.2
      rw [d11.1] at e53
      rw [d13.1] at e55
      clear hb hb' hdep d11 d13
      have qw : IntKind.i64.wrap ((mv : Int) + lv) = (mv : Int) + lv := IntWalk.i64_in _ (by omega)
      go_simp
      exact hK _ _ rfl (fun _ _ _ h => h) hJ
    · intro done us W hJ hdep haft hnot b hb hb' K hK Q'
      have e3 := (hb' 3 (by simp)).trans s3
      clear hb hb'
      go_simp
      exact hK _ _ rfl (fun _ _ _ h => h) hJ
    · intro done us W hJ hdep haft hnot b hb hb' K hK Q'
      simp only [List.getD_cons_succ, List.getD_cons_zero, List.mem_cons, List.not_mem_nil, or_false, forall_eq_or_imp, forall_eq] at hdep
      have e57 := hb 15 57 rfl
      have d15 := hdep
      rw [d15.1] at e57
      clear hb hb' hdep d15
      have q := Ext.cell hJ d1
      go_simp
      exact hK _ _ rfl (fun _ _ _ h => h) hJ
    · intro done us W hJ hdep haft hnot b hb hb' K hK Q'
      simp only [List.getD_cons_succ, List.getD_cons_zero, List.mem_cons, List.not_mem_nil, or_false, forall_eq_or_imp, forall_eq] at hdep
      have e42 := hb 0 42 rfl
      have e47 := hb 5 47 rfl
      have e52 := hb 10 52 rfl
      have e56 := hb 14 56 rfl
      have e58 := hb 16 58 rfl
      have d0 := hdep.1
      have d5 := hdep.2.1
      have d10 := hdep.2.2.1
      have d14 := hdep.2.2.2.1
      have d16 := hdep.2.2.2.2
      rw [d0.1] at e42
      rw [d5.1] at e47
      rw [d10.1] at e52
      rw [d14.1] at e56
      rw [d16.1] at e58
      clear hb hb' hdep d0 d5 d10 d14 d16
      go_simp
      refine (run_any A n c l r1 r2 ((mv : Int) + lv) dr W (hI.ext hJ) hs h1 h2 (by omega) (by omega)).mono ?_
      rintro e w' ⟨v', rfl, hE, hX⟩
      rw [hm] at hE
      obtain ⟨A', c', rfl⟩ := own_slice hE
      exact hK _ _ ⟨A', c', by rw [hN], World.ownsRow.mono' hE (Nat.le_trans hbs hJ.size)⟩ (fun j u _ h => hmono _ _ j u hX h) (Ext.trans hJ hX)
    · intro done us W hJ hdep haft hnot b hb hb' K hK Q'
      simp only [List.getD_cons_succ, List.getD_cons_zero, List.mem_cons, List.not_mem_nil, or_false, forall_eq_or_imp, forall_eq] at hdep
      have e59 := hb 17 59 rfl
      have d17 := hdep
      clear hb hb' hdep 
      obtain ⟨A', c', e', ho⟩ := d17.1
      rw [e'] at e59
      go_simp
      exact hK _ _ ⟨A', c', rfl, e' ▸ ho⟩ (fun _ _ _ h => h) hJ
  · intro us W hV hJ
    exact hend (us 0) (us 1) (us 2) (us 3) (us 4) (us 5) (us 6) (us 7) (us 8) (us 9) (us 10) (us 11) (us 12) (us 13) (us 14) (us 15) (us 16) (us 17) (us 18) W (hV 0 (by omega)) (hV 1 (by omega)) (hV 2 (by omega)) (hV 3 (by omega)) (hV 4 (by omega)) (hV 5 (by omega)) (hV 6 (by omega)) (hV 7 (by omega)) (hV 8 (by omega)) (hV 9 (by omega)) (hV 10 (by omega)) (hV 11 (by omega)) (hV 12 (by omega)) (hV 13 (by omega)) (hV 14 (by omega)) (hV 15 (by omega)) (hV 16 (by omega)) (hV 17 (by omega)) (hV 18 (by omega)) hJ
set_option maxRecDepth 100000 in
set_option maxHeartbeats 8000000 in
theorem echoesR_any (A : Option Addr) (n c : Nat) (l : List Int) (d : Det) (w : World) (h : Ints .i64 w A n l) :
    Calls Try.prog 26 #[.slice A n c, .agg #[.int .i64 d.level, .int .i64 d.drop, .int .i64 d.step, .int .i64 d.delay]] w (RetEc w (echoesF l d)) := by
  obtain ⟨lv, dr, st, de⟩ := d
  simp only
  have hXb := (Ext.refl w).alloc (.cells #[.int .i64 lv, .int .i64 dr, .int .i64 st, .int .i64 de] 33)
  have hBb := Blk.new w 33 #[.int .i64 lv, .int .i64 dr, .int .i64 st, .int .i64 de]
  have hIb := h.ext hXb
  have HL := Lib.hid h.1
  have H0 := Lib.hid h
  have hfar : ∀ q, A = some q → 0 < n → q.block < w.heap.size := fun q hq hn => by
    obtain ⟨b, off, x, hA, _, _, hc⟩ := h.get hn
    rw [hA] at hq
    injection hq with hq
    subst hq
    exact World.block_lt_of_cell? _ _ hc
  clear h
  by_cases hd : ¬ DetOk ⟨lv, dr, st, de⟩
  · have q : Hid (decide (DetOk ⟨lv, dr, st, de⟩) = false) := Lib.hid (decide_eq_false hd)
    have HB : Hid (echoesF l ⟨lv, dr, st, de⟩ = ([], 31)) := Lib.hid (by unfold echoesF; rw [if_pos hd])
    clear hd
    go_enter Try.func26, Try.ntmps26
    go_wp2_with fail
    refine (detR_any ⟨lv, dr, st, de⟩ _).mono ?_
    rw [q.out]
    rintro e w1 ⟨rfl, hX⟩
    go_wp2
    go_ret2
    exact ⟨_, by rw [HB.out]; rfl, by rw [HB.out]; exact EcL.nil _ _, hXb.trans hX⟩
  have hd' := Decidable.not_not.1 hd
  have q : Hid (decide (DetOk ⟨lv, dr, st, de⟩) = true) := Lib.hid (decide_eq_true hd')
  obtain ⟨l1, l2, d1, d2, _, _, _, _⟩ := hd'
  simp only at l1 l2 d1 d2
  by_cases hn : n = 0
  · subst hn
    have HB : Hid (echoesF l ⟨lv, dr, st, de⟩ = ([], 0)) := Lib.hid (by unfold echoesF; rw [if_neg hd, if_pos (List.eq_nil_of_length_eq_zero HL.out)])
    clear hd
    go_enter Try.func26, Try.ntmps26
    go_wp2_with fail
    refine (detR_any ⟨lv, dr, st, de⟩ _).mono ?_
    rw [q.out]
    rintro e w1 ⟨rfl, hX⟩
    go_wp2
    go_ret2
    exact ⟨_, by rw [HB.out]; rfl, by rw [HB.out]; exact EcL.nil _ _, hXb.trans hX⟩
  have hne : l ≠ [] := by intro e; subst e; have := HL.out; simp at this; omega
  have g0 : ((n : Int) == 0) = false := by simpa using hn
  by_cases hs : ¬ Smp l
  · have HB : Hid (echoesF l ⟨lv, dr, st, de⟩ = ([], 2)) := Lib.hid (by unfold echoesF; rw [if_neg hd, if_neg hne, if_pos hs])
    have HF : Hid (baseF l = (0, 2)) := Lib.hid (by unfold baseF; rw [if_pos (.inr hs)])
    clear hd hs hne hfar
    go_enter Try.func26, Try.ntmps26
    go_wp2_with fail
    refine (detR_any ⟨lv, dr, st, de⟩ _).mono ?_
    rw [q.out]
    rintro e w1 ⟨rfl, hX⟩
    go_wp2_with fail
    refine (baseR_any A n c l _ (hIb.ext hX)).mono ?_
    rw [HF.out]
    rintro e _ ⟨rfl, rfl⟩
    go_wp2
    go_ret2
    exact ⟨_, by rw [HB.out]; rfl, by rw [HB.out]; exact EcL.nil _ _, hXb.trans hX⟩
  have hs' := Decidable.not_not.1 hs
  have HF : Hid (baseF l = ((medV l : Int), 0)) := Lib.hid (by unfold baseF; rw [if_neg]; rintro (h | h); exact hne h; exact hs h)
  have HR0 : ∀ x, Hid (runsF l x = (runsP x 0 l none, 0)) := fun x => Lib.hid (by unfold runsF; rw [if_pos hs'])
  have HB : Hid (echoesF l ⟨lv, dr, st, de⟩ = ((allE l ⟨lv, dr, st, de⟩).take 15, 0)) := Lib.hid (by unfold echoesF; rw [if_neg hd, if_neg hne, if_neg hs])
  have HA : Hid (allE l ⟨lv, dr, st, de⟩ = (runsP (medV l + lv) 0 l none).flatMap (hunR l dr (medV l + lv))) := Lib.hid rfl
  have HSM := Lib.hid hs'
  have hn256 : n ≤ 256 := by have := hs'.1; have := HL.out; omega
  have hmed := medV_le l
  generalize medV l = mv at HF HA hmed
  have HFAR : Hid (∀ q, A = some q → q.block < w.heap.size) := Lib.hid fun q hq => hfar q hq (by omega)
  clear hd hs hs' hne hfar
  go_enter Try.func26, Try.ntmps26
  go_wp2_with fail
  refine (detR_any ⟨lv, dr, st, de⟩ _).mono ?_
  rw [q.out]
  rintro e w1 ⟨rfl, hX⟩
  have hX1 := hXb.trans hX
  replace hIb := hIb.ext hX
  replace hBb := hBb.ext hX
  clear hX hXb
  go_wp2_with fail
  refine (baseR_any A n c l _ hIb).mono ?_
  rw [HF.out]
  rintro e _ ⟨rfl, rfl⟩
  have c0 := hBb.cell 0
  have c1 := hBb.cell 1
  simp only [List.getElem?_toArray, List.getElem?_cons_zero, List.getElem?_cons_succ] at c0 c1
  go_wp2_with fail
  refine (runsR_any A n c l _ _ hIb).mono ?_
  rw [(HR0 _).out]
  clear HR0
  generalize hrs : runsP ((mv : Int) + lv) 0 l none = rs at HA ⊢
  rintro e w3 ⟨vr, rfl, hP, hX3⟩
  simp only at hP ⊢
  have hrl : rs.length ≤ n := by have := runsP_len ((mv : Int) + lv) 0 l none; rw [hrs] at this; have h2 := HL.out; simp only [Option.toList_none, List.length_nil, Nat.add_zero] at this; omega
  have HRS := Lib.hid hrs
  obtain ⟨Ar, cr, rfl⟩ := own_slice hP
  replace hX1 := hX1.trans hX3
  replace hBb := hBb.ext hX3
  clear hX3 c0 c1 hrs hIb
  have HX := Lib.hid hX1
  have HBD := Lib.hid hBb
  have HP := Lib.hid hP
  clear hX1 hBb hP
  generalize w1.heap.size = B2 at HP
  obtain ⟨nr, hnr⟩ : ∃ nr, rs.length = nr := ⟨_, rfl⟩
  rw [hnr] at hrl HP ⊢
  have HNR := Lib.hid hnr
  clear hnr
  go_wp2_with fail
  go_loopg [8, 11] nr (fun f ov iv wr => ∃ (k : Nat) (out : List Ech), f = nr - k ∧ k ≤ nr ∧ out.length ≤ k * 257 ∧ iv = .int .i64 (k : Int) ∧ Hid (EcL w.heap.size wr ov out) ∧ Hid (out = (rs.take k).flatMap (hunR l dr (mv + lv))) ∧ Hid (Ext w wr) ∧ Hid (PrL B2 wr (.slice Ar nr cr) rs) ∧ Hid (Blk wr w.heap.size 33 #[.int .i64 lv, .int .i64 dr, .int .i64 st, .int .i64 de]))
  case atStart => exact ⟨0, [], rfl, by omega, by simp, rfl, Lib.hid (EcL.nil _ _), Lib.hid rfl, HX, HP, HBD⟩
  case round =>
    clear HX HP HBD
    obtain ⟨k, out, rfl, hk, hol, rfl, HE, HO, HX, HP, HBD⟩ := hrel
    have hE := HE.out
    obtain ⟨A1, c1, hso⟩ := own_slice hE
    subst hso
    obtain ⟨oz, hoz⟩ : ∃ oz, out.length = oz := ⟨_, rfl⟩
    rw [hoz] at hol ⊢
    have HE2 : Hid (EcL w.heap.size wr (.slice A1 oz c1) out) := Lib.hid (by rw [hoz] at hE; exact hE)
    have HOZ := Lib.hid hoz
    have hcap := own_cap hE
    clear HE hE
    by_cases hlt : k < nr
    · obtain ⟨gr, cr', ⟨r1, r2⟩, hve, hr, p0, p1⟩ := HP.out.get (by rw [HNR.out]; exact hlt)
      injection hve with hve hve2 hve3
      subst hve
      clear hve2 hve3
      simp only at p0 p1
      have hrr := runsP_in (lv := (mv : Int) + lv) (l := l) (i := 0) (st := none) (fun a ha => by cases ha) (r1, r2) (by rw [HRS.out]; exact List.mem_of_getElem? hr)
      simp only [Nat.zero_add] at hrr
      obtain ⟨hr1, hr2⟩ := hrr
      rw [HL.out] at hr2
      have hml := hunR_len l dr ((mv : Int) + lv) (r1, r2)
      simp only at hml
      obtain ⟨ms, hms⟩ : ∃ ms, hunR l dr ((mv : Int) + lv) (r1, r2) = ms := ⟨_, rfl⟩
      obtain ⟨N, hN⟩ : ∃ N, ms.length = N := ⟨_, rfl⟩
      rw [hms, hN] at hml
      have HO2 : Hid (out ++ ms = (rs.take (k + 1)).flatMap (hunR l dr (mv + lv))) := Lib.hid (by
        rw [HO.out, List.take_add_one, hr, ← hms]
        simp)
      have hd0 := HBD.out.cell 0
      have hd1 := HBD.out.cell 1
      simp only [List.getElem?_toArray, List.getElem?_cons_zero, List.getElem?_cons_succ] at hd0 hd1
      have HMS := Lib.hid hms
      have HNN := Lib.hid hN
      clear hr hms hN hoz hcap
      have q1 : decide (k < nr) = true := decide_eq_true hlt
      go_upto_region 13 with (fail)
      refine echR_r13 A n c gr nr cr k w.heap.size w.heap.size mv l lv dr r1 r2 ms N wr p0 p1 hd0 hd1 (H0.out.ext HX.out) HSM.out hr1 hr2 hmed ⟨l1, l2⟩ ⟨d1, d2⟩ HMS.out HNN.out HX.out.size hlt (by omega) _ _ (by simp) rfl rfl rfl rfl rfl ?_
      rintro xv0 xv1 xv2 xv3 xv4 xv5 xv6 xv7 xv8 xv9 xv10 xv11 xv12 xv13 xv14 xv15 xv16 xv17 xv18 W rfl rfl rfl rfl rfl rfl rfl rfl rfl rfl rfl rfl rfl rfl rfl rfl rfl ⟨A8, c8, rfl, _⟩ ⟨A9, c9, rfl, hM⟩ hXW
      simp only [rops, Try.f26, regOf, Option.bind_some, Nat.reduceBEq, if_true, if_false, Bool.false_eq_true, Option.getD_some, List.drop_succ_cons, List.drop_zero]
      simp only [Act.put, List.setIfInBounds_toArray, List.set_cons_succ, List.set_cons_zero]
      replace HX := Lib.hid (HX.out.trans hXW)
      replace HP := Lib.hid (HP.out.ext hXW)
      replace HBD := Lib.hid (HBD.out.ext hXW)
      have hown : W.ownsRow w.heap.size 42 5 (.slice A1 oz c1) oz (echV out) := by
        have h1 := HE2.out.ext hXW
        unfold EcL at h1
        rw [HOZ.out] at h1
        exact h1
      have hat : At W A9 (echV ms) := by
        unfold EcL at hM
        rw [HNN.out] at hM
        exact At.of_own hM
      have hsz := HX.out.size
      have hel : (echV ms).length = N * 5 := by rw [echV_len, HNN.out]
      clear hXW hM hd0 hd1 p0 p1 HE2
      go_wp2_with (at_builtin; refine wpList_app _ elE rfl _ _ rfl w.heap.size (.slice A1 oz c1) oz (echV out) rfl hown _ N c9 (echV ms) rfl hel hat (echV_one ms) (by omega) (by unfold maxLen; omega) (by omega) ?_; intro v5 w5 hown5 hgr5 _; have HX5 := Lib.hid (HX.out.app hown hgr5); have HK5 := Lib.hid (Keeps.of_grown (L := (Value.slice A1 oz c1).ownBlock.toList) hgr5 (fun k hk => by rw [hk]; simp)); have HOW5 := Lib.hid hown5; clear hown5 hgr5)
      go_roundg (nr - (k + 1))
      case rel =>
        refine ⟨k + 1, out ++ ms, rfl, by omega, by rw [List.length_append, HOZ.out, HNN.out]; omega, by go_num, Lib.hid ?_, HO2, HX5, Lib.hid (row_away HP.out HK5.out fun k hk => NoRow.of_own hown (by simpa using hk) (by decide)), Lib.hid (blk_away HBD.out HK5.out fun k hk => NoRow.of_own hown (by simpa using hk) (by decide))⟩
        unfold EcL
        rw [echV_append, List.length_append, HOZ.out, HNN.out]
        exact HOW5.out
      case measure => omega
    · obtain rfl : k = nr := by omega
      have HE : Hid (out = allE l ⟨lv, dr, st, de⟩) := Lib.hid (by rw [HO.out, HA.out, List.take_of_length_le (Nat.le_of_eq HNR.out)])
      have hcap' : oz ≤ c1 ∧ c1 ≤ 9223372036854775807 := by rw [← hoz]; exact hcap
      obtain ⟨hcap1, hcap2⟩ := hcap'
      clear hcap hoz
      by_cases h15 : 15 < oz
      · go_wp2
        go_ret2
        refine ⟨.slice A1 15 c1, by rw [HB.out]; rfl, ?_, HX.out⟩
        rw [HB.out, ← HE.out]
        exact EcL.front HE2.out HOZ.out (by omega)
      · go_wp2
        go_ret2
        refine ⟨.slice A1 oz c1, by rw [HB.out]; rfl, ?_, HX.out⟩
        rw [HB.out, ← HE.out, List.take_of_length_le (by have := HOZ.out; omega)]
        exact HE2.out
end Go.Proofs.Ytagcgldhhdecjaa
namespace Go.Proofs.Ytagcgldhhdecjaa
open Go.RowKit

set_option maxRecDepth 100000 in
set_option maxHeartbeats 2000000 in
theorem sameE_eq (A B : Option Addr) (n c d : Nat) (es : List Ech) (b1 b2 : Nat) (w : World) (hA : EcL b1 w (.slice A n c) es) (hB : EcL b2 w (.slice B n d) es) (hl : es.length = n) (hn : n ≤ 1000000) :
    Calls Try.prog 29 #[.slice A n c, .slice B n d] w fun e w' => e = .returned (.bool true) ∧ Ext w w' := by
  have HA := Lib.hid hA
  have HB := Lib.hid hB
  have HL := Lib.hid hl
  clear hA hB hl
  have hnn : ((n : Int) != (n : Int)) = false := by simp
  go_enter Try.func29, Try.ntmps29
  go_wp2_with fail
  go_loopg [5] n (fun g i wr => ∃ k : Nat, g = n - k ∧ k ≤ n ∧ i = .int .i64 (k : Int) ∧ Hid (Ext w wr))
  case atStart => exact ⟨0, rfl, by omega, rfl, Lib.hid (Ext.refl w)⟩
  case round =>
    obtain ⟨k, rfl, hk, rfl, HX⟩ := hrel
    by_cases hlt : k < n
    · have q1 : decide (k < n) = true := decide_eq_true hlt
      obtain ⟨ga, ca', x, hva, hra, ha⟩ := (HA.out.ext HX.out).get (by rw [HL.out]; exact hlt)
      obtain ⟨gb, cb', y, hvb, hrb, hb⟩ := (HB.out.ext HX.out).get (by rw [HL.out]; exact hlt)
      obtain rfl : x = y := by rw [hra] at hrb; injection hrb
      injection hva with hva hva2 hva3
      injection hvb with hvb hvb2 hvb3
      subst hva hvb
      obtain ⟨x0, x1, x2, x3, x4⟩ := x
      have a0 := ha 0 _ rfl
      have a1 := ha 1 _ rfl
      have a2 := ha 2 _ rfl
      have a3 := ha 3 _ rfl
      have a4 := ha 4 _ rfl
      have d0 := hb 0 _ rfl
      have d1 := hb 1 _ rfl
      have d2 := hb 2 _ rfl
      have d3 := hb 3 _ rfl
      have d4 := hb 4 _ rfl
      simp only [Nat.add_zero] at a0 d0
      simp only at a0 a1 a2 a3 a4 d0 d1 d2 d3 d4
      clear hra hrb hva2 hva3 hvb2 hvb3 ha hb
      go_wp2_with fail
      go_region
      go_wp2
      go_roundg (n - (k + 1))
      case rel => exact ⟨k + 1, rfl, by omega, by go_num, Lib.hid HX.out.drew⟩
      case measure => omega
    · obtain rfl : k = n := by omega
      go_wp2
      go_ret
      exact ⟨rfl, HX.out⟩

set_option maxRecDepth 100000 in
set_option maxHeartbeats 2000000 in
theorem lawE_r5 (g N ca cb b1 b2 : Nat) (Aa Ab : Option Addr) (lv dr st de er : Int) (bo : Bool) (es : List Ech) (w : World) (c0 : w.cell? ⟨g, 0, none⟩ = some (.int .i64 lv)) (c1 : w.cell? ⟨g, 1, none⟩ = some (.int .i64 dr)) (c2 : w.cell? ⟨g, 2, none⟩ = some (.int .i64 st)) (c3 : w.cell? ⟨g, 3, none⟩ = some (.int .i64 de)) (hbo : Hid (decide (DetOk ⟨lv, dr, st, de⟩) = bo)) (hEa : EcL b1 w (.slice Aa N ca) es) (hEb : EcL b2 w (.slice Ab N cb) es) (hN : es.length = N) (hN2 : N ≤ 15) (a : Act) (Q : Exit → Act → World → Prop) (hsize : 43 ≤ a.tmps.size)
    (s3 : a.tmps[3]? = some (.pointer (some ⟨g, 0, none⟩)))
    (s5 : a.tmps[5]? = some (.slice Aa N ca))
    (s6 : a.tmps[6]? = some (.int .i64 er))
    (s7 : a.tmps[7]? = some (.slice Ab N cb))
    (s8 : a.tmps[8]? = some (.int .i64 er))
    (hend : ∀ (xv0 xv1 xv2 xv3 xv4 xv5 xv6 xv7 xv8 xv9 xv10 xv11 xv12 xv13 xv14 xv15 xv16 xv17 xv18 : Value) (W : World), (xv0 = .agg #[.int .i64 lv, .int .i64 dr, .int .i64 st, .int .i64 de]) → (xv1 = .bool bo) → (xv2 = .agg #[.int .i64 lv, .int .i64 dr, .int .i64 st, .int .i64 de]) → (xv3 = .bool bo) → (xv4 = .bool true) → (xv5 = .bool true) → (xv6 = .int .i64 er) → (xv7 = .int .i64 er) → (xv8 = .bool true) → (xv9 = .bool true) → (xv10 = .bool true) → (xv11 = .slice Aa N ca) → (xv12 = .slice Ab N cb) → (xv13 = .bool true) → (xv14 = .bool true) → (xv15 = .bool true) → (xv16 = .bool true) → (xv17 = .bool true) → (xv18 = .bool true) → Ext w W → wpList Try.prog (rops Try.f4 5).toArray Q ((rops Try.f4 5).drop 19) (((((((((((((((((((a.put (some 25) xv0).put (some 26) xv1).put (some 27) xv2).put (some 28) xv3).put (some 29) xv4).put (some 30) xv5).put (some 31) xv6).put (some 32) xv7).put (some 33) xv8).put (some 34) xv9).put (some 35) xv10).put (some 36) xv11).put (some 37) xv12).put (some 38) xv13).put (some 39) xv14).put (some 40) xv15).put (some 41) xv16).put (some 42) xv17).put (some 4) xv18) W) :
    (Code.region 5 (rops Try.f4 5).toArray true).wp Try.prog Q a w := by
  have hmono : ∀ (W W' : World) (j : Nat) (u : Value), Ext W W' → (fun (i : Nat) (v : Value) (W : World) => match i with
    | 0 => v = .agg #[.int .i64 lv, .int .i64 dr, .int .i64 st, .int .i64 de]
    | 1 => v = .bool bo
    | 2 => v = .agg #[.int .i64 lv, .int .i64 dr, .int .i64 st, .int .i64 de]
    | 3 => v = .bool bo
    | 4 => v = .bool true
    | 5 => v = .bool true
    | 6 => v = .int .i64 er
    | 7 => v = .int .i64 er
    | 8 => v = .bool true
    | 9 => v = .bool true
    | 10 => v = .bool true
    | 11 => v = .slice Aa N ca
    | 12 => v = .slice Ab N cb
    | 13 => v = .bool true
    | 14 => v = .bool true
    | 15 => v = .bool true
    | 16 => v = .bool true
    | 17 => v = .bool true
    | 18 => v = .bool true
    | _ => True) j u W → (fun (i : Nat) (v : Value) (W : World) => match i with
    | 0 => v = .agg #[.int .i64 lv, .int .i64 dr, .int .i64 st, .int .i64 de]
    | 1 => v = .bool bo
    | 2 => v = .agg #[.int .i64 lv, .int .i64 dr, .int .i64 st, .int .i64 de]
    | 3 => v = .bool bo
    | 4 => v = .bool true
    | 5 => v = .bool true
    | 6 => v = .int .i64 er
    | 7 => v = .int .i64 er
    | 8 => v = .bool true
    | 9 => v = .bool true
    | 10 => v = .bool true
    | 11 => v = .slice Aa N ca
    | 12 => v = .slice Ab N cb
    | 13 => v = .bool true
    | 14 => v = .bool true
    | 15 => v = .bool true
    | 16 => v = .bool true
    | 17 => v = .bool true
    | 18 => v = .bool true
    | _ => True) j u W' := by
    intro W W' j u hX h
    match j, h with
    | 0, h => exact h
    | 1, h => exact h
    | 2, h => exact h
    | 3, h => exact h
    | 4, h => exact h
    | 5, h => exact h
    | 6, h => exact h
    | 7, h => exact h
    | 8, h => exact h
    | 9, h => exact h
    | 10, h => exact h
    | 11, h => exact h
    | 12, h => exact h
    | 13, h => exact h
    | 14, h => exact h
    | 15, h => exact h
    | 16, h => exact h
    | 17, h => exact h
    | 18, h => exact h
    | _ + 19, h => exact h
  have hsz : ∀ d, some d ∈ ([some 25, some 26, some 27, some 28, some 29, some 30, some 31, some 32, some 33, some 34, some 35, some 36, some 37, some 38, some 39, some 40, some 41, some 42, some 4] : List (Option Tmp)) → d < a.tmps.size := slots_lt (by decide) hsize
  refine wp_region_j 19 [some 25, some 26, some 27, some 28, some 29, some 30, some 31, some 32, some 33, some 34, some 35, some 36, some 37, some 38, some 39, some 40, some 41, some 42, some 4] [[], [0], [], [2], [1, 3], [4], [5], [5], [5, 6, 7], [5, 8], [9], [10], [10], [10, 11, 12], [10, 13], [14], [15], [15, 16], [17]] [[], [], [], [], [], [], [], [], [], [], [], [], [], [], [], [], [], [], []] (fun (i : Nat) (v : Value) (W : World) => match i with
    | 0 => v = .agg #[.int .i64 lv, .int .i64 dr, .int .i64 st, .int .i64 de]
    | 1 => v = .bool bo
    | 2 => v = .agg #[.int .i64 lv, .int .i64 dr, .int .i64 st, .int .i64 de]
    | 3 => v = .bool bo
    | 4 => v = .bool true
    | 5 => v = .bool true
    | 6 => v = .int .i64 er
    | 7 => v = .int .i64 er
    | 8 => v = .bool true
    | 9 => v = .bool true
    | 10 => v = .bool true
    | 11 => v = .slice Aa N ca
    | 12 => v = .slice Ab N cb
    | 13 => v = .bool true
    | 14 => v = .bool true
    | 15 => v = .bool true
    | 16 => v = .bool true
    | 17 => v = .bool true
    | 18 => v = .bool true
    | _ => True) (fun _ W => Ext w W) (by kernel_rfl) (by kernel_rfl) hsz (fun _ _ _ _ h => h) ((Ext.refl w).drew) ?_ ?_
  · clear hend
    simp only [rops, Try.f4, regOf, Option.bind_some, Nat.reduceBEq, if_true, if_false, Bool.false_eq_true, Option.getD_some]
    simp only [List.take_succ_cons, List.take_zero]
    refine ⟨?_, ?_, ?_, ?_, ?_, ?_, ?_, ?_, ?_, ?_, ?_, ?_, ?_, ?_, ?_, ?_, ?_, ?_, ?_, trivial⟩
    · intro done us W hJ hdep haft hnot b hb hb' K hK Q'
      have e3 := (hb' 3 (by simp)).trans s3
      clear hb hb'
      have q0 := Ext.cell hJ c0
      have q1 := Ext.cell hJ c1
      have q2 := Ext.cell hJ c2
      have q3 := Ext.cell hJ c3
      go_simp
      exact hK _ _ rfl (fun _ _ _ h => h) hJ
    · intro done us W hJ hdep haft hnot b hb hb' K hK Q'
      simp only [List.getD_cons_succ, List.getD_cons_zero, List.mem_cons, List.not_mem_nil, or_false, forall_eq_or_imp, forall_eq] at hdep
      have e25 := hb 0 25 rfl
      have d0 := hdep
      rw [d0.1] at e25
      clear hb hb' hdep d0
      go_simp
      refine (det_any ⟨lv, dr, st, de⟩ W).mono ?_
      rw [hbo.out]
      rintro e w' ⟨rfl, hX⟩
      exact hK _ _ rfl (fun j u _ h => hmono _ _ j u hX h) (Ext.trans hJ hX)
    · intro done us W hJ hdep haft hnot b hb hb' K hK Q'
      have e3 := (hb' 3 (by simp)).trans s3
      clear hb hb'
      have q0 := Ext.cell hJ c0
      have q1 := Ext.cell hJ c1
      have q2 := Ext.cell hJ c2
      have q3 := Ext.cell hJ c3
      go_simp
      exact hK _ _ rfl (fun _ _ _ h => h) hJ
    · intro done us W hJ hdep haft hnot b hb hb' K hK Q'
      simp only [List.getD_cons_succ, List.getD_cons_zero, List.mem_cons, List.not_mem_nil, or_false, forall_eq_or_imp, forall_eq] at hdep
      have e27 := hb 2 27 rfl
      have d2 := hdep
      rw [d2.1] at e27
      clear hb hb' hdep d2
      go_simp
      refine (detR_any ⟨lv, dr, st, de⟩ W).mono ?_
      rw [hbo.out]
      rintro e w' ⟨rfl, hX⟩
      exact hK _ _ rfl (fun j u _ h => hmono _ _ j u hX h) (Ext.trans hJ hX)
    · intro done us W hJ hdep haft hnot b hb hb' K hK Q'
      simp only [List.getD_cons_succ, List.getD_cons_zero, List.mem_cons, List.not_mem_nil, or_false, forall_eq_or_imp, forall_eq] at hdep
      have e26 := hb 1 26 rfl
      have e28 := hb 3 28 rfl
      have d1 := hdep.1
      have d3 := hdep.2
      rw [d1.1] at e26
      rw [d3.1] at e28
      clear hb hb' hdep d1 d3
      have qq : (bo == bo) = true := by simp
      go_simp
      exact hK _ _ (by first | rfl | exact congrArg Value.bool qq) (fun _ _ _ h => h) hJ
    · intro done us W hJ hdep haft hnot b hb hb' K hK Q'
      simp only [List.getD_cons_succ, List.getD_cons_zero, List.mem_cons, List.not_mem_nil, or_false, forall_eq_or_imp, forall_eq] at hdep
      have e29 := hb 4 29 rfl
      have d4 := hdep
      rw [d4.1] at e29
      clear hb hb' hdep d4
      go_simp
      exact hK _ _ rfl (fun _ _ _ h => h) hJ
    · intro done us W hJ hdep haft hnot b hb hb' K hK Q'
      simp only [List.getD_cons_succ, List.getD_cons_zero, List.mem_cons, List.not_mem_nil, or_false, forall_eq_or_imp, forall_eq] at hdep
      have e6 := (hb' 6 (by simp)).trans s6
      have e30 := hb 5 30 rfl
      have d5 := hdep
      rw [d5.1] at e30
      clear hb hb' hdep d5
      go_simp
      exact hK _ _ rfl (fun _ _ _ h => h) hJ
    · intro done us W hJ hdep haft hnot b hb hb' K hK Q'
      simp only [List.getD_cons_succ, List.getD_cons_zero, List.mem_cons, List.not_mem_nil, or_false, forall_eq_or_imp, forall_eq] at hdep
      have e8 := (hb' 8 (by simp)).trans s8
      have e30 := hb 5 30 rfl
      have d5 := hdep
      rw [d5.1] at e30
      clear hb hb' hdep d5
      go_simp
      exact hK _ _ rfl (fun _ _ _ h => h) hJ
    · intro done us W hJ hdep haft hnot b hb hb' K hK Q'
      simp only [List.getD_cons_succ, List.getD_cons_zero, List.mem_cons, List.not_mem_nil, or_false, forall_eq_or_imp, forall_eq] at hdep
      have e30 := hb 5 30 rfl
      have e31 := hb 6 31 rfl
      have e32 := hb 7 32 rfl
      have d5 := hdep.1
      have d6 := hdep.2.1
      have d7 := hdep.2.2
      rw [d5.1] at e30
      rw [d6.1] at e31
      rw [d7.1] at e32
      clear hb hb' hdep d5 d6 d7
      have qq : (er == er) = true := by simp
      go_simp
      exact hK _ _ (by first | rfl | exact congrArg Value.bool qq) (fun _ _ _ h => h) hJ
    · intro done us W hJ hdep haft hnot b hb hb' K hK Q'
      simp only [List.getD_cons_succ, List.getD_cons_zero, List.mem_cons, List.not_mem_nil, or_false, forall_eq_or_imp, forall_eq] at hdep
      have e30 := hb 5 30 rfl
      have e33 := hb 8 33 rfl
      have d5 := hdep.1
      have d8 := hdep.2
      rw [d5.1] at e30
      rw [d8.1] at e33
      clear hb hb' hdep d5 d8
      go_simp
      exact hK _ _ rfl (fun _ _ _ h => h) hJ
    · intro done us W hJ hdep haft hnot b hb hb' K hK Q'
      simp only [List.getD_cons_succ, List.getD_cons_zero, List.mem_cons, List.not_mem_nil, or_false, forall_eq_or_imp, forall_eq] at hdep
      have e34 := hb 9 34 rfl
      have d9 := hdep
      rw [d9.1] at e34
      clear hb hb' hdep d9
      go_simp
      exact hK _ _ rfl (fun _ _ _ h => h) hJ
    · intro done us W hJ hdep haft hnot b hb hb' K hK Q'
      simp only [List.getD_cons_succ, List.getD_cons_zero, List.mem_cons, List.not_mem_nil, or_false, forall_eq_or_imp, forall_eq] at hdep
      have e5 := (hb' 5 (by simp)).trans s5
      have e35 := hb 10 35 rfl
      have d10 := hdep
      rw [d10.1] at e35
      clear hb hb' hdep d10
      go_simp
      exact hK _ _ rfl (fun _ _ _ h => h) hJ
    · intro done us W hJ hdep haft hnot b hb hb' K hK Q'
      simp only [List.getD_cons_succ, List.getD_cons_zero, List.mem_cons, List.not_mem_nil, or_false, forall_eq_or_imp, forall_eq] at hdep
      have e7 := (hb' 7 (by simp)).trans s7
      have e35 := hb 10 35 rfl
      have d10 := hdep
      rw [d10.1] at e35
      clear hb hb' hdep d10
      go_simp
      exact hK _ _ rfl (fun _ _ _ h => h) hJ
    · intro done us W hJ hdep haft hnot b hb hb' K hK Q'
      simp only [List.getD_cons_succ, List.getD_cons_zero, List.mem_cons, List.not_mem_nil, or_false, forall_eq_or_imp, forall_eq] at hdep
      have e35 := hb 10 35 rfl
      have e36 := hb 11 36 rfl
      have e37 := hb 12 37 rfl
      have d10 := hdep.1
      have d11 := hdep.2.1
      have d12 := hdep.2.2
      rw [d10.1] at e35
      rw [d11.1] at e36
      rw [d12.1] at e37
      clear hb hb' hdep d10 d11 d12
      go_simp
      refine (sameE_eq Aa Ab N ca cb es b1 b2 W (hEa.ext hJ) (hEb.ext hJ) hN (by omega)).mono ?_
      rintro e w' ⟨rfl, hX⟩
      exact hK _ _ rfl (fun j u _ h => hmono _ _ j u hX h) (Ext.trans hJ hX)
    · intro done us W hJ hdep haft hnot b hb hb' K hK Q'
      simp only [List.getD_cons_succ, List.getD_cons_zero, List.mem_cons, List.not_mem_nil, or_false, forall_eq_or_imp, forall_eq] at hdep
      have e35 := hb 10 35 rfl
      have e38 := hb 13 38 rfl
      have d10 := hdep.1
      have d13 := hdep.2
      rw [d10.1] at e35
      rw [d13.1] at e38
      clear hb hb' hdep d10 d13
      go_simp
      exact hK _ _ rfl (fun _ _ _ h => h) hJ
    · intro done us W hJ hdep haft hnot b hb hb' K hK Q'
      simp only [List.getD_cons_succ, List.getD_cons_zero, List.mem_cons, List.not_mem_nil, or_false, forall_eq_or_imp, forall_eq] at hdep
      have e39 := hb 14 39 rfl
      have d14 := hdep
      rw [d14.1] at e39
      clear hb hb' hdep d14
      go_simp
      exact hK _ _ rfl (fun _ _ _ h => h) hJ
    · intro done us W hJ hdep haft hnot b hb hb' K hK Q'
      simp only [List.getD_cons_succ, List.getD_cons_zero, List.mem_cons, List.not_mem_nil, or_false, forall_eq_or_imp, forall_eq] at hdep
      have e40 := hb 15 40 rfl
      have d15 := hdep
      rw [d15.1] at e40
      clear hb hb' hdep d15
      go_simp
      refine (firstW_any W).mono ?_
      rintro e w' ⟨rfl, hX⟩
      exact hK _ _ rfl (fun j u _ h => hmono _ _ j u hX h) (Ext.trans hJ hX)
    · intro done us W hJ hdep haft hnot b hb hb' K hK Q'
      simp only [List.getD_cons_succ, List.getD_cons_zero, List.mem_cons, List.not_mem_nil, or_false, forall_eq_or_imp, forall_eq] at hdep
      have e40 := hb 15 40 rfl
      have e41 := hb 16 41 rfl
      have d15 := hdep.1
      have d16 := hdep.2
      rw [d15.1] at e40
      rw [d16.1] at e41
      clear hb hb' hdep d15 d16
      go_simp
      exact hK _ _ rfl (fun _ _ _ h => h) hJ
    · intro done us W hJ hdep haft hnot b hb hb' K hK Q'
      simp only [List.getD_cons_succ, List.getD_cons_zero, List.mem_cons, List.not_mem_nil, or_false, forall_eq_or_imp, forall_eq] at hdep
      have e42 := hb 17 42 rfl
      have d17 := hdep
      rw [d17.1] at e42
      clear hb hb' hdep d17
      go_simp
      exact hK _ _ rfl (fun _ _ _ h => h) hJ
  · intro us W hV hJ
    exact hend (us 0) (us 1) (us 2) (us 3) (us 4) (us 5) (us 6) (us 7) (us 8) (us 9) (us 10) (us 11) (us 12) (us 13) (us 14) (us 15) (us 16) (us 17) (us 18) W (hV 0 (by omega)) (hV 1 (by omega)) (hV 2 (by omega)) (hV 3 (by omega)) (hV 4 (by omega)) (hV 5 (by omega)) (hV 6 (by omega)) (hV 7 (by omega)) (hV 8 (by omega)) (hV 9 (by omega)) (hV 10 (by omega)) (hV 11 (by omega)) (hV 12 (by omega)) (hV 13 (by omega)) (hV 14 (by omega)) (hV 15 (by omega)) (hV 16 (by omega)) (hV 17 (by omega)) (hV 18 (by omega)) hJ

set_option maxRecDepth 100000 in
set_option maxHeartbeats 4000000 in
theorem waveEchoes_walk (A : Option Addr) (n c : Nat) (l : List Int) (f : Int × Int × Int × Int) (w : World) (h : Ints .i64 w A n l) :
    Calls Try.prog 4 #[.slice A n c, .agg #[.int .i64 f.1, .int .i64 f.2.1, .int .i64 f.2.2.1, .int .i64 f.2.2.2]] w (fun e w' => e = .returned (.bool true) ∧ Ext w w') := by
  obtain ⟨lv, dr, st, de⟩ := f
  simp only
  have hX0 := (Ext.refl w).alloc (.cells #[.int .i64 lv, .int .i64 dr, .int .i64 st, .int .i64 de] 33)
  have hB0 := Blk.new w 33 #[.int .i64 lv, .int .i64 dr, .int .i64 st, .int .i64 de]
  have H := Lib.hid h
  clear h
  by_cases hn : 1000 < n
  · go_enter Try.func4, Try.ntmps4
    go_wp2_with fail
    refine (firstW_any _).mono ?_
    rintro e w1 ⟨rfl, hX⟩
    have HX := Lib.hid (hX0.trans hX)
    clear hX hX0
    go_wp2
    go_ret
    exact ⟨rfl, HX.out⟩
  obtain ⟨bo, hbo⟩ : ∃ bo, decide (DetOk ⟨lv, dr, st, de⟩) = bo := ⟨_, rfl⟩
  have HBO := Lib.hid hbo
  generalize hef : echoesF l ⟨lv, dr, st, de⟩ = ef
  have hlen : ef.1.length ≤ 15 := by
    rw [← hef]
    unfold echoesF
    split
    · simp
    · split
      · simp
      · split
        · simp
        · simp only [List.length_take]; omega
  obtain ⟨es, er⟩ := ef
  simp only at hlen
  have HEF := Lib.hid hef
  obtain ⟨N, hN⟩ : ∃ N, es.length = N := ⟨_, rfl⟩
  have HN := Lib.hid hN
  clear hef hbo
  go_enter Try.func4, Try.ntmps4
  go_wp2_with fail
  refine (echoes_any A n c l ⟨lv, dr, st, de⟩ _ (H.out.ext hX0)).mono ?_
  rw [HEF.out]
  rintro e w1 ⟨va, rfl, hEa, hX⟩
  simp only at hEa ⊢
  have hX1 := hX0.trans hX
  have hB1 := hB0.ext hX
  clear hX hB0
  have c0 := hB1.cell 0
  have c1 := hB1.cell 1
  have c2 := hB1.cell 2
  have c3 := hB1.cell 3
  simp only [List.getElem?_toArray, List.getElem?_cons_zero, List.getElem?_cons_succ] at c0 c1 c2 c3
  generalize (w.alloc (.cells #[.int .i64 lv, .int .i64 dr, .int .i64 st, .int .i64 de] 33)).heap.size = b1 at hEa
  obtain ⟨Aa, ca, rfl⟩ := own_slice hEa
  rw [hN] at hEa ⊢
  have HEA := Lib.hid hEa
  clear hEa hX0
  go_wp2_with fail
  clear c0 c1 c2 c3
  refine (echoesR_any A n c l ⟨lv, dr, st, de⟩ _ (H.out.ext hX1)).mono ?_
  rw [HEF.out]
  rintro e w2 ⟨vb, rfl, hEb, hX⟩
  simp only at hEb ⊢
  replace hX1 := hX1.trans hX
  replace hB1 := hB1.ext hX
  replace HEA := Lib.hid (HEA.out.ext hX)
  clear hX
  generalize w1.heap.size = b2 at hEb
  obtain ⟨Ab, cb, rfl⟩ := own_slice hEb
  rw [hN] at hEb ⊢
  have c0 := hB1.cell 0
  have c1 := hB1.cell 1
  have c2 := hB1.cell 2
  have c3 := hB1.cell 3
  simp only [List.getElem?_toArray, List.getElem?_cons_zero, List.getElem?_cons_succ] at c0 c1 c2 c3
  have HX := Lib.hid hX1
  clear hX1 hB1 hN
  go_upto_region 5 with (fail)
  refine lawE_r5 w.heap.size N ca cb b1 b2 Aa Ab lv dr st de er bo es w2 c0 c1 c2 c3 HBO HEA.out hEb HN.out (by rw [← HN.out]; exact hlen) _ _ (by simp) rfl rfl rfl rfl rfl ?_
  rintro xv0 xv1 xv2 xv3 xv4 xv5 xv6 xv7 xv8 xv9 xv10 xv11 xv12 xv13 xv14 xv15 xv16 xv17 xv18 W rfl rfl rfl rfl rfl rfl rfl rfl rfl rfl rfl rfl rfl rfl rfl rfl rfl rfl rfl hXW
  simp only [rops, Try.f4, regOf, Option.bind_some, Nat.reduceBEq, if_true, if_false, Bool.false_eq_true, Option.getD_some, List.drop_succ_cons, List.drop_zero]
  simp only [Act.put, List.setIfInBounds_toArray, List.set_cons_succ, List.set_cons_zero]
  replace HX := Lib.hid (HX.out.trans hXW)
  clear hXW c0 c1 c2 c3 hEb
  go_wp2
  go_ret
  exact ⟨rfl, HX.out⟩

end Go.Proofs.Ytagcgldhhdecjaa
