/- Lemmas of the proof that follows (Back, part 4): walks of functions by contract, and plain lemmas. Conditions: none. -/
import Derived.Test.YtagcgldhhdecjaaBackC
namespace Go.Proofs.Ytagcgldhhdecjaa
open Go.RowKit

theorem dropP_get {ss : List (Int × Int)} {i : Nat} {s : Int × Int} (h : ss[i]? = some s) : ss.drop i = s :: ss.drop (i + 1) := by
  obtain ⟨hi, rfl⟩ := List.getElem?_eq_some_iff.1 h
  rw [List.drop_eq_getElem_cons hi]
set_option maxRecDepth 100000 in
set_option maxHeartbeats 3000000 in
theorem rebP_any (A : Option Addr) (n c : Nat) (ss : List (Int × Int)) (w : World) (h : StR w A n ss) (hn : n ≤ 1000) (hcs : ∀ s ∈ ss, s.2 ≤ 9223372036854775807) :
    Calls Try.prog 43 #[.slice A n c] w (RetIn w (rebO ss)) := by
  have H := Lib.hid h
  have HCS := Lib.hid hcs
  have REQ : Hid (rebO ss = match rebF ss none [] with | none => ([], 4) | some l => (l, 0)) := Lib.hid (by unfold rebO; rfl)
  clear h hcs
  go_enter Try.func43, Try.ntmps43
  go_wp2_with fail
  go_loopg [4, 5, 10] n (fun f ov lv iv wr => ∃ (k : Nat) (acc : List Int) (pv : Option Int) (la : Int), f = n - k ∧ k ≤ n ∧ iv = .int .i64 (k : Int) ∧ lv = .int .i64 la ∧ 0 ≤ la ∧ la ≤ 1023 ∧ Hid (acc.getLastD 0 = la) ∧ Hid (Smp acc) ∧ Hid (rebF ss none [] = rebF (ss.drop k) pv acc) ∧ Hid (k = 0 → pv = none) ∧ Hid (∀ s, 0 < k → ss[k - 1]? = some s → pv = some s.1) ∧ Hid (IntL w.heap.size wr ov acc) ∧ Hid (Ext w wr))
  case atStart => exact ⟨0, [], none, 0, rfl, by omega, rfl, rfl, by omega, by omega, Lib.hid rfl, Lib.hid (by decide), Lib.hid rfl, Lib.hid (fun _ => rfl), Lib.hid (fun s h => absurd h (by omega)), Lib.hid (IntL.nil _ _), Lib.hid (Ext.refl _)⟩
  case round =>
    obtain ⟨k, acc, pv, la, rfl, hk, rfl, rfl, hla1, hla2, HLA, HSA, HRB, HP0, HPV, HO, HX⟩ := hrel
    obtain ⟨A1, c1, hso, hown⟩ := HO.out
    obtain ⟨az, haz⟩ : ∃ az, acc.length = az := ⟨_, rfl⟩
    rw [haz] at hso hown
    subst hso
    have haz2 := HSA.out.1
    rw [haz] at haz2
    have HAZ := Lib.hid haz
    clear haz hown
    by_cases hlt : k < n
    · obtain ⟨b, off, ⟨d, c⟩, rfl, hsk, s0, s1⟩ := (H.out.ext HX.out).get hlt
      simp only at s0 s1
      have hcb := HCS.out (d, c) (List.mem_of_getElem? hsk)
      simp only at hcb
      have hbw : b < wr.heap.size := World.block_lt_of_cell? _ _ s0
      by_cases hk0 : k = 0
      · subst hk0
        simp only [Nat.zero_mul, Nat.add_zero] at s0 s1
        go_upto_region 6 with (fail)
        have hS := Blk.new wr 94 #[.int .i64 d, .int .i64 c]
        replace HX := Lib.hid (HX.out.alloc (.cells #[.int .i64 d, .int .i64 c] 94))
        replace HO := Lib.hid (HO.out.ext ((Ext.refl wr).alloc (.cells #[.int .i64 d, .int .i64 c] 94)))
        clear s0 s1
        generalize wr.heap.size = gs at hS ⊢
        generalize wr.alloc (.cells #[.int .i64 d, .int .i64 c] 94) = wr at hS HX HO ⊢
        have e0 := hS.cell 0
        have e1 := hS.cell 1
        simp only [List.getElem?_toArray, List.getElem?_cons_zero, List.getElem?_cons_succ] at e0 e1
        have HDR : Hid (ss.drop (0) = (d, c) :: ss.drop (0 + 1)) := Lib.hid (dropP_get hsk)
        by_cases hc1 : c < 1
        · have HB : Hid (rebO ss = ([], 4)) := Lib.hid (by rw [REQ.out, HRB.out, HDR.out, rebF, if_pos (.inl hc1)])
          have qc1 : decide (c < 1) = true := decide_eq_true hc1
          clear hsk
          go_wp2_with fail
          go_region
          go_wp2
          go_ret2
          exact ⟨_, by rw [HB.out]; rfl, by rw [HB.out]; exact IntL.nil _ _, HX.out.drew⟩
        have qc1 : decide (c < 1) = false := decide_eq_false hc1
        by_cases hc2 : 256 - (az : Int) < c
        · have HB : Hid (rebO ss = ([], 4)) := Lib.hid (by rw [REQ.out, HRB.out, HDR.out, rebF, if_pos (.inr (.inl (by rw [HAZ.out]; exact hc2)))])
          have qc2 : decide (256 - (az : Int) < c) = true := decide_eq_true hc2
          clear hsk
          go_wp2_with fail
          go_region
          go_wp2
          go_ret2
          exact ⟨_, by rw [HB.out]; rfl, by rw [HB.out]; exact IntL.nil _ _, HX.out.drew⟩
        have qc2 : decide (256 - (az : Int) < c) = false := decide_eq_false hc2
        have hpv : ¬ pv = some d := by rw [HP0.out rfl]; simp
        obtain ⟨cn, rfl⟩ : ∃ x : Nat, c = x := ⟨c.toNat, by omega⟩
        have HRBX : Hid (rebF ss none [] = match addN d cn acc with | none => none | some acc' => rebF (ss.drop (0 + 1)) (some d) acc') := Lib.hid (by rw [HRB.out, HDR.out, rebF, if_neg (by rintro (h | h | h); exact hc1 h; rw [HAZ.out] at h; exact hc2 h; exact hpv h), Int.toNat_natCast]; try rfl)
        have HSK := Lib.hid hsk
        clear hsk hpv
        go_wp2_with fail
        go_region
        go_upto_region 8 with (fail)
        have hX8 := (Ext.refl wr).drew
        replace HX := Lib.hid HX.out.drew
        replace HO := Lib.hid (HO.out.ext hX8)
        have HS := Lib.hid hS.drew
        clear hX8 e0 e1 hS
        generalize wr.drew = wr at HX HO HS ⊢
        have e1 := HS.out.cell 1
        simp only [List.getElem?_toArray, List.getElem?_cons_zero, List.getElem?_cons_succ] at e1
        go_upto_region 9 with (fail)
        go_wp2_with fail
        go_loopg [4, 5, 43] cn (fun f2 ov2 lw jv wr2 => ∃ (j : Nat) (acc2 : List Int) (lb : Int) (oz : Nat), f2 = cn - j ∧ j ≤ cn ∧ jv = .int .i64 (j : Int) ∧ lw = .int .i64 lb ∧ 0 ≤ lb ∧ lb ≤ 1023 ∧ Hid (acc2.getLastD 0 = lb) ∧ Hid (Smp acc2) ∧ Hid (acc2.length = oz) ∧ oz + (cn - j) ≤ 256 ∧ oz ≤ 256 ∧ Hid (addN d cn acc = addN d (cn - j) acc2) ∧ Hid (IntL w.heap.size wr2 ov2 acc2) ∧ Hid (Blk wr2 gs 94 #[.int .i64 d, .int .i64 (cn : Int)]) ∧ Hid (Ext w wr2))
        case atStart => exact ⟨0, acc, la, az, rfl, by omega, rfl, rfl, hla1, hla2, HLA, HSA, HAZ, by omega, by omega, Lib.hid rfl, HO, HS, HX⟩
        case round =>
          clear HX HO HS HLA HSA HAZ
          obtain ⟨j, acc2, lb, oz, rfl, hj, rfl, rfl, hlb1, hlb2, HLB, HSA, HOZ, hoj, hoz2, HAD, HO, HS, HX⟩ := hrel
          obtain ⟨A2, c2, hso, hown⟩ := HO.out
          rw [HOZ.out] at hso hown
          subst hso
          have y0c := HS.out.cell 0
          have y1c := HS.out.cell 1
          simp only [List.getElem?_toArray, List.getElem?_cons_zero, List.getElem?_cons_succ] at y0c y1c
          by_cases hjc : j < cn
          · by_cases hin : 0 ≤ lb + d ∧ lb + d ≤ 1023
            · obtain ⟨hin1, hin2⟩ := hin
              have HN : Hid (addN d (cn - j) acc2 = addN d (cn - (j + 1)) (acc2 ++ [lb + d])) := Lib.hid (by rw [show cn - j = cn - (j + 1) + 1 by omega, addN, HLB.out, if_pos ⟨hin1, hin2⟩])
              have hown' := hown.own
              have hsz := HX.out.size
              have hml : (acc2.map (Value.int .i64)).length = oz := by rw [List.length_map, HOZ.out]
              have hgs := HS.out
              go_wp2_with (at_builtin; refine wpList_app _ elN rfl _ _ rfl w.heap.size (.slice A2 oz c2) oz (acc2.map (Value.int .i64)) rfl (hown'.alloc _) _ 1 1 [.int .i64 (lb + d)] rfl rfl (At.new' _ [_] _ rfl) (by simp [Value.oneCell']) (by omega) (by unfold maxLen; omega) (by simp; omega) ?_; intro v5 w5 hown5 hgr5 _; have HX5 := Lib.hid (HX.out.push hown' hgr5); have HS5 := Lib.hid ((hgs.alloc _).grown hgr5 (fun e => by exact NoRow.of_own (tb := 94) hown' e.symm (by decide) _ _ hgs)); have HOW5 := Lib.hid hown5; clear hown5 hgr5)
              go_roundg (cn - (j + 1))
              case rel =>
                refine ⟨j + 1, acc2 ++ [lb + d], lb + d, oz + 1, rfl, by omega, by go_num, rfl, hin1, hin2, Lib.hid (by simp), Lib.hid ?_, Lib.hid (by rw [List.length_append, HOZ.out]; rfl), by omega, by omega, Lib.hid (by rw [HAD.out, HN.out]), Lib.hid ?_, HS5, HX5⟩
                · exact ⟨by rw [List.length_append, HOZ.out]; simp only [List.length_cons, List.length_nil]; omega, fun x hx => by
                    rcases List.mem_append.1 hx with hx | hx
                    · exact HSA.out.2 x hx
                    · simp at hx; subst hx; exact ⟨hin1, hin2⟩⟩
                · have ho := HOW5.out
                  obtain ⟨A3, c3, rfl⟩ := own_slice ho
                  have hl : (acc2 ++ [lb + d]).length = oz + 1 := by rw [List.length_append, HOZ.out]; rfl
                  refine ⟨A3, c3, by rw [hl], ?_⟩
                  rw [hl]
                  refine ⟨?_, hl, ?_⟩
                  · rw [List.map_append]; exact ho
                  · intro z hz
                    have : 0 ≤ z ∧ z ≤ 1023 := by
                      rcases List.mem_append.1 hz with hz | hz
                      · exact HSA.out.2 z hz
                      · simp at hz; subst hz; exact ⟨hin1, hin2⟩
                    exact i64_wf (by omega)
              case measure => omega
            · have hN0 : addN d cn acc = none := by rw [HAD.out, show cn - j = cn - (j + 1) + 1 by omega, addN, HLB.out, if_neg hin]
              have HB : Hid (rebO ss = ([], 4)) := Lib.hid (by rw [REQ.out, HRBX.out, hN0])
              clear hN0
              by_cases hlo : d < -lb
              · go_wp2
                go_ret2
                exact ⟨_, by rw [HB.out]; rfl, by rw [HB.out]; exact IntL.nil _ _, HX.out⟩
              · have hhi : 1023 - lb < d := by omega
                clear hin
                go_wp2
                go_ret2
                exact ⟨_, by rw [HB.out]; rfl, by rw [HB.out]; exact IntL.nil _ _, HX.out⟩
          · obtain rfl : j = cn := by omega
            have HN : Hid (addN d j acc = some acc2) := Lib.hid (by rw [HAD.out, Nat.sub_self]; rfl)
            have HR3 : Hid (rebF ss none [] = rebF (ss.drop (0 + 1)) (some d) acc2) := Lib.hid (by rw [HRBX.out, HN.out])
            clear hown
            go_wp2
            go_roundg (n - (0 + 1))
            case rel => exact ⟨0 + 1, acc2, some d, lb, rfl, by omega, by go_num, rfl, hlb1, hlb2, HLB, HSA, HR3, Lib.hid (by omega), Lib.hid (fun s _ hs => by rw [Nat.add_sub_cancel, HSK.out] at hs; injection hs with hs; subst hs; rfl), HO, HX⟩
            case measure => omega
      · obtain ⟨k0, rfl⟩ : ∃ k0, k = k0 + 1 := ⟨k - 1, by omega⟩
        obtain ⟨b', off', ⟨pd, pc⟩, e, hpk, hpc, _⟩ := (H.out.ext HX.out).get (j := k0) (by omega)
        injection e with e
        injection e with e1 e2
        subst e1 e2
        simp only at hpc
        replace hpc := (Ext.refl wr).alloc (.cells #[.int .i64 d, .int .i64 c] 94) |>.cell hpc
        go_upto_region 6 with (fail)
        have hS := Blk.new wr 94 #[.int .i64 d, .int .i64 c]
        replace HX := Lib.hid (HX.out.alloc (.cells #[.int .i64 d, .int .i64 c] 94))
        replace HO := Lib.hid (HO.out.ext ((Ext.refl wr).alloc (.cells #[.int .i64 d, .int .i64 c] 94)))
        clear s0 s1
        generalize wr.heap.size = gs at hS ⊢
        generalize wr.alloc (.cells #[.int .i64 d, .int .i64 c] 94) = wr at hS HX HO hpc ⊢
        have e0 := hS.cell 0
        have e1 := hS.cell 1
        simp only [List.getElem?_toArray, List.getElem?_cons_zero, List.getElem?_cons_succ] at e0 e1
        have HDR : Hid (ss.drop (k0 + 1) = (d, c) :: ss.drop (k0 + 1 + 1)) := Lib.hid (dropP_get hsk)
        by_cases hc1 : c < 1
        · have HB : Hid (rebO ss = ([], 4)) := Lib.hid (by rw [REQ.out, HRB.out, HDR.out, rebF, if_pos (.inl hc1)])
          have qc1 : decide (c < 1) = true := decide_eq_true hc1
          clear hsk
          go_wp2_with fail
          go_region
          go_wp2
          go_ret2
          exact ⟨_, by rw [HB.out]; rfl, by rw [HB.out]; exact IntL.nil _ _, HX.out.drew⟩
        have qc1 : decide (c < 1) = false := decide_eq_false hc1
        have qk : decide ((0 : Int) < (k0 : Int) + 1) = true := decide_eq_true (by omega)
        by_cases hc2 : 256 - (az : Int) < c
        · have HB : Hid (rebO ss = ([], 4)) := Lib.hid (by rw [REQ.out, HRB.out, HDR.out, rebF, if_pos (.inr (.inl (by rw [HAZ.out]; exact hc2)))])
          have qc2 : decide (256 - (az : Int) < c) = true := decide_eq_true hc2
          clear hsk
          go_wp2_with fail
          go_region
          go_wp2
          go_ret2
          exact ⟨_, by rw [HB.out]; rfl, by rw [HB.out]; exact IntL.nil _ _, HX.out.drew⟩
        have qc2 : decide (256 - (az : Int) < c) = false := decide_eq_false hc2
        by_cases hpd : pd = d
        · have HB : Hid (rebO ss = ([], 4)) := Lib.hid (by rw [REQ.out, HRB.out, HDR.out, rebF, if_pos (.inr (.inr (by rw [HPV.out _ (by omega) hpk, hpd])))])
          have qd : (pd == d) = true := by simpa using hpd
          clear hsk hpk
          go_wp2_with fail
          go_region
          go_wp2
          go_ret2
          exact ⟨_, by rw [HB.out]; rfl, by rw [HB.out]; exact IntL.nil _ _, HX.out.drew⟩
        have hpv : ¬ pv = some d := by rw [HPV.out _ (by omega) hpk]; simpa using hpd
        have qd : (pd == d) = false := by simpa using hpd
        obtain ⟨cn, rfl⟩ : ∃ x : Nat, c = x := ⟨c.toNat, by omega⟩
        have HRBX : Hid (rebF ss none [] = match addN d cn acc with | none => none | some acc' => rebF (ss.drop (k0 + 1 + 1)) (some d) acc') := Lib.hid (by rw [HRB.out, HDR.out, rebF, if_neg (by rintro (h | h | h); exact hc1 h; rw [HAZ.out] at h; exact hc2 h; exact hpv h), Int.toNat_natCast]; try rfl)
        have HSK := Lib.hid hsk
        clear hsk hpv hpk hpd
        go_wp2_with fail
        go_region
        go_upto_region 8 with (fail)
        have hX8 := (Ext.refl wr).drew
        replace HX := Lib.hid HX.out.drew
        replace HO := Lib.hid (HO.out.ext hX8)
        have HS := Lib.hid hS.drew
        clear hX8 e0 e1 hpc hS
        generalize wr.drew = wr at HX HO HS ⊢
        have e1 := HS.out.cell 1
        simp only [List.getElem?_toArray, List.getElem?_cons_zero, List.getElem?_cons_succ] at e1
        go_upto_region 9 with (fail)
        go_wp2_with fail
        go_loopg [4, 5, 43] cn (fun f2 ov2 lw jv wr2 => ∃ (j : Nat) (acc2 : List Int) (lb : Int) (oz : Nat), f2 = cn - j ∧ j ≤ cn ∧ jv = .int .i64 (j : Int) ∧ lw = .int .i64 lb ∧ 0 ≤ lb ∧ lb ≤ 1023 ∧ Hid (acc2.getLastD 0 = lb) ∧ Hid (Smp acc2) ∧ Hid (acc2.length = oz) ∧ oz + (cn - j) ≤ 256 ∧ oz ≤ 256 ∧ Hid (addN d cn acc = addN d (cn - j) acc2) ∧ Hid (IntL w.heap.size wr2 ov2 acc2) ∧ Hid (Blk wr2 gs 94 #[.int .i64 d, .int .i64 (cn : Int)]) ∧ Hid (Ext w wr2))
        case atStart => exact ⟨0, acc, la, az, rfl, by omega, rfl, rfl, hla1, hla2, HLA, HSA, HAZ, by omega, by omega, Lib.hid rfl, HO, HS, HX⟩
        case round =>
          clear HX HO HS HLA HSA HAZ
          obtain ⟨j, acc2, lb, oz, rfl, hj, rfl, rfl, hlb1, hlb2, HLB, HSA, HOZ, hoj, hoz2, HAD, HO, HS, HX⟩ := hrel
          obtain ⟨A2, c2, hso, hown⟩ := HO.out
          rw [HOZ.out] at hso hown
          subst hso
          have y0c := HS.out.cell 0
          have y1c := HS.out.cell 1
          simp only [List.getElem?_toArray, List.getElem?_cons_zero, List.getElem?_cons_succ] at y0c y1c
          by_cases hjc : j < cn
          · by_cases hin : 0 ≤ lb + d ∧ lb + d ≤ 1023
            · obtain ⟨hin1, hin2⟩ := hin
              have HN : Hid (addN d (cn - j) acc2 = addN d (cn - (j + 1)) (acc2 ++ [lb + d])) := Lib.hid (by rw [show cn - j = cn - (j + 1) + 1 by omega, addN, HLB.out, if_pos ⟨hin1, hin2⟩])
              have hown' := hown.own
              have hsz := HX.out.size
              have hml : (acc2.map (Value.int .i64)).length = oz := by rw [List.length_map, HOZ.out]
              have hgs := HS.out
              go_wp2_with (at_builtin; refine wpList_app _ elN rfl _ _ rfl w.heap.size (.slice A2 oz c2) oz (acc2.map (Value.int .i64)) rfl (hown'.alloc _) _ 1 1 [.int .i64 (lb + d)] rfl rfl (At.new' _ [_] _ rfl) (by simp [Value.oneCell']) (by omega) (by unfold maxLen; omega) (by simp; omega) ?_; intro v5 w5 hown5 hgr5 _; have HX5 := Lib.hid (HX.out.push hown' hgr5); have HS5 := Lib.hid ((hgs.alloc _).grown hgr5 (fun e => by exact NoRow.of_own (tb := 94) hown' e.symm (by decide) _ _ hgs)); have HOW5 := Lib.hid hown5; clear hown5 hgr5)
              go_roundg (cn - (j + 1))
              case rel =>
                refine ⟨j + 1, acc2 ++ [lb + d], lb + d, oz + 1, rfl, by omega, by go_num, rfl, hin1, hin2, Lib.hid (by simp), Lib.hid ?_, Lib.hid (by rw [List.length_append, HOZ.out]; rfl), by omega, by omega, Lib.hid (by rw [HAD.out, HN.out]), Lib.hid ?_, HS5, HX5⟩
                · exact ⟨by rw [List.length_append, HOZ.out]; simp only [List.length_cons, List.length_nil]; omega, fun x hx => by
                    rcases List.mem_append.1 hx with hx | hx
                    · exact HSA.out.2 x hx
                    · simp at hx; subst hx; exact ⟨hin1, hin2⟩⟩
                · have ho := HOW5.out
                  obtain ⟨A3, c3, rfl⟩ := own_slice ho
                  have hl : (acc2 ++ [lb + d]).length = oz + 1 := by rw [List.length_append, HOZ.out]; rfl
                  refine ⟨A3, c3, by rw [hl], ?_⟩
                  rw [hl]
                  refine ⟨?_, hl, ?_⟩
                  · rw [List.map_append]; exact ho
                  · intro z hz
                    have : 0 ≤ z ∧ z ≤ 1023 := by
                      rcases List.mem_append.1 hz with hz | hz
                      · exact HSA.out.2 z hz
                      · simp at hz; subst hz; exact ⟨hin1, hin2⟩
                    exact i64_wf (by omega)
              case measure => omega
            · have hN0 : addN d cn acc = none := by rw [HAD.out, show cn - j = cn - (j + 1) + 1 by omega, addN, HLB.out, if_neg hin]
              have HB : Hid (rebO ss = ([], 4)) := Lib.hid (by rw [REQ.out, HRBX.out, hN0])
              clear hN0
              by_cases hlo : d < -lb
              · go_wp2
                go_ret2
                exact ⟨_, by rw [HB.out]; rfl, by rw [HB.out]; exact IntL.nil _ _, HX.out⟩
              · have hhi : 1023 - lb < d := by omega
                clear hin
                go_wp2
                go_ret2
                exact ⟨_, by rw [HB.out]; rfl, by rw [HB.out]; exact IntL.nil _ _, HX.out⟩
          · obtain rfl : j = cn := by omega
            have HN : Hid (addN d j acc = some acc2) := Lib.hid (by rw [HAD.out, Nat.sub_self]; rfl)
            have HR3 : Hid (rebF ss none [] = rebF (ss.drop (k0 + 1 + 1)) (some d) acc2) := Lib.hid (by rw [HRBX.out, HN.out])
            clear hown
            go_wp2
            go_roundg (n - (k0 + 1 + 1))
            case rel => exact ⟨k0 + 1 + 1, acc2, some d, lb, rfl, by omega, by go_num, rfl, hlb1, hlb2, HLB, HSA, HR3, Lib.hid (by omega), Lib.hid (fun s _ hs => by rw [Nat.add_sub_cancel, HSK.out] at hs; injection hs with hs; subst hs; rfl), HO, HX⟩
            case measure => omega
    · obtain rfl : k = n := by omega
      have HB : Hid (rebO ss = (acc, 0)) := Lib.hid (by
        rw [REQ.out, HRB.out, List.drop_of_length_le (by have := H.out.1; omega)]
        rfl)
      go_wp2
      go_ret2
      exact ⟨.slice A1 az c1, by rw [HB.out]; rfl, by rw [HB.out]; exact HO.out, HX.out⟩
end Go.Proofs.Ytagcgldhhdecjaa
namespace Go.Proofs.Ytagcgldhhdecjaa
open Go.RowKit

/-- Reads k signed numbers. -/
def rdQs : Nat → List Int → List Int → Option (List Int × List Int)
  | 0, b, qs => some (qs, b)
  | k + 1, b, qs => match takeS b with
    | none => none
    | some (q, b) => rdQs k b (qs ++ [q])
theorem headD_eq (mid : Int → Int → Int → Int → Int → List Int → Option Pul) (b : List Int) : headD mid b = match takeN b with
    | none => none
    | some (t, b) => match rdQs 4 b [] with
      | none => none
      | some (qs, b) => mid t (qs.getD 0 0) (qs.getD 1 0) (qs.getD 2 0) (qs.getD 3 0) b := by
  unfold headD
  cases takeN b with
  | none => rfl
  | some x =>
    obtain ⟨t, b⟩ := x
    simp only [rdQs]
    cases takeS b with
    | none => rfl
    | some x =>
      obtain ⟨q, b⟩ := x
      simp only
      cases takeS b with
      | none => rfl
      | some x =>
        obtain ⟨q, b⟩ := x
        simp only
        cases takeS b with
        | none => rfl
        | some x =>
          obtain ⟨q, b⟩ := x
          simp only
          cases takeS b with
          | none => rfl
          | some x =>
            obtain ⟨q, b⟩ := x
            rfl
theorem rdQs_no {k : Nat} {b qs : List Int} (h : takeS b = none) : rdQs (k + 1) b qs = none := by simp [rdQs, h]
theorem rdQs_yes {k : Nat} {b qs r : List Int} {q : Int} (h : takeS b = some (q, r)) : rdQs (k + 1) b qs = rdQs k r (qs ++ [q]) := by simp [rdQs, h]
theorem takeN_range {b r : List Int} {v : Int} (h : takeN b = some (v, r)) : 0 ≤ v ∧ v ≤ 4611686018427387903 := by
  unfold takeN at h
  split at h
  · injection h with h
    injection h with h1 h2
    subst h1
    exact ⟨(rd_range b).1, (rd_range b).2.1⟩
  · cases h
theorem rdSteps_step {k : Nat} {b r r2 : List Int} {acc : List (Int × Int)} {d c : Int} (h1 : takeS b = some (d, r)) (h2 : takeN r = some (c, r2)) : rdSteps (k + 1) b acc = rdSteps k r2 (acc ++ [(d, c + 1)]) := by
  simp [rdSteps, h1, h2]
theorem rdSteps_no1 {k : Nat} {b : List Int} {acc : List (Int × Int)} (h1 : takeS b = none) : rdSteps (k + 1) b acc = none := by simp [rdSteps, h1]
theorem rdSteps_no2 {k : Nat} {b r : List Int} {acc : List (Int × Int)} {d : Int} (h1 : takeS b = some (d, r)) (h2 : takeN r = none) : rdSteps (k + 1) b acc = none := by
  simp [rdSteps, h1, h2]
/-- The cells of a pulse under way. -/
def puV (t : Int) (qs : List Int) (v : Value) : Array Value := #[.int .i64 t, .int .i64 (qs.getD 0 0), .int .i64 (qs.getD 1 0), .int .i64 (qs.getD 2 0), .int .i64 (qs.getD 3 0), v]
theorem puV_put {t q : Int} {qs : List Int} {v : Value} {k : Nat} (hl : qs.length = k) (hk : k < 4) : (puV t qs v).setIfInBounds (1 + k) (.int .i64 q) = puV t (qs ++ [q]) v := by
  unfold puV
  have h : k = 0 ∨ k = 1 ∨ k = 2 ∨ k = 3 := by omega
  match qs, hl with
  | [], hl => obtain rfl : k = 0 := by simpa using hl.symm
              rfl
  | [a], hl => obtain rfl : k = 1 := by simpa using hl.symm
               rfl
  | [a, b], hl => obtain rfl : k = 2 := by simpa using hl.symm
                  rfl
  | [a, b, c], hl => obtain rfl : k = 3 := by simpa using hl.symm
                     rfl
  | a :: b :: c :: d :: r, hl => simp at hl; omega
/-- What pulse leaves. -/
def RetPl (w : World) (g : Nat) (r : Option Pul) (e : Ending) (w' : World) : Prop := Keeps [g] w w' ∧ match r with
  | none => e = .panicked malP
  | some q => ∃ (A : Option Addr) (n c : Nat), e = .returned (q.val A n c) ∧ OwnS .i64 3 0 w' A n c q.smp

/-- What is left to do behind the four numbers of Scan. -/
def afterQ (t : Int) (r : Option (List Int × List Int)) : Option Pul := match r with
  | none => none
  | some (qs, b) => midD rdSteps t (qs.getD 0 0) (qs.getD 1 0) (qs.getD 2 0) (qs.getD 3 0) b
theorem decF_none {b : List Int} (h : takeN b = none) : decF b = none := by unfold decF; rw [headD_eq, h]
theorem decF_some {b r : List Int} {t : Int} (h : takeN b = some (t, r)) : decF b = afterQ t (rdQs 4 r []) := by
  unfold decF afterQ
  rw [headD_eq, h]
theorem midD_none {t q0 q1 q2 q3 : Int} {b : List Int} (h : takeN b = none) : midD rdSteps t q0 q1 q2 q3 b = none := by unfold midD; rw [h]
theorem midD_big {t q0 q1 q2 q3 m : Int} {b r : List Int} (h : takeN b = some (m, r)) (hm : 256 < m) : midD rdSteps t q0 q1 q2 q3 b = none := by unfold midD; rw [h]; simp only; rw [if_pos hm]
theorem midD_some {t q0 q1 q2 q3 : Int} {m : Nat} {b r : List Int} (h : takeN b = some ((m : Int), r)) (hm : m ≤ 256) : midD rdSteps t q0 q1 q2 q3 b = endD t q0 q1 q2 q3 (rdSteps m r []) := by
  unfold midD; rw [h]; simp only; rw [if_neg (by omega), Int.toNat_natCast]
theorem endD_no {t q0 q1 q2 q3 : Int} {ss : List (Int × Int)} {b : List Int} (h : b ≠ [] ∨ (rebO ss).2 ≠ 0 ∨ ¬ PulOk ⟨t, q0, q1, q2, q3, (rebO ss).1⟩) : endD t q0 q1 q2 q3 (some (ss, b)) = none := by
  unfold endD
  simp only
  unfold rebO at h
  cases hr : rebF ss none [] with
  | none => rfl
  | some l =>
    rw [hr] at h
    simp only at h ⊢
    rw [if_neg]
    rintro ⟨h1, h2⟩
    rcases h with h | h | h
    · exact h h1
    · exact h rfl
    · exact h h2
theorem endD_yes {t q0 q1 q2 q3 : Int} {ss : List (Int × Int)} (h1 : (rebO ss).2 = 0) (h2 : PulOk ⟨t, q0, q1, q2, q3, (rebO ss).1⟩) : endD t q0 q1 q2 q3 (some (ss, [])) = some ⟨t, q0, q1, q2, q3, (rebO ss).1⟩ := by
  unfold endD
  simp only
  unfold rebO at h1 h2 ⊢
  cases hr : rebF ss none [] with
  | none => rw [hr] at h1; simp at h1
  | some l =>
    rw [hr] at h1 h2
    simp only at h1 h2 ⊢
    rw [if_pos ⟨trivial, h2⟩]
theorem rebO_small (ss : List (Int × Int)) : (rebO ss).1.length ≤ 256 := by
  unfold rebO
  cases hr : rebF ss none [] with
  | none => simp
  | some l => exact (rebF_some hr ⟨by simp, by simp⟩).2.2.1.1


set_option maxRecDepth 100000 in
set_option maxHeartbeats 16000000 in
theorem pulse_any (g n c : Nat) (A : Option Addr) (bs : List Int) (w : World) (hB : Blk w g 112 #[.slice A n c]) (hI : Ints .u8 w A n bs) (hn : n ≤ 1000000) (hc : n ≤ c) :
    Calls Try.prog 79 #[.pointer (some ⟨g, 0, none⟩)] w (RetPl w g (decF bs)) := by
  have hg := hB.lt
  have hX0 := (Ext.refl w).alloc (.cells (puV 0 [] (.slice none 0 0)) 71)
  have hR0 := Blk.new w 71 (puV 0 [] (.slice none 0 0))
  have HB := Lib.hid (hB.ext hX0)
  have HB0 := Lib.hid hB
  have HI := Lib.hid hI
  have HK := Lib.hid (Keeps.of_ext hX0 [g])
  have hgw : w.heap.size ≠ g := by omega
  clear hB hI hX0
  obtain ⟨gr, hgr⟩ : ∃ x, w.heap.size = x := ⟨_, rfl⟩
  rw [hgr] at hR0
  have HR := Lib.hid hR0
  clear hR0
  go_enter Try.func79, Try.ntmps79
  go_wp2_with fail
  rw [hgr] at hg hgw
  have hrg : gr ≠ g := hgw
  have hge : w.heap.size ≤ gr := by omega
  clear hgr hgw
  by_cases hd1 : takeN bs = none
  · refine (takeN_no g n c A bs _ HB.out (HI.out.keepsS HB0.out HK.out) hn hd1).mono ?_
    rintro e _ ⟨rfl, rfl⟩
    go_wp2
    exact ⟨rfl, HK.out, by rw [decF_none hd1]⟩
  obtain ⟨⟨t, b1⟩, hd1⟩ := Option.ne_none_iff_exists'.1 hd1
  refine (takeN_yes g n c A bs t b1 _ HB.out (HI.out.keepsS HB0.out HK.out) hn hc hd1).mono ?_
  rintro e w2 ⟨rfl, A2, n2, c2, hB2, hI2, hn2, hc2, hK2⟩
  have HD := Lib.hid (decF_some hd1)
  replace HI := Lib.hid (hI2 _ HI.out)
  replace HB := Lib.hid hB2
  replace HR := Lib.hid (HR.out.keeps hK2 (by simpa using hrg))
  replace HK := Lib.hid (HK.out.trans hK2)
  replace hn : n2 ≤ 1000000 := by omega
  have hsz := HK.out.size
  have hrlt := HR.out.lt
  clear hB2 hI2 hK2 hd1 hn2 hc
  go_upto_region 2 with (fail)
  have hP := Blk.new w2 71 #[.int .i64 t, .int .i64 0, .int .i64 0, .int .i64 0, .int .i64 0, (.slice none 0 0)]
  have hX2 := (Ext.refl w2).alloc (.cells #[.int .i64 t, .int .i64 0, .int .i64 0, .int .i64 0, .int .i64 0, (.slice none 0 0)] 71)
  replace HB := Lib.hid (HB.out.ext hX2)
  replace HR := Lib.hid (HR.out.ext hX2)
  replace HK := Lib.hid (HK.out.trans (Keeps.of_ext hX2 [g]))
  generalize w2.alloc (.cells #[.int .i64 t, .int .i64 0, .int .i64 0, .int .i64 0, .int .i64 0, (.slice none 0 0)] 71) = w3 at HB HR HK hP ⊢
  clear hX2
  generalize w2.heap.size = gp at hP hrlt hsz ⊢
  have HP : Hid (Blk w3 gp 71 (puV t [] (.slice none 0 0))) := Lib.hid hP
  clear hP
  have hpg : gp ≠ g := by omega
  have hpr : gp ≠ gr := by omega
  have hge2 : w.heap.size ≤ gp := by omega
  go_wp2_with fail
  go_loopg [14] 4 (fun f iv W => ∃ (k : Nat) (qs b : List Int) (A' : Option Addr) (n' c' : Nat), f = 4 - k ∧ k ≤ 4 ∧ iv = .int .i64 (k : Int) ∧ n' ≤ 1000000 ∧ n' ≤ c' ∧ Hid (qs.length = k) ∧ Hid (decF bs = afterQ t (rdQs (4 - k) b qs)) ∧ Hid (Blk W g 112 #[.slice A' n' c']) ∧ Hid (Ints .u8 w A' n' b) ∧ Hid (Blk W gr 71 (puV 0 [] (.slice none 0 0))) ∧ Hid (Blk W gp 71 (puV t qs (.slice none 0 0))) ∧ Hid (Keeps [g] w W))
  case atStart => exact ⟨0, [], b1, A2, n2, c2, rfl, by omega, rfl, hn, hc2, Lib.hid rfl, HD, HB, HI, HR, HP, HK⟩
  case round =>
    clear HB HI HR HP HK HD hn hc2
    obtain ⟨k, qs, b, A3, n3, c3, rfl, hk, rfl, hn, hc, HQ, HD, HB, HI, HR, HP, HK⟩ := hrel
    by_cases hlt : k < 4
    · have e4 : 4 - k = 4 - (k + 1) + 1 := by omega
      obtain ⟨u, hu⟩ : ∃ u, (puV t qs (.slice none 0 0))[1 + k]? = some u := ⟨_, Array.getElem?_eq_getElem (by unfold puV; simp; omega)⟩
      by_cases hd : takeS b = none
      · go_wp2_with fail
        refine (takeS_no g n3 c3 A3 b _ HB.out (HI.out.keepsS HB0.out HK.out) hn hd).mono ?_
        rintro e _ ⟨rfl, rfl⟩
        go_wp2
        exact ⟨rfl, HK.out, by rw [HD.out, e4, rdQs_no hd]; rfl⟩
      obtain ⟨⟨q, b2⟩, hd⟩ := Option.ne_none_iff_exists'.1 hd
      go_wp2_with fail
      refine (takeS_yes g n3 c3 A3 b q b2 _ HB.out (HI.out.keepsS HB0.out HK.out) hn hc hd).mono ?_
      rintro e w5 ⟨rfl, A5, n5, c5, hB2, hI2, hn2, hc2, hK2⟩
      replace HD : Hid (decF bs = afterQ t (rdQs (4 - (k + 1)) b2 (qs ++ [q]))) := Lib.hid (by rw [HD.out, e4, rdQs_yes hd])
      replace HI := Lib.hid (hI2 _ HI.out)
      replace HB := Lib.hid hB2
      replace HR := Lib.hid (HR.out.keeps hK2 (by simpa using hrg))
      replace HP := Lib.hid (HP.out.keeps hK2 (by simpa using hpg))
      replace HK := Lib.hid (HK.out.trans hK2)
      have hn5 : n5 ≤ 1000000 := by omega
      have q0 : w5.cell? ⟨gp, 1 + k, none⟩ = some u := (HP.out.cell (1 + k)).trans hu
      have z0 : w5.frozen? ⟨gp, 1 + k, none⟩ = false := HP.out.free (1 + k)
      have HU := Lib.hid hu
      clear hB2 hI2 hK2 hd hn2 e4 hu
      go_wp2_with fail
      go_roundg (4 - (k + 1))
      case rel =>
        refine ⟨k + 1, qs ++ [q], b2, A5, n5, c5, rfl, by omega, by go_num, hn5, hc2, Lib.hid (by rw [List.length_append, HQ.out]; rfl), HD, Lib.hid (HB.out.far (show g ≠ gp by omega) _), HI, Lib.hid (HR.out.far (show gr ≠ gp by omega) _), Lib.hid ?_, Lib.hid (HK.out.setCell (.inr (show w.heap.size ≤ gp by omega)) _)⟩
        have h1 := HP.out.set (1 + k) (.int .i64 q)
        rw [puV_put HQ.out hlt] at h1
        exact h1
      case measure => omega
    obtain rfl : k = 4 := by omega
    have hq4 := HQ.out
    obtain ⟨q0, q1, q2, q3, rfl⟩ : ∃ a b c d, qs = [a, b, c, d] := by
      match qs, hq4 with
      | [a, b, c, d], _ => exact ⟨a, b, c, d, rfl⟩
    replace HP : Hid (Blk wr gp 71 #[.int .i64 t, .int .i64 q0, .int .i64 q1, .int .i64 q2, .int .i64 q3, (.slice none 0 0)]) := HP
    replace HD : Hid (decF bs = midD rdSteps t q0 q1 q2 q3 b) := HD
    clear HQ hq4
    by_cases hd : takeN b = none
    · go_wp2_with fail
      refine (takeN_no g n3 c3 A3 b _ HB.out (HI.out.keepsS HB0.out HK.out) hn hd).mono ?_
      rintro e _ ⟨rfl, rfl⟩
      go_wp2
      exact ⟨rfl, HK.out, by rw [HD.out, midD_none hd]⟩
    obtain ⟨⟨mi, b2⟩, hd⟩ := Option.ne_none_iff_exists'.1 hd
    obtain ⟨m, rfl⟩ : ∃ m : Nat, mi = (m : Int) := ⟨mi.toNat, (Int.toNat_of_nonneg (takeN_range hd).1).symm⟩
    go_wp2_with fail
    refine (takeN_yes g n3 c3 A3 b _ b2 _ HB.out (HI.out.keepsS HB0.out HK.out) hn hc hd).mono ?_
    rintro e w6 ⟨rfl, A6, n6, c6, hB2, hI2, hn2, hc2, hK2⟩
    replace HI := Lib.hid (hI2 _ HI.out)
    replace HB := Lib.hid hB2
    replace HR := Lib.hid (HR.out.keeps hK2 (by simpa using hrg))
    replace HP := Lib.hid (HP.out.keeps hK2 (by simpa using hpg))
    replace HK := Lib.hid (HK.out.trans hK2)
    have hn6 : n6 ≤ 1000000 := by omega
    clear hB2 hI2 hK2 hn2 hn hc
    by_cases hm : 256 < m
    · have hD : decF bs = none := by rw [HD.out, midD_big hd (by omega)]
      have HDN := Lib.hid hD
      clear hD
      go_wp2
      exact ⟨rfl, HK.out, by rw [HDN.out]; exact rfl⟩
    replace HD : Hid (decF bs = endD t q0 q1 q2 q3 (rdSteps m b2 [])) := Lib.hid (HD.out.trans (midD_some hd (by omega)))
    clear hd
    have hrz := hge
    go_wp2_with fail
    go_loopg [6, 30] m (fun f ov iv W => ∃ (k : Nat) (acc : List (Int × Int)) (b : List Int) (A' : Option Addr) (n' c' : Nat), f = m - k ∧ k ≤ m ∧ iv = .int .i64 (k : Int) ∧ n' ≤ 1000000 ∧ n' ≤ c' ∧ Hid (acc.length = k) ∧ Hid (∀ s ∈ acc, s.2 ≤ 9223372036854775807) ∧ Hid (decF bs = endD t q0 q1 q2 q3 (rdSteps (m - k) b acc)) ∧ Hid (Blk W g 112 #[.slice A' n' c']) ∧ Hid (Ints .u8 w A' n' b) ∧ Hid (Blk W gr 71 (puV 0 [] (.slice none 0 0))) ∧ Hid (Blk W gp 71 #[.int .i64 t, .int .i64 q0, .int .i64 q1, .int .i64 q2, .int .i64 q3, (.slice none 0 0)]) ∧ Hid (StL w.heap.size W ov acc) ∧ Hid (Keeps [g] w W))
    case atStart => exact ⟨0, [], b2, A6, n6, c6, rfl, by omega, rfl, hn6, hc2, Lib.hid rfl, Lib.hid (by simp), HD, HB, HI, HR, HP, Lib.hid (StL.nil _ _), HK⟩
    case round =>
      clear HB HI HR HP HK HD hn6 hc2
      obtain ⟨k, acc, b, A3, n3, c3, rfl, hk, rfl, hn, hc, HQ, HCN, HD, HB, HI, HR, HP, HO, HK⟩ := hrel
      obtain ⟨A1, c1, hso⟩ := own_slice HO.out
      subst hso
      by_cases hlt : k < m
      · have e4 : m - k = m - (k + 1) + 1 := by omega
        by_cases hd : takeS b = none
        · go_wp2_with fail
          refine (takeS_no g n3 c3 A3 b _ HB.out (HI.out.keepsS HB0.out HK.out) hn hd).mono ?_
          rintro e _ ⟨rfl, rfl⟩
          go_wp2
          exact ⟨rfl, HK.out, by rw [HD.out, e4, rdSteps_no1 hd]; rfl⟩
        obtain ⟨⟨q, b2⟩, hd⟩ := Option.ne_none_iff_exists'.1 hd
        go_wp2_with fail
        refine (takeS_yes g n3 c3 A3 b q b2 _ HB.out (HI.out.keepsS HB0.out HK.out) hn hc hd).mono ?_
        rintro e w7 ⟨rfl, A5, n5, c5, hB2, hI2, hn2, hc2, hK2⟩
        replace HI := Lib.hid (hI2 _ HI.out)
        replace HO := Lib.hid (row_away HO.out hK2 fun k hk => by simp at hk; subst hk; exact NoRow.of_blk HB.out (by decide))
        replace HB := Lib.hid hB2
        replace HR := Lib.hid (HR.out.keeps hK2 (by simpa using hrg))
        replace HP := Lib.hid (HP.out.keeps hK2 (by simpa using hpg))
        replace HK := Lib.hid (HK.out.trans hK2)
        have hn5 : n5 ≤ 1000000 := by omega
        clear hB2 hI2 hK2 hn2 hn hc
        by_cases hd2 : takeN b2 = none
        · go_wp2_with fail
          refine (takeN_no g n5 c5 A5 b2 _ HB.out (HI.out.keepsS HB0.out HK.out) hn5 hd2).mono ?_
          rintro e _ ⟨rfl, rfl⟩
          go_wp2
          exact ⟨rfl, HK.out, by rw [HD.out, e4, rdSteps_no2 hd hd2]; rfl⟩
        obtain ⟨⟨cn, b3⟩, hd2⟩ := Option.ne_none_iff_exists'.1 hd2
        obtain ⟨hcn1, hcn2⟩ := takeN_range hd2
        go_wp2_with fail
        refine (takeN_yes g n5 c5 A5 b2 cn b3 _ HB.out (HI.out.keepsS HB0.out HK.out) hn5 hc2 hd2).mono ?_
        rintro e w8 ⟨rfl, A7, n7, c7, hB2, hI2, hn2, hc7, hK2⟩
        replace HD : Hid (decF bs = endD t q0 q1 q2 q3 (rdSteps (m - (k + 1)) b3 (acc ++ [(q, cn + 1)]))) := Lib.hid (by rw [HD.out, e4, rdSteps_step hd hd2])
        replace HI := Lib.hid (hI2 _ HI.out)
        replace HR := Lib.hid (HR.out.keeps hK2 (by simpa using hrg))
        replace HP := Lib.hid (HP.out.keeps hK2 (by simpa using hpg))
        replace HO := Lib.hid (row_away HO.out hK2 fun k hk => by simp at hk; subst hk; exact NoRow.of_blk HB.out (by decide))
        replace HB := Lib.hid hB2
        replace HK := Lib.hid (HK.out.trans hK2)
        have hn7 : n7 ≤ 1000000 := by omega
        obtain ⟨oz, hoz⟩ : ∃ oz, acc.length = oz := ⟨_, rfl⟩
        have hzk : oz = k := hoz.symm.trans HQ.out
        have hown : w8.ownsRow w.heap.size 94 2 (.slice A1 oz c1) oz (stV acc) := by
          have h1 := HO.out
          unfold StL at h1
          rw [hoz] at h1
          exact h1
        have hsz8 := HK.out.size
        have hal := (Ext.refl w8).alloc (.cells #[.int .i64 q, .int .i64 (cn + 1)] 94)
        have hno : ∀ tb, 94 ≠ tb → ∀ k ∈ (Value.slice A1 oz c1).ownBlock.toList, NoRow tb (w8.alloc (.cells #[.int .i64 q, .int .i64 (cn + 1)] 94)) k := fun tb h k hk => NoRow.of_own (hown.alloc _) (by simpa using hk) h
        have HLT := Lib.hid (fun k (hk : k ∈ (Value.slice A1 oz c1).ownBlock.toList) => (hown.lt k (by simpa using hk)).1)
        rw [hoz]
        clear hB2 hI2 hK2 hn2 hn5 hc2 hd hd2 e4 HO
        have HOZ := Lib.hid hoz
        have HZK := Lib.hid hzk
        have hoz2 : oz ≤ 256 := by omega
        clear hoz hzk
        go_wp2_with (at_builtin; refine wpList_app _ elS rfl _ _ rfl w.heap.size (.slice A1 oz c1) oz (stV acc) rfl (hown.alloc _) _ 1 1 [.int .i64 q, .int .i64 (cn + 1)] rfl rfl (At.new' _ [_, _] _ rfl) (by simp [Value.oneCell']) (by omega) (by unfold maxLen; omega) (by simp; omega) ?_; intro v9 w9 hown9 hgr9 _; have HK9 := Lib.hid (Keeps.of_grown (L := (Value.slice A1 oz c1).ownBlock.toList) hgr9 (fun k hk => by rw [hk]; simp)); have HKN := Lib.hid ((HK.out.trans (Keeps.of_ext hal [g])).grown hgr9 (fun k hk => .inr (HLT.out k (by rw [hk]; simp)))); have HOW9 := Lib.hid hown9; clear hown9 hgr9)
        go_roundg (m - (k + 1))
        case rel =>
          refine ⟨k + 1, acc ++ [(q, cn + 1)], b3, A7, n7, c7, rfl, by omega, by go_num, hn7, hc7, Lib.hid (by rw [List.length_append, HQ.out]; rfl), Lib.hid ?_, HD, Lib.hid (blk_away (HB.out.ext hal) HK9.out (hno _ (by decide))), HI, Lib.hid (blk_away (HR.out.ext hal) HK9.out (hno _ (by decide))), Lib.hid (blk_away (HP.out.ext hal) HK9.out (hno _ (by decide))), Lib.hid ?_, HKN⟩
          · intro s hs
            rcases List.mem_append.1 hs with hs | hs
            · exact HCN.out s hs
            · simp at hs; subst hs; simp only; omega
          · unfold StL
            rw [stV_snoc, List.length_append, HOZ.out]
            exact HOW9.out
        case measure => omega
      obtain rfl : k = m := by omega
      replace HD : Hid (decF bs = endD t q0 q1 q2 q3 (some (acc, b))) := Lib.hid (by rw [HD.out, Nat.sub_self]; rfl)
      have hST := StL.read HO.out rfl
      rw [HQ.out] at hST ⊢
      have HST := Lib.hid hST
      clear hST HO
      obtain ⟨⟨l, er⟩, hro⟩ : ∃ r, rebO acc = r := ⟨_, rfl⟩
      have hl256 := rebO_small acc
      rw [hro] at hl256
      simp only at hl256
      have HRO := Lib.hid hro
      clear hro
      go_wp2_with fail
      refine (rebP_any A1 k c1 acc _ HST.out (by omega) HCN.out).mono ?_
      rw [HRO.out]
      rintro e w10 ⟨v10, rfl, hL, hX⟩
      simp only at hL ⊢
      obtain ⟨A9, c9, rfl, hL⟩ := hL
      obtain ⟨N, hN⟩ : ∃ N, l.length = N := ⟨_, rfl⟩
      rw [hN] at hL hl256 ⊢
      replace HB := Lib.hid (HB.out.ext hX)
      replace HR := Lib.hid (HR.out.ext hX)
      replace HP := Lib.hid (HP.out.ext hX)
      replace HK := Lib.hid (HK.out.trans (Keeps.of_ext hX [g]))
      have p5 : w10.cell? ⟨gp, 5, none⟩ = some (.slice none 0 0) := HP.out.cell 5
      have y5 : w10.frozen? ⟨gp, 5, none⟩ = false := HP.out.free 5
      have HLL := Lib.hid hL
      clear hX HST HCN hL
      generalize wr.heap.size = B9 at HLL
      go_upto_region 19 with (fail)
      have hB' := HB.out.far (p := ⟨gp, 5, none⟩) (show g ≠ gp by omega) (.slice A9 N c9)
      have hR' := HR.out.far (p := ⟨gp, 5, none⟩) (show gr ≠ gp by omega) (.slice A9 N c9)
      have hP' : Blk (w10.setCell ⟨gp, 5, none⟩ (.slice A9 N c9)) gp 71 #[.int .i64 t, .int .i64 q0, .int .i64 q1, .int .i64 q2, .int .i64 q3, .slice A9 N c9] := HP.out.set 5 (.slice A9 N c9)
      have hK' := HK.out.setCell (p := ⟨gp, 5, none⟩) (.inr (show w.heap.size ≤ gp by omega)) (.slice A9 N c9)
      have hL' : OwnS .i64 3 B9 (w10.setCell ⟨gp, 5, none⟩ (.slice A9 N c9)) A9 N c9 l := ⟨row_away HLL.out.own ((Keeps.refl [gp] w10).setCell (.inl (by simp)) _) (fun k hk => by simp at hk; subst hk; exact NoRow.of_blk HP.out (by decide)), HLL.out.len, HLL.out.wf⟩
      generalize w10.setCell ⟨gp, 5, none⟩ (.slice A9 N c9) = w11 at hB' hR' hP' hK' hL' ⊢
      clear HB HR HP HK HLL p5 y5
      have HB := Lib.hid hB'
      have HR := Lib.hid hR'
      have HP := Lib.hid hP'
      have HK := Lib.hid hK'
      have HL := Lib.hid hL'
      clear hB' hR' hP' hK' hL'
      have b0 : w11.cell? ⟨g, 0, none⟩ = some (.slice A3 n3 c3) := HB.out.cell 0
      have hbl := HI.out.1
      by_cases hz : ¬ n3 = 0
      · have hD : decF bs = none := by rw [HD.out, endD_no (.inl (by intro e; subst e; simp at hbl; omega))]
        have HDN := Lib.hid hD
        have hz2 : 0 < n3 := by omega
        clear hD hbl hz
        go_wp2
        exact ⟨rfl, HK.out, by rw [HDN.out]; exact rfl⟩
      obtain rfl : n3 = 0 := Decidable.not_not.1 hz
      obtain rfl : b = [] := List.eq_nil_of_length_eq_zero hbl
      clear hz hbl
      by_cases he : ¬ er = 0
      · have hD : decF bs = none := by rw [HD.out, endD_no (.inr (.inl (by rw [HRO.out]; exact he)))]
        have HDN := Lib.hid hD
        have q9 : (er != 0) = true := by simpa using he
        clear hD he
        go_wp2
        exact ⟨rfl, HK.out, by rw [HDN.out]; exact rfl⟩
      obtain rfl : er = 0 := Decidable.not_not.1 he
      clear he
      have p0 : w11.cell? ⟨gp, 0, none⟩ = some (.int .i64 t) := HP.out.cell 0
      have p1 : w11.cell? ⟨gp, 1, none⟩ = some (.int .i64 q0) := HP.out.cell 1
      have p2 : w11.cell? ⟨gp, 2, none⟩ = some (.int .i64 q1) := HP.out.cell 2
      have p3 : w11.cell? ⟨gp, 3, none⟩ = some (.int .i64 q2) := HP.out.cell 3
      have p4 : w11.cell? ⟨gp, 4, none⟩ = some (.int .i64 q3) := HP.out.cell 4
      have p5 : w11.cell? ⟨gp, 5, none⟩ = some (.slice A9 N c9) := HP.out.cell 5
      by_cases hp : ¬ PulOk ⟨t, q0, q1, q2, q3, l⟩
      · have hD : decF bs = none := by rw [HD.out, endD_no (.inr (.inr (by rw [HRO.out]; exact hp)))]
        have HDN := Lib.hid hD
        have HPP : Hid (decide (PulOk ⟨t, q0, q1, q2, q3, l⟩) = false) := Lib.hid (decide_eq_false hp)
        clear hD hp
        go_wp2_with fail
        refine (validP_any ⟨t, q0, q1, q2, q3, l⟩ A9 N c9 _ HL.out.ints).mono ?_
        rw [HPP.out]
        rintro e w12 ⟨rfl, hX⟩
        replace HK := Lib.hid (HK.out.trans (Keeps.of_ext hX [g]))
        clear hX b0 p0 p1 p2 p3 p4 p5
        go_wp2
        exact ⟨rfl, HK.out, by rw [HDN.out]; exact rfl⟩
      have hp' := Decidable.not_not.1 hp
      have HDN : Hid (decF bs = some ⟨t, q0, q1, q2, q3, l⟩) := Lib.hid (by
        have h1 := endD_yes (ss := acc) (t := t) (q0 := q0) (q1 := q1) (q2 := q2) (q3 := q3) (by rw [HRO.out]) (by rw [HRO.out]; exact hp')
        rw [HRO.out] at h1
        exact HD.out.trans h1)
      have HPP : Hid (decide (PulOk ⟨t, q0, q1, q2, q3, l⟩) = true) := Lib.hid (decide_eq_true hp')
      clear hp hp'
      go_wp2_with fail
      refine (validP_any ⟨t, q0, q1, q2, q3, l⟩ A9 N c9 _ HL.out.ints).mono ?_
      rw [HPP.out]
      rintro e w12 ⟨rfl, hX⟩
      replace HK := Lib.hid (HK.out.trans (Keeps.of_ext hX [g]))
      replace HR := Lib.hid (HR.out.ext hX)
      replace HP := Lib.hid (HP.out.ext hX)
      replace HL := Lib.hid (HL.out.ext hX)
      clear hX b0 p0 p1 p2 p3 p4 p5
      have p0 : w12.cell? ⟨gp, 0, none⟩ = some (.int .i64 t) := HP.out.cell 0
      have p1 : w12.cell? ⟨gp, 1, none⟩ = some (.int .i64 q0) := HP.out.cell 1
      have p2 : w12.cell? ⟨gp, 2, none⟩ = some (.int .i64 q1) := HP.out.cell 2
      have p3 : w12.cell? ⟨gp, 3, none⟩ = some (.int .i64 q2) := HP.out.cell 3
      have p4 : w12.cell? ⟨gp, 4, none⟩ = some (.int .i64 q3) := HP.out.cell 4
      have p5 : w12.cell? ⟨gp, 5, none⟩ = some (.slice A9 N c9) := HP.out.cell 5
      have r0 : w12.cell? ⟨gr, 0, none⟩ = some (.int .i64 0) := HR.out.cell 0
      have r1 : w12.cell? ⟨gr, 1, none⟩ = some (.int .i64 0) := HR.out.cell 1
      have r2 : w12.cell? ⟨gr, 2, none⟩ = some (.int .i64 0) := HR.out.cell 2
      have r3 : w12.cell? ⟨gr, 3, none⟩ = some (.int .i64 0) := HR.out.cell 3
      have r4 : w12.cell? ⟨gr, 4, none⟩ = some (.int .i64 0) := HR.out.cell 4
      have r5 : w12.cell? ⟨gr, 5, none⟩ = some (.slice none 0 0) := HR.out.cell 5
      have z0 : w12.frozen? ⟨gr, 0, none⟩ = false := HR.out.free 0
      have z1 : w12.frozen? ⟨gr, 1, none⟩ = false := HR.out.free 1
      have z2 : w12.frozen? ⟨gr, 2, none⟩ = false := HR.out.free 2
      have z3 : w12.frozen? ⟨gr, 3, none⟩ = false := HR.out.free 3
      have z4 : w12.frozen? ⟨gr, 4, none⟩ = false := HR.out.free 4
      have z5 : w12.frozen? ⟨gr, 5, none⟩ = false := HR.out.free 5
      have hk6 : ∀ (x0 x1 x2 x3 x4 x5 : Value), Keeps [gr] w12 ((((((w12.setCell ⟨gr, 0, none⟩ x0).setCell ⟨gr, 1, none⟩ x1).setCell ⟨gr, 2, none⟩ x2).setCell ⟨gr, 3, none⟩ x3).setCell ⟨gr, 4, none⟩ x4).setCell ⟨gr, 5, none⟩ x5) := fun x0 x1 x2 x3 x4 x5 => ((((((Keeps.refl [gr] w12).setCell (.inl (by simp)) _).setCell (.inl (by simp)) _).setCell (.inl (by simp)) _).setCell (.inl (by simp)) _).setCell (.inl (by simp)) _).setCell (.inl (by simp)) _
      have HK6 := Lib.hid hk6
      clear hk6
      go_wp2
      refine bodyPost_ret (v := .agg #[.int .i64 t, .int .i64 q0, .int .i64 q1, .int .i64 q2, .int .i64 q3, .slice A9 N c9]) (by simp [results, Try.results79, go_sem, *]) rfl ?_
      refine ⟨((((((HK.out.setCell (.inr hrz) _).setCell (.inr hrz) _).setCell (.inr hrz) _).setCell (.inr hrz) _).setCell (.inr hrz) _).setCell (.inr hrz) _), ?_⟩
      rw [HDN.out]
      exact ⟨A9, N, c9, rfl, OwnS.mono ⟨row_away HL.out.own (HK6.out _ _ _ _ _ _) (fun k hk => by simp at hk; subst hk; exact NoRow.of_blk HR.out (by decide)), HL.out.len, HL.out.wf⟩ (Nat.zero_le _)⟩
end Go.Proofs.Ytagcgldhhdecjaa
namespace Go.Proofs.Ytagcgldhhdecjaa
open Go.RowKit
theorem Blk.at_ {W : World} {t : TypeId} {cs : Array Value} {g : Nat} (hg : W.heap.size = g) : Blk (W.alloc (.cells cs t)) g t cs := hg ▸ Blk.new W t cs
theorem Ext.two {w0 w : World} {g : Nat} (h : Ext w0 w) (hg : w0.heap.size ≤ g) (x y : Value) : Ext w0 ((w.setCell ⟨g, 0, none⟩ x).setCell ⟨g, 1, none⟩ y) := (h.setCell hg x).setCell hg y
end Go.Proofs.Ytagcgldhhdecjaa
namespace Go.Proofs.Ytagcgldhhdecjaa
open Go.RowKit

set_option maxRecDepth 100000 in
set_option maxHeartbeats 4000000 in
theorem catch_mal (p q : Nat) (x0 x1 x2 x3 x4 : Int) (A : Option Addr) (n c : Nat) (er : Int) (w : World) (hp : Blk w p 71 #[.int .i64 x0, .int .i64 x1, .int .i64 x2, .int .i64 x3, .int .i64 x4, .slice A n c]) (hq : Blk w q 24 #[.int .i64 er]) (hne : p ≠ q) :
    CallsD Try.prog 78 #[.pointer (some ⟨p, 0, none⟩), .pointer (some ⟨q, 0, none⟩)] (.panicking malP) w fun e u' w' =>
      e = .returned (.tuple #[]) ∧ u' = .panicking [{ v := .iface 110 (.agg #[]), recovered := true }] ∧ Blk w' p 71 #[.int .i64 0, .int .i64 0, .int .i64 0, .int .i64 0, .int .i64 0, .slice none 0 0] ∧ Blk w' q 24 #[.int .i64 4] ∧ Keeps [p, q] w w' := by
  refine callsD_of_wpS Try.func78 rfl fun c₀ cs hu => ?_
  unfold malP at hu
  apply wpS_seq
  apply wpS_region
  simp [wpOpsS, go_sem, recoverD, hu, Try.ntmps78, Exit.thenS]
  have hX := (Ext.refl w).alloc (.cells #[] 110)
  have hp' := hp.ext hX
  have hq' := hq.ext hX
  have hk := Keeps.of_ext hX [p, q]
  clear hX hp hq
  refine wpS_of_wp ?_
  simp only [Array.replicate, List.replicate, List.setIfInBounds_toArray, List.set_cons_succ, List.set_cons_zero, List.append_toArray, List.cons_append, List.nil_append]
  have hta : ∀ (T : TypeId) (w : World), T = 20 → (Instr.typeAssert (.iface 110 (.agg #[])) T 110 true).run Try.prog w = .ok (.tuple #[.agg #[], .bool true]) w := fun T w h => by subst h; kernel_rfl
  have hta2 := fun w => hta _ w rfl
  go_upto_region 7 with (fail)
  generalize w.alloc (.cells #[] 110) = W at hp' hq' hk ⊢
  have c0 := hp'.cell 0
  have c1 := hp'.cell 1
  have c2 := hp'.cell 2
  have c3 := hp'.cell 3
  have c4 := hp'.cell 4
  have c5 := hp'.cell 5
  have d0 := hq'.cell 0
  have z0 := hp'.free 0
  have z1 := hp'.free 1
  have z2 := hp'.free 2
  have z3 := hp'.free 3
  have z4 := hp'.free 4
  have z5 := hp'.free 5
  have y0 := hq'.free 0
  simp only [List.getElem?_toArray, List.getElem?_cons_zero, List.getElem?_cons_succ] at c0 c1 c2 c3 c4 c5 d0
  have hne2 : (p == q) = false := by simpa using hne
  have hne3 : (q == p) = false := by simpa using Ne.symm hne
  have hne4 := Ne.symm hne
  go_wp2
  cases c₀
  simp only [bodyPostS, results, Try.results78]
  refine ⟨trivial, _, rfl, .tuple #[], by simp [go_sem], rfl, rfl, ?_, ?_, ?_⟩
  · exact ((((((hp'.set 0 _).set 1 _).set 2 _).set 3 _).set 4 _).set 5 _).far (show p ≠ q from hne) _
  · exact ((((((hq'.far (p := ⟨p, 0, none⟩) hne4 _).far (p := ⟨p, 1, none⟩) hne4 _).far (p := ⟨p, 2, none⟩) hne4 _).far (p := ⟨p, 3, none⟩) hne4 _).far (p := ⟨p, 4, none⟩) hne4 _).far (p := ⟨p, 5, none⟩) hne4 _).set 0 _
  · exact ((((((hk.setCell (.inl (by simp)) _).setCell (.inl (by simp)) _).setCell (.inl (by simp)) _).setCell (.inl (by simp)) _).setCell (.inl (by simp)) _).setCell (.inl (by simp)) _).setCell (.inl (by simp)) _
set_option maxRecDepth 100000 in
set_option maxHeartbeats 4000000 in
theorem catch_none (p q : Nat) (w : World) :
    CallsD Try.prog 78 #[.pointer (some ⟨p, 0, none⟩), .pointer (some ⟨q, 0, none⟩)] .returning w fun e u' w' => e = .returned (.tuple #[]) ∧ u' = .returning ∧ w = w' := by
  refine callsD_of_wpS Try.func78 rfl fun c₀ cs hu => ?_
  apply wpS_seq
  apply wpS_region
  simp [wpOpsS, go_sem, recoverD, hu, Try.ntmps78, Exit.thenS]
  refine wpS_of_wp ?_
  simp only [Array.replicate, List.replicate, List.setIfInBounds_toArray, List.set_cons_succ, List.set_cons_zero, List.append_toArray, List.cons_append, List.nil_append]
  go_wp2
  cases c₀
  simp only [bodyPostS, results, Try.results78]
  simp only at hu
  subst hu
  exact ⟨trivial, _, rfl, .tuple #[], by simp [go_sem], rfl, rfl, trivial⟩
/-- What Decode leaves. -/
def RetDc (w : World) (r : Option Pul) (e : Ending) (w' : World) : Prop := Ext w w' ∧ match r with
  | none => e = .returned (.tuple #[.agg #[.int .i64 0, .int .i64 0, .int .i64 0, .int .i64 0, .int .i64 0, .slice none 0 0], .int .i64 4])
  | some q => ∃ (A : Option Addr) (n c : Nat), e = .returned (.tuple #[q.val A n c, .int .i64 0]) ∧ Ints .i64 w' A n q.smp
set_option maxRecDepth 100000 in
set_option maxHeartbeats 8000000 in
theorem decodeP_any (A : Option Addr) (n c : Nat) (bs : List Int) (w : World) (hI : Ints .u8 w A n bs) (hn : n ≤ 1000000) (hc : n ≤ c) :
    Calls Try.prog 53 #[.slice A n c] w (RetDc w (decF bs)) := by
  have hmf : ∀ (fn : Fn) (first cap : Array Value) (w : World), (Instr.makeFunc fn first cap).run Try.prog w = .ok (.func fn first cap) w := fun _ _ _ _ => rfl
  have hX0 := (((Ext.refl w).alloc (.cells #[.int .i64 0, .int .i64 0, .int .i64 0, .int .i64 0, .int .i64 0, .slice none 0 0] 71)).alloc (.cells #[.int .i64 0] 24)).alloc (.cells #[.slice A n c] 112)
  have hP : Blk (((w.alloc (.cells #[.int .i64 0, .int .i64 0, .int .i64 0, .int .i64 0, .int .i64 0, .slice none 0 0] 71)).alloc (.cells #[.int .i64 0] 24)).alloc (.cells #[.slice A n c] 112)) w.heap.size 71 #[.int .i64 0, .int .i64 0, .int .i64 0, .int .i64 0, .int .i64 0, .slice none 0 0] := Blk.alloc (Blk.alloc (Blk.at_ (by simp)) _) _
  have hQ : Blk (((w.alloc (.cells #[.int .i64 0, .int .i64 0, .int .i64 0, .int .i64 0, .int .i64 0, .slice none 0 0] 71)).alloc (.cells #[.int .i64 0] 24)).alloc (.cells #[.slice A n c] 112)) (w.heap.size + 1) 24 #[.int .i64 0] := Blk.alloc (Blk.at_ (by simp)) _
  have hB : Blk (((w.alloc (.cells #[.int .i64 0, .int .i64 0, .int .i64 0, .int .i64 0, .int .i64 0, .slice none 0 0] 71)).alloc (.cells #[.int .i64 0] 24)).alloc (.cells #[.slice A n c] 112)) (w.heap.size + 2) 112 #[.slice A n c] := Blk.at_ (by simp)
  have HX := Lib.hid hX0
  have HP := Lib.hid hP
  have HQ := Lib.hid hQ
  have HB := Lib.hid hB
  have HI := Lib.hid hI
  clear hX0 hP hQ hB hI
  go_enter_defers Try.func53, Try.ntmps53
  go_wp2_with fail
  rw [show w.heap.size + 1 + 1 = w.heap.size + 2 by omega]
  generalize ((w.alloc (.cells #[.int .i64 0, .int .i64 0, .int .i64 0, .int .i64 0, .int .i64 0, .slice none 0 0] 71)).alloc (.cells #[.int .i64 0] 24)).alloc (.cells #[.slice A n c] 112) = w1 at HX HP HQ HB ⊢
  refine (pulse_any (w.heap.size + 2) n c A bs w1 HB.out (HI.out.ext HX.out) hn hc).mono ?_
  obtain ⟨r, hdc⟩ : ∃ r, decF bs = r := ⟨_, rfl⟩
  rw [hdc]
  have HDC := Lib.hid hdc
  clear hdc
  by_cases hr : r = none
  · subst hr
    rintro e w2 ⟨hk, rfl⟩
    replace HP := Lib.hid (HP.out.keeps hk (by simp))
    replace HQ := Lib.hid (HQ.out.keeps hk (by simp))
    replace HX := Lib.hid (hk.ext HX.out (by simp))
    clear hk HB
    refine leaves_cons (f := 78) (args := #[.pointer (some ⟨w.heap.size, 0, none⟩), .pointer (some ⟨w.heap.size + 1, 0, none⟩)]) (by simp) (by simp [go_sem]) ?_
    refine (catch_mal w.heap.size (w.heap.size + 1) 0 0 0 0 0 none 0 0 0 _ HP.out HQ.out (by omega)).mono ?_
    rintro e u' w3 ⟨rfl, rfl, hp, hq, hk⟩
    have c0 := hp.cell 0
    have c1 := hp.cell 1
    have c2 := hp.cell 2
    have c3 := hp.cell 3
    have c4 := hp.cell 4
    have c5 := hp.cell 5
    have d0 := hq.cell 0
    simp only [List.getElem?_toArray, List.getElem?_cons_zero, List.getElem?_cons_succ] at c0 c1 c2 c3 c4 c5 d0
    have hX := hk.ext HX.out (by simp)
    simp [Leaves, settle, results, Try.results53, go_sem, c0, c1, c2, c3, c4, c5, d0, RetDc]
    exact hX
  obtain ⟨⟨t, q0, q1, q2, q3, l⟩, rfl⟩ := Option.ne_none_iff_exists'.1 hr
  rintro e w2 ⟨hk, A9, n9, c9, rfl, hS⟩
  simp only [Pul.val] at hS ⊢
  replace HP := Lib.hid (HP.out.keeps hk (by simp))
  replace HQ := Lib.hid (HQ.out.keeps hk (by simp))
  replace HX := Lib.hid (hk.ext HX.out (by simp))
  have HS := Lib.hid hS
  clear hk HB hS
  have c0 := HP.out.cell 0
  have c1 := HP.out.cell 1
  have c2 := HP.out.cell 2
  have c3 := HP.out.cell 3
  have c4 := HP.out.cell 4
  have c5 := HP.out.cell 5
  have d0 := HQ.out.cell 0
  have z0 := HP.out.free 0
  have z1 := HP.out.free 1
  have z2 := HP.out.free 2
  have z3 := HP.out.free 3
  have z4 := HP.out.free 4
  have z5 := HP.out.free 5
  have y0 := HQ.out.free 0
  simp only [List.getElem?_toArray, List.getElem?_cons_zero, List.getElem?_cons_succ] at c0 c1 c2 c3 c4 c5 d0
  have hk7 : ∀ (x0 x1 x2 x3 x4 x5 x6 : Value), Keeps [w.heap.size, w.heap.size + 1] w2 (((((((w2.setCell ⟨w.heap.size, 0, none⟩ x0).setCell ⟨w.heap.size, 1, none⟩ x1).setCell ⟨w.heap.size, 2, none⟩ x2).setCell ⟨w.heap.size, 3, none⟩ x3).setCell ⟨w.heap.size, 4, none⟩ x4).setCell ⟨w.heap.size, 5, none⟩ x5).setCell ⟨w.heap.size + 1, 0, none⟩ x6) := fun x0 x1 x2 x3 x4 x5 x6 => (((((((Keeps.refl _ w2).setCell (.inl (by simp)) _).setCell (.inl (by simp)) _).setCell (.inl (by simp)) _).setCell (.inl (by simp)) _).setCell (.inl (by simp)) _).setCell (.inl (by simp)) _).setCell (.inl (by simp)) _
  have HK7 := Lib.hid hk7
  clear hk7
  go_wp2
  refine leaves_cons (f := 78) (args := #[.pointer (some ⟨w.heap.size, 0, none⟩), .pointer (some ⟨w.heap.size + 1, 0, none⟩)]) (by simp) (by simp [go_sem]) ?_
  refine (catch_none w.heap.size (w.heap.size + 1) _).mono ?_
  rintro e u' _ ⟨rfl, rfl, rfl⟩
  have hX := (HK7.out (.int .i64 t) (.int .i64 q0) (.int .i64 q1) (.int .i64 q2) (.int .i64 q3) (.slice A9 n9 c9) (.int .i64 0)).ext HX.out (by simp)
  have hS := row_away HS.out.own (HK7.out (.int .i64 t) (.int .i64 q0) (.int .i64 q1) (.int .i64 q2) (.int .i64 q3) (.slice A9 n9 c9) (.int .i64 0)) (fun k hk => by
    simp at hk
    rcases hk with rfl | rfl
    · exact NoRow.of_blk HP.out (by decide)
    · exact NoRow.of_blk HQ.out (by decide))
  have HS2 := Lib.hid (At.of_own hS)
  have HX2 := Lib.hid hX
  clear hS hX
  rw [HDC.out]
  simp [Leaves, settle, results, Try.results53, go_sem, c0, c1, c2, c3, c4, c5, d0, RetDc, Pul.val]
  exact ⟨HX2.out, A9, n9, ⟨rfl, rfl⟩, HS.out.len, HS.out.wf, HS2.out⟩
end Go.Proofs.Ytagcgldhhdecjaa
namespace Go.Proofs.Ytagcgldhhdecjaa
open Go.RowKit

set_option maxRecDepth 100000 in
set_option maxHeartbeats 2000000 in
theorem sameI_eq (A B : Option Addr) (n c d : Nat) (xs : List Int) (w : World) (hA : Ints .i64 w A n xs) (hB : Ints .i64 w B n xs) (hn : n ≤ 1000000) :
    Calls Try.prog 38 #[.slice A n c, .slice B n d] w fun e w' => e = .returned (.bool true) ∧ Ext w w' := by
  have HA := Lib.hid hA
  have HB := Lib.hid hB
  clear hA hB
  have hnn : ((n : Int) != (n : Int)) = false := by simp
  go_enter Try.func38, Try.ntmps38
  go_wp2_with fail
  go_loopg [5] n (fun g i wr => ∃ k : Nat, g = n - k ∧ k ≤ n ∧ i = .int .i64 (k : Int) ∧ Hid (Ext w wr))
  case atStart => exact ⟨0, rfl, by omega, rfl, Lib.hid (Ext.refl w)⟩
  case round =>
    obtain ⟨k, rfl, hk, rfl, HX⟩ := hrel
    by_cases hlt : k < n
    · have q1 : decide (k < n) = true := decide_eq_true hlt
      obtain ⟨ga, oa, x, rfl, hx, _, ha⟩ := (HA.out.ext HX.out).get hlt
      obtain ⟨gb, ob, y, rfl, hy, _, hb⟩ := (HB.out.ext HX.out).get hlt
      obtain rfl : x = y := by rw [hx] at hy; injection hy
      have qx : (x != x) = false := by simp
      clear hx hy
      go_wp2_with fail
      go_region
      go_wp2
      go_roundg (n - (k + 1))
      case rel => exact ⟨k + 1, rfl, by omega, by go_num, Lib.hid HX.out.drew⟩
      case measure => omega
    · obtain rfl : k = n := by omega
      go_wp2
      go_ret
      exact ⟨rfl, HX.out⟩

end Go.Proofs.Ytagcgldhhdecjaa
namespace Go.Proofs.Ytagcgldhhdecjaa
open Go.RowKit

set_option maxRecDepth 100000 in
set_option maxHeartbeats 1000000 in
theorem validW_any (A : Option Addr) (n c : Nat) (l : List Int) (w : World) (h : Ints .i64 w A n l) :
    Calls Try.prog 30 #[.slice A n c] w (fun e w' => e = .returned (.bool (decide (Smp l))) ∧ w = w') := by
  have H := Lib.hid h
  have HL := Lib.hid h.1
  clear h
  by_cases hn : 256 < n
  · have HS : Hid (decide (Smp l) = false) := Lib.hid (decide_eq_false fun s => by have := s.1; have := HL.out; omega)
    go_enter Try.func30, Try.ntmps30
    go_wp2
    go_ret
    exact ⟨by rw [HS.out]; rfl, rfl⟩
  go_enter Try.func30, Try.ntmps30
  go_wp2_with fail
  go_loopg [3] n (fun f iv wr => ∃ k : Nat, f = n - k ∧ k ≤ n ∧ iv = .int .i64 (k : Int) ∧ Hid (∀ x ∈ l.take k, 0 ≤ x ∧ x ≤ 1023) ∧ w = wr)
  case atStart => exact ⟨0, rfl, by omega, rfl, Lib.hid (by simp), rfl⟩
  case round =>
    obtain ⟨k, rfl, hk, rfl, HA, rfl⟩ := hrel
    by_cases hlt : k < n
    · obtain ⟨b, off, x, rfl, hx, _, hc⟩ := H.out.get hlt
      have HX := Lib.hid hx
      clear hx
      by_cases h0 : x < 0
      · have HS : Hid (decide (Smp l) = false) := Lib.hid (decide_eq_false fun s => by have := (s.2 x (List.mem_of_getElem? HX.out)).1; omega)
        go_wp2
        go_ret
        exact ⟨by rw [HS.out]; rfl, rfl⟩
      · by_cases h1 : 1023 < x
        · have HS : Hid (decide (Smp l) = false) := Lib.hid (decide_eq_false fun s => by have := (s.2 x (List.mem_of_getElem? HX.out)).2; omega)
          go_wp2
          go_ret
          exact ⟨by rw [HS.out]; rfl, rfl⟩
        · go_wp2
          go_roundg (n - (k + 1))
          case rel =>
            refine ⟨k + 1, rfl, by omega, by go_num, Lib.hid fun y hy => ?_, rfl⟩
            rw [List.take_add_one, HX.out] at hy
            rcases List.mem_append.1 hy with hy | hy
            · exact HA.out y hy
            · simp at hy; subst hy; omega
          case measure => omega
    · have HS : Hid (decide (Smp l) = true) := Lib.hid (decide_eq_true (by
        refine ⟨by have := HL.out; omega, fun x hx => HA.out x ?_⟩
        rwa [List.take_of_length_le (by have := HL.out; omega)]))
      go_wp2
      go_ret
      exact ⟨by rw [HS.out]; rfl, rfl⟩

end Go.Proofs.Ytagcgldhhdecjaa
namespace Go.Proofs.Ytagcgldhhdecjaa
open Go.RowKit

/-- The writer in memory: block g holds a slice of bytes of its own. -/
structure WrB (base : Nat) (w : World) (g : Nat) (A : Option Addr) (n c : Nat) (xs : List Int) : Prop where
  blk : Blk w g 107 #[.slice A n c]
  own : OwnS .u8 5 base w A n c xs
  lo : base ≤ g
theorem WrB.ext {base g n c : Nat} {w w' : World} {A : Option Addr} {xs : List Int} (h : WrB base w g A n c xs) (he : Ext w w') : WrB base w' g A n c xs := ⟨h.blk.ext he, h.own.ext he, h.lo⟩
/-- What the writer's methods leave. -/
def RetWr (base g : Nat) (xs : List Int) (w : World) (e : Ending) (w' : World) : Prop := e = .returned (.tuple #[]) ∧ (∃ A n c, WrB base w' g A n c xs) ∧ Keeps [g] w w'
theorem WrB.put {base g n c n' c' : Nat} {w w' : World} {A A' : Option Addr} {xs ys : List Int} (h : WrB base w g A n c xs) (hb : base ≤ w.heap.size) (ho : OwnS .u8 5 w.heap.size w' A' n' c' ys) (he : Ext w w') :
    WrB base (w'.setCell ⟨g, 0, none⟩ (.slice A' n' c')) g A' n' c' ys ∧ Keeps [g] w (w'.setCell ⟨g, 0, none⟩ (.slice A' n' c')) := by
  have hB := h.blk.ext he
  have hk : Keeps [g] w' (w'.setCell ⟨g, 0, none⟩ (.slice A' n' c')) := (Keeps.refl [g] w').setCell (.inl (by simp)) _
  refine ⟨⟨hB.set 0 _, ((ho.mono hb).keeps hk fun k hk' => ?_), h.lo⟩, (Keeps.of_ext he [g]).trans hk⟩
  rw [List.mem_singleton] at hk'
  subst hk'
  exact NoRow.of_blk hB (by decide)
set_option maxRecDepth 100000 in
set_option maxHeartbeats 1000000 in
theorem numW_any (base g n c : Nat) (A : Option Addr) (xs : List Int) (m : Int) (w : World) (h : WrB base w g A n c xs) (hn : xs.length ≤ 1000000) (hb : base ≤ w.heap.size) (h0 : 0 ≤ m) (h1 : m ≤ 4611686018427387903) :
    Calls Try.prog 74 #[.pointer (some ⟨g, 0, none⟩), .int .i64 m] w (RetWr base g (xs ++ enc m) w) := by
  have H := Lib.hid h
  have hnn : n ≤ 1000000 := by have := h.own.len; omega
  have c0 := h.blk.cell 0
  simp only [List.getElem?_toArray, List.getElem?_cons_zero] at c0
  clear h
  go_enter Try.func74, Try.ntmps74
  go_wp2_with fail
  refine (number_ok A n c xs m _ H.out.own.ints hnn h0 h1).mono ?_
  rintro e w1 ⟨A1, n1, c1, rfl, hO, hX⟩
  have HP := Lib.hid (H.out.put hb hO hX)
  have hB := H.out.blk.ext hX
  have z0 := hB.free 0
  have c1 := hB.cell 0
  simp only [List.getElem?_toArray, List.getElem?_cons_zero] at c1
  clear hO hX c0 hB
  go_wp2
  go_end0
  exact ⟨rfl, ⟨_, _, _, HP.out.1⟩, HP.out.2⟩
set_option maxRecDepth 100000 in
set_option maxHeartbeats 1000000 in
theorem sigW_any (base g n c : Nat) (A : Option Addr) (xs : List Int) (m : Int) (w : World) (h : WrB base w g A n c xs) (hn : xs.length ≤ 1000000) (hb : base ≤ w.heap.size) (h0 : -2305843009213693952 ≤ m) (h1 : m ≤ 2305843009213693951) :
    Calls Try.prog 75 #[.pointer (some ⟨g, 0, none⟩), .int .i64 m] w (RetWr base g (xs ++ enc (zig m)) w) := by
  have H := Lib.hid h
  have hnn : n ≤ 1000000 := by have := h.own.len; omega
  have c0 := h.blk.cell 0
  simp only [List.getElem?_toArray, List.getElem?_cons_zero] at c0
  clear h
  go_enter Try.func75, Try.ntmps75
  go_wp2_with fail
  refine (signed_ok A n c xs m _ H.out.own.ints hnn h0 h1).mono ?_
  rintro e w1 ⟨A1, n1, c1, rfl, hO, hX⟩
  have HP := Lib.hid (H.out.put hb hO hX)
  have hB := H.out.blk.ext hX
  have z0 := hB.free 0
  have c1 := hB.cell 0
  simp only [List.getElem?_toArray, List.getElem?_cons_zero] at c1
  clear hO hX c0 hB
  go_wp2
  go_end0
  exact ⟨rfl, ⟨_, _, _, HP.out.1⟩, HP.out.2⟩
end Go.Proofs.Ytagcgldhhdecjaa
namespace Go.Proofs.Ytagcgldhhdecjaa
open Go.RowKit

theorem encO_yes {q : Pul} (h : PulOk q) : encO q = (encP q, 0) := if_pos h
theorem encO_no {q : Pul} (h : ¬ PulOk q) : encO q = ([], 30) := if_neg h
theorem StL.keeps {L : List Nat} {base : Nat} {w w' : World} {v : Value} {ss : List (Int × Int)} (h : StL base w v ss) (hk : Keeps L w w') (hL : ∀ k ∈ L, k < base) : StL base w' v ss := by
  refine ownsRow_keeps h hk fun g hg hl => ?_
  have := (World.ownsRow.lt h g hg).1
  have := hL g hl
  omega
theorem len_snoc {xs ys : List Int} {n c n' : Nat} {base' : Nat} {w' : World} {A' : Option Addr} (h : xs.length = n) (ho : OwnS .u8 5 base' w' A' n' c (xs ++ ys)) (hy : ys.length ≤ 10) : n' ≤ n + 10 := by
  have := ho.len
  rw [List.length_append] at this
  omega
theorem flat_step {ss : List (Int × Int)} {k : Nat} {d c : Int} (h : ss[k]? = some (d, c)) (xs : List Int) : xs ++ (ss.take k).flatMap stepB ++ enc (zig d) ++ enc (c - 1) = xs ++ (ss.take (k + 1)).flatMap stepB := by
  rw [List.take_add_one, h]
  simp [stepB, List.append_assoc]

set_option maxRecDepth 100000 in
set_option maxHeartbeats 6000000 in
theorem encodeP_any (p : Pul) (A : Option Addr) (n c : Nat) (w : World) (h : Ints .i64 w A n p.smp) :
    Calls Try.prog 47 #[p.val A n c] w (RetBytes w (encO p).1 (encO p).2) := by
  have HH := Lib.hid h
  obtain ⟨tm, x0, x1, x2, x3, l⟩ := p
  simp only [Pul.val]
  have hX0 := (Ext.refl w).alloc (.cells #[.int .i64 tm, .int .i64 x0, .int .i64 x1, .int .i64 x2, .int .i64 x3, .slice A n c] 71)
  have hB0 := Blk.new w 71 #[.int .i64 tm, .int .i64 x0, .int .i64 x1, .int .i64 x2, .int .i64 x3, .slice A n c]
  have HI := Lib.hid (h.ext hX0)
  have HB := Lib.hid hB0
  have HX := Lib.hid hX0
  clear hB0 hX0
  by_cases hv : ¬ PulOk ⟨tm, x0, x1, x2, x3, l⟩
  · have HV : Hid (decide (PulOk ⟨tm, x0, x1, x2, x3, l⟩) = false) := Lib.hid (decide_eq_false hv)
    have HO := Lib.hid (encO_no hv)
    clear hv h
    go_enter Try.func47, Try.ntmps47
    go_wp2_with fail
    refine (validP_any ⟨tm, x0, x1, x2, x3, l⟩ A n c _ HI.out).mono ?_
    rw [HV.out]
    rintro e w1 ⟨rfl, hX⟩
    replace HX := Lib.hid (HX.out.trans hX)
    clear hX
    go_wp2
    go_ret2
    exact ⟨none, 0, 0, by first | (rw [HO.out]; done) | (rw [HO.out]; rfl), by rw [HO.out]; exact ⟨World.ownsRow_nil _ _ _ _, rfl, by simp⟩, HX.out⟩
  have hv' := Decidable.not_not.1 hv
  have HV : Hid (decide (PulOk ⟨tm, x0, x1, x2, x3, l⟩) = true) := Lib.hid (decide_eq_true hv')
  have HO := Lib.hid (encO_yes hv')
  obtain ⟨t0, t1, _, hs, ⟨a0, a1⟩, ⟨b0, b1⟩, ⟨c0, c1⟩, ⟨d0, d1⟩⟩ := hv'
  simp only at t0 t1 hs a0 a1 b0 b1 c0 c1 d0 d1
  have hn256 : n ≤ 256 := by have := hs.1; have := h.1; simp only at this; omega
  have HS := Lib.hid hs
  have HRG := Lib.hid (diffF_range hs)
  obtain ⟨N, hN⟩ : ∃ N, (diffF l).length = N := ⟨_, rfl⟩
  have hN2 : N ≤ 256 := by have := diffF_len l; have := hs.1; omega
  have HN := Lib.hid hN
  clear hv hs h hN
  go_enter Try.func47, Try.ntmps47
  go_wp2_with fail
  refine (validP_any ⟨tm, x0, x1, x2, x3, l⟩ A n c _ HI.out).mono ?_
  rw [HV.out]
  rintro e w1 ⟨rfl, hX⟩
  replace HX := Lib.hid (HX.out.trans hX)
  replace HB := Lib.hid (HB.out.ext hX)
  replace HI := Lib.hid (HI.out.ext hX)
  clear hX
  clear HI
  go_upto_region 4 with (fail)
  have hz1 := HB.out.lt
  have hWn : WrB (w.heap.size + 1) (w1.alloc (.cells #[.slice none 0 0] 107)) w1.heap.size none 0 0 [] := ⟨Blk.new _ _ _, ⟨World.ownsRow_nil _ _ _ _, rfl, by simp⟩, by omega⟩
  have HW := Lib.hid hWn
  have hX1 := (Ext.refl w1).alloc (.cells #[.slice none 0 0] 107)
  replace HX := Lib.hid (HX.out.trans hX1)
  replace HB := Lib.hid (HB.out.ext hX1)
  obtain ⟨g, hg⟩ : ∃ g, w1.heap.size = g := ⟨_, rfl⟩
  rw [hg] at HW ⊢
  have hgw : w.heap.size < g := by omega
  clear hWn hX1 hz1 hg
  generalize w1.alloc (.cells #[.slice none 0 0] 107) = w2 at HX HB HW ⊢
  clear w1
  have c0 := HB.out.cell 0
  simp only [List.getElem?_toArray, List.getElem?_cons_zero, List.getElem?_cons_succ] at c0
  have hsz : w.heap.size + 1 ≤ w2.heap.size := by have := HB.out.lt; omega
  go_wp2_with fail
  clear c0
  refine (numW_any (w.heap.size + 1) g 0 0 none [] tm w2 HW.out (by simp) hsz t0 (by omega)).mono ?_
  rintro e w3 ⟨rfl, ⟨Aw, nb, cw, hw⟩, hk⟩
  rw [List.nil_append] at hw
  have hnb : nb ≤ 10 := by have := hw.own.len; have := enc_length tm; omega
  replace HW := Lib.hid hw
  replace HX := Lib.hid (hk.ext HX.out (by simp; omega))
  replace HB := Lib.hid (HB.out.keeps hk (by simp; omega))
  clear hw hk hsz
  clear w2
  have c1 := HB.out.cell 1
  have c2 := HB.out.cell 2
  have c3 := HB.out.cell 3
  have c4 := HB.out.cell 4
  simp only [List.getElem?_toArray, List.getElem?_cons_zero, List.getElem?_cons_succ] at c1 c2 c3 c4
  go_wp2_with fail
  clear c1 c2 c3 c4
  go_loopg [21] 4 (fun f iv wr => ∃ (k : Nat) (Aw : Option Addr) (nb cw : Nat), f = 4 - k ∧ k ≤ 4 ∧ iv = .int .i64 (k : Int) ∧ nb ≤ 10 * (k + 1) ∧ Hid (WrB (w.heap.size + 1) wr g Aw nb cw (enc tm ++ ([x0, x1, x2, x3].take k).flatMap (fun q => enc (zig q)))) ∧ Hid (Blk wr w.heap.size 71 #[.int .i64 tm, .int .i64 x0, .int .i64 x1, .int .i64 x2, .int .i64 x3, .slice A n c]) ∧ Hid (Ext w wr))
  case atStart => exact ⟨0, Aw, nb, cw, rfl, by omega, rfl, by omega, Lib.hid (by simpa using HW.out), HB, HX⟩
  case round =>
    clear HX HB HW hnb
    clear Aw nb cw
    obtain ⟨k, Aw, nb, cw, rfl, hk4, rfl, hnb, HW, HB, HX⟩ := hrel
    obtain ⟨ix0, ix1, ix2, ix3⟩ := idx4 x0 x1 x2 x3
    have hsz : w.heap.size + 1 ≤ wr.heap.size := by have := HB.out.lt; omega
    obtain rfl | rfl | rfl | rfl | rfl : k = 4 ∨ k = 0 ∨ k = 1 ∨ k = 2 ∨ k = 3 := by omega
    · replace HW : Hid (WrB (w.heap.size + 1) wr g Aw nb cw (headB ⟨tm, x0, x1, x2, x3, l⟩)) := Lib.hid (by have := HW.out; simpa [headB, List.append_assoc] using this)
      have c5 := HB.out.cell 5
      simp only [List.getElem?_toArray, List.getElem?_cons_zero, List.getElem?_cons_succ] at c5
      go_wp2_with fail
      clear c5
      refine (diffP_any A n c l wr (HH.out.ext HX.out) (by omega) (fun x hx => by have := HS.out.2 x hx; omega)).mono ?_
      rintro e w4 ⟨vd, rfl, hd, hX⟩
      obtain ⟨Ad, cd, rfl⟩ := own_slice hd
      rw [HN.out] at hd ⊢
      have HD := Lib.hid hd
      have hgd := HW.out.blk.lt
      obtain ⟨bs, hbs⟩ : ∃ bs, wr.heap.size = bs := ⟨_, rfl⟩
      rw [hbs] at HD hgd
      replace HX := Lib.hid (HX.out.trans hX)
      replace HW := Lib.hid (HW.out.ext hX)
      replace hsz : w.heap.size + 1 ≤ w4.heap.size := by have := hX.size; omega
      clear hd hX HB hbs
      go_wp2_with fail
      refine (numW_any (w.heap.size + 1) g nb cw Aw _ (N : Int) w4 HW.out (by have := HW.out.own.len; omega) hsz (by omega) (by omega)).mono ?_
      rintro e w5 ⟨rfl, ⟨Aw2, nb2, cw2, hw⟩, hk⟩
      have hnb2 : nb2 ≤ 60 := by have := len_snoc HW.out.own.len hw.own (enc_length _); omega
      replace HW := Lib.hid hw
      replace HX := Lib.hid (hk.ext HX.out (by simp; omega))
      replace HD := Lib.hid (HD.out.keeps hk (by simp; omega))
      clear hw hk hsz
      clear Aw nb cw hnb hk4
      go_wp2_with fail
      go_loopg [37] N (fun f iv wr => ∃ (k : Nat) (Aw : Option Addr) (nb cw : Nat), f = N - k ∧ k ≤ N ∧ iv = .int .i64 (k : Int) ∧ nb ≤ 60 + 20 * k ∧ Hid (WrB (w.heap.size + 1) wr g Aw nb cw (headB ⟨tm, x0, x1, x2, x3, l⟩ ++ enc (N : Int) ++ ((diffF l).take k).flatMap stepB)) ∧ Hid (StL bs wr (.slice Ad N cd) (diffF l)) ∧ Hid (Ext w wr))
      case atStart => exact ⟨0, Aw2, nb2, cw2, rfl, by omega, rfl, by omega, Lib.hid (by simpa using HW.out), HD, HX⟩
      case round =>
        clear HX HD HW hnb2
        clear Aw2 nb2 cw2
        obtain ⟨k, Aw, nb, cw, rfl, hkN, rfl, hnb, HW, HD, HX⟩ := hrel
        by_cases hlt : k < N
        · obtain ⟨gd, cd', ⟨d, cn⟩, hvd, hsk, s0, s1⟩ := HD.out.get (by rw [HN.out]; exact hlt)
          injection hvd with hvd hvd2 hvd3
          subst hvd
          clear hvd2 hvd3
          simp only at s0 s1
          obtain ⟨r0, r1, r2, r3⟩ := HRG.out (d, cn) (List.mem_of_getElem? hsk)
          simp only at r0 r1 r2 r3
          have HSK := Lib.hid hsk
          clear hsk
          have qw : IntKind.i64.wrap (cn - 1) = cn - 1 := IntWalk.i64_in _ (by omega)
          go_upto_region 15 with (fail)
          have hX8 := (Ext.refl wr).alloc (.cells #[.int .i64 d, .int .i64 cn] 94)
          have hS := Blk.new wr 94 #[.int .i64 d, .int .i64 cn]
          replace HX := Lib.hid (HX.out.trans hX8)
          replace HW := Lib.hid (HW.out.ext hX8)
          replace HD := Lib.hid (HD.out.ext hX8)
          have hgs := HW.out.blk.lt
          have hgs2 := HW.out.lo
          have HS4 := Lib.hid hS
          have hgn : g ≠ wr.heap.size := by
            intro e
            have h1 := HW.out.blk
            rw [e] at h1
            have := h1.symm.trans hS
            injection this with this
            injection this with _ this
            exact absurd this (by decide)
          clear s0 s1 hX8 hS
          generalize wr.heap.size = gs at HS4 hgn ⊢
          generalize wr.alloc (.cells #[.int .i64 d, .int .i64 cn] 94) = wr at HS4 HX HW HD hgs ⊢
          have e0 := HS4.out.cell 0
          simp only [List.getElem?_toArray, List.getElem?_cons_zero, List.getElem?_cons_succ] at e0
          have hsz : w.heap.size + 1 ≤ wr.heap.size := by omega
          go_wp2_with fail
          clear e0
          refine (sigW_any (w.heap.size + 1) g nb cw Aw _ d wr HW.out (by have := HW.out.own.len; omega) hsz (by omega) (by omega)).mono ?_
          rintro e w6 ⟨rfl, ⟨Aw3, nb3, cw3, hw⟩, hk⟩
          have hnb3 := len_snoc HW.out.own.len hw.own (enc_length _)
          replace hsz : w.heap.size + 1 ≤ w6.heap.size := by have := hk.size; omega
          replace HW := Lib.hid hw
          replace HX := Lib.hid (hk.ext HX.out (by simp; omega))
          replace HD := Lib.hid (HD.out.keeps hk (by simp; omega))
          replace HS4 := Lib.hid (HS4.out.keeps hk (by simp; omega))
          clear hw hk
          have e1 := HS4.out.cell 1
          simp only [List.getElem?_toArray, List.getElem?_cons_zero, List.getElem?_cons_succ] at e1
          go_wp2_with fail
          clear e1
          refine (numW_any (w.heap.size + 1) g nb3 cw3 Aw3 _ (cn - 1) w6 HW.out (by have := HW.out.own.len; omega) hsz (by omega) (by omega)).mono ?_
          rintro e w7 ⟨rfl, ⟨Aw4, nb4, cw4, hw⟩, hk⟩
          have hnb4 := len_snoc HW.out.own.len hw.own (enc_length _)
          rw [flat_step HSK.out] at hw
          replace HW := Lib.hid hw
          replace HX := Lib.hid (hk.ext HX.out (by simp; omega))
          replace HD := Lib.hid (HD.out.keeps hk (by simp; omega))
          clear hw hk HS4
          go_wp2
          go_roundg (N - (k + 1))
          case rel => exact ⟨k + 1, Aw4, nb4, cw4, rfl, by omega, by go_num, by omega, HW, HD, HX⟩
          case measure => omega
        · obtain rfl : k = N := by omega
          replace HW : Hid (WrB (w.heap.size + 1) wr g Aw nb cw (encP ⟨tm, x0, x1, x2, x3, l⟩)) := Lib.hid (by
            have := HW.out
            rw [List.take_of_length_le (by rw [HN.out]; omega)] at this
            unfold encP
            rw [HN.out]
            exact this)
          have hc := HW.out.blk.cell 0
          simp only [List.getElem?_toArray, List.getElem?_cons_zero] at hc
          go_wp2
          go_ret2
          exact ⟨Aw, nb, cw, by first | (rw [HO.out]; done) | (rw [HO.out]; rfl), by rw [HO.out]; exact HW.out.own.mono (by omega), HX.out⟩
    · go_wp2_with fail
      refine (sigW_any (w.heap.size + 1) g nb cw Aw _ x0 wr HW.out (by have := HW.out.own.len; omega) hsz (by omega) (by omega)).mono ?_
      rintro e w4 ⟨rfl, ⟨Aw2, nb2, cw2, hw⟩, hk⟩
      have hnb2 := len_snoc HW.out.own.len hw.own (enc_length _)
      replace HW := Lib.hid hw
      replace HX := Lib.hid (hk.ext HX.out (by simp; omega))
      replace HB := Lib.hid (HB.out.keeps hk (by simp; omega))
      clear hw hk
      go_wp2
      go_roundg (4 - (0 + 1))
      case rel => exact ⟨0 + 1, Aw2, nb2, cw2, rfl, by omega, by go_num, by omega, Lib.hid (by simpa [List.append_assoc] using HW.out), HB, HX⟩
      case measure => omega
    · go_wp2_with fail
      refine (sigW_any (w.heap.size + 1) g nb cw Aw _ x1 wr HW.out (by have := HW.out.own.len; omega) hsz (by omega) (by omega)).mono ?_
      rintro e w4 ⟨rfl, ⟨Aw2, nb2, cw2, hw⟩, hk⟩
      have hnb2 := len_snoc HW.out.own.len hw.own (enc_length _)
      replace HW := Lib.hid hw
      replace HX := Lib.hid (hk.ext HX.out (by simp; omega))
      replace HB := Lib.hid (HB.out.keeps hk (by simp; omega))
      clear hw hk
      go_wp2
      go_roundg (4 - (1 + 1))
      case rel => exact ⟨1 + 1, Aw2, nb2, cw2, rfl, by omega, by go_num, by omega, Lib.hid (by simpa [List.append_assoc] using HW.out), HB, HX⟩
      case measure => omega
    · go_wp2_with fail
      refine (sigW_any (w.heap.size + 1) g nb cw Aw _ x2 wr HW.out (by have := HW.out.own.len; omega) hsz (by omega) (by omega)).mono ?_
      rintro e w4 ⟨rfl, ⟨Aw2, nb2, cw2, hw⟩, hk⟩
      have hnb2 := len_snoc HW.out.own.len hw.own (enc_length _)
      replace HW := Lib.hid hw
      replace HX := Lib.hid (hk.ext HX.out (by simp; omega))
      replace HB := Lib.hid (HB.out.keeps hk (by simp; omega))
      clear hw hk
      go_wp2
      go_roundg (4 - (2 + 1))
      case rel => exact ⟨2 + 1, Aw2, nb2, cw2, rfl, by omega, by go_num, by omega, Lib.hid (by simpa [List.append_assoc] using HW.out), HB, HX⟩
      case measure => omega
    · go_wp2_with fail
      refine (sigW_any (w.heap.size + 1) g nb cw Aw _ x3 wr HW.out (by have := HW.out.own.len; omega) hsz (by omega) (by omega)).mono ?_
      rintro e w4 ⟨rfl, ⟨Aw2, nb2, cw2, hw⟩, hk⟩
      have hnb2 := len_snoc HW.out.own.len hw.own (enc_length _)
      replace HW := Lib.hid hw
      replace HX := Lib.hid (hk.ext HX.out (by simp; omega))
      replace HB := Lib.hid (HB.out.keeps hk (by simp; omega))
      clear hw hk
      go_wp2
      go_roundg (4 - (3 + 1))
      case rel => exact ⟨3 + 1, Aw2, nb2, cw2, rfl, by omega, by go_num, by omega, Lib.hid (by simpa [List.append_assoc] using HW.out), HB, HX⟩
      case measure => omega
end Go.Proofs.Ytagcgldhhdecjaa
namespace Go.Proofs.Ytagcgldhhdecjaa
open Go.RowKit

/-- What Decode returns, as a pulse and an error. -/
def decO (r : Option Pul) : Pul × Int := match r with
  | none => (⟨0, 0, 0, 0, 0, []⟩, 4)
  | some q => (q, 0)
theorem RetDc.open {w w' : World} {r : Option Pul} {e : Ending} (h : RetDc w r e w') : ∃ (A : Option Addr) (n c : Nat), e = .returned (.tuple #[(decO r).1.val A n c, .int .i64 (decO r).2]) ∧ Ints .i64 w' A n (decO r).1.smp ∧ Ext w w' := by
  obtain ⟨h1, h2⟩ := h
  cases r with
  | none => exact ⟨none, 0, 0, h2, Ints.nil, h1⟩
  | some q =>
    obtain ⟨A, n, c, h3, h4⟩ := h2
    exact ⟨A, n, c, h3, h4, h1⟩
theorem eqQuadS (x0 x1 x2 x3 : Int) (W : World) : (Op.equalIn 10000 69 (.agg #[.int .i64 x0, .int .i64 x1, .int .i64 x2, .int .i64 x3]) (.agg #[.int .i64 x0, .int .i64 x1, .int .i64 x2, .int .i64 x3])).run Try.prog W = .ok true W := by
  have hsome : (Try.prog.info? 3).isSome = true := by kernel_rfl
  obtain ⟨i, hi⟩ := Option.isSome_iff_exists.1 hsome
  have hc : Try.prog.cellsOf 3 = 1 := by kernel_rfl
  rw [run_equalIn_array W 9999 _ _ Try.underlying69 hi, hc]
  have hr : List.range 4 = [0, 1, 2, 3] := rfl
  have hu := Try.underlying3
  rw [hr]
  simp [Op.eqItems, go_sem]
theorem encP_len {q : Pul} (h : PulOk q) : (encP q).length ≤ 10000 := by
  have h1 : (diffF q.smp).length ≤ 256 := by have := diffF_len q.smp; have := h.2.2.2.1.1; omega
  have h2 : ∀ ss : List (Int × Int), (ss.flatMap stepB).length ≤ 20 * ss.length := by
    intro ss
    induction ss with
    | nil => simp
    | cons s ss ih =>
      rw [List.flatMap_cons, List.length_append, List.length_cons]
      have := enc_length (zig s.1)
      have := enc_length (s.2 - 1)
      simp only [stepB, List.length_append]
      omega
  have h3 := h2 (diffF q.smp)
  simp only [encP, headB, List.length_append]
  have := enc_length q.time
  have := enc_length (zig q.q0)
  have := enc_length (zig q.q1)
  have := enc_length (zig q.q2)
  have := enc_length (zig q.q3)
  have := enc_length ((diffF q.smp).length : Int)
  omega

set_option maxRecDepth 100000 in
set_option maxHeartbeats 2000000 in
theorem samePul_at (A B : Option Addr) (n c m d : Nat) (tm x0 x1 x2 x3 : Int) (l : List Int) (w : World) (hA : Ints .i64 w A n l) (hB : Ints .i64 w B m l) (hn : n ≤ 1000000) :
    Calls Try.prog 55 #[.agg #[.int .i64 tm, .int .i64 x0, .int .i64 x1, .int .i64 x2, .int .i64 x3, .slice A n c], .agg #[.int .i64 tm, .int .i64 x0, .int .i64 x1, .int .i64 x2, .int .i64 x3, .slice B m d]] w (fun e w' => e = .returned (.bool true) ∧ Ext w w') := by
  obtain rfl : m = n := hB.1.symm.trans hA.1
  have HA := Lib.hid hA
  have HB := Lib.hid hB
  have hq := eqQuadS x0 x1 x2 x3
  clear hA hB
  have q0 : (tm == tm) = true := by simp
  have q1 : (x0 == x0) = true := by simp
  have q2 : (x1 == x1) = true := by simp
  have q3 : (x2 == x2) = true := by simp
  have q4 : (x3 == x3) = true := by simp
  have hXe : Ext w ((w.alloc (.cells #[.int .i64 tm, .int .i64 x0, .int .i64 x1, .int .i64 x2, .int .i64 x3, .slice A m c] 71)).alloc (.cells #[.int .i64 tm, .int .i64 x0, .int .i64 x1, .int .i64 x2, .int .i64 x3, .slice B m d] 71)) := (((Ext.refl w).alloc _).alloc _)
  have kP : Blk ((w.alloc (.cells #[.int .i64 tm, .int .i64 x0, .int .i64 x1, .int .i64 x2, .int .i64 x3, .slice A m c] 71)).alloc (.cells #[.int .i64 tm, .int .i64 x0, .int .i64 x1, .int .i64 x2, .int .i64 x3, .slice B m d] 71)) w.heap.size 71 #[.int .i64 tm, .int .i64 x0, .int .i64 x1, .int .i64 x2, .int .i64 x3, .slice A m c] := Blk.alloc (Blk.at_ (by simp)) _
  have kQ : Blk ((w.alloc (.cells #[.int .i64 tm, .int .i64 x0, .int .i64 x1, .int .i64 x2, .int .i64 x3, .slice A m c] 71)).alloc (.cells #[.int .i64 tm, .int .i64 x0, .int .i64 x1, .int .i64 x2, .int .i64 x3, .slice B m d] 71)) (w.heap.size + 1) 71 #[.int .i64 tm, .int .i64 x0, .int .i64 x1, .int .i64 x2, .int .i64 x3, .slice B m d] := Blk.at_ (by simp)
  go_enter Try.func55, Try.ntmps55
  go_wp2_with fail
  generalize ((w.alloc (.cells #[.int .i64 tm, .int .i64 x0, .int .i64 x1, .int .i64 x2, .int .i64 x3, .slice A m c] 71)).alloc (.cells #[.int .i64 tm, .int .i64 x0, .int .i64 x1, .int .i64 x2, .int .i64 x3, .slice B m d] 71)) = w1 at hXe kP kQ ⊢
  have HX := Lib.hid hXe
  clear hXe
  have KP := Lib.hid kP
  clear kP
  have KQ := Lib.hid kQ
  clear kQ
  have cP0 : w1.cell? ⟨w.heap.size, 0, none⟩ = some (.int .i64 tm) := KP.out.cell 0
  have cP1 : w1.cell? ⟨w.heap.size, 1, none⟩ = some (.int .i64 x0) := KP.out.cell 1
  have cP2 : w1.cell? ⟨w.heap.size, 2, none⟩ = some (.int .i64 x1) := KP.out.cell 2
  have cP3 : w1.cell? ⟨w.heap.size, 3, none⟩ = some (.int .i64 x2) := KP.out.cell 3
  have cP4 : w1.cell? ⟨w.heap.size, 4, none⟩ = some (.int .i64 x3) := KP.out.cell 4
  have cP5 : w1.cell? ⟨w.heap.size, 5, none⟩ = some (.slice A m c) := KP.out.cell 5
  have cQ0 : w1.cell? ⟨(w.heap.size + 1), 0, none⟩ = some (.int .i64 tm) := KQ.out.cell 0
  have cQ1 : w1.cell? ⟨(w.heap.size + 1), 1, none⟩ = some (.int .i64 x0) := KQ.out.cell 1
  have cQ2 : w1.cell? ⟨(w.heap.size + 1), 2, none⟩ = some (.int .i64 x1) := KQ.out.cell 2
  have cQ3 : w1.cell? ⟨(w.heap.size + 1), 3, none⟩ = some (.int .i64 x2) := KQ.out.cell 3
  have cQ4 : w1.cell? ⟨(w.heap.size + 1), 4, none⟩ = some (.int .i64 x3) := KQ.out.cell 4
  have cQ5 : w1.cell? ⟨(w.heap.size + 1), 5, none⟩ = some (.slice B m d) := KQ.out.cell 5
  clear cP0 cP1 cP2 cP3 cP4 cP5 cQ0 cQ1 cQ2 cQ3 cQ4 cQ5
  refine (sameI_eq A B m c d l _ (HA.out.ext HX.out) (HB.out.ext HX.out) (by omega)).mono ?_
  rintro e w2 ⟨rfl, hX⟩
  replace hX : Ext w1 w2 := by with_reducible exact hX
  replace HX := Lib.hid (HX.out.trans hX)
  replace KP := Lib.hid (KP.out.ext hX)
  replace KQ := Lib.hid (KQ.out.ext hX)
  clear hX
  go_wp2
  go_ret
  exact ⟨rfl, HX.out⟩

theorem samePul_eq (q : Pul) (A B : Option Addr) (n c m d : Nat) (w : World) (hA : Ints .i64 w A n q.smp) (hB : Ints .i64 w B m q.smp) (hn : n ≤ 1000000) :
    Calls Try.prog 55 #[q.val A n c, q.val B m d] w (fun e w' => e = .returned (.bool true) ∧ Ext w w') :=
  samePul_at A B n c m d q.time q.q0 q.q1 q.q2 q.q3 q.smp w hA hB hn
set_option maxRecDepth 100000 in
set_option maxHeartbeats 2000000 in
theorem back_bad (A : Option Addr) (n c : Nat) (tm x0 x1 x2 x3 : Int) (l : List Int) (w : World) (hs : ¬ Smp l) (h : Ints .i64 w A n l) :
    Calls Try.prog 19 #[.agg #[.int .i64 tm, .int .i64 x0, .int .i64 x1, .int .i64 x2, .int .i64 x3, .slice A n c]] w (fun e w' => e = .returned (.bool true) ∧ Ext w w') := by
  have QS : Hid (decide (Smp l) = false) := Lib.hid (decide_eq_false hs)
  clear hs
  have H := Lib.hid h
  clear h
  have hXe : Ext w (w.alloc (.cells #[.int .i64 tm, .int .i64 x0, .int .i64 x1, .int .i64 x2, .int .i64 x3, .slice A n c] 71)) := ((Ext.refl w).alloc _)
  have kP : Blk (w.alloc (.cells #[.int .i64 tm, .int .i64 x0, .int .i64 x1, .int .i64 x2, .int .i64 x3, .slice A n c] 71)) w.heap.size 71 #[.int .i64 tm, .int .i64 x0, .int .i64 x1, .int .i64 x2, .int .i64 x3, .slice A n c] := Blk.at_ (by simp)
  go_enter Try.func19, Try.ntmps19
  go_wp2_with fail
  generalize (w.alloc (.cells #[.int .i64 tm, .int .i64 x0, .int .i64 x1, .int .i64 x2, .int .i64 x3, .slice A n c] 71)) = w1 at hXe kP ⊢
  have HX := Lib.hid hXe
  clear hXe
  have KP := Lib.hid kP
  clear kP
  have cP0 : w1.cell? ⟨w.heap.size, 0, none⟩ = some (.int .i64 tm) := KP.out.cell 0
  have cP1 : w1.cell? ⟨w.heap.size, 1, none⟩ = some (.int .i64 x0) := KP.out.cell 1
  have cP2 : w1.cell? ⟨w.heap.size, 2, none⟩ = some (.int .i64 x1) := KP.out.cell 2
  have cP3 : w1.cell? ⟨w.heap.size, 3, none⟩ = some (.int .i64 x2) := KP.out.cell 3
  have cP4 : w1.cell? ⟨w.heap.size, 4, none⟩ = some (.int .i64 x3) := KP.out.cell 4
  have cP5 : w1.cell? ⟨w.heap.size, 5, none⟩ = some (.slice A n c) := KP.out.cell 5
  clear cP0 cP1 cP2 cP3 cP4 cP5
  refine (validW_any A n c l _ (H.out.ext HX.out)).mono ?_
  rw [QS.out]
  rintro e _ ⟨rfl, rfl⟩
  go_wp2_with fail
  refine (firstW_any _).mono ?_
  rintro e w2 ⟨rfl, hX⟩
  replace hX : Ext w1 w2 := by with_reducible exact hX
  replace HX := Lib.hid (HX.out.trans hX)
  replace KP := Lib.hid (KP.out.ext hX)
  clear hX
  go_wp2
  go_ret
  exact ⟨rfl, HX.out⟩

set_option maxRecDepth 100000 in
set_option maxHeartbeats 2000000 in
theorem back_no (A : Option Addr) (n c : Nat) (tm x0 x1 x2 x3 : Int) (l : List Int) (w : World) (hs : Smp l) (hp : ¬ PulOk ⟨tm, x0, x1, x2, x3, l⟩) (h : Ints .i64 w A n l) :
    Calls Try.prog 19 #[.agg #[.int .i64 tm, .int .i64 x0, .int .i64 x1, .int .i64 x2, .int .i64 x3, .slice A n c]] w (fun e w' => e = .returned (.bool true) ∧ Ext w w') := by
  have QS : Hid (decide (Smp l) = true) := Lib.hid (decide_eq_true hs)
  have QP : Hid (decide (PulOk ⟨tm, x0, x1, x2, x3, l⟩) = false) := Lib.hid (decide_eq_false hp)
  have HE : Hid (encO ⟨tm, x0, x1, x2, x3, l⟩ = ([], 30)) := Lib.hid (encO_no hp)
  clear hs hp
  have H := Lib.hid h
  clear h
  have hXe : Ext w (w.alloc (.cells #[.int .i64 tm, .int .i64 x0, .int .i64 x1, .int .i64 x2, .int .i64 x3, .slice A n c] 71)) := ((Ext.refl w).alloc _)
  have kP : Blk (w.alloc (.cells #[.int .i64 tm, .int .i64 x0, .int .i64 x1, .int .i64 x2, .int .i64 x3, .slice A n c] 71)) w.heap.size 71 #[.int .i64 tm, .int .i64 x0, .int .i64 x1, .int .i64 x2, .int .i64 x3, .slice A n c] := Blk.at_ (by simp)
  go_enter Try.func19, Try.ntmps19
  go_wp2_with fail
  generalize (w.alloc (.cells #[.int .i64 tm, .int .i64 x0, .int .i64 x1, .int .i64 x2, .int .i64 x3, .slice A n c] 71)) = w1 at hXe kP ⊢
  have HX := Lib.hid hXe
  clear hXe
  have KP := Lib.hid kP
  clear kP
  have cP0 : w1.cell? ⟨w.heap.size, 0, none⟩ = some (.int .i64 tm) := KP.out.cell 0
  have cP1 : w1.cell? ⟨w.heap.size, 1, none⟩ = some (.int .i64 x0) := KP.out.cell 1
  have cP2 : w1.cell? ⟨w.heap.size, 2, none⟩ = some (.int .i64 x1) := KP.out.cell 2
  have cP3 : w1.cell? ⟨w.heap.size, 3, none⟩ = some (.int .i64 x2) := KP.out.cell 3
  have cP4 : w1.cell? ⟨w.heap.size, 4, none⟩ = some (.int .i64 x3) := KP.out.cell 4
  have cP5 : w1.cell? ⟨w.heap.size, 5, none⟩ = some (.slice A n c) := KP.out.cell 5
  clear cP0 cP1 cP2 cP3 cP4 cP5
  refine (validW_any A n c l _ (H.out.ext HX.out)).mono ?_
  rw [QS.out]
  rintro e _ ⟨rfl, rfl⟩
  have cP0 : w1.cell? ⟨w.heap.size, 0, none⟩ = some (.int .i64 tm) := KP.out.cell 0
  have cP1 : w1.cell? ⟨w.heap.size, 1, none⟩ = some (.int .i64 x0) := KP.out.cell 1
  have cP2 : w1.cell? ⟨w.heap.size, 2, none⟩ = some (.int .i64 x1) := KP.out.cell 2
  have cP3 : w1.cell? ⟨w.heap.size, 3, none⟩ = some (.int .i64 x2) := KP.out.cell 3
  have cP4 : w1.cell? ⟨w.heap.size, 4, none⟩ = some (.int .i64 x3) := KP.out.cell 4
  have cP5 : w1.cell? ⟨w.heap.size, 5, none⟩ = some (.slice A n c) := KP.out.cell 5
  go_wp2_with fail
  clear cP0 cP1 cP2 cP3 cP4 cP5
  refine (encodeP_any ⟨tm, x0, x1, x2, x3, l⟩ A n c _ (H.out.ext HX.out)).mono ?_
  rw [HE.out]
  rintro e w2 ⟨Ae, ne, ce, rfl, hE, hX⟩
  simp only at hE ⊢
  replace hX : Ext w1 w2 := by with_reducible exact hX
  replace HX := Lib.hid (HX.out.trans hX)
  replace KP := Lib.hid (KP.out.ext hX)
  clear hX
  clear hE
  have cP0 : w2.cell? ⟨w.heap.size, 0, none⟩ = some (.int .i64 tm) := KP.out.cell 0
  have cP1 : w2.cell? ⟨w.heap.size, 1, none⟩ = some (.int .i64 x0) := KP.out.cell 1
  have cP2 : w2.cell? ⟨w.heap.size, 2, none⟩ = some (.int .i64 x1) := KP.out.cell 2
  have cP3 : w2.cell? ⟨w.heap.size, 3, none⟩ = some (.int .i64 x2) := KP.out.cell 3
  have cP4 : w2.cell? ⟨w.heap.size, 4, none⟩ = some (.int .i64 x3) := KP.out.cell 4
  have cP5 : w2.cell? ⟨w.heap.size, 5, none⟩ = some (.slice A n c) := KP.out.cell 5
  go_wp2_with fail
  clear cP0 cP1 cP2 cP3 cP4 cP5
  refine (validP_any ⟨tm, x0, x1, x2, x3, l⟩ A n c _ (H.out.ext HX.out)).mono ?_
  rw [QP.out]
  rintro e w3 ⟨rfl, hX⟩
  replace hX : Ext w2 w3 := by with_reducible exact hX
  replace HX := Lib.hid (HX.out.trans hX)
  replace KP := Lib.hid (KP.out.ext hX)
  clear hX
  go_wp2_with fail
  refine (firstW_any _).mono ?_
  rintro e w4 ⟨rfl, hX⟩
  replace hX : Ext w3 w4 := by with_reducible exact hX
  replace HX := Lib.hid (HX.out.trans hX)
  replace KP := Lib.hid (KP.out.ext hX)
  clear hX
  go_wp2
  go_ret
  exact ⟨rfl, HX.out⟩

set_option maxRecDepth 100000 in
set_option maxHeartbeats 8000000 in
theorem back_yes (A : Option Addr) (n c : Nat) (tm x0 x1 x2 x3 : Int) (l : List Int) (w : World) (hs : Smp l) (hp : PulOk ⟨tm, x0, x1, x2, x3, l⟩) (h : Ints .i64 w A n l) :
    Calls Try.prog 19 #[.agg #[.int .i64 tm, .int .i64 x0, .int .i64 x1, .int .i64 x2, .int .i64 x3, .slice A n c]] w (fun e w' => e = .returned (.bool true) ∧ Ext w w') := by
  have QS : Hid (decide (Smp l) = true) := Lib.hid (decide_eq_true hs)
  have HE : Hid (encO ⟨tm, x0, x1, x2, x3, l⟩ = (encP ⟨tm, x0, x1, x2, x3, l⟩, 0)) := Lib.hid (encO_yes hp)
  have hd1 := decF_enc hp []
  rw [if_pos rfl, List.append_nil] at hd1
  have hd2 := decF_enc hp [0]
  rw [if_neg (by simp)] at hd2
  have hel := encP_len hp
  have hn256 : n ≤ 256 := by have := hs.1; have := h.1; omega
  generalize encP ⟨tm, x0, x1, x2, x3, l⟩ = bs at HE hd1 hd2 hel
  obtain ⟨N, hN⟩ : ∃ N, bs.length = N := ⟨_, rfl⟩
  rw [hN] at hel
  have HN := Lib.hid hN
  have HD1 := Lib.hid hd1
  have HD2 := Lib.hid hd2
  clear hs hp hd1 hd2 hN
  have H := Lib.hid h
  clear h
  have hXe : Ext w (w.alloc (.cells #[.int .i64 tm, .int .i64 x0, .int .i64 x1, .int .i64 x2, .int .i64 x3, .slice A n c] 71)) := ((Ext.refl w).alloc _)
  have kP : Blk (w.alloc (.cells #[.int .i64 tm, .int .i64 x0, .int .i64 x1, .int .i64 x2, .int .i64 x3, .slice A n c] 71)) w.heap.size 71 #[.int .i64 tm, .int .i64 x0, .int .i64 x1, .int .i64 x2, .int .i64 x3, .slice A n c] := Blk.at_ (by simp)
  go_enter Try.func19, Try.ntmps19
  go_wp2_with fail
  generalize (w.alloc (.cells #[.int .i64 tm, .int .i64 x0, .int .i64 x1, .int .i64 x2, .int .i64 x3, .slice A n c] 71)) = w1 at hXe kP ⊢
  have HX := Lib.hid hXe
  clear hXe
  have KP := Lib.hid kP
  clear kP
  have cP0 : w1.cell? ⟨w.heap.size, 0, none⟩ = some (.int .i64 tm) := KP.out.cell 0
  have cP1 : w1.cell? ⟨w.heap.size, 1, none⟩ = some (.int .i64 x0) := KP.out.cell 1
  have cP2 : w1.cell? ⟨w.heap.size, 2, none⟩ = some (.int .i64 x1) := KP.out.cell 2
  have cP3 : w1.cell? ⟨w.heap.size, 3, none⟩ = some (.int .i64 x2) := KP.out.cell 3
  have cP4 : w1.cell? ⟨w.heap.size, 4, none⟩ = some (.int .i64 x3) := KP.out.cell 4
  have cP5 : w1.cell? ⟨w.heap.size, 5, none⟩ = some (.slice A n c) := KP.out.cell 5
  clear cP0 cP1 cP2 cP3 cP4 cP5
  refine (validW_any A n c l _ (H.out.ext HX.out)).mono ?_
  rw [QS.out]
  rintro e _ ⟨rfl, rfl⟩
  have cP0 : w1.cell? ⟨w.heap.size, 0, none⟩ = some (.int .i64 tm) := KP.out.cell 0
  have cP1 : w1.cell? ⟨w.heap.size, 1, none⟩ = some (.int .i64 x0) := KP.out.cell 1
  have cP2 : w1.cell? ⟨w.heap.size, 2, none⟩ = some (.int .i64 x1) := KP.out.cell 2
  have cP3 : w1.cell? ⟨w.heap.size, 3, none⟩ = some (.int .i64 x2) := KP.out.cell 3
  have cP4 : w1.cell? ⟨w.heap.size, 4, none⟩ = some (.int .i64 x3) := KP.out.cell 4
  have cP5 : w1.cell? ⟨w.heap.size, 5, none⟩ = some (.slice A n c) := KP.out.cell 5
  go_wp2_with fail
  clear cP0 cP1 cP2 cP3 cP4 cP5
  refine (encodeP_any ⟨tm, x0, x1, x2, x3, l⟩ A n c _ (H.out.ext HX.out)).mono ?_
  rw [HE.out]
  rintro e w2 ⟨Ae, ne, ce, rfl, hE, hX⟩
  simp only at hE ⊢
  replace hX : Ext w1 w2 := by with_reducible exact hX
  replace HX := Lib.hid (HX.out.trans hX)
  replace KP := Lib.hid (KP.out.ext hX)
  clear hX
  obtain rfl : ne = N := by have := hE.len; have := HN.out; omega
  have hcap := hE.cap
  have E := Lib.hid hE.ints
  clear hE
  go_wp2_with fail
  refine (decodeP_any Ae ne ce bs _ (E.out) (by omega) (by omega)).mono ?_
  rw [HD1.out]
  rintro e w3 hr
  obtain ⟨Aa, na, ca, rfl, hi, hX⟩ := hr.open
  simp only [decO, Pul.val] at hi ⊢
  have Ia := Lib.hid hi
  clear hr hi
  replace hX : Ext w2 w3 := by with_reducible exact hX
  replace HX := Lib.hid (HX.out.trans hX)
  replace E := Lib.hid (E.out.ext hX)
  replace KP := Lib.hid (KP.out.ext hX)
  clear hX
  go_upto_region 7 with (fail)
  have hXa : Ext w3 (w3.alloc (.cells #[.int .i64 tm, .int .i64 x0, .int .i64 x1, .int .i64 x2, .int .i64 x3, .slice Aa na ca] 71)) := (Ext.refl _).alloc _
  have kQ := Blk.new w3 71 #[.int .i64 tm, .int .i64 x0, .int .i64 x1, .int .i64 x2, .int .i64 x3, .slice Aa na ca]
  have zP := KP.out.lt
  have zg := HX.out.size
  replace HX := Lib.hid (HX.out.trans hXa)
  replace E := Lib.hid (E.out.ext hXa)
  replace Ia := Lib.hid (Ia.out.ext hXa)
  replace KP := Lib.hid (KP.out.ext hXa)
  generalize (w3.alloc (.cells #[.int .i64 tm, .int .i64 x0, .int .i64 x1, .int .i64 x2, .int .i64 x3, .slice Aa na ca] 71)) = w4 at HX E Ia KP kQ ⊢
  have KQ := Lib.hid kQ
  clear kQ hXa
  obtain ⟨hcap1, hcap2⟩ := hcap
  go_wp2_with (first | (at_builtin; refine wpList_app (o := ⟨some 39, _, _, _, _, _⟩) _ elB8 rfl _ _ rfl w4.heap.size (.slice (some ⟨w4.heap.size, 0, none⟩) 0 0) 0 [] rfl (World.ownsRow_lit w4 #[] 0 (Nat.le_refl _) (by unfold maxLen; omega) rfl) Ae ne ce (bs.map (.int .u8)) rfl (by rw [List.length_map, Nat.mul_one]; exact HN.out) (E.out.ext ((Ext.refl _).alloc _)).2.2 (ints_oneCell _ _) (by omega) (by unfold maxLen; omega) (by simp) ?_; intro v6 w20 hown6 hgr6 _; simp only [Nat.zero_add, List.nil_append] at hown6; have HG6 := Lib.hid (Ext.app ((Ext.refl w4).alloc _) (World.ownsRow_lit (size := 1) (e := 5) w4 #[] 0 (Nat.le_refl _) (by unfold maxLen; omega) rfl) hgr6); obtain ⟨A6, c6, rfl⟩ := own_slice hown6; have HO6 := Lib.hid hown6; clear hown6 hgr6) | (at_builtin; have hsz6 := HG6.out.size; refine wpList_app (o := ⟨some 41, _, _, _, _, _⟩) _ elB8 rfl _ _ rfl w4.heap.size (.slice A6 ne c6) ne (bs.map (.int .u8)) rfl (HO6.out.alloc _) _ 1 1 [.int .u8 0] rfl rfl (At.new' _ [_] _ rfl) (by simp [Value.oneCell']) (by omega) (by unfold maxLen; omega) (by simp; omega) ?_; intro v7 w21 hown7 hgr7 _; have HG7 := Lib.hid (HG6.out.push HO6.out hgr7); obtain ⟨A7, c7, rfl⟩ := own_slice hown7; have HO7 := Lib.hid hown7; clear hown7 hgr7))
  have hX := HG7.out
  replace HX := Lib.hid (HX.out.trans hX)
  replace E := Lib.hid (E.out.ext hX)
  replace Ia := Lib.hid (Ia.out.ext hX)
  replace KP := Lib.hid (KP.out.ext hX)
  replace KQ := Lib.hid (KQ.out.ext hX)
  clear hX
  have hb7 : Ints .u8 w21 A7 (ne + 1) (bs ++ [0]) := by
    have h1 := At.of_own HO7.out
    refine ⟨by rw [List.length_append, HN.out]; rfl, fun x hx => ?_, by simpa using h1⟩
    rcases List.mem_append.1 hx with hx | hx
    · exact E.out.2.1 x hx
    · simp at hx; subst hx; decide
  have hcap7 := own_cap HO7.out
  have HB7 := Lib.hid hb7
  clear hb7 HO6 HO7 HG6 HG7
  obtain ⟨hcp1, hcp2⟩ := hcap7
  refine (decodeP_any A7 (ne + 1) c7 (bs ++ [0]) _ (HB7.out) (by omega) (by omega)).mono ?_
  rw [HD2.out]
  rintro e w5 hr
  obtain ⟨Ab, nb, cb, rfl, hi, hX⟩ := hr.open
  simp only [decO, Pul.val] at hi ⊢
  have Ib := Lib.hid hi
  clear hr hi
  replace hX : Ext w21 w5 := by with_reducible exact hX
  replace HX := Lib.hid (HX.out.trans hX)
  replace E := Lib.hid (E.out.ext hX)
  replace Ia := Lib.hid (Ia.out.ext hX)
  replace KP := Lib.hid (KP.out.ext hX)
  replace KQ := Lib.hid (KQ.out.ext hX)
  clear hX
  go_upto_region 8 with (fail)
  have hXa : Ext w5 (w5.alloc (.cells #[.int .i64 0, .int .i64 0, .int .i64 0, .int .i64 0, .int .i64 0, .slice Ab nb cb] 71)) := (Ext.refl _).alloc _
  have kR := Blk.new w5 71 #[.int .i64 0, .int .i64 0, .int .i64 0, .int .i64 0, .int .i64 0, .slice Ab nb cb]
  have zP := KP.out.lt
  have zQ := KQ.out.lt
  have zg := HX.out.size
  replace HX := Lib.hid (HX.out.trans hXa)
  replace E := Lib.hid (E.out.ext hXa)
  replace Ia := Lib.hid (Ia.out.ext hXa)
  replace Ib := Lib.hid (Ib.out.ext hXa)
  replace KP := Lib.hid (KP.out.ext hXa)
  replace KQ := Lib.hid (KQ.out.ext hXa)
  generalize (w5.alloc (.cells #[.int .i64 0, .int .i64 0, .int .i64 0, .int .i64 0, .int .i64 0, .slice Ab nb cb] 71)) = w6 at HX E Ia Ib KP KQ kR ⊢
  have KR := Lib.hid kR
  clear kR hXa
  have cP0 : w6.cell? ⟨w.heap.size, 0, none⟩ = some (.int .i64 tm) := KP.out.cell 0
  have cP1 : w6.cell? ⟨w.heap.size, 1, none⟩ = some (.int .i64 x0) := KP.out.cell 1
  have cP2 : w6.cell? ⟨w.heap.size, 2, none⟩ = some (.int .i64 x1) := KP.out.cell 2
  have cP3 : w6.cell? ⟨w.heap.size, 3, none⟩ = some (.int .i64 x2) := KP.out.cell 3
  have cP4 : w6.cell? ⟨w.heap.size, 4, none⟩ = some (.int .i64 x3) := KP.out.cell 4
  have cP5 : w6.cell? ⟨w.heap.size, 5, none⟩ = some (.slice A n c) := KP.out.cell 5
  have cQ0 : w6.cell? ⟨w3.heap.size, 0, none⟩ = some (.int .i64 tm) := KQ.out.cell 0
  have cQ1 : w6.cell? ⟨w3.heap.size, 1, none⟩ = some (.int .i64 x0) := KQ.out.cell 1
  have cQ2 : w6.cell? ⟨w3.heap.size, 2, none⟩ = some (.int .i64 x1) := KQ.out.cell 2
  have cQ3 : w6.cell? ⟨w3.heap.size, 3, none⟩ = some (.int .i64 x2) := KQ.out.cell 3
  have cQ4 : w6.cell? ⟨w3.heap.size, 4, none⟩ = some (.int .i64 x3) := KQ.out.cell 4
  have cQ5 : w6.cell? ⟨w3.heap.size, 5, none⟩ = some (.slice Aa na ca) := KQ.out.cell 5
  go_wp2_with fail
  clear cP0 cP1 cP2 cP3 cP4 cP5 cQ0 cQ1 cQ2 cQ3 cQ4 cQ5
  refine (samePul_eq ⟨tm, x0, x1, x2, x3, l⟩ A Aa n c na ca _ (H.out.ext HX.out) Ia.out (by omega)).mono ?_
  rintro e w7 ⟨rfl, hX⟩
  replace hX : Ext w6 w7 := by with_reducible exact hX
  replace HX := Lib.hid (HX.out.trans hX)
  replace E := Lib.hid (E.out.ext hX)
  replace Ia := Lib.hid (Ia.out.ext hX)
  replace Ib := Lib.hid (Ib.out.ext hX)
  replace KP := Lib.hid (KP.out.ext hX)
  replace KQ := Lib.hid (KQ.out.ext hX)
  replace KR := Lib.hid (KR.out.ext hX)
  clear hX
  go_wp2_with fail
  refine (firstW_any _).mono ?_
  rintro e w8 ⟨rfl, hX⟩
  replace hX : Ext w7 w8 := by with_reducible exact hX
  replace HX := Lib.hid (HX.out.trans hX)
  replace E := Lib.hid (E.out.ext hX)
  replace Ia := Lib.hid (Ia.out.ext hX)
  replace Ib := Lib.hid (Ib.out.ext hX)
  replace KP := Lib.hid (KP.out.ext hX)
  replace KQ := Lib.hid (KQ.out.ext hX)
  replace KR := Lib.hid (KR.out.ext hX)
  clear hX
  go_wp2
  go_ret
  exact ⟨rfl, HX.out⟩

theorem waveBack_walk (q : Pul) (A : Option Addr) (n c : Nat) (w : World) (h : Ints .i64 w A n q.smp) :
    Calls Try.prog 19 #[q.val A n c] w (fun e w' => e = .returned (.bool true) ∧ Ext w w') := by
  obtain ⟨tm, x0, x1, x2, x3, l⟩ := q
  by_cases hs : Smp l
  · by_cases hp : PulOk ⟨tm, x0, x1, x2, x3, l⟩
    · exact back_yes A n c tm x0 x1 x2 x3 l w hs hp h
    · exact back_no A n c tm x0 x1 x2 x3 l w hs hp h
  · exact back_bad A n c tm x0 x1 x2 x3 l w hs h
end Go.Proofs.Ytagcgldhhdecjaa
