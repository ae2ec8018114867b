/- Lemmas of the proof that follows (Differs, part 3): walks of functions by contract, and plain lemmas. Conditions: none. -/
import Derived.Test.YtagcgldhhdecjaaDiffersB
namespace Go.Proofs.Ytagcgldhhdecjaa
open Go.RowKit

theorem elS : Elem Try.prog 56 94 2 16 (.agg #[.int .i64 0, .int .i64 0]) := Elem.mk' (by kernel_rfl) (by kernel_rfl) rfl (by decide)
/-- Steps as cells. -/
def stV (ss : List (Int × Int)) : List Value := ss.flatMap fun s => [.int .i64 s.1, .int .i64 s.2]
theorem stV_len (ss : List (Int × Int)) : (stV ss).length = ss.length * 2 := by
  induction ss with
  | nil => rfl
  | cons r rs ih => unfold stV at ih ⊢; rw [List.flatMap_cons, List.length_append, ih]; simp; omega
theorem stV_snoc (ss : List (Int × Int)) (s : Int × Int) : stV (ss ++ [s]) = stV ss ++ [.int .i64 s.1, .int .i64 s.2] := by simp [stV]
theorem stV_set (ss : List (Int × Int)) (d c e : Int) : (stV (ss ++ [(d, c)])).set (ss.length * 2 + 1) (.int .i64 e) = stV (ss ++ [(d, e)]) := by
  rw [stV_snoc, stV_snoc, List.set_append_right _ _ (by rw [stV_len]; omega), stV_len, show ss.length * 2 + 1 - ss.length * 2 = 1 by omega]
  rfl
theorem stV_get {ss : List (Int × Int)} {j : Nat} {s : Int × Int} (h : ss[j]? = some s) : (stV ss)[j * 2]? = some (.int .i64 s.1) ∧ (stV ss)[j * 2 + 1]? = some (.int .i64 s.2) := by
  induction ss generalizing j with
  | nil => simp at h
  | cons x rs ih =>
    have e : stV (x :: rs) = .int .i64 x.1 :: .int .i64 x.2 :: stV rs := rfl
    rw [e]
    cases j with
    | zero => simp at h; subst h; exact ⟨rfl, rfl⟩
    | succ j =>
      have := ih (j := j) (by simpa using h)
      rw [show (j + 1) * 2 = j * 2 + 1 + 1 by omega]
      simpa using this
/-- Steps in memory. -/
def StL (base : Nat) (w : World) (v : Value) (ss : List (Int × Int)) : Prop := w.ownsRow base 94 2 v ss.length (stV ss)
theorem StL.ext {base : Nat} {w w' : World} {v : Value} {ss : List (Int × Int)} (h : StL base w v ss) (he : Ext w w') : StL base w' v ss := World.ownsRow.ext' h he
theorem StL.nil (base : Nat) (w : World) : StL base w (.slice none 0 0) [] := World.ownsRow_nil _ _ _ _
theorem StL.get {base : Nat} {w : World} {v : Value} {ss : List (Int × Int)} (h : StL base w v ss) {j : Nat} (hj : j < ss.length) : ∃ g c s, v = .slice (some ⟨g, 0, none⟩) ss.length c ∧ ss[j]? = some s ∧ w.cell? ⟨g, j * 2, none⟩ = some (.int .i64 s.1) ∧ w.cell? ⟨g, j * 2 + 1, none⟩ = some (.int .i64 s.2) := by
  obtain ⟨A, c, rfl⟩ := own_slice h
  obtain ⟨g, rfl, _, _⟩ := own_at0 h (by omega)
  have hr : ss[j]? = some ss[j] := List.getElem?_eq_getElem hj
  obtain ⟨h1, h2⟩ := stV_get hr
  exact ⟨g, c, _, rfl, hr, (h.cellAt (j * 2) (by omega)).trans h1, (h.cellAt (j * 2 + 1) (by omega)).trans h2⟩
def RetSt (w : World) (ss : List (Int × Int)) (e : Ending) (w' : World) : Prop := ∃ v, e = .returned v ∧ StL w.heap.size w' v ss ∧ Ext w w'
theorem diffF_take {l : List Int} {k : Nat} {x : Int} (h : l[k]? = some x) : diffF (l.take (k + 1)) = pushS (diffF (l.take k)) (x - (l.take k).getLastD 0) := by
  rw [List.take_add_one, h]
  exact diffF_snoc _ _
theorem last_take {l : List Int} {k : Nat} {x : Int} (h : l[k]? = some x) : (l.take (k + 1)).getLastD 0 = x := by
  rw [List.take_add_one, h]
  simp
/-- Counts stay small. -/
theorem pushS_cnt {out : List (Int × Int)} {k : Int} (h : ∀ s ∈ out, 1 ≤ s.2 ∧ s.2 ≤ k) (hk : 0 ≤ k) (d : Int) : ∀ s ∈ pushS out d, 1 ≤ s.2 ∧ s.2 ≤ k + 1 := by
  rcases List.eq_nil_or_concat out with rfl | ⟨o, ⟨d', c⟩, rfl⟩
  · intro s hs
    simp [pushS] at hs
    subst hs
    simp only; omega
  · have hc := h (d', c) (by simp)
    simp only at hc
    by_cases hd : d' = d
    · subst hd
      rw [List.concat_eq_append, pushS_same]
      intro s hs
      rcases List.mem_append.1 hs with hs | hs
      · have := h s (by simp [hs]); omega
      · simp at hs; subst hs; simp only; omega
    · rw [List.concat_eq_append, pushS_other _ hd]
      intro s hs
      rcases List.mem_append.1 hs with hs | hs
      · have := h s (by simpa using hs); omega
      · simp at hs; subst hs; simp only; omega
set_option maxRecDepth 100000 in
set_option maxHeartbeats 8000000 in
theorem diffP_any (A : Option Addr) (n c : Nat) (l : List Int) (w : World) (h : Ints .i64 w A n l) (hn : n ≤ 1000) (hb : ∀ x ∈ l, -1152921504606846976 ≤ x ∧ x ≤ 1152921504606846976) :
    Calls Try.prog 40 #[.slice A n c] w (RetSt w (diffF l)) := by
  have H := Lib.hid h
  have HL := Lib.hid h.1
  have HBD := Lib.hid hb
  clear h hb
  go_enter Try.func40, Try.ntmps40
  go_wp2_with fail
  go_loopg [3, 4, 11] n (fun f ov lv iv wr => ∃ (k : Nat) (out : List (Int × Int)) (la : Int), f = n - k ∧ k ≤ n ∧ lv = .int .i64 la ∧ iv = .int .i64 (k : Int) ∧ -1152921504606846976 ≤ la ∧ la ≤ 1152921504606846976 ∧ Hid ((l.take k).getLastD 0 = la) ∧ Hid (diffF (l.take k) = out) ∧ Hid (∀ s ∈ out, 1 ≤ s.2 ∧ s.2 ≤ (k : Int)) ∧ Hid (StL w.heap.size wr ov out) ∧ Hid (Ext w wr))
  case atStart => exact ⟨0, [], 0, rfl, by omega, rfl, rfl, by omega, by omega, Lib.hid rfl, Lib.hid rfl, Lib.hid (by simp), Lib.hid (StL.nil _ _), Lib.hid (Ext.refl _)⟩
  case round =>
    obtain ⟨k, out, la, rfl, hk, rfl, rfl, hla1, hla2, HLA, HDF, HCN, HO, HX⟩ := hrel
    by_cases hlt : k < n
    · obtain ⟨b, off, x, rfl, hx, _, hc⟩ := (H.out.ext HX.out).get hlt
      obtain ⟨bx1, bx2⟩ := HBD.out x (List.mem_of_getElem? hx)
      have HD2 := Lib.hid (diffF_take hx)
      have HL2 := Lib.hid (last_take hx)
      rw [HLA.out] at HD2
      clear hx
      obtain ⟨dd, hdd0⟩ : ∃ dd, x - la = dd := ⟨_, rfl⟩
      have qw : IntKind.i64.wrap (x - la) = dd := by rw [hdd0]; exact IntWalk.i64_in _ (by omega)
      rw [hdd0] at HD2
      clear hdd0
      have hps : Hid (pushS out (dd) = diffF (l.take (k + 1))) := Lib.hid (by rw [HD2.out, HDF.out])
      have hcn := pushS_cnt HCN.out (by omega) (dd)
      rw [hps.out] at hcn
      have HCN2 : Hid (∀ s ∈ diffF (l.take (k + 1)), 1 ≤ s.2 ∧ s.2 ≤ ((k + 1 : Nat) : Int)) := Lib.hid (by simpa using hcn)
      have hln := diffF_len (l.take (k + 1))
      have hlo := diffF_len (l.take k)
      rw [HDF.out] at hlo
      rw [List.length_take] at hln hlo
      have hown := HO.out
      clear hcn
      rcases List.eq_nil_or_concat out with ho | ⟨o, ⟨d', cc⟩, ho⟩
      · subst ho
        obtain ⟨A1, c1, hso⟩ := own_slice hown
        subst hso
        have hown' : wr.ownsRow w.heap.size 94 2 (.slice A1 0 c1) 0 (stV []) := hown
        have hsz := HX.out.size
        have HPS : Hid (diffF (l.take (k + 1)) = [] ++ [(dd, 1)]) := Lib.hid (by rw [← hps.out]; rfl)
        clear hown hln hlo
        go_wp2_with (at_builtin; refine wpList_app _ elS rfl _ _ rfl w.heap.size (.slice A1 0 c1) 0 (stV []) rfl (hown'.alloc _) _ 1 1 [.int .i64 (dd), .int .i64 1] rfl rfl (At.new' _ [_, _] _ rfl) (by simp [Value.oneCell']) (by omega) (by unfold maxLen; omega) (by simp; omega) ?_; intro v5 w5 hown5 hgr5 _; have HX5 := Lib.hid (HX.out.push hown' hgr5); have HOW5 := Lib.hid hown5; clear hown5 hgr5)
        go_roundg (n - (k + 1))
        case rel => exact ⟨k + 1, diffF (l.take (k + 1)), x, rfl, by omega, by go_num, by go_num, by omega, by omega, HL2, Lib.hid rfl, HCN2, Lib.hid (by rw [HPS.out]; unfold StL; rw [stV_snoc, List.length_append]; exact HOW5.out), HX5⟩
        case measure => omega
      · rw [List.concat_eq_append] at ho
        subst ho
        obtain ⟨oz, hoz⟩ : ∃ oz, o.length = oz := ⟨_, rfl⟩
        have hown' : StL w.heap.size wr _ (o ++ [(d', cc)]) := hown
        unfold StL at hown'
        rw [List.length_append, hoz] at hown'
        simp only [List.length_cons, List.length_nil, Nat.zero_add] at hown'
        obtain ⟨A1, c1, hso⟩ := own_slice hown'
        subst hso
        obtain ⟨g, hge, hg1, hg2⟩ := own_at0 hown' (by omega)
        subst hge
        obtain ⟨cur, hB, _⟩ := own_cells hown'
        have hfr := hB.free (oz * 2 + 1)
        have hgt := stV_get (ss := o ++ [(d', cc)]) (j := oz) (s := (d', cc)) (by rw [← hoz]; simp)
        have hc0 := (hown'.cellAt (oz * 2) (by omega)).trans hgt.1
        have hc1 := (hown'.cellAt (oz * 2 + 1) (by omega)).trans hgt.2
        simp only at hc0 hc1
        have hcc := HCN.out (d', cc) (by simp)
        simp only at hcc
        obtain ⟨hcc1, hcc2⟩ := hcc
        have hol : oz + 1 ≤ k := by rw [List.length_append, hoz] at hlo; simp only [List.length_cons, List.length_nil] at hlo; omega
        have HOZ := Lib.hid hoz
        clear hown hgt hB hln hlo hoz
        have hsz := HX.out.size
        by_cases hdd : d' = (dd)
        · have qd : (d' == (dd)) = true := by simpa using hdd
          have HPS : Hid (diffF (l.take (k + 1)) = o ++ [(d', cc + 1)]) := Lib.hid (by rw [← hps.out, ← hdd]; exact pushS_same _ _ _)
          have HOW := Lib.hid hown'
          clear hdd hown'
          go_wp2
          go_roundg (n - (k + 1))
          case rel => exact ⟨k + 1, diffF (l.take (k + 1)), x, rfl, by omega, by go_num, by go_num, by omega, by omega, HL2, Lib.hid rfl, HCN2, Lib.hid (by
                      rw [HPS.out]
                      unfold StL
                      have h1 := ownsRow_set (i := oz * 2 + 1) (u := .int .i64 (cc + 1)) HOW.out
                      rw [← HOZ.out, stV_set, HOZ.out] at h1
                      rw [List.length_append, HOZ.out]
                      exact h1), Lib.hid (HX.out.setCell hg1 _)⟩
          case measure => omega
        · have qd : (d' == (dd)) = false := by simpa using hdd
          have HPS : Hid (diffF (l.take (k + 1)) = o ++ [(d', cc)] ++ [(dd, 1)]) := Lib.hid (by rw [← hps.out]; exact pushS_other _ hdd)
          clear hdd
          go_wp2_with (at_builtin; refine wpList_app _ elS rfl _ _ rfl w.heap.size (.slice (some ⟨g, 0, none⟩) (oz + 1) c1) (oz + 1) (stV (o ++ [(d', cc)])) rfl (hown'.alloc _) _ 1 1 [.int .i64 (dd), .int .i64 1] rfl rfl (At.new' _ [_, _] _ rfl) (by simp [Value.oneCell']) (by omega) (by unfold maxLen; omega) (by simp; omega) ?_; intro v5 w5 hown5 hgr5 _; have HX5 := Lib.hid (HX.out.push hown' hgr5); have HOW5 := Lib.hid hown5; clear hown5 hgr5)
          go_roundg (n - (k + 1))
          case rel => exact ⟨k + 1, diffF (l.take (k + 1)), x, rfl, by omega, by go_num, by go_num, by omega, by omega, HL2, Lib.hid rfl, HCN2, Lib.hid (by rw [HPS.out]; unfold StL; rw [stV_snoc, List.length_append, List.length_append, HOZ.out]; exact HOW5.out), HX5⟩
          case measure => omega
    · obtain rfl : k = n := by omega
      have HE : Hid (diffF l = out) := Lib.hid (by have := HDF.out; rwa [List.take_of_length_le (by have := HL.out; omega)] at this)
      have hown := HO.out
      obtain ⟨A1, c1, hso⟩ := own_slice hown
      subst hso
      clear hown
      go_wp2
      go_ret
      exact ⟨_, rfl, by rw [HE.out]; exact HO.out, HX.out⟩
set_option maxRecDepth 100000 in
set_option maxHeartbeats 8000000 in
theorem diffR_any (A : Option Addr) (n c : Nat) (l : List Int) (w : World) (h : Ints .i64 w A n l) (hn : n ≤ 1000) (hb : ∀ x ∈ l, -1152921504606846976 ≤ x ∧ x ≤ 1152921504606846976) :
    Calls Try.prog 41 #[.slice A n c] w (RetSt w (diffF l)) := by
  have H := Lib.hid h
  have HL := Lib.hid h.1
  have HBD := Lib.hid hb
  clear h hb
  go_enter Try.func41, Try.ntmps41
  go_wp2_with fail
  go_loopg [3, 4] n (fun f ov iv wr => ∃ (k : Nat) (out : List (Int × Int)), f = n - k ∧ k ≤ n ∧ iv = .int .i64 (k : Int) ∧ Hid (diffF (l.take k) = out) ∧ Hid (∀ s ∈ out, 1 ≤ s.2 ∧ s.2 ≤ (k : Int)) ∧ Hid (StL w.heap.size wr ov out) ∧ Hid (Ext w wr))
  case atStart => exact ⟨0, [], rfl, by omega, rfl, Lib.hid rfl, Lib.hid (by simp), Lib.hid (StL.nil _ _), Lib.hid (Ext.refl _)⟩
  case round =>
    obtain ⟨k, out, rfl, hk, rfl, HDF, HCN, HO, HX⟩ := hrel
    by_cases hlt : k < n
    · obtain ⟨b, off, x, rfl, hx, _, hc⟩ := (H.out.ext HX.out).get hlt
      obtain ⟨bx1, bx2⟩ := HBD.out x (List.mem_of_getElem? hx)
      have HD2 := Lib.hid (diffF_take hx)
      clear hx
      by_cases hk0 : k = 0
      · subst hk0
        rw [Nat.add_zero] at hc
        have e0 : x - (l.take 0).getLastD 0 = x := by simp
        rw [e0] at HD2
        clear e0
        have hps : Hid (pushS out (x) = diffF (l.take (0 + 1))) := Lib.hid (by rw [HD2.out, HDF.out])
        have hcn := pushS_cnt HCN.out (by omega) (x)
        rw [hps.out] at hcn
        have HCN2 : Hid (∀ s ∈ diffF (l.take (0 + 1)), 1 ≤ s.2 ∧ s.2 ≤ ((0 + 1 : Nat) : Int)) := Lib.hid (by simpa using hcn)
        have hln := diffF_len (l.take (0 + 1))
        have hlo := diffF_len (l.take 0)
        rw [HDF.out] at hlo
        rw [List.length_take] at hln hlo
        have hown := HO.out
        clear hcn
        rcases List.eq_nil_or_concat out with ho | ⟨o, ⟨d', cc⟩, ho⟩
        · subst ho
          obtain ⟨A1, c1, hso⟩ := own_slice hown
          subst hso
          have hown' : wr.ownsRow w.heap.size 94 2 (.slice A1 0 c1) 0 (stV []) := hown
          have hsz := HX.out.size
          have HPS : Hid (diffF (l.take (0 + 1)) = [] ++ [(x, 1)]) := Lib.hid (by rw [← hps.out]; rfl)
          clear hown hln hlo
          go_wp2_with (at_builtin; refine wpList_app _ elS rfl _ _ rfl w.heap.size (.slice A1 0 c1) 0 (stV []) rfl (hown'.alloc _) _ 1 1 [.int .i64 (x), .int .i64 1] rfl rfl (At.new' _ [_, _] _ rfl) (by simp [Value.oneCell']) (by omega) (by unfold maxLen; omega) (by simp; omega) ?_; intro v5 w5 hown5 hgr5 _; have HX5 := Lib.hid (HX.out.push hown' hgr5); have HOW5 := Lib.hid hown5; clear hown5 hgr5)
          go_roundg (n - (0 + 1))
          case rel => exact ⟨0 + 1, diffF (l.take (0 + 1)), rfl, by omega, by go_num, Lib.hid rfl, HCN2, Lib.hid (by rw [HPS.out]; unfold StL; rw [stV_snoc, List.length_append]; exact HOW5.out), HX5⟩
          case measure => omega
        · rw [List.concat_eq_append] at ho
          subst ho
          obtain ⟨oz, hoz⟩ : ∃ oz, o.length = oz := ⟨_, rfl⟩
          have hown' : StL w.heap.size wr _ (o ++ [(d', cc)]) := hown
          unfold StL at hown'
          rw [List.length_append, hoz] at hown'
          simp only [List.length_cons, List.length_nil, Nat.zero_add] at hown'
          obtain ⟨A1, c1, hso⟩ := own_slice hown'
          subst hso
          obtain ⟨g, hge, hg1, hg2⟩ := own_at0 hown' (by omega)
          subst hge
          obtain ⟨cur, hB, _⟩ := own_cells hown'
          have hfr := hB.free (oz * 2 + 1)
          have hgt := stV_get (ss := o ++ [(d', cc)]) (j := oz) (s := (d', cc)) (by rw [← hoz]; simp)
          have hc0 := (hown'.cellAt (oz * 2) (by omega)).trans hgt.1
          have hc1 := (hown'.cellAt (oz * 2 + 1) (by omega)).trans hgt.2
          simp only at hc0 hc1
          have hcc := HCN.out (d', cc) (by simp)
          simp only at hcc
          obtain ⟨hcc1, hcc2⟩ := hcc
          have hol : oz + 1 ≤ 0 := by rw [List.length_append, hoz] at hlo; simp only [List.length_cons, List.length_nil] at hlo; omega
          exact absurd hol (by omega)

      · obtain ⟨k0, rfl⟩ : ∃ k0, k = k0 + 1 := ⟨k - 1, by omega⟩
        obtain ⟨b', off', y, e, hy, _, cy⟩ := (H.out.ext HX.out).get (j := k0) (by omega)
        injection e with e
        injection e with e1 e2
        subst e1 e2
        obtain ⟨by1, by2⟩ := HBD.out y (List.mem_of_getElem? hy)
        rw [last_take hy] at HD2
        clear hy hk0
        obtain ⟨dd, hdd0⟩ : ∃ dd, x - y = dd := ⟨_, rfl⟩
        have qw : IntKind.i64.wrap (x - y) = dd := by rw [hdd0]; exact IntWalk.i64_in _ (by omega)
        rw [hdd0] at HD2
        clear hdd0
        go_wp2_with fail
        go_region
        go_upto_region 8 with (fail)
        have hX8 := (Ext.refl wr).drew
        replace HX := Lib.hid (HX.out.drew)
        replace HO := Lib.hid (HO.out.ext hX8)
        clear hX8 cy hc
        generalize wr.drew = wr at HX HO ⊢
        have hps : Hid (pushS out (dd) = diffF (l.take (k0 + 1 + 1))) := Lib.hid (by rw [HD2.out, HDF.out])
        have hcn := pushS_cnt HCN.out (by omega) (dd)
        rw [hps.out] at hcn
        have HCN2 : Hid (∀ s ∈ diffF (l.take (k0 + 1 + 1)), 1 ≤ s.2 ∧ s.2 ≤ ((k0 + 1 + 1 : Nat) : Int)) := Lib.hid (by simpa using hcn)
        have hln := diffF_len (l.take (k0 + 1 + 1))
        have hlo := diffF_len (l.take (k0 + 1))
        rw [HDF.out] at hlo
        rw [List.length_take] at hln hlo
        have hown := HO.out
        clear hcn
        rcases List.eq_nil_or_concat out with ho | ⟨o, ⟨d', cc⟩, ho⟩
        · subst ho
          obtain ⟨A1, c1, hso⟩ := own_slice hown
          subst hso
          have hown' : wr.ownsRow w.heap.size 94 2 (.slice A1 0 c1) 0 (stV []) := hown
          have hsz := HX.out.size
          have HPS : Hid (diffF (l.take (k0 + 1 + 1)) = [] ++ [(dd, 1)]) := Lib.hid (by rw [← hps.out]; rfl)
          clear hown hln hlo
          go_wp2_with (at_builtin; refine wpList_app _ elS rfl _ _ rfl w.heap.size (.slice A1 0 c1) 0 (stV []) rfl (hown'.alloc _) _ 1 1 [.int .i64 (dd), .int .i64 1] rfl rfl (At.new' _ [_, _] _ rfl) (by simp [Value.oneCell']) (by omega) (by unfold maxLen; omega) (by simp; omega) ?_; intro v5 w5 hown5 hgr5 _; have HX5 := Lib.hid (HX.out.push hown' hgr5); have HOW5 := Lib.hid hown5; clear hown5 hgr5)
          go_roundg (n - (k0 + 1 + 1))
          case rel => exact ⟨k0 + 1 + 1, diffF (l.take (k0 + 1 + 1)), rfl, by omega, by go_num, Lib.hid rfl, HCN2, Lib.hid (by rw [HPS.out]; unfold StL; rw [stV_snoc, List.length_append]; exact HOW5.out), HX5⟩
          case measure => omega
        · rw [List.concat_eq_append] at ho
          subst ho
          obtain ⟨oz, hoz⟩ : ∃ oz, o.length = oz := ⟨_, rfl⟩
          have hown' : StL w.heap.size wr _ (o ++ [(d', cc)]) := hown
          unfold StL at hown'
          rw [List.length_append, hoz] at hown'
          simp only [List.length_cons, List.length_nil, Nat.zero_add] at hown'
          obtain ⟨A1, c1, hso⟩ := own_slice hown'
          subst hso
          obtain ⟨g, hge, hg1, hg2⟩ := own_at0 hown' (by omega)
          subst hge
          obtain ⟨cur, hB, _⟩ := own_cells hown'
          have hfr := hB.free (oz * 2 + 1)
          have hgt := stV_get (ss := o ++ [(d', cc)]) (j := oz) (s := (d', cc)) (by rw [← hoz]; simp)
          have hc0 := (hown'.cellAt (oz * 2) (by omega)).trans hgt.1
          have hc1 := (hown'.cellAt (oz * 2 + 1) (by omega)).trans hgt.2
          simp only at hc0 hc1
          have hcc := HCN.out (d', cc) (by simp)
          simp only at hcc
          obtain ⟨hcc1, hcc2⟩ := hcc
          have hol : oz + 1 ≤ k0 + 1 := by rw [List.length_append, hoz] at hlo; simp only [List.length_cons, List.length_nil] at hlo; omega
          have HOZ := Lib.hid hoz
          clear hown hgt hB hln hlo hoz
          have hsz := HX.out.size
          by_cases hdd : d' = (dd)
          · have qd : (d' == (dd)) = true := by simpa using hdd
            have HPS : Hid (diffF (l.take (k0 + 1 + 1)) = o ++ [(d', cc + 1)]) := Lib.hid (by rw [← hps.out, ← hdd]; exact pushS_same _ _ _)
            have HOW := Lib.hid hown'
            clear hdd hown'
            go_wp2
            go_roundg (n - (k0 + 1 + 1))
            case rel => exact ⟨k0 + 1 + 1, diffF (l.take (k0 + 1 + 1)), rfl, by omega, by go_num, Lib.hid rfl, HCN2, Lib.hid (by
                          rw [HPS.out]
                          unfold StL
                          have h1 := ownsRow_set (i := oz * 2 + 1) (u := .int .i64 (cc + 1)) HOW.out
                          rw [← HOZ.out, stV_set, HOZ.out] at h1
                          rw [List.length_append, HOZ.out]
                          exact h1), Lib.hid (HX.out.setCell hg1 _)⟩
            case measure => omega
          · have qd : (d' == (dd)) = false := by simpa using hdd
            have HPS : Hid (diffF (l.take (k0 + 1 + 1)) = o ++ [(d', cc)] ++ [(dd, 1)]) := Lib.hid (by rw [← hps.out]; exact pushS_other _ hdd)
            clear hdd
            go_wp2_with (at_builtin; refine wpList_app _ elS rfl _ _ rfl w.heap.size (.slice (some ⟨g, 0, none⟩) (oz + 1) c1) (oz + 1) (stV (o ++ [(d', cc)])) rfl (hown'.alloc _) _ 1 1 [.int .i64 (dd), .int .i64 1] rfl rfl (At.new' _ [_, _] _ rfl) (by simp [Value.oneCell']) (by omega) (by unfold maxLen; omega) (by simp; omega) ?_; intro v5 w5 hown5 hgr5 _; have HX5 := Lib.hid (HX.out.push hown' hgr5); have HOW5 := Lib.hid hown5; clear hown5 hgr5)
            go_roundg (n - (k0 + 1 + 1))
            case rel => exact ⟨k0 + 1 + 1, diffF (l.take (k0 + 1 + 1)), rfl, by omega, by go_num, Lib.hid rfl, HCN2, Lib.hid (by rw [HPS.out]; unfold StL; rw [stV_snoc, List.length_append, List.length_append, HOZ.out]; exact HOW5.out), HX5⟩
            case measure => omega
    · obtain rfl : k = n := by omega
      have HE : Hid (diffF l = out) := Lib.hid (by have := HDF.out; rwa [List.take_of_length_le (by have := HL.out; omega)] at this)
      have hown := HO.out
      obtain ⟨A1, c1, hso⟩ := own_slice hown
      subst hso
      clear hown
      go_wp2
      go_ret
      exact ⟨_, rfl, by rw [HE.out]; exact HO.out, HX.out⟩
end Go.Proofs.Ytagcgldhhdecjaa
namespace Go.Proofs.Ytagcgldhhdecjaa
open Go.RowKit

/-- A slice of steps reads as ss. -/
def StR (w : World) (A : Option Addr) (n : Nat) (ss : List (Int × Int)) : Prop := ss.length = n ∧ At w A (stV ss)
theorem StR.ext {w w' : World} {A : Option Addr} {n : Nat} {ss : List (Int × Int)} (h : StR w A n ss) (he : Ext w w') : StR w' A n ss := ⟨h.1, h.2.ext he⟩
theorem StL.read {base : Nat} {w : World} {A : Option Addr} {n c : Nat} {ss : List (Int × Int)} (h : StL base w (.slice A n c) ss) (hn : ss.length = n) : StR w A n ss := by
  subst hn
  exact ⟨rfl, At.of_own h⟩
theorem StR.get {w : World} {A : Option Addr} {n : Nat} {ss : List (Int × Int)} (h : StR w A n ss) {j : Nat} (hj : j < n) : ∃ b off s, A = some ⟨b, off, none⟩ ∧ ss[j]? = some s ∧ w.cell? ⟨b, off + j * 2, none⟩ = some (.int .i64 s.1) ∧ w.cell? ⟨b, off + j * 2 + 1, none⟩ = some (.int .i64 s.2) := by
  obtain ⟨h1, h2⟩ := h
  have hr : ss[j]? = some ss[j] := List.getElem?_eq_getElem (by omega)
  obtain ⟨g1, g2⟩ := stV_get hr
  obtain ⟨b, off, hA, hc⟩ := h2 (by intro e; rw [e] at g1; simp at g1)
  exact ⟨b, off, _, hA, hr, hc _ _ g1, by rw [Nat.add_assoc]; exact hc _ _ g2⟩
set_option maxRecDepth 100000 in
set_option maxHeartbeats 2000000 in
theorem sameS_eq (A B : Option Addr) (n c d : Nat) (ss : List (Int × Int)) (w : World) (hA : StR w A n ss) (hB : StR w B n ss) (hn : n ≤ 1000000) :
    Calls Try.prog 39 #[.slice A n c, .slice B n d] w fun e w' => e = .returned (.bool true) ∧ Ext w w' := by
  have HA := Lib.hid hA
  have HB := Lib.hid hB
  clear hA hB
  have hnn : ((n : Int) != (n : Int)) = false := by simp
  go_enter Try.func39, Try.ntmps39
  go_wp2_with fail
  go_loopg [5] n (fun g i wr => ∃ k : Nat, g = n - k ∧ k ≤ n ∧ i = .int .i64 (k : Int) ∧ Hid (Ext w wr))
  case atStart => exact ⟨0, rfl, by omega, rfl, Lib.hid (Ext.refl w)⟩
  case round =>
    obtain ⟨k, rfl, hk, rfl, HX⟩ := hrel
    by_cases hlt : k < n
    · have q1 : decide (k < n) = true := decide_eq_true hlt
      obtain ⟨ga, oa, x, rfl, hx, a0, a1⟩ := (HA.out.ext HX.out).get hlt
      obtain ⟨gb, ob, y, rfl, hy, d0, d1⟩ := (HB.out.ext HX.out).get hlt
      obtain rfl : x = y := by rw [hx] at hy; injection hy
      obtain ⟨x0, x1⟩ := x
      simp only at a0 a1 d0 d1
      clear hx hy
      go_wp2_with fail
      go_region
      go_wp2
      go_roundg (n - (k + 1))
      case rel => exact ⟨k + 1, rfl, by omega, by go_num, Lib.hid HX.out.drew⟩
      case measure => omega
    · obtain rfl : k = n := by omega
      go_wp2
      go_ret
      exact ⟨rfl, HX.out⟩

set_option maxRecDepth 100000 in
set_option maxHeartbeats 4000000 in
theorem waveDiffers_walk (A : Option Addr) (n c : Nat) (l : List Int) (w : World) (h : Ints .i64 w A n l) :
    Calls Try.prog 11 #[.slice A n c] w (fun e w' => e = .returned (.bool true) ∧ Ext w w') := by
  have H := Lib.hid h
  have HL := Lib.hid h.1
  clear h
  by_cases hn : 1000 < n
  · go_enter Try.func11, Try.ntmps11
    go_wp2_with fail
    refine (firstW_any _).mono ?_
    rintro e w1 ⟨rfl, hX⟩
    have HX := Lib.hid hX
    clear hX
    go_wp2
    go_ret
    exact ⟨rfl, HX.out⟩
  go_enter Try.func11, Try.ntmps11
  go_wp2_with fail
  go_loopg [3] n (fun f iv wr => ∃ k : Nat, f = n - k ∧ k ≤ n ∧ iv = .int .i64 (k : Int) ∧ Hid (∀ x ∈ l.take k, -1152921504606846976 ≤ x ∧ x ≤ 1152921504606846976) ∧ w = wr)
  case atStart => exact ⟨0, rfl, by omega, rfl, Lib.hid (by simp), rfl⟩
  case round =>
    obtain ⟨k, rfl, hk, rfl, HA, rfl⟩ := hrel
    by_cases hlt : k < n
    · obtain ⟨b, off, x, rfl, hx, _, hc⟩ := H.out.get hlt
      have HX := Lib.hid hx
      clear hx
      by_cases h0 : x < -1152921504606846976
      · go_wp2_with fail
        refine (firstW_any _).mono ?_
        rintro e w1 ⟨rfl, hX⟩
        have HX := Lib.hid hX
        clear hX
        go_wp2
        go_ret
        exact ⟨rfl, HX.out⟩
      · by_cases h1 : 1152921504606846976 < x
        · go_wp2_with fail
          refine (firstW_any _).mono ?_
          rintro e w1 ⟨rfl, hX⟩
          have HX := Lib.hid hX
          clear hX
          go_wp2
          go_ret
          exact ⟨rfl, HX.out⟩
        · go_wp2
          go_roundg (n - (k + 1))
          case rel =>
            refine ⟨k + 1, rfl, by omega, by go_num, Lib.hid fun y hy => ?_, rfl⟩
            rw [List.take_add_one, HX.out] at hy
            rcases List.mem_append.1 hy with hy | hy
            · exact HA.out y hy
            · simp at hy; subst hy; omega
          case measure => omega
    · obtain rfl : k = n := by omega
      have HB : Hid (∀ x ∈ l, -1152921504606846976 ≤ x ∧ x ≤ 1152921504606846976) := Lib.hid (by have := HA.out; rwa [List.take_of_length_le (by have := HL.out; omega)] at this)
      have hdl : (diffF l).length ≤ k := by have := diffF_len l; have := HL.out; omega
      generalize hdf : diffF l = ss at hdl
      have HD := Lib.hid hdf
      clear hdf
      obtain ⟨N, hN⟩ : ∃ N, ss.length = N := ⟨_, rfl⟩
      rw [hN] at hdl
      have HN := Lib.hid hN
      clear hN
      go_wp2_with fail
      refine (diffP_any A k c l _ H.out (by omega) HB.out).mono ?_
      rw [HD.out]
      rintro e w1 ⟨va, rfl, hoa, hX⟩
      obtain ⟨Aa, ca, hva⟩ := own_slice hoa
      rw [HN.out] at hva
      subst hva
      have HX := Lib.hid hX
      have HSA := Lib.hid (StL.read hoa HN.out)
      clear hX hoa
      go_wp2_with fail
      refine (diffR_any A k c l _ (H.out.ext HX.out) (by omega) HB.out).mono ?_
      rw [HD.out]
      rintro e w2 ⟨vb, rfl, hob, hX⟩
      obtain ⟨Ab, cb, hvb⟩ := own_slice hob
      rw [HN.out] at hvb
      subst hvb
      replace HX := Lib.hid (HX.out.trans hX)
      replace HSA := Lib.hid (HSA.out.ext hX)
      have HSB := Lib.hid (StL.read hob HN.out)
      clear hX hob
      go_wp2_with fail
      refine (sameS_eq Aa Ab N ca cb ss w2 HSA.out HSB.out (by omega)).mono ?_
      rintro e w3 ⟨rfl, hX⟩
      replace HX := Lib.hid (HX.out.trans hX)
      clear hX
      go_wp2_with fail
      refine (firstW_any _).mono ?_
      rintro e w4 ⟨rfl, hX⟩
      replace HX := Lib.hid (HX.out.trans hX)
      clear hX
      go_wp2
      go_ret
      exact ⟨rfl, HX.out⟩
end Go.Proofs.Ytagcgldhhdecjaa
