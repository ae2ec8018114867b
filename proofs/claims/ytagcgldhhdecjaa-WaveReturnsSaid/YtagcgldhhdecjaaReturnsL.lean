/- Lemmas of the proof that follows (Returns, part 12): walks of functions by contract, and plain lemmas. Conditions: none. -/
import Derived.Test.YtagcgldhhdecjaaReturnsK
namespace Go.Proofs.Ytagcgldhhdecjaa
open Go.RowKit

set_option maxRecDepth 100000 in
set_option maxHeartbeats 2000000 in
theorem sameR_eq (A B : Option Addr) (n c d : Nat) (rs : List Ret) (w : World) (hA : RtR w A n rs) (hB : RtR w B n rs) (hn : n ≤ 1000000) :
    Calls Try.prog 57 #[.slice A n c, .slice B n d] w fun e w' => e = .returned (.bool true) ∧ Ext w w' := by
  have HA := Lib.hid hA
  have HB := Lib.hid hB
  clear hA hB
  have hnn : ((n : Int) != (n : Int)) = false := by simp
  go_enter Try.func57, Try.ntmps57
  go_wp2_with fail
  go_loopg [5] n (fun g i wr => ∃ k : Nat, g = n - k ∧ k ≤ n ∧ i = .int .i64 (k : Int) ∧ Hid (Ext w wr))
  case atStart => exact ⟨0, rfl, by omega, rfl, Lib.hid (Ext.refl w)⟩
  case round =>
    obtain ⟨k, rfl, hk, rfl, HX⟩ := hrel
    by_cases hlt : k < n
    · have q1 : decide (k < n) = true := decide_eq_true hlt
      obtain ⟨ba, oa, x, rfl, hra, ha⟩ := (HA.out.ext HX.out).get hlt
      obtain ⟨bb, ob, y, rfl, hrb, hb⟩ := (HB.out.ext HX.out).get hlt
      obtain rfl : x = y := by rw [hra] at hrb; injection hrb
      obtain ⟨x0, x1, x2, x3, x4, x5⟩ := x
      have a0 := ha 0 _ rfl
      have a1 := ha 1 _ rfl
      have a2 := ha 2 _ rfl
      have a3 := ha 3 _ rfl
      have a4 := ha 4 _ rfl
      have a5 := ha 5 _ rfl
      have d0 := hb 0 _ rfl
      have d1 := hb 1 _ rfl
      have d2 := hb 2 _ rfl
      have d3 := hb 3 _ rfl
      have d4 := hb 4 _ rfl
      have d5 := hb 5 _ rfl
      simp only [Nat.add_zero] at a0 d0
      simp only at a0 a1 a2 a3 a4 a5 d0 d1 d2 d3 d4 d5
      clear hra hrb ha hb
      go_wp2_with fail
      go_region
      go_wp2
      go_roundg (n - (k + 1))
      case rel => exact ⟨k + 1, rfl, by omega, by go_num, Lib.hid HX.out.drew⟩
      case measure => omega
    · obtain rfl : k = n := by omega
      go_wp2
      go_ret
      exact ⟨rfl, HX.out⟩
theorem retO_sum (q : Pul) (d : Det) : (retO q d).1.length ≤ 15 ∧ (∀ r ∈ (retO q d).1, -261888 ≤ r.energy ∧ r.energy ≤ 261888) ∧ (sumF (retO q d).1).count = (retO q d).1.length ∧ (sumF (retO q d).1).first = (if 0 < (retO q d).1.length then 1 else 0) ∧ (sumF (retO q d).1).last = (if 0 < (retO q d).1.length then 1 else 0) ∧ (sumF (retO q d).1).energy = ((retO q d).1.map (·.energy)).sum := by
  have he := sumF_energy (retO q d).1 ⟨0, 0, 0, 0⟩
  by_cases hp : PulOk q
  · by_cases hd : DetOk d
    · rw [retO_head.2.2 hp hd] at he ⊢
      simp only at he ⊢
      obtain ⟨h1, h2, h3⟩ := sumF_rets q.smp d
      refine ⟨?_, fun r hr => ?_, h1, h2, h3, by unfold sumF; rw [he]; simp⟩
      · rw [retsF_len]
        unfold retsE
        have h1 := retsN_len q.smp d 0 ((allE q.smp d).take 15)
        have h2 : ((allE q.smp d).take 15).length ≤ 15 := List.length_take_le _ _
        omega
      · obtain ⟨j, hj⟩ := List.mem_iff_getElem?.1 hr
        exact retsF_energy hj
    · rw [retO_head.2.1 hp hd]
      simp [sumF]
  · rw [retO_head.1 hp]
    simp [sumF]

set_option maxRecDepth 100000 in
set_option maxHeartbeats 2000000 in
theorem returns_big (A : Option Addr) (n c : Nat) (tm x0 x1 x2 x3 : Int) (l : List Int) (lv dr st de : Int) (w : World) (hn : 1000 < n) :
    Calls Try.prog 18 #[.agg #[.int .i64 tm, .int .i64 x0, .int .i64 x1, .int .i64 x2, .int .i64 x3, .slice A n c], .agg #[.int .i64 lv, .int .i64 dr, .int .i64 st, .int .i64 de]] w (fun e w' => e = .returned (.bool true) ∧ Ext w w') := by
  have hXe : Ext w ((w.alloc (.cells #[.int .i64 tm, .int .i64 x0, .int .i64 x1, .int .i64 x2, .int .i64 x3, .slice A n c] 71)).alloc (.cells #[.int .i64 lv, .int .i64 dr, .int .i64 st, .int .i64 de] 33)) := (((Ext.refl w).alloc _).alloc _)
  have kP : Blk ((w.alloc (.cells #[.int .i64 tm, .int .i64 x0, .int .i64 x1, .int .i64 x2, .int .i64 x3, .slice A n c] 71)).alloc (.cells #[.int .i64 lv, .int .i64 dr, .int .i64 st, .int .i64 de] 33)) w.heap.size 71 #[.int .i64 tm, .int .i64 x0, .int .i64 x1, .int .i64 x2, .int .i64 x3, .slice A n c] := Blk.alloc (Blk.at_ (by simp)) _
  have kD : Blk ((w.alloc (.cells #[.int .i64 tm, .int .i64 x0, .int .i64 x1, .int .i64 x2, .int .i64 x3, .slice A n c] 71)).alloc (.cells #[.int .i64 lv, .int .i64 dr, .int .i64 st, .int .i64 de] 33)) (w.heap.size + 1) 33 #[.int .i64 lv, .int .i64 dr, .int .i64 st, .int .i64 de] := Blk.at_ (by simp)
  go_enter Try.func18, Try.ntmps18
  go_upto_region 1 with (fail)
  generalize ((w.alloc (.cells #[.int .i64 tm, .int .i64 x0, .int .i64 x1, .int .i64 x2, .int .i64 x3, .slice A n c] 71)).alloc (.cells #[.int .i64 lv, .int .i64 dr, .int .i64 st, .int .i64 de] 33)) = w1 at hXe kP kD ⊢
  have HX := Lib.hid hXe
  clear hXe
  have KP := Lib.hid kP
  clear kP
  have KD := Lib.hid kD
  clear kD
  have cP0 : w1.cell? ⟨w.heap.size, 0, none⟩ = some (.int .i64 tm) := KP.out.cell 0
  have cP1 : w1.cell? ⟨w.heap.size, 1, none⟩ = some (.int .i64 x0) := KP.out.cell 1
  have cP2 : w1.cell? ⟨w.heap.size, 2, none⟩ = some (.int .i64 x1) := KP.out.cell 2
  have cP3 : w1.cell? ⟨w.heap.size, 3, none⟩ = some (.int .i64 x2) := KP.out.cell 3
  have cP4 : w1.cell? ⟨w.heap.size, 4, none⟩ = some (.int .i64 x3) := KP.out.cell 4
  have cP5 : w1.cell? ⟨w.heap.size, 5, none⟩ = some (.slice A n c) := KP.out.cell 5
  go_wp2_with fail
  clear cP0 cP1 cP2 cP3 cP4 cP5
  refine (firstW_any _).mono ?_
  rintro e w2 ⟨rfl, hX⟩
  replace hX : Ext w1 w2 := by with_reducible exact hX
  replace HX := Lib.hid (HX.out.trans hX)
  replace KP := Lib.hid (KP.out.ext hX)
  replace KD := Lib.hid (KD.out.ext hX)
  clear hX
  go_wp2
  go_ret
  exact ⟨rfl, HX.out⟩

set_option maxRecDepth 100000 in
set_option maxHeartbeats 8000000 in
theorem returns_some (A : Option Addr) (n c : Nat) (tm x0 x1 x2 x3 : Int) (l : List Int) (lv dr st de : Int) (N : Nat) (w : World) (hn : ¬ 1000 < n) (hz : 0 < N) (hl : (retO ⟨tm, x0, x1, x2, x3, l⟩ ⟨lv, dr, st, de⟩).1.length = N) (h : Ints .i64 w A n l) (hcap : n ≤ c ∧ c ≤ 9223372036854775807) :
    Calls Try.prog 18 #[.agg #[.int .i64 tm, .int .i64 x0, .int .i64 x1, .int .i64 x2, .int .i64 x3, .slice A n c], .agg #[.int .i64 lv, .int .i64 dr, .int .i64 st, .int .i64 de]] w (fun e w' => e = .returned (.bool true) ∧ Ext w w') := by
  obtain ⟨hb1, hb2, hb3, hb4, hb5, hb6⟩ := retO_sum ⟨tm, x0, x1, x2, x3, l⟩ ⟨lv, dr, st, de⟩
  obtain ⟨⟨rs, er⟩, hR⟩ : ∃ r, retO ⟨tm, x0, x1, x2, x3, l⟩ ⟨lv, dr, st, de⟩ = r := ⟨_, rfl⟩
  rw [hR] at hb1 hb2 hb3 hb4 hb5 hb6 hl
  simp only at hb1 hb2 hb3 hb4 hb5 hb6 hl
  obtain ⟨sc, sf, sl, en, hS⟩ : ∃ a b c d, sumF rs = ⟨a, b, c, d⟩ := ⟨_, _, _, _, rfl⟩
  rw [hS] at hb3 hb4 hb5 hb6
  simp only at hb3 hb4 hb5 hb6
  rw [hl] at hb1 hb3 hb4 hb5
  obtain rfl : sc = (N : Int) := hb3
  obtain rfl : sf = 1 := hb4.trans (by rw [if_pos hz])
  obtain rfl : sl = 1 := hb5.trans (by rw [if_pos hz])
  have HR := Lib.hid hR
  have HS := Lib.hid hS
  have HL := Lib.hid hl
  have HEN := Lib.hid hb2
  have HE := Lib.hid hb6
  have H := Lib.hid h
  have HC := Lib.hid hcap
  have g1 : (er != er) = false := by simp
  have HZ := Lib.hid hz
  clear hR hS hl hb2 hb6 h hcap hb4 hb5 hz
  have hXe : Ext w ((w.alloc (.cells #[.int .i64 tm, .int .i64 x0, .int .i64 x1, .int .i64 x2, .int .i64 x3, .slice A n c] 71)).alloc (.cells #[.int .i64 lv, .int .i64 dr, .int .i64 st, .int .i64 de] 33)) := (((Ext.refl w).alloc _).alloc _)
  have kP : Blk ((w.alloc (.cells #[.int .i64 tm, .int .i64 x0, .int .i64 x1, .int .i64 x2, .int .i64 x3, .slice A n c] 71)).alloc (.cells #[.int .i64 lv, .int .i64 dr, .int .i64 st, .int .i64 de] 33)) w.heap.size 71 #[.int .i64 tm, .int .i64 x0, .int .i64 x1, .int .i64 x2, .int .i64 x3, .slice A n c] := Blk.alloc (Blk.at_ (by simp)) _
  have kD : Blk ((w.alloc (.cells #[.int .i64 tm, .int .i64 x0, .int .i64 x1, .int .i64 x2, .int .i64 x3, .slice A n c] 71)).alloc (.cells #[.int .i64 lv, .int .i64 dr, .int .i64 st, .int .i64 de] 33)) (w.heap.size + 1) 33 #[.int .i64 lv, .int .i64 dr, .int .i64 st, .int .i64 de] := Blk.at_ (by simp)
  go_enter Try.func18, Try.ntmps18
  go_upto_region 1 with (fail)
  generalize ((w.alloc (.cells #[.int .i64 tm, .int .i64 x0, .int .i64 x1, .int .i64 x2, .int .i64 x3, .slice A n c] 71)).alloc (.cells #[.int .i64 lv, .int .i64 dr, .int .i64 st, .int .i64 de] 33)) = w1 at hXe kP kD ⊢
  have HX := Lib.hid hXe
  clear hXe
  have KP := Lib.hid kP
  clear kP
  have KD := Lib.hid kD
  clear kD
  have cP0 : w1.cell? ⟨w.heap.size, 0, none⟩ = some (.int .i64 tm) := KP.out.cell 0
  have cP1 : w1.cell? ⟨w.heap.size, 1, none⟩ = some (.int .i64 x0) := KP.out.cell 1
  have cP2 : w1.cell? ⟨w.heap.size, 2, none⟩ = some (.int .i64 x1) := KP.out.cell 2
  have cP3 : w1.cell? ⟨w.heap.size, 3, none⟩ = some (.int .i64 x2) := KP.out.cell 3
  have cP4 : w1.cell? ⟨w.heap.size, 4, none⟩ = some (.int .i64 x3) := KP.out.cell 4
  have cP5 : w1.cell? ⟨w.heap.size, 5, none⟩ = some (.slice A n c) := KP.out.cell 5
  have cD0 : w1.cell? ⟨(w.heap.size + 1), 0, none⟩ = some (.int .i64 lv) := KD.out.cell 0
  have cD1 : w1.cell? ⟨(w.heap.size + 1), 1, none⟩ = some (.int .i64 dr) := KD.out.cell 1
  have cD2 : w1.cell? ⟨(w.heap.size + 1), 2, none⟩ = some (.int .i64 st) := KD.out.cell 2
  have cD3 : w1.cell? ⟨(w.heap.size + 1), 3, none⟩ = some (.int .i64 de) := KD.out.cell 3
  go_wp2_with fail
  clear cP0 cP1 cP2 cP3 cP4 cP5 cD0 cD1 cD2 cD3
  refine (returnsP_any ⟨tm, x0, x1, x2, x3, l⟩ A n c ⟨lv, dr, st, de⟩ _ (H.out.ext HX.out) HC.out).mono ?_
  rw [HR.out]
  rintro e w2 ⟨va, rfl, ha, hX⟩
  replace hX : Ext w1 w2 := by with_reducible exact hX
  replace HX := Lib.hid (HX.out.trans hX)
  replace KP := Lib.hid (KP.out.ext hX)
  replace KD := Lib.hid (KD.out.ext hX)
  clear hX
  simp only at ha
  obtain ⟨Aa, ca, rfl⟩ := own_slice ha
  rw [HL.out] at ha ⊢
  have Ra := Lib.hid (RtL.read ha HL.out)
  clear ha
  have cP0 : w2.cell? ⟨w.heap.size, 0, none⟩ = some (.int .i64 tm) := KP.out.cell 0
  have cP1 : w2.cell? ⟨w.heap.size, 1, none⟩ = some (.int .i64 x0) := KP.out.cell 1
  have cP2 : w2.cell? ⟨w.heap.size, 2, none⟩ = some (.int .i64 x1) := KP.out.cell 2
  have cP3 : w2.cell? ⟨w.heap.size, 3, none⟩ = some (.int .i64 x2) := KP.out.cell 3
  have cP4 : w2.cell? ⟨w.heap.size, 4, none⟩ = some (.int .i64 x3) := KP.out.cell 4
  have cP5 : w2.cell? ⟨w.heap.size, 5, none⟩ = some (.slice A n c) := KP.out.cell 5
  have cD0 : w2.cell? ⟨(w.heap.size + 1), 0, none⟩ = some (.int .i64 lv) := KD.out.cell 0
  have cD1 : w2.cell? ⟨(w.heap.size + 1), 1, none⟩ = some (.int .i64 dr) := KD.out.cell 1
  have cD2 : w2.cell? ⟨(w.heap.size + 1), 2, none⟩ = some (.int .i64 st) := KD.out.cell 2
  have cD3 : w2.cell? ⟨(w.heap.size + 1), 3, none⟩ = some (.int .i64 de) := KD.out.cell 3
  go_wp2_with fail
  clear cP0 cP1 cP2 cP3 cP4 cP5 cD0 cD1 cD2 cD3
  refine (returnsR_any ⟨tm, x0, x1, x2, x3, l⟩ A n c ⟨lv, dr, st, de⟩ _ (H.out.ext HX.out) HC.out).mono ?_
  rw [HR.out]
  rintro e w3 ⟨vb, rfl, hb, hX⟩
  replace hX : Ext w2 w3 := by with_reducible exact hX
  replace HX := Lib.hid (HX.out.trans hX)
  replace Ra := Lib.hid (Ra.out.ext hX)
  replace KP := Lib.hid (KP.out.ext hX)
  replace KD := Lib.hid (KD.out.ext hX)
  clear hX
  simp only at hb
  obtain ⟨Ab, cb, rfl⟩ := own_slice hb
  rw [HL.out] at hb ⊢
  have Rb := Lib.hid (RtL.read hb HL.out)
  clear hb
  go_wp2_with fail
  refine (sameR_eq Aa Ab N ca cb rs _ Ra.out Rb.out (by omega)).mono ?_
  rintro e w4 ⟨rfl, hX⟩
  replace hX : Ext w3 w4 := by with_reducible exact hX
  replace HX := Lib.hid (HX.out.trans hX)
  replace Ra := Lib.hid (Ra.out.ext hX)
  replace Rb := Lib.hid (Rb.out.ext hX)
  replace KP := Lib.hid (KP.out.ext hX)
  replace KD := Lib.hid (KD.out.ext hX)
  clear hX
  go_wp2_with fail
  refine (sum_any Aa N ca rs _ Ra.out (by omega) (fun r hr => by have := HEN.out r hr; omega)).mono ?_
  rw [HS.out]
  rintro e w5 ⟨rfl, hX⟩
  replace hX : Ext w4 w5 := by with_reducible exact hX
  replace HX := Lib.hid (HX.out.trans hX)
  replace Ra := Lib.hid (Ra.out.ext hX)
  replace Rb := Lib.hid (Rb.out.ext hX)
  replace KP := Lib.hid (KP.out.ext hX)
  replace KD := Lib.hid (KD.out.ext hX)
  clear hX
  go_upto_region 8 with (fail)
  have hXa : Ext w5 (w5.alloc (.cells #[.int .i64 (N : Int), .int .i64 1, .int .i64 1, .int .i64 en] 60)) := (Ext.refl _).alloc _
  have kT := Blk.new w5 60 #[.int .i64 (N : Int), .int .i64 1, .int .i64 1, .int .i64 en]
  have zP := KP.out.lt
  have zD := KD.out.lt
  have zg := HX.out.size
  replace HX := Lib.hid (HX.out.trans hXa)
  replace Ra := Lib.hid (Ra.out.ext hXa)
  replace Rb := Lib.hid (Rb.out.ext hXa)
  replace KP := Lib.hid (KP.out.ext hXa)
  replace KD := Lib.hid (KD.out.ext hXa)
  generalize (w5.alloc (.cells #[.int .i64 (N : Int), .int .i64 1, .int .i64 1, .int .i64 en] 60)) = w6 at HX Ra Rb KP KD kT ⊢
  have KT := Lib.hid kT
  clear kT hXa
  go_wp2_with fail
  obtain ⟨gt, hgt⟩ : ∃ g, w5.heap.size = g := ⟨_, rfl⟩
  rw [hgt] at KT ⊢
  go_loopg [10, 11] N (fun f ev iv wr => ∃ (k : Nat) (s : Int), f = N - k ∧ k ≤ N ∧ iv = .int .i64 (k : Int) ∧ ev = .int .i64 s ∧ -(261888 * (k : Int)) ≤ s ∧ s ≤ 261888 * (k : Int) ∧ Hid (((rs.take k).map (·.energy)).sum = s) ∧ Hid (RtR wr Ab N rs) ∧ Hid (Blk wr gt 60 #[.int .i64 (N : Int), .int .i64 1, .int .i64 1, .int .i64 en]) ∧ Hid (Ext w wr))
  case atStart => exact ⟨0, 0, rfl, by omega, rfl, rfl, by omega, by omega, Lib.hid rfl, Rb, KT, HX⟩
  case round =>
    clear Ra Rb KT HX KP KD
    obtain ⟨k, s, rfl, hk, rfl, rfl, hs1, hs2, HSM, Rb, KT, HX⟩ := hrel
    by_cases hlt : k < N
    · obtain ⟨bb, ob, x, rfl, hrb, hb⟩ := Rb.out.get hlt
      have hx := HEN.out x (List.mem_of_getElem? hrb)
      have hnx : ((rs.take (k + 1)).map (·.energy)).sum = s + x.energy := by
        rw [List.take_add_one, hrb, List.map_append, List.sum_append, HSM.out]
        simp
      obtain ⟨x0, x1, x2, x3, x4, x5⟩ := x
      have a5 := hb 5 _ rfl
      simp only at a5 hx hnx
      obtain ⟨hx1, hx2⟩ := hx
      have HNX := Lib.hid hnx
      clear hb hrb hnx
      go_wp2_with fail
      go_roundg (N - (k + 1))
      case rel => exact ⟨k + 1, s + x5, rfl, by omega, by go_num, rfl, by omega, by omega, HNX, Rb, KT, HX⟩
      case measure => omega
    · obtain rfl : k = N := by omega
      have hse : s = en := by
        have h1 := HSM.out
        rw [List.take_of_length_le (Nat.le_of_eq HL.out)] at h1
        exact h1.symm.trans HE.out.symm
      subst hse
      clear HSM
      go_upto_region 14 with (fail)
      have hXa : Ext wr (wr.alloc (.cells #[.int .i64 (k : Int), .int .i64 0, .int .i64 0, .int .i64 s] 60)) := (Ext.refl _).alloc _
      have kV := Blk.new wr 60 #[.int .i64 (k : Int), .int .i64 0, .int .i64 0, .int .i64 s]
      have zT := KT.out.lt
      have zg := HX.out.size
      replace HX := Lib.hid (HX.out.trans hXa)
      replace KT := Lib.hid (KT.out.ext hXa)
      generalize (wr.alloc (.cells #[.int .i64 (k : Int), .int .i64 0, .int .i64 0, .int .i64 s] 60)) = w7 at HX KT kV ⊢
      have KV := Lib.hid kV
      clear kV hXa
      have hz := HZ.out
      have q1 : (s == s) = true := by simp
      have q2 : ((k : Int) == (k : Int)) = true := by simp
      have cT0 : w7.cell? ⟨gt, 0, none⟩ = some (.int .i64 (k : Int)) := KT.out.cell 0
      have cT1 : w7.cell? ⟨gt, 1, none⟩ = some (.int .i64 1) := KT.out.cell 1
      have cT2 : w7.cell? ⟨gt, 2, none⟩ = some (.int .i64 1) := KT.out.cell 2
      have cT3 : w7.cell? ⟨gt, 3, none⟩ = some (.int .i64 s) := KT.out.cell 3
      have cV0 : w7.cell? ⟨wr.heap.size, 0, none⟩ = some (.int .i64 (k : Int)) := KV.out.cell 0
      have fV0 : w7.frozen? ⟨wr.heap.size, 0, none⟩ = false := KV.out.free 0
      have cV1 : w7.cell? ⟨wr.heap.size, 1, none⟩ = some (.int .i64 0) := KV.out.cell 1
      have fV1 : w7.frozen? ⟨wr.heap.size, 1, none⟩ = false := KV.out.free 1
      have cV2 : w7.cell? ⟨wr.heap.size, 2, none⟩ = some (.int .i64 0) := KV.out.cell 2
      have fV2 : w7.frozen? ⟨wr.heap.size, 2, none⟩ = false := KV.out.free 2
      have cV3 : w7.cell? ⟨wr.heap.size, 3, none⟩ = some (.int .i64 s) := KV.out.cell 3
      have fV3 : w7.frozen? ⟨wr.heap.size, 3, none⟩ = false := KV.out.free 3
      have zz := KT.out.lt
      go_upto_region 16 with (fail)
      clear cT0 cT1 cT2 cT3 cV0 fV0 cV1 fV1 cV2 fV2 cV3 fV3
      have hXs : Ext w ((w7.setCell ⟨wr.heap.size, 1, none⟩ (.int .i64 1)).setCell ⟨wr.heap.size, 2, none⟩ (.int .i64 1)) := (HX.out.setCell zg _).setCell zg _
      have hV : Blk ((w7.setCell ⟨wr.heap.size, 1, none⟩ (.int .i64 1)).setCell ⟨wr.heap.size, 2, none⟩ (.int .i64 1)) wr.heap.size 60 #[.int .i64 (k : Int), .int .i64 1, .int .i64 1, .int .i64 s] := (KV.out.set 1 _).set 2 _
      have hT : Blk ((w7.setCell ⟨wr.heap.size, 1, none⟩ (.int .i64 1)).setCell ⟨wr.heap.size, 2, none⟩ (.int .i64 1)) gt 60 #[.int .i64 (k : Int), .int .i64 1, .int .i64 1, .int .i64 s] := (KT.out.far (show gt ≠ wr.heap.size by omega) _).far (show gt ≠ wr.heap.size by omega) _
      generalize ((w7.setCell ⟨wr.heap.size, 1, none⟩ (.int .i64 1)).setCell ⟨wr.heap.size, 2, none⟩ (.int .i64 1)) = w20 at hXs hV hT ⊢
      clear HX KV KT
      have HX := Lib.hid hXs
      have KV := Lib.hid hV
      have KT := Lib.hid hT
      clear hXs hV hT
      have cT0 : w20.cell? ⟨gt, 0, none⟩ = some (.int .i64 (k : Int)) := KT.out.cell 0
      have cT1 : w20.cell? ⟨gt, 1, none⟩ = some (.int .i64 1) := KT.out.cell 1
      have cT2 : w20.cell? ⟨gt, 2, none⟩ = some (.int .i64 1) := KT.out.cell 2
      have cT3 : w20.cell? ⟨gt, 3, none⟩ = some (.int .i64 s) := KT.out.cell 3
      have cV0 : w20.cell? ⟨wr.heap.size, 0, none⟩ = some (.int .i64 (k : Int)) := KV.out.cell 0
      have cV1 : w20.cell? ⟨wr.heap.size, 1, none⟩ = some (.int .i64 1) := KV.out.cell 1
      have cV2 : w20.cell? ⟨wr.heap.size, 2, none⟩ = some (.int .i64 1) := KV.out.cell 2
      have cV3 : w20.cell? ⟨wr.heap.size, 3, none⟩ = some (.int .i64 s) := KV.out.cell 3
      go_wp2_with fail
      clear cT0 cT1 cT2 cT3 cV0 cV1 cV2 cV3
      refine (firstW_any _).mono ?_
      rintro e w8 ⟨rfl, hX⟩
      replace hX : Ext w20 w8 := by with_reducible exact hX
      replace HX := Lib.hid (HX.out.trans hX)
      replace KT := Lib.hid (KT.out.ext hX)
      replace KV := Lib.hid (KV.out.ext hX)
      clear hX
      go_wp2
      go_ret
      exact ⟨rfl, HX.out⟩

set_option maxRecDepth 100000 in
set_option maxHeartbeats 8000000 in
theorem returns_none (A : Option Addr) (n c : Nat) (tm x0 x1 x2 x3 : Int) (l : List Int) (lv dr st de : Int) (N : Nat) (w : World) (hn : ¬ 1000 < n) (hz : N = 0) (hl : (retO ⟨tm, x0, x1, x2, x3, l⟩ ⟨lv, dr, st, de⟩).1.length = N) (h : Ints .i64 w A n l) (hcap : n ≤ c ∧ c ≤ 9223372036854775807) :
    Calls Try.prog 18 #[.agg #[.int .i64 tm, .int .i64 x0, .int .i64 x1, .int .i64 x2, .int .i64 x3, .slice A n c], .agg #[.int .i64 lv, .int .i64 dr, .int .i64 st, .int .i64 de]] w (fun e w' => e = .returned (.bool true) ∧ Ext w w') := by
  obtain ⟨hb1, hb2, hb3, hb4, hb5, hb6⟩ := retO_sum ⟨tm, x0, x1, x2, x3, l⟩ ⟨lv, dr, st, de⟩
  obtain ⟨⟨rs, er⟩, hR⟩ : ∃ r, retO ⟨tm, x0, x1, x2, x3, l⟩ ⟨lv, dr, st, de⟩ = r := ⟨_, rfl⟩
  rw [hR] at hb1 hb2 hb3 hb4 hb5 hb6 hl
  simp only at hb1 hb2 hb3 hb4 hb5 hb6 hl
  obtain ⟨sc, sf, sl, en, hS⟩ : ∃ a b c d, sumF rs = ⟨a, b, c, d⟩ := ⟨_, _, _, _, rfl⟩
  rw [hS] at hb3 hb4 hb5 hb6
  simp only at hb3 hb4 hb5 hb6
  rw [hl] at hb1 hb3 hb4 hb5
  obtain rfl : sc = (N : Int) := hb3
  obtain rfl : sf = 0 := hb4.trans (by rw [if_neg (by omega)])
  obtain rfl : sl = 0 := hb5.trans (by rw [if_neg (by omega)])
  have HR := Lib.hid hR
  have HS := Lib.hid hS
  have HL := Lib.hid hl
  have HEN := Lib.hid hb2
  have HE := Lib.hid hb6
  have H := Lib.hid h
  have HC := Lib.hid hcap
  have g1 : (er != er) = false := by simp
  have HZ := Lib.hid hz
  clear hR hS hl hb2 hb6 h hcap hb4 hb5 hz
  have hXe : Ext w ((w.alloc (.cells #[.int .i64 tm, .int .i64 x0, .int .i64 x1, .int .i64 x2, .int .i64 x3, .slice A n c] 71)).alloc (.cells #[.int .i64 lv, .int .i64 dr, .int .i64 st, .int .i64 de] 33)) := (((Ext.refl w).alloc _).alloc _)
  have kP : Blk ((w.alloc (.cells #[.int .i64 tm, .int .i64 x0, .int .i64 x1, .int .i64 x2, .int .i64 x3, .slice A n c] 71)).alloc (.cells #[.int .i64 lv, .int .i64 dr, .int .i64 st, .int .i64 de] 33)) w.heap.size 71 #[.int .i64 tm, .int .i64 x0, .int .i64 x1, .int .i64 x2, .int .i64 x3, .slice A n c] := Blk.alloc (Blk.at_ (by simp)) _
  have kD : Blk ((w.alloc (.cells #[.int .i64 tm, .int .i64 x0, .int .i64 x1, .int .i64 x2, .int .i64 x3, .slice A n c] 71)).alloc (.cells #[.int .i64 lv, .int .i64 dr, .int .i64 st, .int .i64 de] 33)) (w.heap.size + 1) 33 #[.int .i64 lv, .int .i64 dr, .int .i64 st, .int .i64 de] := Blk.at_ (by simp)
  go_enter Try.func18, Try.ntmps18
  go_upto_region 1 with (fail)
  generalize ((w.alloc (.cells #[.int .i64 tm, .int .i64 x0, .int .i64 x1, .int .i64 x2, .int .i64 x3, .slice A n c] 71)).alloc (.cells #[.int .i64 lv, .int .i64 dr, .int .i64 st, .int .i64 de] 33)) = w1 at hXe kP kD ⊢
  have HX := Lib.hid hXe
  clear hXe
  have KP := Lib.hid kP
  clear kP
  have KD := Lib.hid kD
  clear kD
  have cP0 : w1.cell? ⟨w.heap.size, 0, none⟩ = some (.int .i64 tm) := KP.out.cell 0
  have cP1 : w1.cell? ⟨w.heap.size, 1, none⟩ = some (.int .i64 x0) := KP.out.cell 1
  have cP2 : w1.cell? ⟨w.heap.size, 2, none⟩ = some (.int .i64 x1) := KP.out.cell 2
  have cP3 : w1.cell? ⟨w.heap.size, 3, none⟩ = some (.int .i64 x2) := KP.out.cell 3
  have cP4 : w1.cell? ⟨w.heap.size, 4, none⟩ = some (.int .i64 x3) := KP.out.cell 4
  have cP5 : w1.cell? ⟨w.heap.size, 5, none⟩ = some (.slice A n c) := KP.out.cell 5
  have cD0 : w1.cell? ⟨(w.heap.size + 1), 0, none⟩ = some (.int .i64 lv) := KD.out.cell 0
  have cD1 : w1.cell? ⟨(w.heap.size + 1), 1, none⟩ = some (.int .i64 dr) := KD.out.cell 1
  have cD2 : w1.cell? ⟨(w.heap.size + 1), 2, none⟩ = some (.int .i64 st) := KD.out.cell 2
  have cD3 : w1.cell? ⟨(w.heap.size + 1), 3, none⟩ = some (.int .i64 de) := KD.out.cell 3
  go_wp2_with fail
  clear cP0 cP1 cP2 cP3 cP4 cP5 cD0 cD1 cD2 cD3
  refine (returnsP_any ⟨tm, x0, x1, x2, x3, l⟩ A n c ⟨lv, dr, st, de⟩ _ (H.out.ext HX.out) HC.out).mono ?_
  rw [HR.out]
  rintro e w2 ⟨va, rfl, ha, hX⟩
  replace hX : Ext w1 w2 := by with_reducible exact hX
  replace HX := Lib.hid (HX.out.trans hX)
  replace KP := Lib.hid (KP.out.ext hX)
  replace KD := Lib.hid (KD.out.ext hX)
  clear hX
  simp only at ha
  obtain ⟨Aa, ca, rfl⟩ := own_slice ha
  rw [HL.out] at ha ⊢
  have Ra := Lib.hid (RtL.read ha HL.out)
  clear ha
  have cP0 : w2.cell? ⟨w.heap.size, 0, none⟩ = some (.int .i64 tm) := KP.out.cell 0
  have cP1 : w2.cell? ⟨w.heap.size, 1, none⟩ = some (.int .i64 x0) := KP.out.cell 1
  have cP2 : w2.cell? ⟨w.heap.size, 2, none⟩ = some (.int .i64 x1) := KP.out.cell 2
  have cP3 : w2.cell? ⟨w.heap.size, 3, none⟩ = some (.int .i64 x2) := KP.out.cell 3
  have cP4 : w2.cell? ⟨w.heap.size, 4, none⟩ = some (.int .i64 x3) := KP.out.cell 4
  have cP5 : w2.cell? ⟨w.heap.size, 5, none⟩ = some (.slice A n c) := KP.out.cell 5
  have cD0 : w2.cell? ⟨(w.heap.size + 1), 0, none⟩ = some (.int .i64 lv) := KD.out.cell 0
  have cD1 : w2.cell? ⟨(w.heap.size + 1), 1, none⟩ = some (.int .i64 dr) := KD.out.cell 1
  have cD2 : w2.cell? ⟨(w.heap.size + 1), 2, none⟩ = some (.int .i64 st) := KD.out.cell 2
  have cD3 : w2.cell? ⟨(w.heap.size + 1), 3, none⟩ = some (.int .i64 de) := KD.out.cell 3
  go_wp2_with fail
  clear cP0 cP1 cP2 cP3 cP4 cP5 cD0 cD1 cD2 cD3
  refine (returnsR_any ⟨tm, x0, x1, x2, x3, l⟩ A n c ⟨lv, dr, st, de⟩ _ (H.out.ext HX.out) HC.out).mono ?_
  rw [HR.out]
  rintro e w3 ⟨vb, rfl, hb, hX⟩
  replace hX : Ext w2 w3 := by with_reducible exact hX
  replace HX := Lib.hid (HX.out.trans hX)
  replace Ra := Lib.hid (Ra.out.ext hX)
  replace KP := Lib.hid (KP.out.ext hX)
  replace KD := Lib.hid (KD.out.ext hX)
  clear hX
  simp only at hb
  obtain ⟨Ab, cb, rfl⟩ := own_slice hb
  rw [HL.out] at hb ⊢
  have Rb := Lib.hid (RtL.read hb HL.out)
  clear hb
  go_wp2_with fail
  refine (sameR_eq Aa Ab N ca cb rs _ Ra.out Rb.out (by omega)).mono ?_
  rintro e w4 ⟨rfl, hX⟩
  replace hX : Ext w3 w4 := by with_reducible exact hX
  replace HX := Lib.hid (HX.out.trans hX)
  replace Ra := Lib.hid (Ra.out.ext hX)
  replace Rb := Lib.hid (Rb.out.ext hX)
  replace KP := Lib.hid (KP.out.ext hX)
  replace KD := Lib.hid (KD.out.ext hX)
  clear hX
  go_wp2_with fail
  refine (sum_any Aa N ca rs _ Ra.out (by omega) (fun r hr => by have := HEN.out r hr; omega)).mono ?_
  rw [HS.out]
  rintro e w5 ⟨rfl, hX⟩
  replace hX : Ext w4 w5 := by with_reducible exact hX
  replace HX := Lib.hid (HX.out.trans hX)
  replace Ra := Lib.hid (Ra.out.ext hX)
  replace Rb := Lib.hid (Rb.out.ext hX)
  replace KP := Lib.hid (KP.out.ext hX)
  replace KD := Lib.hid (KD.out.ext hX)
  clear hX
  go_upto_region 8 with (fail)
  have hXa : Ext w5 (w5.alloc (.cells #[.int .i64 (N : Int), .int .i64 0, .int .i64 0, .int .i64 en] 60)) := (Ext.refl _).alloc _
  have kT := Blk.new w5 60 #[.int .i64 (N : Int), .int .i64 0, .int .i64 0, .int .i64 en]
  have zP := KP.out.lt
  have zD := KD.out.lt
  have zg := HX.out.size
  replace HX := Lib.hid (HX.out.trans hXa)
  replace Ra := Lib.hid (Ra.out.ext hXa)
  replace Rb := Lib.hid (Rb.out.ext hXa)
  replace KP := Lib.hid (KP.out.ext hXa)
  replace KD := Lib.hid (KD.out.ext hXa)
  generalize (w5.alloc (.cells #[.int .i64 (N : Int), .int .i64 0, .int .i64 0, .int .i64 en] 60)) = w6 at HX Ra Rb KP KD kT ⊢
  have KT := Lib.hid kT
  clear kT hXa
  go_wp2_with fail
  obtain ⟨gt, hgt⟩ : ∃ g, w5.heap.size = g := ⟨_, rfl⟩
  rw [hgt] at KT ⊢
  go_loopg [10, 11] N (fun f ev iv wr => ∃ (k : Nat) (s : Int), f = N - k ∧ k ≤ N ∧ iv = .int .i64 (k : Int) ∧ ev = .int .i64 s ∧ -(261888 * (k : Int)) ≤ s ∧ s ≤ 261888 * (k : Int) ∧ Hid (((rs.take k).map (·.energy)).sum = s) ∧ Hid (RtR wr Ab N rs) ∧ Hid (Blk wr gt 60 #[.int .i64 (N : Int), .int .i64 0, .int .i64 0, .int .i64 en]) ∧ Hid (Ext w wr))
  case atStart => exact ⟨0, 0, rfl, by omega, rfl, rfl, by omega, by omega, Lib.hid rfl, Rb, KT, HX⟩
  case round =>
    clear Ra Rb KT HX KP KD
    obtain ⟨k, s, rfl, hk, rfl, rfl, hs1, hs2, HSM, Rb, KT, HX⟩ := hrel
    by_cases hlt : k < N
    · obtain ⟨bb, ob, x, rfl, hrb, hb⟩ := Rb.out.get hlt
      have hx := HEN.out x (List.mem_of_getElem? hrb)
      have hnx : ((rs.take (k + 1)).map (·.energy)).sum = s + x.energy := by
        rw [List.take_add_one, hrb, List.map_append, List.sum_append, HSM.out]
        simp
      obtain ⟨x0, x1, x2, x3, x4, x5⟩ := x
      have a5 := hb 5 _ rfl
      simp only at a5 hx hnx
      obtain ⟨hx1, hx2⟩ := hx
      have HNX := Lib.hid hnx
      clear hb hrb hnx
      go_wp2_with fail
      go_roundg (N - (k + 1))
      case rel => exact ⟨k + 1, s + x5, rfl, by omega, by go_num, rfl, by omega, by omega, HNX, Rb, KT, HX⟩
      case measure => omega
    · obtain rfl : k = N := by omega
      have hse : s = en := by
        have h1 := HSM.out
        rw [List.take_of_length_le (Nat.le_of_eq HL.out)] at h1
        exact h1.symm.trans HE.out.symm
      subst hse
      clear HSM
      go_upto_region 14 with (fail)
      have hXa : Ext wr (wr.alloc (.cells #[.int .i64 (k : Int), .int .i64 0, .int .i64 0, .int .i64 s] 60)) := (Ext.refl _).alloc _
      have kV := Blk.new wr 60 #[.int .i64 (k : Int), .int .i64 0, .int .i64 0, .int .i64 s]
      have zT := KT.out.lt
      have zg := HX.out.size
      replace HX := Lib.hid (HX.out.trans hXa)
      replace KT := Lib.hid (KT.out.ext hXa)
      generalize (wr.alloc (.cells #[.int .i64 (k : Int), .int .i64 0, .int .i64 0, .int .i64 s] 60)) = w7 at HX KT kV ⊢
      have KV := Lib.hid kV
      clear kV hXa
      have hz : ¬ 0 < k := by have := HZ.out; omega
      have q1 : (s == s) = true := by simp
      have q2 : ((k : Int) == (k : Int)) = true := by simp
      have cT0 : w7.cell? ⟨gt, 0, none⟩ = some (.int .i64 (k : Int)) := KT.out.cell 0
      have cT1 : w7.cell? ⟨gt, 1, none⟩ = some (.int .i64 0) := KT.out.cell 1
      have cT2 : w7.cell? ⟨gt, 2, none⟩ = some (.int .i64 0) := KT.out.cell 2
      have cT3 : w7.cell? ⟨gt, 3, none⟩ = some (.int .i64 s) := KT.out.cell 3
      have cV0 : w7.cell? ⟨wr.heap.size, 0, none⟩ = some (.int .i64 (k : Int)) := KV.out.cell 0
      have cV1 : w7.cell? ⟨wr.heap.size, 1, none⟩ = some (.int .i64 0) := KV.out.cell 1
      have cV2 : w7.cell? ⟨wr.heap.size, 2, none⟩ = some (.int .i64 0) := KV.out.cell 2
      have cV3 : w7.cell? ⟨wr.heap.size, 3, none⟩ = some (.int .i64 s) := KV.out.cell 3
      go_wp2_with fail
      clear cT0 cT1 cT2 cT3 cV0 cV1 cV2 cV3
      refine (firstW_any _).mono ?_
      rintro e w8 ⟨rfl, hX⟩
      replace hX : Ext w7 w8 := by with_reducible exact hX
      replace HX := Lib.hid (HX.out.trans hX)
      replace KT := Lib.hid (KT.out.ext hX)
      replace KV := Lib.hid (KV.out.ext hX)
      clear hX
      go_wp2
      go_ret
      exact ⟨rfl, HX.out⟩

theorem waveReturns_walk (q : Pul) (A : Option Addr) (n c : Nat) (f : Int × Int × Int × Int) (w : World) (h : Ints .i64 w A n q.smp) (hcap : n ≤ c ∧ c ≤ 9223372036854775807) :
    Calls Try.prog 18 #[q.val A n c, .agg #[.int .i64 f.1, .int .i64 f.2.1, .int .i64 f.2.2.1, .int .i64 f.2.2.2]] w (fun e w' => e = .returned (.bool true) ∧ Ext w w') := by
  obtain ⟨tm, x0, x1, x2, x3, l⟩ := q
  by_cases hn : 1000 < n
  · exact returns_big A n c tm x0 x1 x2 x3 l _ _ _ _ w hn
  · rcases Nat.eq_zero_or_pos (retO ⟨tm, x0, x1, x2, x3, l⟩ ⟨f.1, f.2.1, f.2.2.1, f.2.2.2⟩).1.length with hz | hz
    · exact returns_none A n c tm x0 x1 x2 x3 l _ _ _ _ _ w hn hz rfl h hcap
    · exact returns_some A n c tm x0 x1 x2 x3 l _ _ _ _ _ w hn hz rfl h hcap
end Go.Proofs.Ytagcgldhhdecjaa
