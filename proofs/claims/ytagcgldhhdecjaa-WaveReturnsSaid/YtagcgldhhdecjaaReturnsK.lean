/- Lemmas of the proof that follows (Returns, part 11): walks of functions by contract, and plain lemmas. Conditions: none. -/
import Derived.Test.YtagcgldhhdecjaaReturnsJ
namespace Go.Proofs.Ytagcgldhhdecjaa
open Go.RowKit

theorem elR : Elem Try.prog 58 62 6 48 (.agg #[.int .i64 0, .int .i64 0, .int .i64 0, .int .i64 0, .int .i64 0, .int .i64 0]) := Elem.mk' (by kernel_rfl) (by kernel_rfl) rfl (by decide)
/-- Returns in memory. -/
def RtL (base : Nat) (w : World) (v : Value) (rs : List Ret) : Prop := w.ownsRow base 62 6 v rs.length (rtV rs)
theorem RtL.ext {base : Nat} {w w' : World} {v : Value} {rs : List Ret} (h : RtL base w v rs) (he : Ext w w') : RtL base w' v rs := World.ownsRow.ext' h he
theorem RtL.nil (base : Nat) (w : World) : RtL base w (.slice none 0 0) [] := World.ownsRow_nil _ _ _ _
theorem RtL.read {base : Nat} {w : World} {A : Option Addr} {n c : Nat} {rs : List Ret} (h : RtL base w (.slice A n c) rs) (hn : rs.length = n) : RtR w A n rs := by
  unfold RtL at h
  rw [hn] at h
  exact ⟨hn, At.of_own h⟩
def RetRt (w : World) (r : List Ret × Int) (e : Ending) (w' : World) : Prop := ∃ v, e = .returned (.tuple #[v, .int .i64 r.2]) ∧ RtL w.heap.size w' v r.1 ∧ Ext w w'
def retO (p : Pul) (d : Det) : List Ret × Int := if ¬ PulOk p then ([], 30) else if ¬ DetOk d then ([], 31) else (retsF p.smp d, 0)
theorem echoesF_ok {l : List Int} {d : Det} (hd : DetOk d) (hs : Smp l) : echoesF l d = ((allE l d).take 15, 0) := by
  unfold echoesF
  rw [if_neg (fun h => h hd)]
  by_cases hl : l = []
  · subst hl
    rw [if_pos rfl]
    rfl
  · rw [if_neg hl, if_neg (fun h => h hs)]
theorem rtV_append (a b : List Ret) : rtV (a ++ b) = rtV a ++ rtV b := by simp [rtV]
theorem rtV_setOf {rs : List Ret} {k m : Nat} (hk : k < rs.length) : (rtV ((rs.take k).map (Ret.setOf m) ++ rs.drop k)).set (k * 6 + 1) (.int .i64 (m : Int)) = rtV ((rs.take (k + 1)).map (Ret.setOf m) ++ rs.drop (k + 1)) := by
  have e1 : rs.drop k = rs[k] :: rs.drop (k + 1) := List.drop_eq_getElem_cons hk
  have e2 : (rs.take (k + 1)).map (Ret.setOf m) = (rs.take k).map (Ret.setOf m) ++ [(rs[k]).setOf m] := by
    rw [List.take_add_one, List.getElem?_eq_getElem hk, List.map_append]
    rfl
  rw [e1, e2, List.append_assoc, rtV_append, rtV_append]
  have hl : (rtV ((rs.take k).map (Ret.setOf m))).length = k * 6 := by rw [rtV_len, List.length_map, List.length_take, Nat.min_eq_left (by omega)]
  rw [List.set_append_right _ _ (by omega), hl, show k * 6 + 1 - k * 6 = 1 by omega]
  rfl
theorem oneR_at {l : List Int} {d : Det} {n : Int} {e : Ech} {lo hi te a b re : Int} (h1 : timeF l e = ((lo, hi), te)) (h2 : rangeF lo hi d = ((a, b), re)) : oneR l d n e = if te ≠ 0 then none else if re ≠ 0 then none else some ⟨n, 0, a, b, e.top, (energyF l e).1⟩ := by
  unfold oneR
  rw [h1]
  simp only
  rw [h2]
theorem retO_head {p : Pul} {d : Det} : (¬ PulOk p → retO p d = ([], 30)) ∧ (PulOk p → ¬ DetOk d → retO p d = ([], 31)) ∧ (PulOk p → DetOk d → retO p d = (retsF p.smp d, 0)) := by
  unfold retO
  refine ⟨fun h => if_pos h, fun h h' => ?_, fun h h' => ?_⟩
  · rw [if_neg (fun k => k h), if_pos h']
  · rw [if_neg (fun k => k h), if_neg (fun k => k h')]

set_option maxRecDepth 100000 in
set_option maxHeartbeats 8000000 in
theorem returnsP_bad (A : Option Addr) (n c : Nat) (tm x0 x1 x2 x3 : Int) (l : List Int) (lv dr st de : Int) (w : World) (hp : ¬ PulOk ⟨tm, x0, x1, x2, x3, l⟩) (h : Ints .i64 w A n l) (hcap : n ≤ c ∧ c ≤ 9223372036854775807) :
    Calls Try.prog 52 #[.agg #[.int .i64 tm, .int .i64 x0, .int .i64 x1, .int .i64 x2, .int .i64 x3, .slice A n c], .agg #[.int .i64 lv, .int .i64 dr, .int .i64 st, .int .i64 de]] w (RetRt w (retO ⟨tm, x0, x1, x2, x3, l⟩ ⟨lv, dr, st, de⟩)) := by
  have QP : Hid (decide (PulOk ⟨tm, x0, x1, x2, x3, l⟩) = false) := Lib.hid (decide_eq_false hp)
  have HB : Hid (retO ⟨tm, x0, x1, x2, x3, l⟩ ⟨lv, dr, st, de⟩ = ([], 30)) := Lib.hid (retO_head.1 hp)
  clear hp
  have H := Lib.hid h
  have HC := Lib.hid hcap
  clear h hcap
  have hXe : Ext w ((w.alloc (.cells #[.int .i64 tm, .int .i64 x0, .int .i64 x1, .int .i64 x2, .int .i64 x3, .slice A n c] 71)).alloc (.cells #[.int .i64 lv, .int .i64 dr, .int .i64 st, .int .i64 de] 33)) := (((Ext.refl w).alloc _).alloc _)
  have kP : Blk ((w.alloc (.cells #[.int .i64 tm, .int .i64 x0, .int .i64 x1, .int .i64 x2, .int .i64 x3, .slice A n c] 71)).alloc (.cells #[.int .i64 lv, .int .i64 dr, .int .i64 st, .int .i64 de] 33)) w.heap.size 71 #[.int .i64 tm, .int .i64 x0, .int .i64 x1, .int .i64 x2, .int .i64 x3, .slice A n c] := Blk.alloc (Blk.at_ (by simp)) _
  have kD : Blk ((w.alloc (.cells #[.int .i64 tm, .int .i64 x0, .int .i64 x1, .int .i64 x2, .int .i64 x3, .slice A n c] 71)).alloc (.cells #[.int .i64 lv, .int .i64 dr, .int .i64 st, .int .i64 de] 33)) (w.heap.size + 1) 33 #[.int .i64 lv, .int .i64 dr, .int .i64 st, .int .i64 de] := Blk.at_ (by simp)
  go_enter Try.func52, Try.ntmps52
  go_wp2_with fail
  generalize ((w.alloc (.cells #[.int .i64 tm, .int .i64 x0, .int .i64 x1, .int .i64 x2, .int .i64 x3, .slice A n c] 71)).alloc (.cells #[.int .i64 lv, .int .i64 dr, .int .i64 st, .int .i64 de] 33)) = w1 at hXe kP kD ⊢
  have HX := Lib.hid hXe
  clear hXe
  have KP := Lib.hid kP
  clear kP
  have KD := Lib.hid kD
  clear kD
  have cP0 : w1.cell? ⟨w.heap.size, 0, none⟩ = some (.int .i64 tm) := KP.out.cell 0
  have cP1 : w1.cell? ⟨w.heap.size, 1, none⟩ = some (.int .i64 x0) := KP.out.cell 1
  have cP2 : w1.cell? ⟨w.heap.size, 2, none⟩ = some (.int .i64 x1) := KP.out.cell 2
  have cP3 : w1.cell? ⟨w.heap.size, 3, none⟩ = some (.int .i64 x2) := KP.out.cell 3
  have cP4 : w1.cell? ⟨w.heap.size, 4, none⟩ = some (.int .i64 x3) := KP.out.cell 4
  have cP5 : w1.cell? ⟨w.heap.size, 5, none⟩ = some (.slice A n c) := KP.out.cell 5
  clear cP0 cP1 cP2 cP3 cP4 cP5
  refine (validP_any ⟨tm, x0, x1, x2, x3, l⟩ A n c _ (H.out.ext HX.out)).mono ?_
  rw [QP.out]
  rintro e w2 ⟨rfl, hX⟩
  replace hX : Ext w1 w2 := by with_reducible exact hX
  replace HX := Lib.hid (HX.out.trans hX)
  replace KP := Lib.hid (KP.out.ext hX)
  replace KD := Lib.hid (KD.out.ext hX)
  clear hX
  go_wp2
  go_ret2
  exact ⟨_, by rw [HB.out]; rfl, by rw [HB.out]; exact RtL.nil _ _, HX.out⟩

set_option maxRecDepth 100000 in
set_option maxHeartbeats 8000000 in
theorem returnsP_det (A : Option Addr) (n c : Nat) (tm x0 x1 x2 x3 : Int) (l : List Int) (lv dr st de : Int) (w : World) (hp : PulOk ⟨tm, x0, x1, x2, x3, l⟩) (hd : ¬ DetOk ⟨lv, dr, st, de⟩) (h : Ints .i64 w A n l) (hcap : n ≤ c ∧ c ≤ 9223372036854775807) :
    Calls Try.prog 52 #[.agg #[.int .i64 tm, .int .i64 x0, .int .i64 x1, .int .i64 x2, .int .i64 x3, .slice A n c], .agg #[.int .i64 lv, .int .i64 dr, .int .i64 st, .int .i64 de]] w (RetRt w (retO ⟨tm, x0, x1, x2, x3, l⟩ ⟨lv, dr, st, de⟩)) := by
  have QP : Hid (decide (PulOk ⟨tm, x0, x1, x2, x3, l⟩) = true) := Lib.hid (decide_eq_true hp)
  have QD : Hid (decide (DetOk ⟨lv, dr, st, de⟩) = false) := Lib.hid (decide_eq_false hd)
  have HB : Hid (retO ⟨tm, x0, x1, x2, x3, l⟩ ⟨lv, dr, st, de⟩ = ([], 31)) := Lib.hid (retO_head.2.1 hp hd)
  have HE : Hid (echoesF l ⟨lv, dr, st, de⟩ = ([], 31)) := Lib.hid (by unfold echoesF; rw [if_pos hd])
  clear hp hd
  have H := Lib.hid h
  have HC := Lib.hid hcap
  clear h hcap
  have hXe : Ext w ((w.alloc (.cells #[.int .i64 tm, .int .i64 x0, .int .i64 x1, .int .i64 x2, .int .i64 x3, .slice A n c] 71)).alloc (.cells #[.int .i64 lv, .int .i64 dr, .int .i64 st, .int .i64 de] 33)) := (((Ext.refl w).alloc _).alloc _)
  have kP : Blk ((w.alloc (.cells #[.int .i64 tm, .int .i64 x0, .int .i64 x1, .int .i64 x2, .int .i64 x3, .slice A n c] 71)).alloc (.cells #[.int .i64 lv, .int .i64 dr, .int .i64 st, .int .i64 de] 33)) w.heap.size 71 #[.int .i64 tm, .int .i64 x0, .int .i64 x1, .int .i64 x2, .int .i64 x3, .slice A n c] := Blk.alloc (Blk.at_ (by simp)) _
  have kD : Blk ((w.alloc (.cells #[.int .i64 tm, .int .i64 x0, .int .i64 x1, .int .i64 x2, .int .i64 x3, .slice A n c] 71)).alloc (.cells #[.int .i64 lv, .int .i64 dr, .int .i64 st, .int .i64 de] 33)) (w.heap.size + 1) 33 #[.int .i64 lv, .int .i64 dr, .int .i64 st, .int .i64 de] := Blk.at_ (by simp)
  go_enter Try.func52, Try.ntmps52
  go_wp2_with fail
  generalize ((w.alloc (.cells #[.int .i64 tm, .int .i64 x0, .int .i64 x1, .int .i64 x2, .int .i64 x3, .slice A n c] 71)).alloc (.cells #[.int .i64 lv, .int .i64 dr, .int .i64 st, .int .i64 de] 33)) = w1 at hXe kP kD ⊢
  have HX := Lib.hid hXe
  clear hXe
  have KP := Lib.hid kP
  clear kP
  have KD := Lib.hid kD
  clear kD
  have cP0 : w1.cell? ⟨w.heap.size, 0, none⟩ = some (.int .i64 tm) := KP.out.cell 0
  have cP1 : w1.cell? ⟨w.heap.size, 1, none⟩ = some (.int .i64 x0) := KP.out.cell 1
  have cP2 : w1.cell? ⟨w.heap.size, 2, none⟩ = some (.int .i64 x1) := KP.out.cell 2
  have cP3 : w1.cell? ⟨w.heap.size, 3, none⟩ = some (.int .i64 x2) := KP.out.cell 3
  have cP4 : w1.cell? ⟨w.heap.size, 4, none⟩ = some (.int .i64 x3) := KP.out.cell 4
  have cP5 : w1.cell? ⟨w.heap.size, 5, none⟩ = some (.slice A n c) := KP.out.cell 5
  clear cP0 cP1 cP2 cP3 cP4 cP5
  refine (validP_any ⟨tm, x0, x1, x2, x3, l⟩ A n c _ (H.out.ext HX.out)).mono ?_
  rw [QP.out]
  rintro e w2 ⟨rfl, hX⟩
  replace hX : Ext w1 w2 := by with_reducible exact hX
  replace HX := Lib.hid (HX.out.trans hX)
  replace KP := Lib.hid (KP.out.ext hX)
  replace KD := Lib.hid (KD.out.ext hX)
  clear hX
  have cP0 : w2.cell? ⟨w.heap.size, 0, none⟩ = some (.int .i64 tm) := KP.out.cell 0
  have cP1 : w2.cell? ⟨w.heap.size, 1, none⟩ = some (.int .i64 x0) := KP.out.cell 1
  have cP2 : w2.cell? ⟨w.heap.size, 2, none⟩ = some (.int .i64 x1) := KP.out.cell 2
  have cP3 : w2.cell? ⟨w.heap.size, 3, none⟩ = some (.int .i64 x2) := KP.out.cell 3
  have cP4 : w2.cell? ⟨w.heap.size, 4, none⟩ = some (.int .i64 x3) := KP.out.cell 4
  have cP5 : w2.cell? ⟨w.heap.size, 5, none⟩ = some (.slice A n c) := KP.out.cell 5
  have cD0 : w2.cell? ⟨(w.heap.size + 1), 0, none⟩ = some (.int .i64 lv) := KD.out.cell 0
  have cD1 : w2.cell? ⟨(w.heap.size + 1), 1, none⟩ = some (.int .i64 dr) := KD.out.cell 1
  have cD2 : w2.cell? ⟨(w.heap.size + 1), 2, none⟩ = some (.int .i64 st) := KD.out.cell 2
  have cD3 : w2.cell? ⟨(w.heap.size + 1), 3, none⟩ = some (.int .i64 de) := KD.out.cell 3
  go_wp2_with fail
  clear cP0 cP1 cP2 cP3 cP4 cP5 cD0 cD1 cD2 cD3
  refine (echoes_any A n c l ⟨lv, dr, st, de⟩ _ (H.out.ext HX.out)).mono ?_
  rw [HE.out]
  rintro e w3 ⟨v9, rfl, _, hX⟩
  replace hX : Ext w2 w3 := by with_reducible exact hX
  replace HX := Lib.hid (HX.out.trans hX)
  replace KP := Lib.hid (KP.out.ext hX)
  replace KD := Lib.hid (KD.out.ext hX)
  clear hX
  go_wp2
  go_ret2
  exact ⟨_, by rw [HB.out]; rfl, by rw [HB.out]; exact RtL.nil _ _, HX.out⟩

set_option maxRecDepth 100000 in
set_option maxHeartbeats 8000000 in
theorem returnsP_ok (A : Option Addr) (n c : Nat) (tm x0 x1 x2 x3 : Int) (l : List Int) (lv dr st de : Int) (w : World) (hp : PulOk ⟨tm, x0, x1, x2, x3, l⟩) (hd : DetOk ⟨lv, dr, st, de⟩) (h : Ints .i64 w A n l) (hcap : n ≤ c ∧ c ≤ 9223372036854775807) :
    Calls Try.prog 52 #[.agg #[.int .i64 tm, .int .i64 x0, .int .i64 x1, .int .i64 x2, .int .i64 x3, .slice A n c], .agg #[.int .i64 lv, .int .i64 dr, .int .i64 st, .int .i64 de]] w (RetRt w (retO ⟨tm, x0, x1, x2, x3, l⟩ ⟨lv, dr, st, de⟩)) := by
  have QP : Hid (decide (PulOk ⟨tm, x0, x1, x2, x3, l⟩) = true) := Lib.hid (decide_eq_true hp)
  have QD : Hid (decide (DetOk ⟨lv, dr, st, de⟩) = true) := Lib.hid (decide_eq_true hd)
  have HB : Hid (retO ⟨tm, x0, x1, x2, x3, l⟩ ⟨lv, dr, st, de⟩ = ((retsN l ⟨lv, dr, st, de⟩ 0 ((allE l ⟨lv, dr, st, de⟩).take 15)).map (Ret.setOf (retsN l ⟨lv, dr, st, de⟩ 0 ((allE l ⟨lv, dr, st, de⟩).take 15)).length), 0)) := Lib.hid (retO_head.2.2 hp hd)
  have HE : Hid (echoesF l ⟨lv, dr, st, de⟩ = ((allE l ⟨lv, dr, st, de⟩).take 15, 0)) := Lib.hid (echoesF_ok hd hp.2.2.2.1)
  have hN15 : ((allE l ⟨lv, dr, st, de⟩).take 15).length ≤ 15 := List.length_take_le _ _
  generalize (allE l ⟨lv, dr, st, de⟩).take 15 = es at HB HE hN15
  obtain ⟨N, hN⟩ : ∃ N, es.length = N := ⟨_, rfl⟩
  rw [hN] at hN15
  have HN := Lib.hid hN
  clear hp hd hN
  have H := Lib.hid h
  have HC := Lib.hid hcap
  clear h hcap
  have hXe : Ext w ((w.alloc (.cells #[.int .i64 tm, .int .i64 x0, .int .i64 x1, .int .i64 x2, .int .i64 x3, .slice A n c] 71)).alloc (.cells #[.int .i64 lv, .int .i64 dr, .int .i64 st, .int .i64 de] 33)) := (((Ext.refl w).alloc _).alloc _)
  have kP : Blk ((w.alloc (.cells #[.int .i64 tm, .int .i64 x0, .int .i64 x1, .int .i64 x2, .int .i64 x3, .slice A n c] 71)).alloc (.cells #[.int .i64 lv, .int .i64 dr, .int .i64 st, .int .i64 de] 33)) w.heap.size 71 #[.int .i64 tm, .int .i64 x0, .int .i64 x1, .int .i64 x2, .int .i64 x3, .slice A n c] := Blk.alloc (Blk.at_ (by simp)) _
  have kD : Blk ((w.alloc (.cells #[.int .i64 tm, .int .i64 x0, .int .i64 x1, .int .i64 x2, .int .i64 x3, .slice A n c] 71)).alloc (.cells #[.int .i64 lv, .int .i64 dr, .int .i64 st, .int .i64 de] 33)) (w.heap.size + 1) 33 #[.int .i64 lv, .int .i64 dr, .int .i64 st, .int .i64 de] := Blk.at_ (by simp)
  go_enter Try.func52, Try.ntmps52
  go_wp2_with fail
  generalize ((w.alloc (.cells #[.int .i64 tm, .int .i64 x0, .int .i64 x1, .int .i64 x2, .int .i64 x3, .slice A n c] 71)).alloc (.cells #[.int .i64 lv, .int .i64 dr, .int .i64 st, .int .i64 de] 33)) = w1 at hXe kP kD ⊢
  have HX := Lib.hid hXe
  clear hXe
  have KP := Lib.hid kP
  clear kP
  have KD := Lib.hid kD
  clear kD
  have cP0 : w1.cell? ⟨w.heap.size, 0, none⟩ = some (.int .i64 tm) := KP.out.cell 0
  have cP1 : w1.cell? ⟨w.heap.size, 1, none⟩ = some (.int .i64 x0) := KP.out.cell 1
  have cP2 : w1.cell? ⟨w.heap.size, 2, none⟩ = some (.int .i64 x1) := KP.out.cell 2
  have cP3 : w1.cell? ⟨w.heap.size, 3, none⟩ = some (.int .i64 x2) := KP.out.cell 3
  have cP4 : w1.cell? ⟨w.heap.size, 4, none⟩ = some (.int .i64 x3) := KP.out.cell 4
  have cP5 : w1.cell? ⟨w.heap.size, 5, none⟩ = some (.slice A n c) := KP.out.cell 5
  clear cP0 cP1 cP2 cP3 cP4 cP5
  refine (validP_any ⟨tm, x0, x1, x2, x3, l⟩ A n c _ (H.out.ext HX.out)).mono ?_
  rw [QP.out]
  rintro e w2 ⟨rfl, hX⟩
  replace hX : Ext w1 w2 := by with_reducible exact hX
  replace HX := Lib.hid (HX.out.trans hX)
  replace KP := Lib.hid (KP.out.ext hX)
  replace KD := Lib.hid (KD.out.ext hX)
  clear hX
  have cP0 : w2.cell? ⟨w.heap.size, 0, none⟩ = some (.int .i64 tm) := KP.out.cell 0
  have cP1 : w2.cell? ⟨w.heap.size, 1, none⟩ = some (.int .i64 x0) := KP.out.cell 1
  have cP2 : w2.cell? ⟨w.heap.size, 2, none⟩ = some (.int .i64 x1) := KP.out.cell 2
  have cP3 : w2.cell? ⟨w.heap.size, 3, none⟩ = some (.int .i64 x2) := KP.out.cell 3
  have cP4 : w2.cell? ⟨w.heap.size, 4, none⟩ = some (.int .i64 x3) := KP.out.cell 4
  have cP5 : w2.cell? ⟨w.heap.size, 5, none⟩ = some (.slice A n c) := KP.out.cell 5
  have cD0 : w2.cell? ⟨(w.heap.size + 1), 0, none⟩ = some (.int .i64 lv) := KD.out.cell 0
  have cD1 : w2.cell? ⟨(w.heap.size + 1), 1, none⟩ = some (.int .i64 dr) := KD.out.cell 1
  have cD2 : w2.cell? ⟨(w.heap.size + 1), 2, none⟩ = some (.int .i64 st) := KD.out.cell 2
  have cD3 : w2.cell? ⟨(w.heap.size + 1), 3, none⟩ = some (.int .i64 de) := KD.out.cell 3
  go_wp2_with fail
  clear cP0 cP1 cP2 cP3 cP4 cP5 cD0 cD1 cD2 cD3
  refine (echoes_any A n c l ⟨lv, dr, st, de⟩ _ (H.out.ext HX.out)).mono ?_
  rw [HE.out]
  rintro e w3 ⟨v9, rfl, hE, hX⟩
  replace hX : Ext w2 w3 := by with_reducible exact hX
  replace HX := Lib.hid (HX.out.trans hX)
  replace KP := Lib.hid (KP.out.ext hX)
  replace KD := Lib.hid (KD.out.ext hX)
  clear hX
  simp only at hE
  obtain ⟨Ae, ce, rfl⟩ := own_slice hE
  rw [HN.out] at hE ⊢
  have HEC := Lib.hid hE
  clear hE
  generalize w2.heap.size = B at HEC
  go_wp2_with fail
  go_loopg [8, 32] N (fun f ov iv wr => ∃ (k : Nat) (rs : List Ret), f = N - k ∧ k ≤ N ∧ rs.length ≤ k ∧ iv = .int .i64 (k : Int) ∧ Hid (retsN l ⟨lv, dr, st, de⟩ 0 (es.take k) = rs) ∧ Hid (RtL w.heap.size wr ov rs) ∧ Hid (EcL B wr (.slice Ae N ce) es) ∧ Hid (Blk wr w.heap.size 71 #[.int .i64 tm, .int .i64 x0, .int .i64 x1, .int .i64 x2, .int .i64 x3, .slice A n c]) ∧ Hid (Blk wr (w.heap.size + 1) 33 #[.int .i64 lv, .int .i64 dr, .int .i64 st, .int .i64 de]) ∧ Hid (Ext w wr))
  case atStart => exact ⟨0, [], rfl, by omega, by simp, rfl, Lib.hid rfl, Lib.hid (RtL.nil _ _), HEC, KP, KD, HX⟩
  case round =>
    clear HEC KP KD HX
    obtain ⟨k, rs, rfl, hk, hrl, rfl, HRS, HO, HEC, KP, KD, HX⟩ := hrel
    obtain ⟨A1, c1, hso⟩ := own_slice HO.out
    subst hso
    obtain ⟨oz, hoz⟩ : ∃ oz, rs.length = oz := ⟨_, rfl⟩
    have HOZ := Lib.hid hoz
    rw [hoz] at hrl HO ⊢
    clear hoz
    by_cases hlt : k < N
    · have q1 : decide (k < N) = true := decide_eq_true hlt
      obtain ⟨ge, ce', x, hve, hr, hc⟩ := HEC.out.get (by rw [HN.out]; exact hlt)
      injection hve with hve hve2 hve3
      subst hve
      clear hve2 hve3
      have hsn := retsN_snoc l ⟨lv, dr, st, de⟩ 0 (es.take k) x
      rw [HRS.out, Nat.zero_add, HOZ.out] at hsn
      have hone : ∀ lo hi te a b re, timeF l x = ((lo, hi), te) → rangeF lo hi ⟨lv, dr, st, de⟩ = ((a, b), re) → retsN l ⟨lv, dr, st, de⟩ 0 (es.take (k + 1)) = rs ++ (if te ≠ 0 then none else if re ≠ 0 then none else some (⟨(oz : Int) + 1, 0, a, b, x.top, (energyF l x).1⟩ : Ret)).toList := fun lo hi te a b re h1 h2 => by
        rw [List.take_add_one, hr, Option.toList_some, hsn, oneR_at h1 h2]
      obtain ⟨y0, y1, y2, y3, y4⟩ := x
      obtain ⟨⟨⟨lo, hi⟩, te⟩, hT⟩ : ∃ r, timeF l ⟨y0, y1, y2, y3, y4⟩ = r := ⟨_, rfl⟩
      obtain ⟨⟨⟨a, b⟩, re⟩, hR⟩ : ∃ r, rangeF lo hi ⟨lv, dr, st, de⟩ = r := ⟨_, rfl⟩
      obtain ⟨⟨en, ee⟩, hG⟩ : ∃ r, energyF l ⟨y0, y1, y2, y3, y4⟩ = r := ⟨_, rfl⟩
      have hone2 := hone lo hi te a b re hT hR
      rw [hG] at hone2
      simp only at hone2
      have HT := Lib.hid hT
      have HR := Lib.hid hR
      have HG := Lib.hid hG
      have HRK := Lib.hid hr
      have HONE := Lib.hid hone2
      have a0 := hc 0 _ rfl
      have a1 := hc 1 _ rfl
      have a2 := hc 2 _ rfl
      have a3 := hc 3 _ rfl
      have a4 := hc 4 _ rfl
      simp only [Nat.add_zero] at a0
      simp only at a0 a1 a2 a3 a4
      clear hc hr hsn hone hT hR hG hone2
      go_upto_region 10 with (fail)
      clear a0 a1 a2 a3 a4
      have hXa : Ext wr (wr.alloc (.cells #[.int .i64 y0, .int .i64 y1, .int .i64 y2, .int .i64 y3, .int .i64 y4] 42)) := (Ext.refl _).alloc _
      have kX := Blk.new wr 42 #[.int .i64 y0, .int .i64 y1, .int .i64 y2, .int .i64 y3, .int .i64 y4]
      have zP := KP.out.lt
      have zD := KD.out.lt
      have zg := HX.out.size
      replace HX := Lib.hid (HX.out.trans hXa)
      replace HEC := Lib.hid (HEC.out.ext hXa)
      replace HO := Lib.hid (HO.out.ext hXa)
      replace KP := Lib.hid (KP.out.ext hXa)
      replace KD := Lib.hid (KD.out.ext hXa)
      generalize (wr.alloc (.cells #[.int .i64 y0, .int .i64 y1, .int .i64 y2, .int .i64 y3, .int .i64 y4] 42)) = w4 at HX HEC HO KP KD kX ⊢
      have KX := Lib.hid kX
      clear kX hXa
      have cP0 : w4.cell? ⟨w.heap.size, 0, none⟩ = some (.int .i64 tm) := KP.out.cell 0
      have cP1 : w4.cell? ⟨w.heap.size, 1, none⟩ = some (.int .i64 x0) := KP.out.cell 1
      have cP2 : w4.cell? ⟨w.heap.size, 2, none⟩ = some (.int .i64 x1) := KP.out.cell 2
      have cP3 : w4.cell? ⟨w.heap.size, 3, none⟩ = some (.int .i64 x2) := KP.out.cell 3
      have cP4 : w4.cell? ⟨w.heap.size, 4, none⟩ = some (.int .i64 x3) := KP.out.cell 4
      have cP5 : w4.cell? ⟨w.heap.size, 5, none⟩ = some (.slice A n c) := KP.out.cell 5
      have cX0 : w4.cell? ⟨wr.heap.size, 0, none⟩ = some (.int .i64 y0) := KX.out.cell 0
      have cX1 : w4.cell? ⟨wr.heap.size, 1, none⟩ = some (.int .i64 y1) := KX.out.cell 1
      have cX2 : w4.cell? ⟨wr.heap.size, 2, none⟩ = some (.int .i64 y2) := KX.out.cell 2
      have cX3 : w4.cell? ⟨wr.heap.size, 3, none⟩ = some (.int .i64 y3) := KX.out.cell 3
      have cX4 : w4.cell? ⟨wr.heap.size, 4, none⟩ = some (.int .i64 y4) := KX.out.cell 4
      go_wp2_with fail
      clear cP0 cP1 cP2 cP3 cP4 cP5 cX0 cX1 cX2 cX3 cX4
      refine (time_any A n c l y0 y1 y2 y3 y4 _ (H.out.ext HX.out)).mono ?_
      rw [HT.out]
      rintro e w5 ⟨rfl, hX⟩
      replace hX : Ext w4 w5 := by with_reducible exact hX
      replace HX := Lib.hid (HX.out.trans hX)
      replace HEC := Lib.hid (HEC.out.ext hX)
      replace HO := Lib.hid (HO.out.ext hX)
      replace KP := Lib.hid (KP.out.ext hX)
      replace KD := Lib.hid (KD.out.ext hX)
      replace KX := Lib.hid (KX.out.ext hX)
      clear hX
      go_upto_region 11 with (fail)
      have hXa : Ext w5 (w5.alloc (.cells #[.int .i64 lo, .int .i64 hi] 44)) := (Ext.refl _).alloc _
      have kS := Blk.new w5 44 #[.int .i64 lo, .int .i64 hi]
      have zP := KP.out.lt
      have zD := KD.out.lt
      have zX := KX.out.lt
      have zg := HX.out.size
      replace HX := Lib.hid (HX.out.trans hXa)
      replace HEC := Lib.hid (HEC.out.ext hXa)
      replace HO := Lib.hid (HO.out.ext hXa)
      replace KP := Lib.hid (KP.out.ext hXa)
      replace KD := Lib.hid (KD.out.ext hXa)
      replace KX := Lib.hid (KX.out.ext hXa)
      generalize (w5.alloc (.cells #[.int .i64 lo, .int .i64 hi] 44)) = w6 at HX HEC HO KP KD KX kS ⊢
      have KS := Lib.hid kS
      clear kS hXa
      by_cases hte : ¬ te = 0
      · have gte : (te != 0) = true := by simpa using hte
        have HteN := Lib.hid hte
        clear hte
        go_wp2_with fail
        go_roundg (N - (k + 1))
        case rel => exact ⟨k + 1, rs, rfl, by omega, by rw [HOZ.out]; omega, by go_num, Lib.hid (by rw [HONE.out, if_pos HteN.out]; simp), HO, HEC, KP, KD, HX⟩
        case measure => omega
      obtain rfl : te = 0 := Decidable.not_not.1 hte
      clear hte
      have cD0 : w6.cell? ⟨(w.heap.size + 1), 0, none⟩ = some (.int .i64 lv) := KD.out.cell 0
      have cD1 : w6.cell? ⟨(w.heap.size + 1), 1, none⟩ = some (.int .i64 dr) := KD.out.cell 1
      have cD2 : w6.cell? ⟨(w.heap.size + 1), 2, none⟩ = some (.int .i64 st) := KD.out.cell 2
      have cD3 : w6.cell? ⟨(w.heap.size + 1), 3, none⟩ = some (.int .i64 de) := KD.out.cell 3
      have cS0 : w6.cell? ⟨w5.heap.size, 0, none⟩ = some (.int .i64 lo) := KS.out.cell 0
      have cS1 : w6.cell? ⟨w5.heap.size, 1, none⟩ = some (.int .i64 hi) := KS.out.cell 1
      go_wp2_with fail
      clear cD0 cD1 cD2 cD3 cS0 cS1
      refine (rangeP_any lo hi ⟨lv, dr, st, de⟩ _).mono ?_
      rw [HR.out]
      rintro e w7 ⟨rfl, hX⟩
      replace hX : Ext w6 w7 := by with_reducible exact hX
      replace HX := Lib.hid (HX.out.trans hX)
      replace HEC := Lib.hid (HEC.out.ext hX)
      replace HO := Lib.hid (HO.out.ext hX)
      replace KP := Lib.hid (KP.out.ext hX)
      replace KD := Lib.hid (KD.out.ext hX)
      replace KX := Lib.hid (KX.out.ext hX)
      replace KS := Lib.hid (KS.out.ext hX)
      clear hX
      go_upto_region 13 with (fail)
      have hXa : Ext w7 (w7.alloc (.cells #[.int .i64 a, .int .i64 b] 44)) := (Ext.refl _).alloc _
      have kR := Blk.new w7 44 #[.int .i64 a, .int .i64 b]
      have zP := KP.out.lt
      have zD := KD.out.lt
      have zX := KX.out.lt
      have zS := KS.out.lt
      have zg := HX.out.size
      replace HX := Lib.hid (HX.out.trans hXa)
      replace HEC := Lib.hid (HEC.out.ext hXa)
      replace HO := Lib.hid (HO.out.ext hXa)
      replace KP := Lib.hid (KP.out.ext hXa)
      replace KD := Lib.hid (KD.out.ext hXa)
      replace KX := Lib.hid (KX.out.ext hXa)
      replace KS := Lib.hid (KS.out.ext hXa)
      generalize (w7.alloc (.cells #[.int .i64 a, .int .i64 b] 44)) = w8 at HX HEC HO KP KD KX KS kR ⊢
      have KR := Lib.hid kR
      clear kR hXa
      by_cases hre : ¬ re = 0
      · have gre : (re != 0) = true := by simpa using hre
        have HreN := Lib.hid hre
        clear hre
        go_wp2_with fail
        go_roundg (N - (k + 1))
        case rel => exact ⟨k + 1, rs, rfl, by omega, by rw [HOZ.out]; omega, by go_num, Lib.hid (by rw [HONE.out, if_neg (by simp), if_pos HreN.out]; simp), HO, HEC, KP, KD, HX⟩
        case measure => omega
      obtain rfl : re = 0 := Decidable.not_not.1 hre
      clear hre
      have cP0 : w8.cell? ⟨w.heap.size, 0, none⟩ = some (.int .i64 tm) := KP.out.cell 0
      have cP1 : w8.cell? ⟨w.heap.size, 1, none⟩ = some (.int .i64 x0) := KP.out.cell 1
      have cP2 : w8.cell? ⟨w.heap.size, 2, none⟩ = some (.int .i64 x1) := KP.out.cell 2
      have cP3 : w8.cell? ⟨w.heap.size, 3, none⟩ = some (.int .i64 x2) := KP.out.cell 3
      have cP4 : w8.cell? ⟨w.heap.size, 4, none⟩ = some (.int .i64 x3) := KP.out.cell 4
      have cP5 : w8.cell? ⟨w.heap.size, 5, none⟩ = some (.slice A n c) := KP.out.cell 5
      have cX0 : w8.cell? ⟨wr.heap.size, 0, none⟩ = some (.int .i64 y0) := KX.out.cell 0
      have cX1 : w8.cell? ⟨wr.heap.size, 1, none⟩ = some (.int .i64 y1) := KX.out.cell 1
      have cX2 : w8.cell? ⟨wr.heap.size, 2, none⟩ = some (.int .i64 y2) := KX.out.cell 2
      have cX3 : w8.cell? ⟨wr.heap.size, 3, none⟩ = some (.int .i64 y3) := KX.out.cell 3
      have cX4 : w8.cell? ⟨wr.heap.size, 4, none⟩ = some (.int .i64 y4) := KX.out.cell 4
      go_wp2_with fail
      clear cP0 cP1 cP2 cP3 cP4 cP5 cX0 cX1 cX2 cX3 cX4
      refine (energy_any A n c l y0 y1 y2 y3 y4 _ (H.out.ext HX.out) HC.out).mono ?_
      rw [HG.out]
      rintro e w9 ⟨rfl, hX⟩
      replace hX : Ext w8 w9 := by with_reducible exact hX
      replace HX := Lib.hid (HX.out.trans hX)
      replace HEC := Lib.hid (HEC.out.ext hX)
      replace HO := Lib.hid (HO.out.ext hX)
      replace KP := Lib.hid (KP.out.ext hX)
      replace KD := Lib.hid (KD.out.ext hX)
      replace KX := Lib.hid (KX.out.ext hX)
      replace KS := Lib.hid (KS.out.ext hX)
      replace KR := Lib.hid (KR.out.ext hX)
      clear hX
      have cX0 : w9.cell? ⟨wr.heap.size, 0, none⟩ = some (.int .i64 y0) := KX.out.cell 0
      have cX1 : w9.cell? ⟨wr.heap.size, 1, none⟩ = some (.int .i64 y1) := KX.out.cell 1
      have cX2 : w9.cell? ⟨wr.heap.size, 2, none⟩ = some (.int .i64 y2) := KX.out.cell 2
      have cX3 : w9.cell? ⟨wr.heap.size, 3, none⟩ = some (.int .i64 y3) := KX.out.cell 3
      have cX4 : w9.cell? ⟨wr.heap.size, 4, none⟩ = some (.int .i64 y4) := KX.out.cell 4
      have cR0 : w9.cell? ⟨w7.heap.size, 0, none⟩ = some (.int .i64 a) := KR.out.cell 0
      have cR1 : w9.cell? ⟨w7.heap.size, 1, none⟩ = some (.int .i64 b) := KR.out.cell 1
      have hown : w9.ownsRow w.heap.size 62 6 (.slice A1 oz c1) oz (rtV rs) := by
        have h1 := HO.out
        unfold RtL at h1
        rw [HOZ.out] at h1
        exact h1
      have hsz := HX.out.size
      go_wp2_with (at_builtin; refine wpList_app _ elR rfl _ _ rfl w.heap.size (.slice A1 oz c1) oz (rtV rs) rfl (hown.alloc _) _ 1 1 [.int .i64 ((oz : Int) + 1), .int .i64 0, .int .i64 a, .int .i64 b, .int .i64 y4, .int .i64 en] rfl rfl (At.new' _ [_, _, _, _, _, _] _ rfl) (by simp [Value.oneCell']) (by omega) (by unfold maxLen; omega) (by simp; omega) ?_; intro v5 w5 hown5 hgr5 _; have HX5 := Lib.hid (HX.out.push hown hgr5); have HK5 := Lib.hid (Keeps.of_grown (L := (Value.slice A1 oz c1).ownBlock.toList) hgr5 (fun k hk => by rw [hk]; simp)); have HOW5 := Lib.hid hown5; clear hown5 hgr5)
      have hal := (Ext.refl w9).alloc (.cells #[.int .i64 ((oz : Int) + 1), .int .i64 0, .int .i64 a, .int .i64 b, .int .i64 y4, .int .i64 en] 62)
      have hno : ∀ tb, 62 ≠ tb → ∀ k ∈ (Value.slice A1 oz c1).ownBlock.toList, NoRow tb (w9.alloc (.cells #[.int .i64 ((oz : Int) + 1), .int .i64 0, .int .i64 a, .int .i64 b, .int .i64 y4, .int .i64 en] 62)) k := fun tb h k hk => NoRow.of_own (hown.alloc _) (by simpa using hk) h
      go_roundg (N - (k + 1))
      case rel =>
        refine ⟨k + 1, rs ++ [⟨(oz : Int) + 1, 0, a, b, y4, en⟩], rfl, by omega, by rw [List.length_append, HOZ.out]; simp; omega, by go_num, Lib.hid (by rw [HONE.out, if_neg (by simp), if_neg (by simp)]; rfl), Lib.hid ?_, Lib.hid (row_away (HEC.out.ext hal) HK5.out (hno _ (by decide))), Lib.hid (blk_away (KP.out.ext hal) HK5.out (hno _ (by decide))), Lib.hid (blk_away (KD.out.ext hal) HK5.out (hno _ (by decide))), HX5⟩
        unfold RtL
        rw [rtV_snoc, List.length_append, HOZ.out]
        exact HOW5.out
      case measure => omega
    · obtain rfl : k = N := by omega
      have HRA : Hid (retsN l ⟨lv, dr, st, de⟩ 0 es = rs) := Lib.hid (by have h1 := HRS.out; rwa [List.take_of_length_le (Nat.le_of_eq HN.out)] at h1)
      rw [HRA.out, HOZ.out] at HB
      clear HRS HEC KP KD
      go_wp2_with fail
      go_loopg [74] oz (fun f iv wr => ∃ k : Nat, f = oz - k ∧ k ≤ oz ∧ iv = .int .i64 (k : Int) ∧ Hid (wr.ownsRow w.heap.size 62 6 (.slice A1 oz c1) oz (rtV ((rs.take k).map (Ret.setOf oz) ++ rs.drop k))) ∧ Hid (Ext w wr))
      case atStart => exact ⟨0, rfl, by omega, rfl, Lib.hid (by have h1 := HO.out; unfold RtL at h1; rw [HOZ.out] at h1; simpa using h1), HX⟩
      case round =>
        clear HO HX
        obtain ⟨j, rfl, hj, rfl, HO, HX⟩ := hrel
        by_cases hjl : j < oz
        · have hown := HO.out
          obtain ⟨g, hge, hg1, hg2⟩ := own_at0 hown (by omega)
          subst hge
          obtain ⟨cur, hB, _⟩ := own_cells hown
          have hfr := hB.free (j * 6 + 1)
          have hcel := hown.cellAt (j * 6 + 1) (by omega)
          have hset := ownsRow_set (i := j * 6 + 1) (u := .int .i64 (oz : Int)) hown
          rw [rtV_setOf (by rw [HOZ.out]; exact hjl)] at hset
          have HSET := Lib.hid hset
          obtain ⟨uo, huo⟩ : ∃ u, (rtV ((rs.take j).map (Ret.setOf oz) ++ rs.drop j))[j * 6 + 1]? = some u := by
            rw [List.getElem?_eq_getElem (by rw [rtV_len]; simp; rw [HOZ.out]; omega)]
            exact ⟨_, rfl⟩
          rw [huo] at hcel
          clear hown hB hset huo
          go_wp2_with fail
          go_roundg (oz - (j + 1))
          case rel => exact ⟨j + 1, rfl, by omega, by go_num, HSET, Lib.hid (HX.out.setCell hg1 _)⟩
          case measure => omega
        · obtain rfl : j = oz := by omega
          have HF : Hid ((rs.take j).map (Ret.setOf j) ++ rs.drop j = rs.map (Ret.setOf j)) := Lib.hid (by rw [List.take_of_length_le (Nat.le_of_eq HOZ.out), List.drop_eq_nil_of_le (Nat.le_of_eq HOZ.out), List.append_nil])
          have hfin : RtL w.heap.size wr (.slice A1 j c1) (rs.map (Ret.setOf j)) := by
            unfold RtL
            rw [← HF.out, List.length_append, List.length_map, List.length_take, List.length_drop, HOZ.out, show min j j + (j - j) = j by omega]
            exact HO.out
          have HFIN := Lib.hid hfin
          clear hfin HO
          go_wp2
          go_ret2
          exact ⟨_, by rw [HB.out]; rfl, by rw [HB.out]; exact HFIN.out, HX.out⟩

theorem returnsP_any (p : Pul) (A : Option Addr) (n c : Nat) (d : Det) (w : World) (h : Ints .i64 w A n p.smp) (hcap : n ≤ c ∧ c ≤ 9223372036854775807) :
    Calls Try.prog 52 #[p.val A n c, .agg #[.int .i64 d.level, .int .i64 d.drop, .int .i64 d.step, .int .i64 d.delay]] w (RetRt w (retO p d)) := by
  obtain ⟨tm, x0, x1, x2, x3, l⟩ := p
  obtain ⟨lv, dr, st, de⟩ := d
  by_cases hp : PulOk ⟨tm, x0, x1, x2, x3, l⟩
  · by_cases hd : DetOk ⟨lv, dr, st, de⟩
    · exact returnsP_ok A n c tm x0 x1 x2 x3 l lv dr st de w hp hd h hcap
    · exact returnsP_det A n c tm x0 x1 x2 x3 l lv dr st de w hp hd h hcap
  · exact returnsP_bad A n c tm x0 x1 x2 x3 l lv dr st de w hp h hcap

set_option maxRecDepth 100000 in
set_option maxHeartbeats 2000000 in
theorem rt_r10 (gp ge N ce k : Nat) (A : Option Addr) (n c : Nat) (y0 y1 y2 y3 y4 lo hi te : Int) (l : List Int) (w : World) (cp : w.cell? ⟨gp, 5, none⟩ = some (.slice A n c)) (a0 : w.cell? ⟨ge, k * 5, none⟩ = some (.int .i64 y0)) (a1 : w.cell? ⟨ge, k * 5 + 1, none⟩ = some (.int .i64 y1)) (a2 : w.cell? ⟨ge, k * 5 + 2, none⟩ = some (.int .i64 y2)) (a3 : w.cell? ⟨ge, k * 5 + 3, none⟩ = some (.int .i64 y3)) (a4 : w.cell? ⟨ge, k * 5 + 4, none⟩ = some (.int .i64 y4)) (hI : Ints .i64 w A n l) (hT : Hid (timeF l ⟨y0, y1, y2, y3, y4⟩ = ((lo, hi), te))) (hk : k < N) (a : Act) (Q : Exit → Act → World → Prop) (hsize : 45 ≤ a.tmps.size)
    (s2 : a.tmps[2]? = some (.pointer (some ⟨gp, 0, none⟩)))
    (s7 : a.tmps[7]? = some (.slice (some ⟨ge, 0, none⟩) N ce))
    (s9 : a.tmps[9]? = some (.int .i64 (k : Int)))
    (hend : ∀ (xv0 xv1 xv2 xv3 xv4 xv5 xv6 xv7 xv8 xv9 xv10 xv11 xv12 : Value) (W : World), (xv0 = .pointer (some ⟨gp, 5, none⟩)) → (xv1 = .slice A n c) → (xv2 = .slice (some ⟨ge, 0, none⟩) N ce) → (xv3 = .int .i64 (k : Int)) → (xv4 = .pointer (some ⟨ge, k * 5, none⟩)) → (xv5 = .agg #[.int .i64 y0, .int .i64 y1, .int .i64 y2, .int .i64 y3, .int .i64 y4]) → (xv6 = .tuple #[.agg #[.int .i64 lo, .int .i64 hi], .int .i64 te]) → (xv7 = .tuple #[.agg #[.int .i64 lo, .int .i64 hi], .int .i64 te]) → (xv8 = .agg #[.int .i64 lo, .int .i64 hi]) → (xv9 = .int .i64 te) → (xv12 = .int .i64 te) → (∃ g, xv10 = .pointer (some ⟨g, 0, none⟩) ∧ w.heap.size ≤ g ∧ Blk W g 44 #[.int .i64 lo, .int .i64 hi]) → Ext w W → wpList Try.prog (rops Try.f56 10).toArray Q [] (((((((((((((a.put (some 36) xv0).put (some 37) xv1).put (some 38) xv2).put (some 39) xv3).put (some 40) xv4).put (some 41) xv5).put (some 42) xv6).put (some 35) xv7).put (some 43) xv8).put (some 44) xv9).put (some 10) xv10).put (none) xv11).put (some 11) xv12) W) :
    (Code.region 10 (rops Try.f56 10).toArray true).wp Try.prog Q a w := by
  have hsz : ∀ d, some d ∈ ([some 36, some 37, some 38, some 39, some 40, some 41, some 42, some 35, some 43, some 44, some 10, none, some 11] : List (Option Tmp)) → d < a.tmps.size := slots_lt (by decide) hsize
  refine wp_region_g 13 [some 36, some 37, some 38, some 39, some 40, some 41, some 42, some 35, some 43, some 44, some 10, none, some 11] [[], [0], [], [], [2, 3], [4], [1, 5], [6], [7], [7], [], [8, 10], [9]] [[], [], [], [], [], [], [], [], [], [], [11], [], []] (fun (done : Nat → Prop) (us : Nat → Value) (W : World) => Ext w W ∧ (done 0 → us 0 = .pointer (some ⟨gp, 5, none⟩)) ∧ (done 1 → us 1 = .slice A n c) ∧ (done 2 → us 2 = .slice (some ⟨ge, 0, none⟩) N ce) ∧ (done 3 → us 3 = .int .i64 (k : Int)) ∧ (done 4 → us 4 = .pointer (some ⟨ge, k * 5, none⟩)) ∧ (done 5 → us 5 = .agg #[.int .i64 y0, .int .i64 y1, .int .i64 y2, .int .i64 y3, .int .i64 y4]) ∧ (done 6 → us 6 = .tuple #[.agg #[.int .i64 lo, .int .i64 hi], .int .i64 te]) ∧ (done 7 → us 7 = .tuple #[.agg #[.int .i64 lo, .int .i64 hi], .int .i64 te]) ∧ (done 8 → us 8 = .agg #[.int .i64 lo, .int .i64 hi]) ∧ (done 9 → us 9 = .int .i64 te) ∧ (done 12 → us 12 = .int .i64 te) ∧ Loc w W 44 #[.int .i64 0, .int .i64 0] #[.int .i64 lo, .int .i64 hi] (done 10) (done 11) (us 10)) (by kernel_rfl) (by kernel_rfl) hsz (fun p q us W h => by have e : p = q := funext fun k => propext (h k); rw [e]; exact id) (fun us => ⟨(Ext.refl w).drew, fun h => h.elim, fun h => h.elim, fun h => h.elim, fun h => h.elim, fun h => h.elim, fun h => h.elim, fun h => h.elim, fun h => h.elim, fun h => h.elim, fun h => h.elim, fun h => h.elim, Loc.unmade id⟩) ?_ ?_
  · clear hend
    simp only [rops, Try.f56, regOf, Option.bind_some, Nat.reduceBEq, if_true, if_false, Bool.false_eq_true, Option.getD_some]
    simp only [List.take_succ_cons, List.take_zero]
    refine ⟨?_, ?_, ?_, ?_, ?_, ?_, ?_, ?_, ?_, ?_, ?_, ?_, ?_, trivial⟩
    · intro done us W hJ hdep haft hnot b hb hb' K hK Q'
      obtain ⟨hX0, cc0, cc1, cc2, cc3, cc4, cc5, cc6, cc7, cc8, cc9, cc12, ll10⟩ := hJ
      have e2 := (hb' 2 (by simp)).trans s2
      clear hb hb'
      have hfin := hK (.pointer (some ⟨gp, 5, none⟩)) _ ⟨hX0, fun _ => rfl, fun h => cc1 (h.resolve_right (by decide)), fun h => cc2 (h.resolve_right (by decide)), fun h => cc3 (h.resolve_right (by decide)), fun h => cc4 (h.resolve_right (by decide)), fun h => cc5 (h.resolve_right (by decide)), fun h => cc6 (h.resolve_right (by decide)), fun h => cc7 (h.resolve_right (by decide)), fun h => cc8 (h.resolve_right (by decide)), fun h => cc9 (h.resolve_right (by decide)), fun h => cc12 (h.resolve_right (by decide)), Loc.same ll10 ⟨fun h => h.resolve_right (by decide), .inl⟩ ⟨fun h => h.resolve_right (by decide), .inl⟩⟩
      clear hK cc0 cc1 cc2 cc3 cc4 cc5 cc6 cc7 cc8 cc9 cc12 ll10
      go_simp
      exact hfin
    · intro done us W hJ hdep haft hnot b hb hb' K hK Q'
      obtain ⟨hX0, cc0, cc1, cc2, cc3, cc4, cc5, cc6, cc7, cc8, cc9, cc12, ll10⟩ := hJ
      simp only [List.getD_cons_succ, List.getD_cons_zero, List.mem_cons, List.not_mem_nil, or_false, forall_eq] at hdep
      have e36 := hb 0 36 rfl
      rw [cc0 hdep] at e36
      clear hb hb'
      have q := Ext.cell hX0 cp
      have hfin := hK (.slice A n c) _ ⟨hX0, fun h => cc0 (h.resolve_right (by decide)), fun _ => rfl, fun h => cc2 (h.resolve_right (by decide)), fun h => cc3 (h.resolve_right (by decide)), fun h => cc4 (h.resolve_right (by decide)), fun h => cc5 (h.resolve_right (by decide)), fun h => cc6 (h.resolve_right (by decide)), fun h => cc7 (h.resolve_right (by decide)), fun h => cc8 (h.resolve_right (by decide)), fun h => cc9 (h.resolve_right (by decide)), fun h => cc12 (h.resolve_right (by decide)), Loc.same ll10 ⟨fun h => h.resolve_right (by decide), .inl⟩ ⟨fun h => h.resolve_right (by decide), .inl⟩⟩
      clear hK cc0 cc1 cc2 cc3 cc4 cc5 cc6 cc7 cc8 cc9 cc12 ll10
      go_simp
      exact hfin
    · intro done us W hJ hdep haft hnot b hb hb' K hK Q'
      obtain ⟨hX0, cc0, cc1, cc2, cc3, cc4, cc5, cc6, cc7, cc8, cc9, cc12, ll10⟩ := hJ
      have e7 := (hb' 7 (by simp)).trans s7
      clear hb hb'
      have hfin := hK (.slice (some ⟨ge, 0, none⟩) N ce) _ ⟨hX0, fun h => cc0 (h.resolve_right (by decide)), fun h => cc1 (h.resolve_right (by decide)), fun _ => rfl, fun h => cc3 (h.resolve_right (by decide)), fun h => cc4 (h.resolve_right (by decide)), fun h => cc5 (h.resolve_right (by decide)), fun h => cc6 (h.resolve_right (by decide)), fun h => cc7 (h.resolve_right (by decide)), fun h => cc8 (h.resolve_right (by decide)), fun h => cc9 (h.resolve_right (by decide)), fun h => cc12 (h.resolve_right (by decide)), Loc.same ll10 ⟨fun h => h.resolve_right (by decide), .inl⟩ ⟨fun h => h.resolve_right (by decide), .inl⟩⟩
      clear hK cc0 cc1 cc2 cc3 cc4 cc5 cc6 cc7 cc8 cc9 cc12 ll10
      go_simp
      exact hfin
    · intro done us W hJ hdep haft hnot b hb hb' K hK Q'
      obtain ⟨hX0, cc0, cc1, cc2, cc3, cc4, cc5, cc6, cc7, cc8, cc9, cc12, ll10⟩ := hJ
      have e9 := (hb' 9 (by simp)).trans s9
      clear hb hb'
      have hfin := hK (.int .i64 (k : Int)) _ ⟨hX0, fun h => cc0 (h.resolve_right (by decide)), fun h => cc1 (h.resolve_right (by decide)), fun h => cc2 (h.resolve_right (by decide)), fun _ => rfl, fun h => cc4 (h.resolve_right (by decide)), fun h => cc5 (h.resolve_right (by decide)), fun h => cc6 (h.resolve_right (by decide)), fun h => cc7 (h.resolve_right (by decide)), fun h => cc8 (h.resolve_right (by decide)), fun h => cc9 (h.resolve_right (by decide)), fun h => cc12 (h.resolve_right (by decide)), Loc.same ll10 ⟨fun h => h.resolve_right (by decide), .inl⟩ ⟨fun h => h.resolve_right (by decide), .inl⟩⟩
      clear hK cc0 cc1 cc2 cc3 cc4 cc5 cc6 cc7 cc8 cc9 cc12 ll10
      go_simp
      exact hfin
    · intro done us W hJ hdep haft hnot b hb hb' K hK Q'
      obtain ⟨hX0, cc0, cc1, cc2, cc3, cc4, cc5, cc6, cc7, cc8, cc9, cc12, ll10⟩ := hJ
      simp only [List.getD_cons_succ, List.getD_cons_zero, List.mem_cons, List.not_mem_nil, or_false, forall_eq_or_imp, forall_eq] at hdep
      have e38 := hb 2 38 rfl
      rw [cc2 hdep.1] at e38
      have e39 := hb 3 39 rfl
      rw [cc3 hdep.2] at e39
      clear hb hb'
      have hfin := hK (.pointer (some ⟨ge, k * 5, none⟩)) _ ⟨hX0, fun h => cc0 (h.resolve_right (by decide)), fun h => cc1 (h.resolve_right (by decide)), fun h => cc2 (h.resolve_right (by decide)), fun h => cc3 (h.resolve_right (by decide)), fun _ => rfl, fun h => cc5 (h.resolve_right (by decide)), fun h => cc6 (h.resolve_right (by decide)), fun h => cc7 (h.resolve_right (by decide)), fun h => cc8 (h.resolve_right (by decide)), fun h => cc9 (h.resolve_right (by decide)), fun h => cc12 (h.resolve_right (by decide)), Loc.same ll10 ⟨fun h => h.resolve_right (by decide), .inl⟩ ⟨fun h => h.resolve_right (by decide), .inl⟩⟩
      clear hK cc0 cc1 cc2 cc3 cc4 cc5 cc6 cc7 cc8 cc9 cc12 ll10
      go_simp
      exact hfin
    · intro done us W hJ hdep haft hnot b hb hb' K hK Q'
      obtain ⟨hX0, cc0, cc1, cc2, cc3, cc4, cc5, cc6, cc7, cc8, cc9, cc12, ll10⟩ := hJ
      simp only [List.getD_cons_succ, List.getD_cons_zero, List.mem_cons, List.not_mem_nil, or_false, forall_eq] at hdep
      have e40 := hb 4 40 rfl
      rw [cc4 hdep] at e40
      clear hb hb'
      have q0 := Ext.cell hX0 a0
      have q1 := Ext.cell hX0 a1
      have q2 := Ext.cell hX0 a2
      have q3 := Ext.cell hX0 a3
      have q4 := Ext.cell hX0 a4
      have hfin := hK (.agg #[.int .i64 y0, .int .i64 y1, .int .i64 y2, .int .i64 y3, .int .i64 y4]) _ ⟨hX0, fun h => cc0 (h.resolve_right (by decide)), fun h => cc1 (h.resolve_right (by decide)), fun h => cc2 (h.resolve_right (by decide)), fun h => cc3 (h.resolve_right (by decide)), fun h => cc4 (h.resolve_right (by decide)), fun _ => rfl, fun h => cc6 (h.resolve_right (by decide)), fun h => cc7 (h.resolve_right (by decide)), fun h => cc8 (h.resolve_right (by decide)), fun h => cc9 (h.resolve_right (by decide)), fun h => cc12 (h.resolve_right (by decide)), Loc.same ll10 ⟨fun h => h.resolve_right (by decide), .inl⟩ ⟨fun h => h.resolve_right (by decide), .inl⟩⟩
      clear hK cc0 cc1 cc2 cc3 cc4 cc5 cc6 cc7 cc8 cc9 cc12 ll10
      go_simp
      exact hfin
    · intro done us W hJ hdep haft hnot b hb hb' K hK Q'
      obtain ⟨hX0, cc0, cc1, cc2, cc3, cc4, cc5, cc6, cc7, cc8, cc9, cc12, ll10⟩ := hJ
      simp only [List.getD_cons_succ, List.getD_cons_zero, List.mem_cons, List.not_mem_nil, or_false, forall_eq_or_imp, forall_eq] at hdep
      have e37 := hb 1 37 rfl
      rw [cc1 hdep.1] at e37
      have e41 := hb 5 41 rfl
      rw [cc5 hdep.2] at e41
      clear hb hb'
      go_simp
      refine (timeR_any A n c l y0 y1 y2 y3 y4 _ (hI.ext hX0)).mono ?_
      rw [hT.out]
      rintro e w' ⟨rfl, hX⟩
      exact hK (.tuple #[.agg #[.int .i64 lo, .int .i64 hi], .int .i64 te]) _ ⟨hX0.trans hX, fun h => cc0 (h.resolve_right (by decide)), fun h => cc1 (h.resolve_right (by decide)), fun h => cc2 (h.resolve_right (by decide)), fun h => cc3 (h.resolve_right (by decide)), fun h => cc4 (h.resolve_right (by decide)), fun h => cc5 (h.resolve_right (by decide)), fun _ => rfl, fun h => cc7 (h.resolve_right (by decide)), fun h => cc8 (h.resolve_right (by decide)), fun h => cc9 (h.resolve_right (by decide)), fun h => cc12 (h.resolve_right (by decide)), Loc.same (ll10.ext hX) ⟨fun h => h.resolve_right (by decide), .inl⟩ ⟨fun h => h.resolve_right (by decide), .inl⟩⟩
    · intro done us W hJ hdep haft hnot b hb hb' K hK Q'
      obtain ⟨hX0, cc0, cc1, cc2, cc3, cc4, cc5, cc6, cc7, cc8, cc9, cc12, ll10⟩ := hJ
      simp only [List.getD_cons_succ, List.getD_cons_zero, List.mem_cons, List.not_mem_nil, or_false, forall_eq] at hdep
      have e42 := hb 6 42 rfl
      rw [cc6 hdep] at e42
      clear hb hb'
      have hfin := hK (.tuple #[.agg #[.int .i64 lo, .int .i64 hi], .int .i64 te]) _ ⟨hX0, fun h => cc0 (h.resolve_right (by decide)), fun h => cc1 (h.resolve_right (by decide)), fun h => cc2 (h.resolve_right (by decide)), fun h => cc3 (h.resolve_right (by decide)), fun h => cc4 (h.resolve_right (by decide)), fun h => cc5 (h.resolve_right (by decide)), fun h => cc6 (h.resolve_right (by decide)), fun _ => rfl, fun h => cc8 (h.resolve_right (by decide)), fun h => cc9 (h.resolve_right (by decide)), fun h => cc12 (h.resolve_right (by decide)), Loc.same ll10 ⟨fun h => h.resolve_right (by decide), .inl⟩ ⟨fun h => h.resolve_right (by decide), .inl⟩⟩
      clear hK cc0 cc1 cc2 cc3 cc4 cc5 cc6 cc7 cc8 cc9 cc12 ll10
      go_simp
      exact hfin
    · intro done us W hJ hdep haft hnot b hb hb' K hK Q'
      obtain ⟨hX0, cc0, cc1, cc2, cc3, cc4, cc5, cc6, cc7, cc8, cc9, cc12, ll10⟩ := hJ
      simp only [List.getD_cons_succ, List.getD_cons_zero, List.mem_cons, List.not_mem_nil, or_false, forall_eq] at hdep
      have e35 := hb 7 35 rfl
      rw [cc7 hdep] at e35
      clear hb hb'
      have hfin := hK (.agg #[.int .i64 lo, .int .i64 hi]) _ ⟨hX0, fun h => cc0 (h.resolve_right (by decide)), fun h => cc1 (h.resolve_right (by decide)), fun h => cc2 (h.resolve_right (by decide)), fun h => cc3 (h.resolve_right (by decide)), fun h => cc4 (h.resolve_right (by decide)), fun h => cc5 (h.resolve_right (by decide)), fun h => cc6 (h.resolve_right (by decide)), fun h => cc7 (h.resolve_right (by decide)), fun _ => rfl, fun h => cc9 (h.resolve_right (by decide)), fun h => cc12 (h.resolve_right (by decide)), Loc.same ll10 ⟨fun h => h.resolve_right (by decide), .inl⟩ ⟨fun h => h.resolve_right (by decide), .inl⟩⟩
      clear hK cc0 cc1 cc2 cc3 cc4 cc5 cc6 cc7 cc8 cc9 cc12 ll10
      go_simp
      exact hfin
    · intro done us W hJ hdep haft hnot b hb hb' K hK Q'
      obtain ⟨hX0, cc0, cc1, cc2, cc3, cc4, cc5, cc6, cc7, cc8, cc9, cc12, ll10⟩ := hJ
      simp only [List.getD_cons_succ, List.getD_cons_zero, List.mem_cons, List.not_mem_nil, or_false, forall_eq] at hdep
      have e35 := hb 7 35 rfl
      rw [cc7 hdep] at e35
      clear hb hb'
      have hfin := hK (.int .i64 te) _ ⟨hX0, fun h => cc0 (h.resolve_right (by decide)), fun h => cc1 (h.resolve_right (by decide)), fun h => cc2 (h.resolve_right (by decide)), fun h => cc3 (h.resolve_right (by decide)), fun h => cc4 (h.resolve_right (by decide)), fun h => cc5 (h.resolve_right (by decide)), fun h => cc6 (h.resolve_right (by decide)), fun h => cc7 (h.resolve_right (by decide)), fun h => cc8 (h.resolve_right (by decide)), fun _ => rfl, fun h => cc12 (h.resolve_right (by decide)), Loc.same ll10 ⟨fun h => h.resolve_right (by decide), .inl⟩ ⟨fun h => h.resolve_right (by decide), .inl⟩⟩
      clear hK cc0 cc1 cc2 cc3 cc4 cc5 cc6 cc7 cc8 cc9 cc12 ll10
      go_simp
      exact hfin
    · intro done us W hJ hdep haft hnot b hb hb' K hK Q'
      obtain ⟨hX0, cc0, cc1, cc2, cc3, cc4, cc5, cc6, cc7, cc8, cc9, cc12, ll10⟩ := hJ
      simp only [List.getD_cons_succ, List.getD_cons_zero, List.mem_cons, List.not_mem_nil, or_false, forall_eq_or_imp, forall_eq] at haft
      clear hb hb'
      have hfin := hK _ _ ⟨hX0.alloc _, fun h => cc0 (h.resolve_right (by decide)), fun h => cc1 (h.resolve_right (by decide)), fun h => cc2 (h.resolve_right (by decide)), fun h => cc3 (h.resolve_right (by decide)), fun h => cc4 (h.resolve_right (by decide)), fun h => cc5 (h.resolve_right (by decide)), fun h => cc6 (h.resolve_right (by decide)), fun h => cc7 (h.resolve_right (by decide)), fun h => cc8 (h.resolve_right (by decide)), fun h => cc9 (h.resolve_right (by decide)), fun h => cc12 (h.resolve_right (by decide)), Loc.new w W hX0 (fun h => h.elim haft (by decide)) (Ext.refl _)⟩
      clear hK hX0 cc0 cc1 cc2 cc3 cc4 cc5 cc6 cc7 cc8 cc9 cc12 ll10
      go_simp
      exact hfin
    · intro done us W hJ hdep haft hnot b hb hb' K hK Q'
      obtain ⟨hX0, cc0, cc1, cc2, cc3, cc4, cc5, cc6, cc7, cc8, cc9, cc12, ll10⟩ := hJ
      simp only [List.getD_cons_succ, List.getD_cons_zero, List.mem_cons, List.not_mem_nil, or_false, forall_eq_or_imp, forall_eq] at hdep
      have e10 := hb 10 10 rfl
      have e43 := hb 8 43 rfl
      rw [cc8 hdep.1] at e43
      obtain ⟨g, eg, hg, hB⟩ := ll10.stored hdep.2 hnot
      rw [eg] at e10
      have q0 : W.cell? ⟨g, 0, none⟩ = some (.int .i64 0) := hB.cell 0
      have z0 : W.frozen? ⟨g, 0, none⟩ = false := hB.free 0
      have q1 : W.cell? ⟨g, 1, none⟩ = some (.int .i64 0) := hB.cell 1
      have z1 : W.frozen? ⟨g, 1, none⟩ = false := hB.free 1
      clear hb hb'
      have hfin := hK undef _ ⟨((hX0.setCell hg _).setCell hg _), fun h => cc0 (h.resolve_right (by decide)), fun h => cc1 (h.resolve_right (by decide)), fun h => cc2 (h.resolve_right (by decide)), fun h => cc3 (h.resolve_right (by decide)), fun h => cc4 (h.resolve_right (by decide)), fun h => cc5 (h.resolve_right (by decide)), fun h => cc6 (h.resolve_right (by decide)), fun h => cc7 (h.resolve_right (by decide)), fun h => cc8 (h.resolve_right (by decide)), fun h => cc9 (h.resolve_right (by decide)), fun h => cc12 (h.resolve_right (by decide)), ⟨fun _ => ⟨g, eg, hg, fun _ => (Blk.set (Blk.set hB 0 _) 1 _), fun h => absurd (.inr rfl) h⟩⟩⟩
      clear hK hX0 cc0 cc1 cc2 cc3 cc4 cc5 cc6 cc7 cc8 cc9 cc12 ll10
      go_simp
      exact hfin
    · intro done us W hJ hdep haft hnot b hb hb' K hK Q'
      obtain ⟨hX0, cc0, cc1, cc2, cc3, cc4, cc5, cc6, cc7, cc8, cc9, cc12, ll10⟩ := hJ
      simp only [List.getD_cons_succ, List.getD_cons_zero, List.mem_cons, List.not_mem_nil, or_false, forall_eq] at hdep
      have e44 := hb 9 44 rfl
      rw [cc9 hdep] at e44
      clear hb hb'
      have hfin := hK (.int .i64 te) _ ⟨hX0, fun h => cc0 (h.resolve_right (by decide)), fun h => cc1 (h.resolve_right (by decide)), fun h => cc2 (h.resolve_right (by decide)), fun h => cc3 (h.resolve_right (by decide)), fun h => cc4 (h.resolve_right (by decide)), fun h => cc5 (h.resolve_right (by decide)), fun h => cc6 (h.resolve_right (by decide)), fun h => cc7 (h.resolve_right (by decide)), fun h => cc8 (h.resolve_right (by decide)), fun h => cc9 (h.resolve_right (by decide)), fun _ => rfl, Loc.same ll10 ⟨fun h => h.resolve_right (by decide), .inl⟩ ⟨fun h => h.resolve_right (by decide), .inl⟩⟩
      clear hK cc0 cc1 cc2 cc3 cc4 cc5 cc6 cc7 cc8 cc9 cc12 ll10
      go_simp
      exact hfin
  · intro us W hJ
    obtain ⟨hX0, cc0, cc1, cc2, cc3, cc4, cc5, cc6, cc7, cc8, cc9, cc12, ll10⟩ := hJ
    rw [show (rops Try.f56 10).drop 13 = [] by kernel_rfl]
    exact hend (us 0) (us 1) (us 2) (us 3) (us 4) (us 5) (us 6) (us 7) (us 8) (us 9) (us 10) (us 11) (us 12) W (cc0 (show 0 < 13 by decide)) (cc1 (show 1 < 13 by decide)) (cc2 (show 2 < 13 by decide)) (cc3 (show 3 < 13 by decide)) (cc4 (show 4 < 13 by decide)) (cc5 (show 5 < 13 by decide)) (cc6 (show 6 < 13 by decide)) (cc7 (show 7 < 13 by decide)) (cc8 (show 8 < 13 by decide)) (cc9 (show 9 < 13 by decide)) (cc12 (show 12 < 13 by decide)) (ll10.done (show 10 < 13 by decide) (show 11 < 13 by decide)) hX0
set_option maxRecDepth 100000 in
set_option maxHeartbeats 2000000 in
theorem rt_r14 (gp ge N ce k : Nat) (A : Option Addr) (n c : Nat) (y0 y1 y2 y3 y4 en ee : Int) (l : List Int) (w : World) (cp : w.cell? ⟨gp, 5, none⟩ = some (.slice A n c)) (a0 : w.cell? ⟨ge, k * 5, none⟩ = some (.int .i64 y0)) (a1 : w.cell? ⟨ge, k * 5 + 1, none⟩ = some (.int .i64 y1)) (a2 : w.cell? ⟨ge, k * 5 + 2, none⟩ = some (.int .i64 y2)) (a3 : w.cell? ⟨ge, k * 5 + 3, none⟩ = some (.int .i64 y3)) (a4 : w.cell? ⟨ge, k * 5 + 4, none⟩ = some (.int .i64 y4)) (hI : Ints .i64 w A n l) (hC : Hid (n ≤ c ∧ c ≤ 9223372036854775807)) (hG : Hid (energyF l ⟨y0, y1, y2, y3, y4⟩ = (en, ee))) (hk : k < N) (a : Act) (Q : Exit → Act → World → Prop) (hsize : 65 ≤ a.tmps.size)
    (s2 : a.tmps[2]? = some (.pointer (some ⟨gp, 0, none⟩)))
    (s7 : a.tmps[7]? = some (.slice (some ⟨ge, 0, none⟩) N ce))
    (s9 : a.tmps[9]? = some (.int .i64 (k : Int)))
    (hend : ∀ (xv0 xv1 xv2 xv3 xv4 xv5 xv6 xv7 xv8 xv9 xv10 xv11 : Value) (W : World), (xv0 = .pointer (some ⟨gp, 5, none⟩)) → (xv1 = .slice A n c) → (xv2 = .slice (some ⟨ge, 0, none⟩) N ce) → (xv3 = .int .i64 (k : Int)) → (xv4 = .pointer (some ⟨ge, k * 5, none⟩)) → (xv5 = .agg #[.int .i64 y0, .int .i64 y1, .int .i64 y2, .int .i64 y3, .int .i64 y4]) → (xv6 = .tuple #[.int .i64 en, .int .i64 ee]) → (xv7 = .tuple #[.int .i64 en, .int .i64 ee]) → (xv8 = .int .i64 en) → (xv9 = .int .i64 ee) → (xv10 = .int .i64 en) → (xv11 = .int .i64 ee) → Ext w W → wpList Try.prog (rops Try.f56 14).toArray Q ((rops Try.f56 14).drop 12) ((((((((((((a.put (some 56) xv0).put (some 57) xv1).put (some 58) xv2).put (some 59) xv3).put (some 60) xv4).put (some 61) xv5).put (some 62) xv6).put (some 55) xv7).put (some 63) xv8).put (some 64) xv9).put (some 13) xv10).put (some 14) xv11) W) :
    (Code.region 14 (rops Try.f56 14).toArray true).wp Try.prog Q a w := by
  have hmono : ∀ (W W' : World) (j : Nat) (u : Value), Ext W W' → (fun (i : Nat) (v : Value) (W : World) => match i with
    | 0 => v = .pointer (some ⟨gp, 5, none⟩)
    | 1 => v = .slice A n c
    | 2 => v = .slice (some ⟨ge, 0, none⟩) N ce
    | 3 => v = .int .i64 (k : Int)
    | 4 => v = .pointer (some ⟨ge, k * 5, none⟩)
    | 5 => v = .agg #[.int .i64 y0, .int .i64 y1, .int .i64 y2, .int .i64 y3, .int .i64 y4]
    | 6 => v = .tuple #[.int .i64 en, .int .i64 ee]
    | 7 => v = .tuple #[.int .i64 en, .int .i64 ee]
    | 8 => v = .int .i64 en
    | 9 => v = .int .i64 ee
    | 10 => v = .int .i64 en
    | 11 => v = .int .i64 ee
    | _ => True) j u W → (fun (i : Nat) (v : Value) (W : World) => match i with
    | 0 => v = .pointer (some ⟨gp, 5, none⟩)
    | 1 => v = .slice A n c
    | 2 => v = .slice (some ⟨ge, 0, none⟩) N ce
    | 3 => v = .int .i64 (k : Int)
    | 4 => v = .pointer (some ⟨ge, k * 5, none⟩)
    | 5 => v = .agg #[.int .i64 y0, .int .i64 y1, .int .i64 y2, .int .i64 y3, .int .i64 y4]
    | 6 => v = .tuple #[.int .i64 en, .int .i64 ee]
    | 7 => v = .tuple #[.int .i64 en, .int .i64 ee]
    | 8 => v = .int .i64 en
    | 9 => v = .int .i64 ee
    | 10 => v = .int .i64 en
    | 11 => v = .int .i64 ee
    | _ => True) j u W' := by
    intro W W' j u hX h
    match j, h with
    | 0, h => exact h
    | 1, h => exact h
    | 2, h => exact h
    | 3, h => exact h
    | 4, h => exact h
    | 5, h => exact h
    | 6, h => exact h
    | 7, h => exact h
    | 8, h => exact h
    | 9, h => exact h
    | 10, h => exact h
    | 11, h => exact h
    | _ + 12, h => exact h
  have hsz : ∀ d, some d ∈ ([some 56, some 57, some 58, some 59, some 60, some 61, some 62, some 55, some 63, some 64, some 13, some 14] : List (Option Tmp)) → d < a.tmps.size := slots_lt (by decide) hsize
  refine wp_region_j 12 [some 56, some 57, some 58, some 59, some 60, some 61, some 62, some 55, some 63, some 64, some 13, some 14] [[], [0], [], [], [2, 3], [4], [1, 5], [6], [7], [7], [8], [9]] [[], [], [], [], [], [], [], [], [], [], [], []] (fun (i : Nat) (v : Value) (W : World) => match i with
    | 0 => v = .pointer (some ⟨gp, 5, none⟩)
    | 1 => v = .slice A n c
    | 2 => v = .slice (some ⟨ge, 0, none⟩) N ce
    | 3 => v = .int .i64 (k : Int)
    | 4 => v = .pointer (some ⟨ge, k * 5, none⟩)
    | 5 => v = .agg #[.int .i64 y0, .int .i64 y1, .int .i64 y2, .int .i64 y3, .int .i64 y4]
    | 6 => v = .tuple #[.int .i64 en, .int .i64 ee]
    | 7 => v = .tuple #[.int .i64 en, .int .i64 ee]
    | 8 => v = .int .i64 en
    | 9 => v = .int .i64 ee
    | 10 => v = .int .i64 en
    | 11 => v = .int .i64 ee
    | _ => True) (fun _ W => Ext w W) (by kernel_rfl) (by kernel_rfl) hsz (fun _ _ _ _ h => h) ((Ext.refl w).drew) ?_ ?_
  · clear hend
    simp only [rops, Try.f56, regOf, Option.bind_some, Nat.reduceBEq, if_true, if_false, Bool.false_eq_true, Option.getD_some]
    simp only [List.take_succ_cons, List.take_zero]
    refine ⟨?_, ?_, ?_, ?_, ?_, ?_, ?_, ?_, ?_, ?_, ?_, ?_, trivial⟩
    · intro done us W hJ hdep haft hnot b hb hb' K hK Q'
      have e2 := (hb' 2 (by simp)).trans s2
      clear hb hb'
      go_simp
      exact hK _ _ rfl (fun _ _ _ h => h) hJ
    · intro done us W hJ hdep haft hnot b hb hb' K hK Q'
      simp only [List.getD_cons_succ, List.getD_cons_zero, List.mem_cons, List.not_mem_nil, or_false, forall_eq] at hdep
      have e56 := hb 0 56 rfl
      have d0 := hdep
      rw [d0.1] at e56
      clear hb hb' hdep d0
      have q := Ext.cell hJ cp
      go_simp
      exact hK _ _ rfl (fun _ _ _ h => h) hJ
    · intro done us W hJ hdep haft hnot b hb hb' K hK Q'
      have e7 := (hb' 7 (by simp)).trans s7
      clear hb hb'
      go_simp
      exact hK _ _ rfl (fun _ _ _ h => h) hJ
    · intro done us W hJ hdep haft hnot b hb hb' K hK Q'
      have e9 := (hb' 9 (by simp)).trans s9
      clear hb hb'
      go_simp
      exact hK _ _ rfl (fun _ _ _ h => h) hJ
    · intro done us W hJ hdep haft hnot b hb hb' K hK Q'
      simp only [List.getD_cons_succ, List.getD_cons_zero, List.mem_cons, List.not_mem_nil, or_false, forall_eq_or_imp, forall_eq] at hdep
      have e58 := hb 2 58 rfl
      have e59 := hb 3 59 rfl
      have d2 := hdep.1
      have d3 := hdep.2
      rw [d2.1] at e58
      rw [d3.1] at e59
      clear hb hb' hdep d2 d3
      go_simp
      exact hK _ _ rfl (fun _ _ _ h => h) hJ
    · intro done us W hJ hdep haft hnot b hb hb' K hK Q'
      simp only [List.getD_cons_succ, List.getD_cons_zero, List.mem_cons, List.not_mem_nil, or_false, forall_eq] at hdep
      have e60 := hb 4 60 rfl
      have d4 := hdep
      rw [d4.1] at e60
      clear hb hb' hdep d4
      have q0 := Ext.cell hJ a0
      have q1 := Ext.cell hJ a1
      have q2 := Ext.cell hJ a2
      have q3 := Ext.cell hJ a3
      have q4 := Ext.cell hJ a4
      go_simp
      exact hK _ _ rfl (fun _ _ _ h => h) hJ
    · intro done us W hJ hdep haft hnot b hb hb' K hK Q'
      simp only [List.getD_cons_succ, List.getD_cons_zero, List.mem_cons, List.not_mem_nil, or_false, forall_eq_or_imp, forall_eq] at hdep
      have e57 := hb 1 57 rfl
      have e61 := hb 5 61 rfl
      have d1 := hdep.1
      have d5 := hdep.2
      rw [d1.1] at e57
      rw [d5.1] at e61
      clear hb hb' hdep d1 d5
      go_simp
      refine (energyR_any A n c l y0 y1 y2 y3 y4 _ (hI.ext hJ) hC.out).mono ?_
      rw [hG.out]
      rintro e w' ⟨rfl, hX⟩
      exact hK _ _ rfl (fun j u _ h => hmono _ _ j u hX h) (Ext.trans hJ hX)
    · intro done us W hJ hdep haft hnot b hb hb' K hK Q'
      simp only [List.getD_cons_succ, List.getD_cons_zero, List.mem_cons, List.not_mem_nil, or_false, forall_eq] at hdep
      have e62 := hb 6 62 rfl
      have d6 := hdep
      rw [d6.1] at e62
      clear hb hb' hdep d6
      go_simp
      exact hK _ _ rfl (fun _ _ _ h => h) hJ
    · intro done us W hJ hdep haft hnot b hb hb' K hK Q'
      simp only [List.getD_cons_succ, List.getD_cons_zero, List.mem_cons, List.not_mem_nil, or_false, forall_eq] at hdep
      have e55 := hb 7 55 rfl
      have d7 := hdep
      rw [d7.1] at e55
      clear hb hb' hdep d7
      go_simp
      exact hK _ _ rfl (fun _ _ _ h => h) hJ
    · intro done us W hJ hdep haft hnot b hb hb' K hK Q'
      simp only [List.getD_cons_succ, List.getD_cons_zero, List.mem_cons, List.not_mem_nil, or_false, forall_eq] at hdep
      have e55 := hb 7 55 rfl
      have d7 := hdep
      rw [d7.1] at e55
      clear hb hb' hdep d7
      go_simp
      exact hK _ _ rfl (fun _ _ _ h => h) hJ
    · intro done us W hJ hdep haft hnot b hb hb' K hK Q'
      simp only [List.getD_cons_succ, List.getD_cons_zero, List.mem_cons, List.not_mem_nil, or_false, forall_eq] at hdep
      have e63 := hb 8 63 rfl
      have d8 := hdep
      rw [d8.1] at e63
      clear hb hb' hdep d8
      go_simp
      exact hK _ _ rfl (fun _ _ _ h => h) hJ
    · intro done us W hJ hdep haft hnot b hb hb' K hK Q'
      simp only [List.getD_cons_succ, List.getD_cons_zero, List.mem_cons, List.not_mem_nil, or_false, forall_eq] at hdep
      have e64 := hb 9 64 rfl
      have d9 := hdep
      rw [d9.1] at e64
      clear hb hb' hdep d9
      go_simp
      exact hK _ _ rfl (fun _ _ _ h => h) hJ
  · intro us W hV hJ
    exact hend (us 0) (us 1) (us 2) (us 3) (us 4) (us 5) (us 6) (us 7) (us 8) (us 9) (us 10) (us 11) W (hV 0 (by omega)) (hV 1 (by omega)) (hV 2 (by omega)) (hV 3 (by omega)) (hV 4 (by omega)) (hV 5 (by omega)) (hV 6 (by omega)) (hV 7 (by omega)) (hV 8 (by omega)) (hV 9 (by omega)) (hV 10 (by omega)) (hV 11 (by omega)) hJ
set_option maxRecDepth 100000 in
set_option maxHeartbeats 2000000 in
theorem rt_r15 (gr ge N ce k : Nat) (A1 : Option Addr) (oz c1 : Nat) (y4 ra rb en : Int) (w : World) (r0 : w.cell? ⟨gr, 0, none⟩ = some (.int .i64 ra)) (r1 : w.cell? ⟨gr, 1, none⟩ = some (.int .i64 rb)) (a4 : w.cell? ⟨ge, k * 5 + 4, none⟩ = some (.int .i64 y4)) (hk : k < N) (hoz : oz ≤ 1000) (a : Act) (Q : Exit → Act → World → Prop) (hsize : 78 ≤ a.tmps.size)
    (s6 : a.tmps[6]? = some (.slice A1 oz c1))
    (s7 : a.tmps[7]? = some (.slice (some ⟨ge, 0, none⟩) N ce))
    (s9 : a.tmps[9]? = some (.int .i64 (k : Int)))
    (s12 : a.tmps[12]? = some (.pointer (some ⟨gr, 0, none⟩)))
    (s13 : a.tmps[13]? = some (.int .i64 en))
    (hend : ∀ (xv0 xv1 xv2 xv3 xv4 xv5 xv6 xv7 xv8 xv9 xv10 xv11 xv12 : Value) (W : World), (xv0 = .slice A1 oz c1) → (xv1 = .slice A1 oz c1) → (xv2 = .int .i64 (oz : Int)) → (xv3 = .int .i64 ((oz : Int) + 1)) → (xv4 = .agg #[.int .i64 ra, .int .i64 rb]) → (xv5 = .slice (some ⟨ge, 0, none⟩) N ce) → (xv6 = .int .i64 (k : Int)) → (xv7 = .pointer (some ⟨ge, k * 5, none⟩)) → (xv8 = .pointer (some ⟨ge, k * 5 + 4, none⟩)) → (xv9 = .int .i64 y4) → (xv10 = .int .i64 en) → (xv11 = .agg #[.int .i64 ((oz : Int) + 1), .int .i64 0, .int .i64 ra, .int .i64 rb, .int .i64 y4, .int .i64 en]) → (∃ g', xv12 = .slice (some ⟨g', 0, none⟩) 1 1 ∧ Blk W g' 62 #[.int .i64 ((oz : Int) + 1), .int .i64 0, .int .i64 ra, .int .i64 rb, .int .i64 y4, .int .i64 en]) → Ext w W → wpList Try.prog (rops Try.f56 15).toArray Q ((rops Try.f56 15).drop 13) (((((((((((((a.put (some 65) xv0).put (some 66) xv1).put (some 67) xv2).put (some 68) xv3).put (some 69) xv4).put (some 70) xv5).put (some 71) xv6).put (some 72) xv7).put (some 73) xv8).put (some 74) xv9).put (some 75) xv10).put (some 76) xv11).put (some 77) xv12) W) :
    (Code.region 15 (rops Try.f56 15).toArray true).wp Try.prog Q a w := by
  have hmono : ∀ (W W' : World) (j : Nat) (u : Value), Ext W W' → (fun (i : Nat) (v : Value) (W : World) => match i with
    | 0 => v = .slice A1 oz c1
    | 1 => v = .slice A1 oz c1
    | 2 => v = .int .i64 (oz : Int)
    | 3 => v = .int .i64 ((oz : Int) + 1)
    | 4 => v = .agg #[.int .i64 ra, .int .i64 rb]
    | 5 => v = .slice (some ⟨ge, 0, none⟩) N ce
    | 6 => v = .int .i64 (k : Int)
    | 7 => v = .pointer (some ⟨ge, k * 5, none⟩)
    | 8 => v = .pointer (some ⟨ge, k * 5 + 4, none⟩)
    | 9 => v = .int .i64 y4
    | 10 => v = .int .i64 en
    | 11 => v = .agg #[.int .i64 ((oz : Int) + 1), .int .i64 0, .int .i64 ra, .int .i64 rb, .int .i64 y4, .int .i64 en]
    | 12 => ∃ g', v = .slice (some ⟨g', 0, none⟩) 1 1 ∧ Blk W g' 62 #[.int .i64 ((oz : Int) + 1), .int .i64 0, .int .i64 ra, .int .i64 rb, .int .i64 y4, .int .i64 en]
    | _ => True) j u W → (fun (i : Nat) (v : Value) (W : World) => match i with
    | 0 => v = .slice A1 oz c1
    | 1 => v = .slice A1 oz c1
    | 2 => v = .int .i64 (oz : Int)
    | 3 => v = .int .i64 ((oz : Int) + 1)
    | 4 => v = .agg #[.int .i64 ra, .int .i64 rb]
    | 5 => v = .slice (some ⟨ge, 0, none⟩) N ce
    | 6 => v = .int .i64 (k : Int)
    | 7 => v = .pointer (some ⟨ge, k * 5, none⟩)
    | 8 => v = .pointer (some ⟨ge, k * 5 + 4, none⟩)
    | 9 => v = .int .i64 y4
    | 10 => v = .int .i64 en
    | 11 => v = .agg #[.int .i64 ((oz : Int) + 1), .int .i64 0, .int .i64 ra, .int .i64 rb, .int .i64 y4, .int .i64 en]
    | 12 => ∃ g', v = .slice (some ⟨g', 0, none⟩) 1 1 ∧ Blk W g' 62 #[.int .i64 ((oz : Int) + 1), .int .i64 0, .int .i64 ra, .int .i64 rb, .int .i64 y4, .int .i64 en]
    | _ => True) j u W' := by
    intro W W' j u hX h
    match j, h with
    | 0, h => exact h
    | 1, h => exact h
    | 2, h => exact h
    | 3, h => exact h
    | 4, h => exact h
    | 5, h => exact h
    | 6, h => exact h
    | 7, h => exact h
    | 8, h => exact h
    | 9, h => exact h
    | 10, h => exact h
    | 11, h => exact h
    | 12, h => obtain ⟨g', h1, h2⟩ := h; exact ⟨g', h1, h2.ext hX⟩
    | _ + 13, h => exact h
  have hsz : ∀ d, some d ∈ ([some 65, some 66, some 67, some 68, some 69, some 70, some 71, some 72, some 73, some 74, some 75, some 76, some 77] : List (Option Tmp)) → d < a.tmps.size := slots_lt (by decide) hsize
  refine wp_region_j 13 [some 65, some 66, some 67, some 68, some 69, some 70, some 71, some 72, some 73, some 74, some 75, some 76, some 77] [[], [], [1], [2], [], [], [], [5, 6], [7], [8], [], [3, 4, 9, 10], [11]] [[], [], [], [], [], [], [], [], [], [], [], [], []] (fun (i : Nat) (v : Value) (W : World) => match i with
    | 0 => v = .slice A1 oz c1
    | 1 => v = .slice A1 oz c1
    | 2 => v = .int .i64 (oz : Int)
    | 3 => v = .int .i64 ((oz : Int) + 1)
    | 4 => v = .agg #[.int .i64 ra, .int .i64 rb]
    | 5 => v = .slice (some ⟨ge, 0, none⟩) N ce
    | 6 => v = .int .i64 (k : Int)
    | 7 => v = .pointer (some ⟨ge, k * 5, none⟩)
    | 8 => v = .pointer (some ⟨ge, k * 5 + 4, none⟩)
    | 9 => v = .int .i64 y4
    | 10 => v = .int .i64 en
    | 11 => v = .agg #[.int .i64 ((oz : Int) + 1), .int .i64 0, .int .i64 ra, .int .i64 rb, .int .i64 y4, .int .i64 en]
    | 12 => ∃ g', v = .slice (some ⟨g', 0, none⟩) 1 1 ∧ Blk W g' 62 #[.int .i64 ((oz : Int) + 1), .int .i64 0, .int .i64 ra, .int .i64 rb, .int .i64 y4, .int .i64 en]
    | _ => True) (fun _ W => Ext w W) (by kernel_rfl) (by kernel_rfl) hsz (fun _ _ _ _ h => h) ((Ext.refl w).drew) ?_ ?_
  · clear hend
    simp only [rops, Try.f56, regOf, Option.bind_some, Nat.reduceBEq, if_true, if_false, Bool.false_eq_true, Option.getD_some]
    simp only [List.take_succ_cons, List.take_zero]
    refine ⟨?_, ?_, ?_, ?_, ?_, ?_, ?_, ?_, ?_, ?_, ?_, ?_, ?_, trivial⟩
    · intro done us W hJ hdep haft hnot b hb hb' K hK Q'
      have e6 := (hb' 6 (by simp)).trans s6
      clear hb hb'
      go_simp
      exact hK _ _ rfl (fun _ _ _ h => h) hJ
    · intro done us W hJ hdep haft hnot b hb hb' K hK Q'
      have e6 := (hb' 6 (by simp)).trans s6
      clear hb hb'
      go_simp
      exact hK _ _ rfl (fun _ _ _ h => h) hJ
    · intro done us W hJ hdep haft hnot b hb hb' K hK Q'
      simp only [List.getD_cons_succ, List.getD_cons_zero, List.mem_cons, List.not_mem_nil, or_false, forall_eq] at hdep
      have e66 := hb 1 66 rfl
      have d1 := hdep
      rw [d1.1] at e66
      clear hb hb' hdep d1
      go_simp
      exact hK _ _ rfl (fun _ _ _ h => h) hJ
    · intro done us W hJ hdep haft hnot b hb hb' K hK Q'
      simp only [List.getD_cons_succ, List.getD_cons_zero, List.mem_cons, List.not_mem_nil, or_false, forall_eq] at hdep
      have e67 := hb 2 67 rfl
      have d2 := hdep
      rw [d2.1] at e67
      clear hb hb' hdep d2
      have qw : IntKind.i64.wrap ((oz : Int) + 1) = (oz : Int) + 1 := IntWalk.i64_in _ (by omega)
      go_simp
      exact hK _ _ rfl (fun _ _ _ h => h) hJ
    · intro done us W hJ hdep haft hnot b hb hb' K hK Q'
      have e12 := (hb' 12 (by simp)).trans s12
      clear hb hb'
      have q0 := Ext.cell hJ r0
      have q1 := Ext.cell hJ r1
      go_simp
      exact hK _ _ rfl (fun _ _ _ h => h) hJ
    · intro done us W hJ hdep haft hnot b hb hb' K hK Q'
      have e7 := (hb' 7 (by simp)).trans s7
      clear hb hb'
      go_simp
      exact hK _ _ rfl (fun _ _ _ h => h) hJ
    · intro done us W hJ hdep haft hnot b hb hb' K hK Q'
      have e9 := (hb' 9 (by simp)).trans s9
      clear hb hb'
      go_simp
      exact hK _ _ rfl (fun _ _ _ h => h) hJ
    · intro done us W hJ hdep haft hnot b hb hb' K hK Q'
      simp only [List.getD_cons_succ, List.getD_cons_zero, List.mem_cons, List.not_mem_nil, or_false, forall_eq_or_imp, forall_eq] at hdep
      have e70 := hb 5 70 rfl
      have e71 := hb 6 71 rfl
      have d5 := hdep.1
      have d6 := hdep.2
      rw [d5.1] at e70
      rw [d6.1] at e71
      clear hb hb' hdep d5 d6
      go_simp
      exact hK _ _ rfl (fun _ _ _ h => h) hJ
    · intro done us W hJ hdep haft hnot b hb hb' K hK Q'
      simp only [List.getD_cons_succ, List.getD_cons_zero, List.mem_cons, List.not_mem_nil, or_false, forall_eq] at hdep
      have e72 := hb 7 72 rfl
      have d7 := hdep
      rw [d7.1] at e72
      clear hb hb' hdep d7
      go_simp
      exact hK _ _ rfl (fun _ _ _ h => h) hJ
    · intro done us W hJ hdep haft hnot b hb hb' K hK Q'
      simp only [List.getD_cons_succ, List.getD_cons_zero, List.mem_cons, List.not_mem_nil, or_false, forall_eq] at hdep
      have e73 := hb 8 73 rfl
      have d8 := hdep
      rw [d8.1] at e73
      clear hb hb' hdep d8
      have q := Ext.cell hJ a4
      go_simp
      exact hK _ _ rfl (fun _ _ _ h => h) hJ
    · intro done us W hJ hdep haft hnot b hb hb' K hK Q'
      have e13 := (hb' 13 (by simp)).trans s13
      clear hb hb'
      go_simp
      exact hK _ _ rfl (fun _ _ _ h => h) hJ
    · intro done us W hJ hdep haft hnot b hb hb' K hK Q'
      simp only [List.getD_cons_succ, List.getD_cons_zero, List.mem_cons, List.not_mem_nil, or_false, forall_eq_or_imp, forall_eq] at hdep
      have e68 := hb 3 68 rfl
      have e69 := hb 4 69 rfl
      have e74 := hb 9 74 rfl
      have e75 := hb 10 75 rfl
      have d3 := hdep.1
      have d4 := hdep.2.1
      have d9 := hdep.2.2.1
      have d10 := hdep.2.2.2
      rw [d3.1] at e68
      rw [d4.1] at e69
      rw [d9.1] at e74
      rw [d10.1] at e75
      clear hb hb' hdep d3 d4 d9 d10
      go_simp
      exact hK _ _ rfl (fun _ _ _ h => h) hJ
    · intro done us W hJ hdep haft hnot b hb hb' K hK Q'
      simp only [List.getD_cons_succ, List.getD_cons_zero, List.mem_cons, List.not_mem_nil, or_false, forall_eq] at hdep
      have e76 := hb 11 76 rfl
      have d11 := hdep
      rw [d11.1] at e76
      clear hb hb' hdep d11
      have hb1 := Blk.new W 62 #[.int .i64 ((oz : Int) + 1), .int .i64 0, .int .i64 ra, .int .i64 rb, .int .i64 y4, .int .i64 en]
      have hX := (Ext.refl W).alloc (.cells #[.int .i64 ((oz : Int) + 1), .int .i64 0, .int .i64 ra, .int .i64 rb, .int .i64 y4, .int .i64 en] 62)
      go_simp
      exact hK _ _ ⟨_, rfl, hb1⟩ (fun j u _ h => hmono _ _ j u hX h) (Ext.trans hJ hX)
  · intro us W hV hJ
    exact hend (us 0) (us 1) (us 2) (us 3) (us 4) (us 5) (us 6) (us 7) (us 8) (us 9) (us 10) (us 11) (us 12) W (hV 0 (by omega)) (hV 1 (by omega)) (hV 2 (by omega)) (hV 3 (by omega)) (hV 4 (by omega)) (hV 5 (by omega)) (hV 6 (by omega)) (hV 7 (by omega)) (hV 8 (by omega)) (hV 9 (by omega)) (hV 10 (by omega)) (hV 11 (by omega)) (hV 12 (by omega)) hJ
set_option maxRecDepth 100000 in
set_option maxHeartbeats 8000000 in
theorem returnsR_bad (A : Option Addr) (n c : Nat) (tm x0 x1 x2 x3 : Int) (l : List Int) (lv dr st de : Int) (w : World) (hp : ¬ PulOk ⟨tm, x0, x1, x2, x3, l⟩) (h : Ints .i64 w A n l) (hcap : n ≤ c ∧ c ≤ 9223372036854775807) :
    Calls Try.prog 56 #[.agg #[.int .i64 tm, .int .i64 x0, .int .i64 x1, .int .i64 x2, .int .i64 x3, .slice A n c], .agg #[.int .i64 lv, .int .i64 dr, .int .i64 st, .int .i64 de]] w (RetRt w (retO ⟨tm, x0, x1, x2, x3, l⟩ ⟨lv, dr, st, de⟩)) := by
  have QP : Hid (decide (PulOk ⟨tm, x0, x1, x2, x3, l⟩) = false) := Lib.hid (decide_eq_false hp)
  have HB : Hid (retO ⟨tm, x0, x1, x2, x3, l⟩ ⟨lv, dr, st, de⟩ = ([], 30)) := Lib.hid (retO_head.1 hp)
  clear hp
  have H := Lib.hid h
  have HC := Lib.hid hcap
  clear h hcap
  have hXe : Ext w ((w.alloc (.cells #[.int .i64 tm, .int .i64 x0, .int .i64 x1, .int .i64 x2, .int .i64 x3, .slice A n c] 71)).alloc (.cells #[.int .i64 lv, .int .i64 dr, .int .i64 st, .int .i64 de] 33)) := (((Ext.refl w).alloc _).alloc _)
  have kP : Blk ((w.alloc (.cells #[.int .i64 tm, .int .i64 x0, .int .i64 x1, .int .i64 x2, .int .i64 x3, .slice A n c] 71)).alloc (.cells #[.int .i64 lv, .int .i64 dr, .int .i64 st, .int .i64 de] 33)) w.heap.size 71 #[.int .i64 tm, .int .i64 x0, .int .i64 x1, .int .i64 x2, .int .i64 x3, .slice A n c] := Blk.alloc (Blk.at_ (by simp)) _
  have kD : Blk ((w.alloc (.cells #[.int .i64 tm, .int .i64 x0, .int .i64 x1, .int .i64 x2, .int .i64 x3, .slice A n c] 71)).alloc (.cells #[.int .i64 lv, .int .i64 dr, .int .i64 st, .int .i64 de] 33)) (w.heap.size + 1) 33 #[.int .i64 lv, .int .i64 dr, .int .i64 st, .int .i64 de] := Blk.at_ (by simp)
  go_enter Try.func56, Try.ntmps56
  go_wp2_with fail
  generalize ((w.alloc (.cells #[.int .i64 tm, .int .i64 x0, .int .i64 x1, .int .i64 x2, .int .i64 x3, .slice A n c] 71)).alloc (.cells #[.int .i64 lv, .int .i64 dr, .int .i64 st, .int .i64 de] 33)) = w1 at hXe kP kD ⊢
  have HX := Lib.hid hXe
  clear hXe
  have KP := Lib.hid kP
  clear kP
  have KD := Lib.hid kD
  clear kD
  have cP0 : w1.cell? ⟨w.heap.size, 0, none⟩ = some (.int .i64 tm) := KP.out.cell 0
  have cP1 : w1.cell? ⟨w.heap.size, 1, none⟩ = some (.int .i64 x0) := KP.out.cell 1
  have cP2 : w1.cell? ⟨w.heap.size, 2, none⟩ = some (.int .i64 x1) := KP.out.cell 2
  have cP3 : w1.cell? ⟨w.heap.size, 3, none⟩ = some (.int .i64 x2) := KP.out.cell 3
  have cP4 : w1.cell? ⟨w.heap.size, 4, none⟩ = some (.int .i64 x3) := KP.out.cell 4
  have cP5 : w1.cell? ⟨w.heap.size, 5, none⟩ = some (.slice A n c) := KP.out.cell 5
  clear cP0 cP1 cP2 cP3 cP4 cP5
  refine (validR_any ⟨tm, x0, x1, x2, x3, l⟩ A n c _ (H.out.ext HX.out)).mono ?_
  rw [QP.out]
  rintro e w2 ⟨rfl, hX⟩
  replace hX : Ext w1 w2 := by with_reducible exact hX
  replace HX := Lib.hid (HX.out.trans hX)
  replace KP := Lib.hid (KP.out.ext hX)
  replace KD := Lib.hid (KD.out.ext hX)
  clear hX
  go_wp2
  go_ret2
  exact ⟨_, by rw [HB.out]; rfl, by rw [HB.out]; exact RtL.nil _ _, HX.out⟩

set_option maxRecDepth 100000 in
set_option maxHeartbeats 8000000 in
theorem returnsR_det (A : Option Addr) (n c : Nat) (tm x0 x1 x2 x3 : Int) (l : List Int) (lv dr st de : Int) (w : World) (hp : PulOk ⟨tm, x0, x1, x2, x3, l⟩) (hd : ¬ DetOk ⟨lv, dr, st, de⟩) (h : Ints .i64 w A n l) (hcap : n ≤ c ∧ c ≤ 9223372036854775807) :
    Calls Try.prog 56 #[.agg #[.int .i64 tm, .int .i64 x0, .int .i64 x1, .int .i64 x2, .int .i64 x3, .slice A n c], .agg #[.int .i64 lv, .int .i64 dr, .int .i64 st, .int .i64 de]] w (RetRt w (retO ⟨tm, x0, x1, x2, x3, l⟩ ⟨lv, dr, st, de⟩)) := by
  have QP : Hid (decide (PulOk ⟨tm, x0, x1, x2, x3, l⟩) = true) := Lib.hid (decide_eq_true hp)
  have QD : Hid (decide (DetOk ⟨lv, dr, st, de⟩) = false) := Lib.hid (decide_eq_false hd)
  have HB : Hid (retO ⟨tm, x0, x1, x2, x3, l⟩ ⟨lv, dr, st, de⟩ = ([], 31)) := Lib.hid (retO_head.2.1 hp hd)
  have HE : Hid (echoesF l ⟨lv, dr, st, de⟩ = ([], 31)) := Lib.hid (by unfold echoesF; rw [if_pos hd])
  clear hp hd
  have H := Lib.hid h
  have HC := Lib.hid hcap
  clear h hcap
  have hXe : Ext w ((w.alloc (.cells #[.int .i64 tm, .int .i64 x0, .int .i64 x1, .int .i64 x2, .int .i64 x3, .slice A n c] 71)).alloc (.cells #[.int .i64 lv, .int .i64 dr, .int .i64 st, .int .i64 de] 33)) := (((Ext.refl w).alloc _).alloc _)
  have kP : Blk ((w.alloc (.cells #[.int .i64 tm, .int .i64 x0, .int .i64 x1, .int .i64 x2, .int .i64 x3, .slice A n c] 71)).alloc (.cells #[.int .i64 lv, .int .i64 dr, .int .i64 st, .int .i64 de] 33)) w.heap.size 71 #[.int .i64 tm, .int .i64 x0, .int .i64 x1, .int .i64 x2, .int .i64 x3, .slice A n c] := Blk.alloc (Blk.at_ (by simp)) _
  have kD : Blk ((w.alloc (.cells #[.int .i64 tm, .int .i64 x0, .int .i64 x1, .int .i64 x2, .int .i64 x3, .slice A n c] 71)).alloc (.cells #[.int .i64 lv, .int .i64 dr, .int .i64 st, .int .i64 de] 33)) (w.heap.size + 1) 33 #[.int .i64 lv, .int .i64 dr, .int .i64 st, .int .i64 de] := Blk.at_ (by simp)
  go_enter Try.func56, Try.ntmps56
  go_wp2_with fail
  generalize ((w.alloc (.cells #[.int .i64 tm, .int .i64 x0, .int .i64 x1, .int .i64 x2, .int .i64 x3, .slice A n c] 71)).alloc (.cells #[.int .i64 lv, .int .i64 dr, .int .i64 st, .int .i64 de] 33)) = w1 at hXe kP kD ⊢
  have HX := Lib.hid hXe
  clear hXe
  have KP := Lib.hid kP
  clear kP
  have KD := Lib.hid kD
  clear kD
  have cP0 : w1.cell? ⟨w.heap.size, 0, none⟩ = some (.int .i64 tm) := KP.out.cell 0
  have cP1 : w1.cell? ⟨w.heap.size, 1, none⟩ = some (.int .i64 x0) := KP.out.cell 1
  have cP2 : w1.cell? ⟨w.heap.size, 2, none⟩ = some (.int .i64 x1) := KP.out.cell 2
  have cP3 : w1.cell? ⟨w.heap.size, 3, none⟩ = some (.int .i64 x2) := KP.out.cell 3
  have cP4 : w1.cell? ⟨w.heap.size, 4, none⟩ = some (.int .i64 x3) := KP.out.cell 4
  have cP5 : w1.cell? ⟨w.heap.size, 5, none⟩ = some (.slice A n c) := KP.out.cell 5
  clear cP0 cP1 cP2 cP3 cP4 cP5
  refine (validR_any ⟨tm, x0, x1, x2, x3, l⟩ A n c _ (H.out.ext HX.out)).mono ?_
  rw [QP.out]
  rintro e w2 ⟨rfl, hX⟩
  replace hX : Ext w1 w2 := by with_reducible exact hX
  replace HX := Lib.hid (HX.out.trans hX)
  replace KP := Lib.hid (KP.out.ext hX)
  replace KD := Lib.hid (KD.out.ext hX)
  clear hX
  have cD0 : w2.cell? ⟨(w.heap.size + 1), 0, none⟩ = some (.int .i64 lv) := KD.out.cell 0
  have cD1 : w2.cell? ⟨(w.heap.size + 1), 1, none⟩ = some (.int .i64 dr) := KD.out.cell 1
  have cD2 : w2.cell? ⟨(w.heap.size + 1), 2, none⟩ = some (.int .i64 st) := KD.out.cell 2
  have cD3 : w2.cell? ⟨(w.heap.size + 1), 3, none⟩ = some (.int .i64 de) := KD.out.cell 3
  go_wp2_with fail
  clear cD0 cD1 cD2 cD3
  refine (detR_any ⟨lv, dr, st, de⟩ _).mono ?_
  rw [QD.out]
  rintro e w3 ⟨rfl, hX⟩
  replace hX : Ext w2 w3 := by with_reducible exact hX
  replace HX := Lib.hid (HX.out.trans hX)
  replace KP := Lib.hid (KP.out.ext hX)
  replace KD := Lib.hid (KD.out.ext hX)
  clear hX
  go_wp2
  go_ret2
  exact ⟨_, by rw [HB.out]; rfl, by rw [HB.out]; exact RtL.nil _ _, HX.out⟩

set_option maxRecDepth 100000 in
set_option maxHeartbeats 8000000 in
theorem returnsR_ok (A : Option Addr) (n c : Nat) (tm x0 x1 x2 x3 : Int) (l : List Int) (lv dr st de : Int) (w : World) (hp : PulOk ⟨tm, x0, x1, x2, x3, l⟩) (hd : DetOk ⟨lv, dr, st, de⟩) (h : Ints .i64 w A n l) (hcap : n ≤ c ∧ c ≤ 9223372036854775807) :
    Calls Try.prog 56 #[.agg #[.int .i64 tm, .int .i64 x0, .int .i64 x1, .int .i64 x2, .int .i64 x3, .slice A n c], .agg #[.int .i64 lv, .int .i64 dr, .int .i64 st, .int .i64 de]] w (RetRt w (retO ⟨tm, x0, x1, x2, x3, l⟩ ⟨lv, dr, st, de⟩)) := by
  have QP : Hid (decide (PulOk ⟨tm, x0, x1, x2, x3, l⟩) = true) := Lib.hid (decide_eq_true hp)
  have QD : Hid (decide (DetOk ⟨lv, dr, st, de⟩) = true) := Lib.hid (decide_eq_true hd)
  have HB : Hid (retO ⟨tm, x0, x1, x2, x3, l⟩ ⟨lv, dr, st, de⟩ = ((retsN l ⟨lv, dr, st, de⟩ 0 ((allE l ⟨lv, dr, st, de⟩).take 15)).map (Ret.setOf (retsN l ⟨lv, dr, st, de⟩ 0 ((allE l ⟨lv, dr, st, de⟩).take 15)).length), 0)) := Lib.hid (retO_head.2.2 hp hd)
  have HE : Hid (echoesF l ⟨lv, dr, st, de⟩ = ((allE l ⟨lv, dr, st, de⟩).take 15, 0)) := Lib.hid (echoesF_ok hd hp.2.2.2.1)
  have hN15 : ((allE l ⟨lv, dr, st, de⟩).take 15).length ≤ 15 := List.length_take_le _ _
  generalize (allE l ⟨lv, dr, st, de⟩).take 15 = es at HB HE hN15
  obtain ⟨N, hN⟩ : ∃ N, es.length = N := ⟨_, rfl⟩
  rw [hN] at hN15
  have HN := Lib.hid hN
  clear hp hd hN
  have H := Lib.hid h
  have HC := Lib.hid hcap
  clear h hcap
  have hXe : Ext w ((w.alloc (.cells #[.int .i64 tm, .int .i64 x0, .int .i64 x1, .int .i64 x2, .int .i64 x3, .slice A n c] 71)).alloc (.cells #[.int .i64 lv, .int .i64 dr, .int .i64 st, .int .i64 de] 33)) := (((Ext.refl w).alloc _).alloc _)
  have kP : Blk ((w.alloc (.cells #[.int .i64 tm, .int .i64 x0, .int .i64 x1, .int .i64 x2, .int .i64 x3, .slice A n c] 71)).alloc (.cells #[.int .i64 lv, .int .i64 dr, .int .i64 st, .int .i64 de] 33)) w.heap.size 71 #[.int .i64 tm, .int .i64 x0, .int .i64 x1, .int .i64 x2, .int .i64 x3, .slice A n c] := Blk.alloc (Blk.at_ (by simp)) _
  have kD : Blk ((w.alloc (.cells #[.int .i64 tm, .int .i64 x0, .int .i64 x1, .int .i64 x2, .int .i64 x3, .slice A n c] 71)).alloc (.cells #[.int .i64 lv, .int .i64 dr, .int .i64 st, .int .i64 de] 33)) (w.heap.size + 1) 33 #[.int .i64 lv, .int .i64 dr, .int .i64 st, .int .i64 de] := Blk.at_ (by simp)
  go_enter Try.func56, Try.ntmps56
  go_wp2_with fail
  generalize ((w.alloc (.cells #[.int .i64 tm, .int .i64 x0, .int .i64 x1, .int .i64 x2, .int .i64 x3, .slice A n c] 71)).alloc (.cells #[.int .i64 lv, .int .i64 dr, .int .i64 st, .int .i64 de] 33)) = w1 at hXe kP kD ⊢
  have HX := Lib.hid hXe
  clear hXe
  have KP := Lib.hid kP
  clear kP
  have KD := Lib.hid kD
  clear kD
  have cP0 : w1.cell? ⟨w.heap.size, 0, none⟩ = some (.int .i64 tm) := KP.out.cell 0
  have cP1 : w1.cell? ⟨w.heap.size, 1, none⟩ = some (.int .i64 x0) := KP.out.cell 1
  have cP2 : w1.cell? ⟨w.heap.size, 2, none⟩ = some (.int .i64 x1) := KP.out.cell 2
  have cP3 : w1.cell? ⟨w.heap.size, 3, none⟩ = some (.int .i64 x2) := KP.out.cell 3
  have cP4 : w1.cell? ⟨w.heap.size, 4, none⟩ = some (.int .i64 x3) := KP.out.cell 4
  have cP5 : w1.cell? ⟨w.heap.size, 5, none⟩ = some (.slice A n c) := KP.out.cell 5
  clear cP0 cP1 cP2 cP3 cP4 cP5
  refine (validR_any ⟨tm, x0, x1, x2, x3, l⟩ A n c _ (H.out.ext HX.out)).mono ?_
  rw [QP.out]
  rintro e w2 ⟨rfl, hX⟩
  replace hX : Ext w1 w2 := by with_reducible exact hX
  replace HX := Lib.hid (HX.out.trans hX)
  replace KP := Lib.hid (KP.out.ext hX)
  replace KD := Lib.hid (KD.out.ext hX)
  clear hX
  have cD0 : w2.cell? ⟨(w.heap.size + 1), 0, none⟩ = some (.int .i64 lv) := KD.out.cell 0
  have cD1 : w2.cell? ⟨(w.heap.size + 1), 1, none⟩ = some (.int .i64 dr) := KD.out.cell 1
  have cD2 : w2.cell? ⟨(w.heap.size + 1), 2, none⟩ = some (.int .i64 st) := KD.out.cell 2
  have cD3 : w2.cell? ⟨(w.heap.size + 1), 3, none⟩ = some (.int .i64 de) := KD.out.cell 3
  go_wp2_with fail
  clear cD0 cD1 cD2 cD3
  refine (detR_any ⟨lv, dr, st, de⟩ _).mono ?_
  rw [QD.out]
  rintro e w3 ⟨rfl, hX⟩
  replace hX : Ext w2 w3 := by with_reducible exact hX
  replace HX := Lib.hid (HX.out.trans hX)
  replace KP := Lib.hid (KP.out.ext hX)
  replace KD := Lib.hid (KD.out.ext hX)
  clear hX
  have cP0 : w3.cell? ⟨w.heap.size, 0, none⟩ = some (.int .i64 tm) := KP.out.cell 0
  have cP1 : w3.cell? ⟨w.heap.size, 1, none⟩ = some (.int .i64 x0) := KP.out.cell 1
  have cP2 : w3.cell? ⟨w.heap.size, 2, none⟩ = some (.int .i64 x1) := KP.out.cell 2
  have cP3 : w3.cell? ⟨w.heap.size, 3, none⟩ = some (.int .i64 x2) := KP.out.cell 3
  have cP4 : w3.cell? ⟨w.heap.size, 4, none⟩ = some (.int .i64 x3) := KP.out.cell 4
  have cP5 : w3.cell? ⟨w.heap.size, 5, none⟩ = some (.slice A n c) := KP.out.cell 5
  have cD0 : w3.cell? ⟨(w.heap.size + 1), 0, none⟩ = some (.int .i64 lv) := KD.out.cell 0
  have cD1 : w3.cell? ⟨(w.heap.size + 1), 1, none⟩ = some (.int .i64 dr) := KD.out.cell 1
  have cD2 : w3.cell? ⟨(w.heap.size + 1), 2, none⟩ = some (.int .i64 st) := KD.out.cell 2
  have cD3 : w3.cell? ⟨(w.heap.size + 1), 3, none⟩ = some (.int .i64 de) := KD.out.cell 3
  go_wp2_with fail
  clear cP0 cP1 cP2 cP3 cP4 cP5 cD0 cD1 cD2 cD3
  refine (echoesR_any A n c l ⟨lv, dr, st, de⟩ _ (H.out.ext HX.out)).mono ?_
  rw [HE.out]
  rintro e w4 ⟨v9, rfl, hE, hX⟩
  replace hX : Ext w3 w4 := by with_reducible exact hX
  replace HX := Lib.hid (HX.out.trans hX)
  replace KP := Lib.hid (KP.out.ext hX)
  replace KD := Lib.hid (KD.out.ext hX)
  clear hX
  simp only at hE
  obtain ⟨Ae, ce, rfl⟩ := own_slice hE
  rw [HN.out] at hE ⊢
  have HEC := Lib.hid hE
  clear hE
  generalize w3.heap.size = B at HEC
  go_wp2_with fail
  go_loopg [6, 9] N (fun f ov iv wr => ∃ (k : Nat) (rs : List Ret), f = N - k ∧ k ≤ N ∧ rs.length ≤ k ∧ iv = .int .i64 (k : Int) ∧ Hid (retsN l ⟨lv, dr, st, de⟩ 0 (es.take k) = rs) ∧ Hid (RtL w.heap.size wr ov rs) ∧ Hid (EcL B wr (.slice Ae N ce) es) ∧ Hid (Blk wr w.heap.size 71 #[.int .i64 tm, .int .i64 x0, .int .i64 x1, .int .i64 x2, .int .i64 x3, .slice A n c]) ∧ Hid (Blk wr (w.heap.size + 1) 33 #[.int .i64 lv, .int .i64 dr, .int .i64 st, .int .i64 de]) ∧ Hid (Ext w wr))
  case atStart => exact ⟨0, [], rfl, by omega, by simp, rfl, Lib.hid rfl, Lib.hid (RtL.nil _ _), HEC, KP, KD, HX⟩
  case round =>
    clear HEC KP KD HX
    obtain ⟨k, rs, rfl, hk, hrl, rfl, HRS, HO, HEC, KP, KD, HX⟩ := hrel
    obtain ⟨A1, c1, hso⟩ := own_slice HO.out
    subst hso
    obtain ⟨oz, hoz⟩ : ∃ oz, rs.length = oz := ⟨_, rfl⟩
    have HOZ := Lib.hid hoz
    rw [hoz] at hrl HO ⊢
    clear hoz
    by_cases hlt : k < N
    · have q1 : decide (k < N) = true := decide_eq_true hlt
      obtain ⟨ge, ce', x, hve, hr, hc⟩ := HEC.out.get (by rw [HN.out]; exact hlt)
      injection hve with hve hve2 hve3
      subst hve
      clear hve2 hve3
      have hsn := retsN_snoc l ⟨lv, dr, st, de⟩ 0 (es.take k) x
      rw [HRS.out, Nat.zero_add, HOZ.out] at hsn
      have hone : ∀ lo hi te a b re, timeF l x = ((lo, hi), te) → rangeF lo hi ⟨lv, dr, st, de⟩ = ((a, b), re) → retsN l ⟨lv, dr, st, de⟩ 0 (es.take (k + 1)) = rs ++ (if te ≠ 0 then none else if re ≠ 0 then none else some (⟨(oz : Int) + 1, 0, a, b, x.top, (energyF l x).1⟩ : Ret)).toList := fun lo hi te a b re h1 h2 => by
        rw [List.take_add_one, hr, Option.toList_some, hsn, oneR_at h1 h2]
      obtain ⟨y0, y1, y2, y3, y4⟩ := x
      obtain ⟨⟨⟨lo, hi⟩, te⟩, hT⟩ : ∃ r, timeF l ⟨y0, y1, y2, y3, y4⟩ = r := ⟨_, rfl⟩
      obtain ⟨⟨⟨a, b⟩, re⟩, hR⟩ : ∃ r, rangeF lo hi ⟨lv, dr, st, de⟩ = r := ⟨_, rfl⟩
      obtain ⟨⟨en, ee⟩, hG⟩ : ∃ r, energyF l ⟨y0, y1, y2, y3, y4⟩ = r := ⟨_, rfl⟩
      have hone2 := hone lo hi te a b re hT hR
      rw [hG] at hone2
      simp only at hone2
      have HT := Lib.hid hT
      have HR := Lib.hid hR
      have HG := Lib.hid hG
      have HRK := Lib.hid hr
      have HONE := Lib.hid hone2
      have a0 := hc 0 _ rfl
      have a1 := hc 1 _ rfl
      have a2 := hc 2 _ rfl
      have a3 := hc 3 _ rfl
      have a4 := hc 4 _ rfl
      simp only [Nat.add_zero] at a0
      simp only at a0 a1 a2 a3 a4
      clear hc hr hsn hone hT hR hG hone2
      go_upto_region 10 with (fail)
      refine rt_r10 w.heap.size ge N ce k A n c y0 y1 y2 y3 y4 lo hi te l wr (KP.out.cell 5) a0 a1 a2 a3 a4 (H.out.ext HX.out) HT hlt _ _ (by simp) rfl rfl rfl ?_
      rintro xv0 xv1 xv2 xv3 xv4 xv5 xv6 xv7 xv8 xv9 xv10 xv11 xv12 wA rfl rfl rfl rfl rfl rfl rfl rfl rfl rfl rfl ⟨gs, rfl, hgs, KSn⟩ hXW
      simp only [rops, Try.f56, regOf, Option.bind_some, Nat.reduceBEq, if_true, if_false, Bool.false_eq_true, Option.getD_some, List.drop_succ_cons, List.drop_zero]
      simp only [Act.put, List.setIfInBounds_toArray, List.set_cons_succ, List.set_cons_zero]
      have KS := Lib.hid KSn
      clear KSn
      have HAC : Hid (wA.cell? ⟨ge, k * 5, none⟩ = some (.int .i64 y0) ∧ wA.cell? ⟨ge, k * 5 + 1, none⟩ = some (.int .i64 y1) ∧ wA.cell? ⟨ge, k * 5 + 2, none⟩ = some (.int .i64 y2) ∧ wA.cell? ⟨ge, k * 5 + 3, none⟩ = some (.int .i64 y3) ∧ wA.cell? ⟨ge, k * 5 + 4, none⟩ = some (.int .i64 y4)) := Lib.hid ⟨Ext.cell hXW a0, Ext.cell hXW a1, Ext.cell hXW a2, Ext.cell hXW a3, Ext.cell hXW a4⟩
      clear a0 a1 a2 a3 a4
      replace HX := Lib.hid (HX.out.trans hXW)
      replace HEC := Lib.hid (HEC.out.ext hXW)
      replace HO := Lib.hid (HO.out.ext hXW)
      replace KP := Lib.hid (KP.out.ext hXW)
      replace KD := Lib.hid (KD.out.ext hXW)
      clear hXW
      go_upto_region 11 with (fail)
      by_cases hte : ¬ te = 0
      · have gte : (te != 0) = true := by simpa using hte
        have HteN := Lib.hid hte
        clear hte
        go_wp2_with fail
        go_roundg (N - (k + 1))
        case rel => exact ⟨k + 1, rs, rfl, by omega, by rw [HOZ.out]; omega, by go_num, Lib.hid (by rw [HONE.out, if_pos HteN.out]; simp), HO, HEC, KP, KD, HX⟩
        case measure => omega
      obtain rfl : te = 0 := Decidable.not_not.1 hte
      clear hte
      have cD0 : wA.cell? ⟨(w.heap.size + 1), 0, none⟩ = some (.int .i64 lv) := KD.out.cell 0
      have cD1 : wA.cell? ⟨(w.heap.size + 1), 1, none⟩ = some (.int .i64 dr) := KD.out.cell 1
      have cD2 : wA.cell? ⟨(w.heap.size + 1), 2, none⟩ = some (.int .i64 st) := KD.out.cell 2
      have cD3 : wA.cell? ⟨(w.heap.size + 1), 3, none⟩ = some (.int .i64 de) := KD.out.cell 3
      have cS0 : wA.cell? ⟨gs, 0, none⟩ = some (.int .i64 lo) := KS.out.cell 0
      have cS1 : wA.cell? ⟨gs, 1, none⟩ = some (.int .i64 hi) := KS.out.cell 1
      go_wp2_with fail
      clear cD0 cD1 cD2 cD3 cS0 cS1
      refine (rangeR_any lo hi ⟨lv, dr, st, de⟩ _).mono ?_
      rw [HR.out]
      rintro e w5 ⟨rfl, hX⟩
      replace hX : Ext wA w5 := by with_reducible exact hX
      replace HX := Lib.hid (HX.out.trans hX)
      replace HEC := Lib.hid (HEC.out.ext hX)
      replace HO := Lib.hid (HO.out.ext hX)
      replace KP := Lib.hid (KP.out.ext hX)
      replace KD := Lib.hid (KD.out.ext hX)
      replace KS := Lib.hid (KS.out.ext hX)
      clear hX
      go_upto_region 13 with (fail)
      have hXa : Ext w5 (w5.alloc (.cells #[.int .i64 a, .int .i64 b] 44)) := (Ext.refl _).alloc _
      have kR := Blk.new w5 44 #[.int .i64 a, .int .i64 b]
      have zP := KP.out.lt
      have zD := KD.out.lt
      have zS := KS.out.lt
      have zg := HX.out.size
      replace HX := Lib.hid (HX.out.trans hXa)
      replace HEC := Lib.hid (HEC.out.ext hXa)
      replace HO := Lib.hid (HO.out.ext hXa)
      replace KP := Lib.hid (KP.out.ext hXa)
      replace KD := Lib.hid (KD.out.ext hXa)
      replace KS := Lib.hid (KS.out.ext hXa)
      generalize (w5.alloc (.cells #[.int .i64 a, .int .i64 b] 44)) = w6 at HX HEC HO KP KD KS kR ⊢
      have KR := Lib.hid kR
      clear kR hXa
      by_cases hre : ¬ re = 0
      · have gre : (re != 0) = true := by simpa using hre
        have HreN := Lib.hid hre
        clear hre
        go_wp2_with fail
        go_roundg (N - (k + 1))
        case rel => exact ⟨k + 1, rs, rfl, by omega, by rw [HOZ.out]; omega, by go_num, Lib.hid (by rw [HONE.out, if_neg (by simp), if_pos HreN.out]; simp), HO, HEC, KP, KD, HX⟩
        case measure => omega
      obtain rfl : re = 0 := Decidable.not_not.1 hre
      clear hre
      obtain ⟨ge2, ce2, x2, hve, hr, hc⟩ := HEC.out.get (by rw [HN.out]; exact hlt)
      injection hve with hve hve2 hve3
      injection hve with hve
      injection hve with hve
      subst hve
      clear hve2 hve3
      obtain rfl : x2 = ⟨y0, y1, y2, y3, y4⟩ := by have h9 := HRK.out; rw [hr] at h9; exact Option.some.inj h9
      have a0 := hc 0 _ rfl
      have a1 := hc 1 _ rfl
      have a2 := hc 2 _ rfl
      have a3 := hc 3 _ rfl
      have a4 := hc 4 _ rfl
      simp only [Nat.add_zero] at a0
      simp only at a0 a1 a2 a3 a4
      clear hc hr HAC
      go_upto_region 14 with (fail)
      refine rt_r14 w.heap.size ge N ce k A n c y0 y1 y2 y3 y4 en ee l w6 (KP.out.cell 5) a0 a1 a2 a3 a4 (H.out.ext HX.out) HC HG hlt _ _ (by simp) rfl rfl rfl ?_
      rintro xv0 xv1 xv2 xv3 xv4 xv5 xv6 xv7 xv8 xv9 xv10 xv11 wB rfl rfl rfl rfl rfl rfl rfl rfl rfl rfl rfl rfl hXW
      simp only [rops, Try.f56, regOf, Option.bind_some, Nat.reduceBEq, if_true, if_false, Bool.false_eq_true, Option.getD_some, List.drop_succ_cons, List.drop_zero]
      simp only [Act.put, List.setIfInBounds_toArray, List.set_cons_succ, List.set_cons_zero]
      replace a4 := Ext.cell hXW a4
      clear a0 a1 a2 a3
      replace HX := Lib.hid (HX.out.trans hXW)
      replace HEC := Lib.hid (HEC.out.ext hXW)
      replace HO := Lib.hid (HO.out.ext hXW)
      replace KP := Lib.hid (KP.out.ext hXW)
      replace KD := Lib.hid (KD.out.ext hXW)
      replace KS := Lib.hid (KS.out.ext hXW)
      replace KR := Lib.hid (KR.out.ext hXW)
      clear hXW
      go_upto_region 15 with (fail)
      refine rt_r15 w5.heap.size ge N ce k A1 oz c1 y4 a b en wB (KR.out.cell 0) (KR.out.cell 1) a4 hlt (by omega) _ _ (by simp) rfl rfl rfl rfl rfl ?_
      rintro xv0 xv1 xv2 xv3 xv4 xv5 xv6 xv7 xv8 xv9 xv10 xv11 xv12 wC rfl rfl rfl rfl rfl rfl rfl rfl rfl rfl rfl rfl ⟨gz, rfl, KZ⟩ hXW
      simp only [rops, Try.f56, regOf, Option.bind_some, Nat.reduceBEq, if_true, if_false, Bool.false_eq_true, Option.getD_some, List.drop_succ_cons, List.drop_zero]
      simp only [Act.put, List.setIfInBounds_toArray, List.set_cons_succ, List.set_cons_zero]
      replace HX := Lib.hid (HX.out.trans hXW)
      replace HEC := Lib.hid (HEC.out.ext hXW)
      replace HO := Lib.hid (HO.out.ext hXW)
      replace KP := Lib.hid (KP.out.ext hXW)
      replace KD := Lib.hid (KD.out.ext hXW)
      replace KS := Lib.hid (KS.out.ext hXW)
      replace KR := Lib.hid (KR.out.ext hXW)
      clear hXW a4
      have hown : wC.ownsRow w.heap.size 62 6 (.slice A1 oz c1) oz (rtV rs) := by
        have h1 := HO.out
        unfold RtL at h1
        rw [HOZ.out] at h1
        exact h1
      have hsz := HX.out.size
      have hat : At wC (some ⟨gz, 0, none⟩) [.int .i64 ((oz : Int) + 1), .int .i64 0, .int .i64 a, .int .i64 b, .int .i64 y4, .int .i64 en] := fun _ => ⟨gz, 0, rfl, fun j y hy => by (rw [Nat.zero_add]; exact (KZ.cell j).trans (by simpa using hy))⟩
      clear KZ
      go_wp2_with (at_builtin; refine wpList_app _ elR rfl _ _ rfl w.heap.size (.slice A1 oz c1) oz (rtV rs) rfl hown _ 1 1 [.int .i64 ((oz : Int) + 1), .int .i64 0, .int .i64 a, .int .i64 b, .int .i64 y4, .int .i64 en] rfl rfl hat (by simp [Value.oneCell']) (by omega) (by unfold maxLen; omega) (by omega) ?_; intro v5 w5 hown5 hgr5 _; have HX5 := Lib.hid (HX.out.app hown hgr5); have HK5 := Lib.hid (Keeps.of_grown (L := (Value.slice A1 oz c1).ownBlock.toList) hgr5 (fun k hk => by rw [hk]; simp)); have HOW5 := Lib.hid hown5; clear hown5 hgr5)
      have hal := Ext.refl wC
      have hno : ∀ tb, 62 ≠ tb → ∀ k ∈ (Value.slice A1 oz c1).ownBlock.toList, NoRow tb wC k := fun tb h k hk => NoRow.of_own hown (by simpa using hk) h
      go_roundg (N - (k + 1))
      case rel =>
        refine ⟨k + 1, rs ++ [⟨(oz : Int) + 1, 0, a, b, y4, en⟩], rfl, by omega, by rw [List.length_append, HOZ.out]; simp; omega, by go_num, Lib.hid (by rw [HONE.out, if_neg (by simp), if_neg (by simp)]; rfl), Lib.hid ?_, Lib.hid (row_away (HEC.out.ext hal) HK5.out (hno _ (by decide))), Lib.hid (blk_away (KP.out.ext hal) HK5.out (hno _ (by decide))), Lib.hid (blk_away (KD.out.ext hal) HK5.out (hno _ (by decide))), HX5⟩
        unfold RtL
        rw [rtV_snoc, List.length_append, HOZ.out]
        exact HOW5.out
      case measure => omega
    · obtain rfl : k = N := by omega
      have HRA : Hid (retsN l ⟨lv, dr, st, de⟩ 0 es = rs) := Lib.hid (by have h1 := HRS.out; rwa [List.take_of_length_le (Nat.le_of_eq HN.out)] at h1)
      rw [HRA.out, HOZ.out] at HB
      clear HRS HEC KP KD
      go_wp2_with fail
      go_loopg [15] oz (fun f iv wr => ∃ k : Nat, f = oz - k ∧ k ≤ oz ∧ iv = .int .i64 (k : Int) ∧ Hid (wr.ownsRow w.heap.size 62 6 (.slice A1 oz c1) oz (rtV ((rs.take k).map (Ret.setOf oz) ++ rs.drop k))) ∧ Hid (Ext w wr))
      case atStart => exact ⟨0, rfl, by omega, rfl, Lib.hid (by have h1 := HO.out; unfold RtL at h1; rw [HOZ.out] at h1; simpa using h1), HX⟩
      case round =>
        clear HO HX
        obtain ⟨j, rfl, hj, rfl, HO, HX⟩ := hrel
        by_cases hjl : j < oz
        · have hown := HO.out
          obtain ⟨g, hge, hg1, hg2⟩ := own_at0 hown (by omega)
          subst hge
          obtain ⟨cur, hB, _⟩ := own_cells hown
          have hfr := hB.free (j * 6 + 1)
          have hcel := hown.cellAt (j * 6 + 1) (by omega)
          have hset := ownsRow_set (i := j * 6 + 1) (u := .int .i64 (oz : Int)) hown
          rw [rtV_setOf (by rw [HOZ.out]; exact hjl)] at hset
          have HSET := Lib.hid hset
          obtain ⟨uo, huo⟩ : ∃ u, (rtV ((rs.take j).map (Ret.setOf oz) ++ rs.drop j))[j * 6 + 1]? = some u := by
            rw [List.getElem?_eq_getElem (by rw [rtV_len]; simp; rw [HOZ.out]; omega)]
            exact ⟨_, rfl⟩
          rw [huo] at hcel
          clear hown hB hset huo
          go_wp2_with fail
          go_roundg (oz - (j + 1))
          case rel => exact ⟨j + 1, rfl, by omega, by go_num, HSET, Lib.hid (HX.out.setCell hg1 _)⟩
          case measure => omega
        · obtain rfl : j = oz := by omega
          have HF : Hid ((rs.take j).map (Ret.setOf j) ++ rs.drop j = rs.map (Ret.setOf j)) := Lib.hid (by rw [List.take_of_length_le (Nat.le_of_eq HOZ.out), List.drop_eq_nil_of_le (Nat.le_of_eq HOZ.out), List.append_nil])
          have hfin : RtL w.heap.size wr (.slice A1 j c1) (rs.map (Ret.setOf j)) := by
            unfold RtL
            rw [← HF.out, List.length_append, List.length_map, List.length_take, List.length_drop, HOZ.out, show min j j + (j - j) = j by omega]
            exact HO.out
          have HFIN := Lib.hid hfin
          clear hfin HO
          go_wp2
          go_ret2
          exact ⟨_, by rw [HB.out]; rfl, by rw [HB.out]; exact HFIN.out, HX.out⟩

theorem returnsR_any (p : Pul) (A : Option Addr) (n c : Nat) (d : Det) (w : World) (h : Ints .i64 w A n p.smp) (hcap : n ≤ c ∧ c ≤ 9223372036854775807) :
    Calls Try.prog 56 #[p.val A n c, .agg #[.int .i64 d.level, .int .i64 d.drop, .int .i64 d.step, .int .i64 d.delay]] w (RetRt w (retO p d)) := by
  obtain ⟨tm, x0, x1, x2, x3, l⟩ := p
  obtain ⟨lv, dr, st, de⟩ := d
  by_cases hp : PulOk ⟨tm, x0, x1, x2, x3, l⟩
  · by_cases hd : DetOk ⟨lv, dr, st, de⟩
    · exact returnsR_ok A n c tm x0 x1 x2 x3 l lv dr st de w hp hd h hcap
    · exact returnsR_det A n c tm x0 x1 x2 x3 l lv dr st de w hp hd h hcap
  · exact returnsR_bad A n c tm x0 x1 x2 x3 l lv dr st de w hp h hcap

end Go.Proofs.Ytagcgldhhdecjaa
