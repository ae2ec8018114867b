/- Lemmas of the proof that follows (Spans, part 7): walks of functions by contract, and plain lemmas. Conditions: none. -/
import Derived.Test.YteoijnaljkagfaaSpansF
namespace Go.Proofs.Yteoijnaljkagfaa
open Go.RowKit

theorem Z16.pos {w : World} {A : Option Addr} {l c n : Nat} (h : Z16 w (.slice A l c) n) : IntZ w (.agg #[.bool false, .slice A l c]) (n : Int) := ⟨A, l, c, by rw [decide_eq_false (by omega)], h⟩
theorem IntZ.open {w : World} {v : Value} {z : Int} (h : IntZ w v z) : ∃ A l c, v = .agg #[.bool (decide (z < 0)), .slice A l c] ∧ Z16 w (.slice A l c) z.natAbs := by
  obtain ⟨A, l, c, rfl, h1⟩ := h
  exact ⟨A, l, c, rfl, h1⟩
theorem QZ.mk' {w : World} {b : Bool} {A B : Option Addr} {l c m k : Nat} {q : Rat} (hb : b = decide (q.num < 0)) (h : Z16 w (.slice A l c) q.num.natAbs) (h' : Z16 w (.slice B m k) q.den) : QZ w (.agg #[.bool b, .slice A l c, .slice B m k]) q :=
  ⟨_, _, _, _, _, _, _, rfl, hb, h, h'⟩
theorem run_QN (b : Bool) (A B : Option Addr) (l c m k : Nat) (w : World) : (Instr.field 42 (.agg #[.bool b, .slice A l c, .slice B m k]) 0).run Try.prog w = .ok (.agg #[.bool b, .slice A l c]) w := by kernel_rfl
theorem sgI_num (q : Rat) : sgI q.num = sgnQ q := by
  unfold sgI sgnQ
  by_cases h : q.num < 0
  · rw [if_pos h, if_pos h]
  · rw [if_neg h, if_neg h]
    by_cases h0 : q.num = 0
    · rw [if_pos h0, if_neg (by omega)]
    · rw [if_neg h0, if_pos (by omega)]

set_option maxRecDepth 100000 in
set_option maxHeartbeats 2000000 in
theorem qminus_r1 (ga : Nat) (s0 : Bool) (A0 B0 : Option Addr) (l0 c0 m0 k0 : Nat) (q : Rat) (w : World) (x0 : w.cell? ⟨ga, 0, none⟩ = some (.bool s0)) (x1 : w.cell? ⟨ga, 1, none⟩ = some (.slice A0 l0 c0)) (x2 : w.cell? ⟨ga, 2, none⟩ = some (.slice B0 m0 k0)) (hx : QZ w (.agg #[.bool s0, .slice A0 l0 c0, .slice B0 m0 k0]) q) (a : Act) (Q : Exit → Act → World → Prop) (hsize : 8 ≤ a.tmps.size)
    (s1 : a.tmps[1]? = some (.pointer (some ⟨ga, 0, none⟩)))
    (hend : ∀ (xv0 xv1 xv2 xv3 xv4 : Value) (W : World), (xv0 = .pointer (some ⟨ga, 0, none⟩)) → (xv1 = .agg #[.bool s0, .slice A0 l0 c0]) → (IntZ W xv2 (-q.num)) → (xv3 = .pointer (some ⟨ga, 2, none⟩)) → (xv4 = .slice B0 m0 k0) → Ext w W → wpList Try.prog (rops Try.f38 1).toArray Q ((rops Try.f38 1).drop 5) (((((a.put (some 3) xv0).put (some 4) xv1).put (some 5) xv2).put (some 6) xv3).put (some 7) xv4) W) :
    (Code.region 1 (rops Try.f38 1).toArray true).wp Try.prog Q a w := by
  have hmono : ∀ (W W' : World) (j : Nat) (u : Value), Ext W W' → (fun (i : Nat) (v : Value) (W : World) => match i with
    | 0 => v = .pointer (some ⟨ga, 0, none⟩)
    | 1 => v = .agg #[.bool s0, .slice A0 l0 c0]
    | 2 => IntZ W v (-q.num)
    | 3 => v = .pointer (some ⟨ga, 2, none⟩)
    | 4 => v = .slice B0 m0 k0
    | _ => True) j u W → (fun (i : Nat) (v : Value) (W : World) => match i with
    | 0 => v = .pointer (some ⟨ga, 0, none⟩)
    | 1 => v = .agg #[.bool s0, .slice A0 l0 c0]
    | 2 => IntZ W v (-q.num)
    | 3 => v = .pointer (some ⟨ga, 2, none⟩)
    | 4 => v = .slice B0 m0 k0
    | _ => True) j u W' := by
    intro W W' j u hX h
    match j, h with
    | 0, h => exact h
    | 1, h => exact h
    | 2, h => exact IntZ.ext h hX
    | 3, h => exact h
    | 4, h => exact h
    | _ + 5, h => exact h
  have hsz : ∀ d, some d ∈ ([some 3, some 4, some 5, some 6, some 7] : List (Option Tmp)) → d < a.tmps.size := slots_lt (by decide) hsize
  refine wp_region_j 5 [some 3, some 4, some 5, some 6, some 7] [[], [0], [1], [], [3]] [[], [], [], [], []] (fun (i : Nat) (v : Value) (W : World) => match i with
    | 0 => v = .pointer (some ⟨ga, 0, none⟩)
    | 1 => v = .agg #[.bool s0, .slice A0 l0 c0]
    | 2 => IntZ W v (-q.num)
    | 3 => v = .pointer (some ⟨ga, 2, none⟩)
    | 4 => v = .slice B0 m0 k0
    | _ => True) (fun _ W => Ext w W) (by kernel_rfl) (by kernel_rfl) hsz (fun _ _ _ _ h => h) ((Ext.refl w).drew) ?_ ?_
  · clear hend
    simp only [rops, Try.f38, regOf, Option.bind_some, Nat.reduceBEq, if_true, if_false, Bool.false_eq_true, Option.getD_some]
    simp only [List.take_succ_cons, List.take_zero]
    refine ⟨?_, ?_, ?_, ?_, ?_, trivial⟩
    · intro done us W hJ hdep haft hnot b hb hb' K hK Q'
      have e1 := (hb' 1 (by simp)).trans s1
      clear hb hb'
      go_simp
      exact hK _ _ rfl (fun _ _ _ h => h) hJ
    · intro done us W hJ hdep haft hnot b hb hb' K hK Q'
      simp only [List.getD_cons_succ, List.getD_cons_zero, List.mem_cons, List.not_mem_nil, or_false, forall_eq_or_imp, forall_eq] at hdep
      have e3 := hb 0 3 rfl
      have d0 := hdep
      rw [d0.1] at e3
      clear hb hb' hdep d0
      have z0 := Ext.cell hJ x0
      have z1 := Ext.cell hJ x1
      go_simp
      exact hK _ _ rfl (fun _ _ _ h => h) hJ
    · intro done us W hJ hdep haft hnot b hb hb' K hK Q'
      simp only [List.getD_cons_succ, List.getD_cons_zero, List.mem_cons, List.not_mem_nil, or_false, forall_eq_or_imp, forall_eq] at hdep
      have e4 := hb 1 4 rfl
      have d1 := hdep
      rw [d1.1] at e4
      clear hb hb' hdep d1
      go_simp
      refine (rminus_any _ _ _ (IntZ.ext (QZ.num hx) hJ)).mono ?_
      rintro e w' ⟨v, rfl, hv, hX⟩
      exact hK _ _ hv (fun j u _ h => hmono _ _ j u hX h) (Ext.trans hJ hX)
    · intro done us W hJ hdep haft hnot b hb hb' K hK Q'
      have e1 := (hb' 1 (by simp)).trans s1
      clear hb hb'
      go_simp
      exact hK _ _ rfl (fun _ _ _ h => h) hJ
    · intro done us W hJ hdep haft hnot b hb hb' K hK Q'
      simp only [List.getD_cons_succ, List.getD_cons_zero, List.mem_cons, List.not_mem_nil, or_false, forall_eq_or_imp, forall_eq] at hdep
      have e6 := hb 3 6 rfl
      have d3 := hdep
      rw [d3.1] at e6
      clear hb hb' hdep d3
      have q := Ext.cell hJ x2
      go_simp
      exact hK _ _ rfl (fun _ _ _ h => h) hJ
  · intro us W hV hJ
    exact hend (us 0) (us 1) (us 2) (us 3) (us 4) W (hV 0 (by omega)) (hV 1 (by omega)) (hV 2 (by omega)) (hV 3 (by omega)) (hV 4 (by omega)) hJ
set_option maxRecDepth 100000 in
set_option maxHeartbeats 2000000 in
theorem qminus_v (s0 : Bool) (A0 B0 : Option Addr) (l0 c0 m0 k0 : Nat) (q : Rat) (w : World) (hx : QZ w (.agg #[.bool s0, .slice A0 l0 c0, .slice B0 m0 k0]) q) :
    Calls Try.prog 38 #[.agg #[.bool s0, .slice A0 l0 c0, .slice B0 m0 k0]] w (RetQz w (-q)) := by
  have HXX := Lib.hid hx
  clear hx
  have hXe : Ext w ((w.alloc (.cells #[.bool s0, .slice A0 l0 c0, .slice B0 m0 k0] 42)).alloc (.cells #[.bool false, .slice none 0 0, .slice none 0 0] 42)) := (((Ext.refl w).alloc _).alloc _)
  have kA : Blk ((w.alloc (.cells #[.bool s0, .slice A0 l0 c0, .slice B0 m0 k0] 42)).alloc (.cells #[.bool false, .slice none 0 0, .slice none 0 0] 42)) w.heap.size 42 #[.bool s0, .slice A0 l0 c0, .slice B0 m0 k0] := Blk.alloc (Blk.at_ (by simp)) _
  have kR : Blk ((w.alloc (.cells #[.bool s0, .slice A0 l0 c0, .slice B0 m0 k0] 42)).alloc (.cells #[.bool false, .slice none 0 0, .slice none 0 0] 42)) (w.heap.size + 1) 42 #[.bool false, .slice none 0 0, .slice none 0 0] := Blk.at_ (by simp)
  go_enter Try.func38, Try.ntmps38
  go_wp2_with fail
  generalize ((w.alloc (.cells #[.bool s0, .slice A0 l0 c0, .slice B0 m0 k0] 42)).alloc (.cells #[.bool false, .slice none 0 0, .slice none 0 0] 42)) = w1 at hXe kA kR ⊢
  have HX := Lib.hid hXe
  clear hXe
  have KA := Lib.hid kA
  clear kA
  have KR := Lib.hid kR
  clear kR
  replace HXX := Lib.hid (HXX.out.ext HX.out)
  go_upto_region 1 with (fail)
  refine qminus_r1 w.heap.size s0 A0 B0 l0 c0 m0 k0 q w1 (KA.out.cell 0) (KA.out.cell 1) (KA.out.cell 2) HXX.out _ _ (by simp) rfl ?_
  rintro xv0 xv1 xv2 xv3 xv4 w2 rfl rfl hv rfl rfl hXW
  simp only [rops, Try.f38, regOf, Option.bind_some, Nat.reduceBEq, if_true, if_false, Bool.false_eq_true, Option.getD_some, List.drop_succ_cons, List.drop_zero]
  simp only [Act.put, List.setIfInBounds_toArray, List.set_cons_succ, List.set_cons_zero]
  replace HX := Lib.hid (HX.out.trans hXW)
  replace HXX := Lib.hid (HXX.out.ext hXW)
  replace KA := Lib.hid (KA.out.ext hXW)
  replace KR := Lib.hid (KR.out.ext hXW)
  clear hXW
  obtain ⟨A9, l9, c9, rfl, hv9⟩ := hv.open
  obtain ⟨b9, hb9⟩ : ∃ b, decide (-q.num < 0) = b := ⟨_, rfl⟩
  rw [hb9]
  have HD := Lib.hid HXX.out.den
  have HV : Hid (QZ w2 (.agg #[.bool b9, .slice A9 l9 c9, .slice B0 m0 k0]) (-q)) := QZ.mk' (by rw [Rat.neg_num, hb9]) (by rw [Rat.neg_num]; exact hv9) (by rw [Rat.neg_den]; exact HD.out)
  clear hv hv9 hb9
  replace HV := Lib.hid (QZ.past HV.out (NoInts.three KR.out))
  have cR0 : w2.cell? ⟨(w.heap.size + 1), 0, none⟩ = some (.bool false) := KR.out.cell 0
  have fR0 : w2.frozen? ⟨(w.heap.size + 1), 0, none⟩ = false := KR.out.free 0
  have cR1 : w2.cell? ⟨(w.heap.size + 1), 1, none⟩ = some (.slice none 0 0) := KR.out.cell 1
  have fR1 : w2.frozen? ⟨(w.heap.size + 1), 1, none⟩ = false := KR.out.free 1
  have cR2 : w2.cell? ⟨(w.heap.size + 1), 2, none⟩ = some (.slice none 0 0) := KR.out.cell 2
  have fR2 : w2.frozen? ⟨(w.heap.size + 1), 2, none⟩ = false := KR.out.free 2
  go_wp2
  refine bodyPost_ret (v := .agg #[.bool b9, .slice A9 l9 c9, .slice B0 m0 k0]) (by simp [results, Try.results38, go_sem, *]) rfl ?_
  exact ⟨_, rfl, HV.out, Ext.boxed HX.out (by omega) _ _ _⟩

theorem qminus_any (va : Value) (q : Rat) (w : World) (hx : QZ w va q) : Calls Try.prog 38 #[va] w (RetQz w (-q)) := by
  obtain ⟨s0, A0, l0, c0, B0, m0, k0, rfl⟩ := hx.open
  exact qminus_v s0 A0 B0 l0 c0 m0 k0 q w hx

set_option maxRecDepth 100000 in
set_option maxHeartbeats 2000000 in
theorem qadd_r1 (ga gb L M : Nat) (s0 : Bool) (A0 B0 : Option Addr) (l0 c0 m0 k0 : Nat) (s1 : Bool) (A1 B1 : Option Addr) (l1 c1 m1 k1 : Nat) (q r : Rat) (w : World) (x0 : w.cell? ⟨ga, 0, none⟩ = some (.bool s0)) (x1 : w.cell? ⟨ga, 1, none⟩ = some (.slice A0 l0 c0)) (x2 : w.cell? ⟨ga, 2, none⟩ = some (.slice B0 m0 k0)) (y0 : w.cell? ⟨gb, 0, none⟩ = some (.bool s1)) (y1 : w.cell? ⟨gb, 1, none⟩ = some (.slice A1 l1 c1)) (y2 : w.cell? ⟨gb, 2, none⟩ = some (.slice B1 m1 k1)) (hx : QZ w (.agg #[.bool s0, .slice A0 l0 c0, .slice B0 m0 k0]) q) (hy : QZ w (.agg #[.bool s1, .slice A1 l1 c1, .slice B1 m1 k1]) r) (fq : FitR q L) (fr : FitR r M) (hLM : L + M + 1 ≤ 400000) (a : Act) (Q : Exit → Act → World → Prop) (hsize : 25 ≤ a.tmps.size)
    (s2 : a.tmps[2]? = some (.pointer (some ⟨ga, 0, none⟩)))
    (s3 : a.tmps[3]? = some (.pointer (some ⟨gb, 0, none⟩)))
    (hend : ∀ (xv0 xv1 xv2 xv3 xv4 xv5 xv6 xv7 xv8 xv9 xv10 xv11 xv12 xv13 xv14 xv15 xv16 xv17 xv18 xv19 : Value) (W : World), (xv0 = .pointer (some ⟨ga, 0, none⟩)) → (xv1 = .agg #[.bool s0, .slice A0 l0 c0]) → (xv2 = .pointer (some ⟨gb, 2, none⟩)) → (xv3 = .slice B1 m1 k1) → (xv4 = .agg #[.bool false, .slice B1 m1 k1]) → (IntZ W xv5 (q.num * (r.den : Int))) → (xv6 = .pointer (some ⟨gb, 0, none⟩)) → (xv7 = .agg #[.bool s1, .slice A1 l1 c1]) → (xv8 = .pointer (some ⟨ga, 2, none⟩)) → (xv9 = .slice B0 m0 k0) → (xv10 = .agg #[.bool false, .slice B0 m0 k0]) → (IntZ W xv11 (r.num * (q.den : Int))) → (IntZ W xv12 (q.num * (r.den : Int) + r.num * (q.den : Int))) → (xv13 = .pointer (some ⟨ga, 2, none⟩)) → (xv14 = .slice B0 m0 k0) → (xv15 = .pointer (some ⟨gb, 2, none⟩)) → (xv16 = .slice B1 m1 k1) → (Z16 W xv17 (q.den * r.den)) → (∃ A l c, xv18 = .agg #[.bool false, .slice A l c] ∧ Z16 W (.slice A l c) (q.den * r.den)) → (QZ W xv19 (q + r)) → Ext w W → wpList Try.prog (rops Try.f105 1).toArray Q ((rops Try.f105 1).drop 20) ((((((((((((((((((((a.put (some 5) xv0).put (some 6) xv1).put (some 7) xv2).put (some 8) xv3).put (some 9) xv4).put (some 10) xv5).put (some 11) xv6).put (some 12) xv7).put (some 13) xv8).put (some 14) xv9).put (some 15) xv10).put (some 16) xv11).put (some 17) xv12).put (some 18) xv13).put (some 19) xv14).put (some 20) xv15).put (some 21) xv16).put (some 22) xv17).put (some 23) xv18).put (some 24) xv19) W) :
    (Code.region 1 (rops Try.f105 1).toArray true).wp Try.prog Q a w := by
  have hmono : ∀ (W W' : World) (j : Nat) (u : Value), Ext W W' → (fun (i : Nat) (v : Value) (W : World) => match i with
    | 0 => v = .pointer (some ⟨ga, 0, none⟩)
    | 1 => v = .agg #[.bool s0, .slice A0 l0 c0]
    | 2 => v = .pointer (some ⟨gb, 2, none⟩)
    | 3 => v = .slice B1 m1 k1
    | 4 => v = .agg #[.bool false, .slice B1 m1 k1]
    | 5 => IntZ W v (q.num * (r.den : Int))
    | 6 => v = .pointer (some ⟨gb, 0, none⟩)
    | 7 => v = .agg #[.bool s1, .slice A1 l1 c1]
    | 8 => v = .pointer (some ⟨ga, 2, none⟩)
    | 9 => v = .slice B0 m0 k0
    | 10 => v = .agg #[.bool false, .slice B0 m0 k0]
    | 11 => IntZ W v (r.num * (q.den : Int))
    | 12 => IntZ W v (q.num * (r.den : Int) + r.num * (q.den : Int))
    | 13 => v = .pointer (some ⟨ga, 2, none⟩)
    | 14 => v = .slice B0 m0 k0
    | 15 => v = .pointer (some ⟨gb, 2, none⟩)
    | 16 => v = .slice B1 m1 k1
    | 17 => Z16 W v (q.den * r.den)
    | 18 => ∃ A l c, v = .agg #[.bool false, .slice A l c] ∧ Z16 W (.slice A l c) (q.den * r.den)
    | 19 => QZ W v (q + r)
    | _ => True) j u W → (fun (i : Nat) (v : Value) (W : World) => match i with
    | 0 => v = .pointer (some ⟨ga, 0, none⟩)
    | 1 => v = .agg #[.bool s0, .slice A0 l0 c0]
    | 2 => v = .pointer (some ⟨gb, 2, none⟩)
    | 3 => v = .slice B1 m1 k1
    | 4 => v = .agg #[.bool false, .slice B1 m1 k1]
    | 5 => IntZ W v (q.num * (r.den : Int))
    | 6 => v = .pointer (some ⟨gb, 0, none⟩)
    | 7 => v = .agg #[.bool s1, .slice A1 l1 c1]
    | 8 => v = .pointer (some ⟨ga, 2, none⟩)
    | 9 => v = .slice B0 m0 k0
    | 10 => v = .agg #[.bool false, .slice B0 m0 k0]
    | 11 => IntZ W v (r.num * (q.den : Int))
    | 12 => IntZ W v (q.num * (r.den : Int) + r.num * (q.den : Int))
    | 13 => v = .pointer (some ⟨ga, 2, none⟩)
    | 14 => v = .slice B0 m0 k0
    | 15 => v = .pointer (some ⟨gb, 2, none⟩)
    | 16 => v = .slice B1 m1 k1
    | 17 => Z16 W v (q.den * r.den)
    | 18 => ∃ A l c, v = .agg #[.bool false, .slice A l c] ∧ Z16 W (.slice A l c) (q.den * r.den)
    | 19 => QZ W v (q + r)
    | _ => True) j u W' := by
    intro W W' j u hX h
    match j, h with
    | 0, h => exact h
    | 1, h => exact h
    | 2, h => exact h
    | 3, h => exact h
    | 4, h => exact h
    | 5, h => exact IntZ.ext h hX
    | 6, h => exact h
    | 7, h => exact h
    | 8, h => exact h
    | 9, h => exact h
    | 10, h => exact h
    | 11, h => exact IntZ.ext h hX
    | 12, h => exact IntZ.ext h hX
    | 13, h => exact h
    | 14, h => exact h
    | 15, h => exact h
    | 16, h => exact h
    | 17, h => exact Z16.ext h hX
    | 18, h => obtain ⟨A, l, c, h1, h2⟩ := h; exact ⟨A, l, c, h1, Z16.ext h2 hX⟩
    | 19, h => exact QZ.ext h hX
    | _ + 20, h => exact h
  have hsz : ∀ d, some d ∈ ([some 5, some 6, some 7, some 8, some 9, some 10, some 11, some 12, some 13, some 14, some 15, some 16, some 17, some 18, some 19, some 20, some 21, some 22, some 23, some 24] : List (Option Tmp)) → d < a.tmps.size := slots_lt (by decide) hsize
  refine wp_region_j 20 [some 5, some 6, some 7, some 8, some 9, some 10, some 11, some 12, some 13, some 14, some 15, some 16, some 17, some 18, some 19, some 20, some 21, some 22, some 23, some 24] [[], [0], [], [2], [3], [1, 4], [], [6], [], [8], [9], [7, 10], [5, 11], [], [13], [], [15], [14, 16], [17], [12, 18]] [[], [], [], [], [], [], [], [], [], [], [], [], [], [], [], [], [], [], [], []] (fun (i : Nat) (v : Value) (W : World) => match i with
    | 0 => v = .pointer (some ⟨ga, 0, none⟩)
    | 1 => v = .agg #[.bool s0, .slice A0 l0 c0]
    | 2 => v = .pointer (some ⟨gb, 2, none⟩)
    | 3 => v = .slice B1 m1 k1
    | 4 => v = .agg #[.bool false, .slice B1 m1 k1]
    | 5 => IntZ W v (q.num * (r.den : Int))
    | 6 => v = .pointer (some ⟨gb, 0, none⟩)
    | 7 => v = .agg #[.bool s1, .slice A1 l1 c1]
    | 8 => v = .pointer (some ⟨ga, 2, none⟩)
    | 9 => v = .slice B0 m0 k0
    | 10 => v = .agg #[.bool false, .slice B0 m0 k0]
    | 11 => IntZ W v (r.num * (q.den : Int))
    | 12 => IntZ W v (q.num * (r.den : Int) + r.num * (q.den : Int))
    | 13 => v = .pointer (some ⟨ga, 2, none⟩)
    | 14 => v = .slice B0 m0 k0
    | 15 => v = .pointer (some ⟨gb, 2, none⟩)
    | 16 => v = .slice B1 m1 k1
    | 17 => Z16 W v (q.den * r.den)
    | 18 => ∃ A l c, v = .agg #[.bool false, .slice A l c] ∧ Z16 W (.slice A l c) (q.den * r.den)
    | 19 => QZ W v (q + r)
    | _ => True) (fun _ W => Ext w W) (by kernel_rfl) (by kernel_rfl) hsz (fun _ _ _ _ h => h) ((Ext.refl w).drew) ?_ ?_
  · clear hend
    simp only [rops, Try.f105, regOf, Option.bind_some, Nat.reduceBEq, if_true, if_false, Bool.false_eq_true, Option.getD_some]
    simp only [List.take_succ_cons, List.take_zero]
    refine ⟨?_, ?_, ?_, ?_, ?_, ?_, ?_, ?_, ?_, ?_, ?_, ?_, ?_, ?_, ?_, ?_, ?_, ?_, ?_, ?_, trivial⟩
    · intro done us W hJ hdep haft hnot b hb hb' K hK Q'
      have e2 := (hb' 2 (by simp)).trans s2
      clear hb hb'
      go_simp
      exact hK _ _ rfl (fun _ _ _ h => h) hJ
    · intro done us W hJ hdep haft hnot b hb hb' K hK Q'
      simp only [List.getD_cons_succ, List.getD_cons_zero, List.mem_cons, List.not_mem_nil, or_false, forall_eq_or_imp, forall_eq] at hdep
      have e5 := hb 0 5 rfl
      have d0 := hdep
      rw [d0.1] at e5
      clear hb hb' hdep d0
      have z0 := Ext.cell hJ x0
      have z1 := Ext.cell hJ x1
      go_simp
      exact hK _ _ rfl (fun _ _ _ h => h) hJ
    · intro done us W hJ hdep haft hnot b hb hb' K hK Q'
      have e3 := (hb' 3 (by simp)).trans s3
      clear hb hb'
      go_simp
      exact hK _ _ rfl (fun _ _ _ h => h) hJ
    · intro done us W hJ hdep haft hnot b hb hb' K hK Q'
      simp only [List.getD_cons_succ, List.getD_cons_zero, List.mem_cons, List.not_mem_nil, or_false, forall_eq_or_imp, forall_eq] at hdep
      have e7 := hb 2 7 rfl
      have d2 := hdep
      rw [d2.1] at e7
      clear hb hb' hdep d2
      have q := Ext.cell hJ y2
      go_simp
      exact hK _ _ rfl (fun _ _ _ h => h) hJ
    · intro done us W hJ hdep haft hnot b hb hb' K hK Q'
      simp only [List.getD_cons_succ, List.getD_cons_zero, List.mem_cons, List.not_mem_nil, or_false, forall_eq_or_imp, forall_eq] at hdep
      have e8 := hb 3 8 rfl
      have d3 := hdep
      rw [d3.1] at e8
      clear hb hb' hdep d3
      go_simp
      exact hK _ _ rfl (fun _ _ _ h => h) hJ
    · intro done us W hJ hdep haft hnot b hb hb' K hK Q'
      simp only [List.getD_cons_succ, List.getD_cons_zero, List.mem_cons, List.not_mem_nil, or_false, forall_eq_or_imp, forall_eq] at hdep
      have e6 := hb 1 6 rfl
      have e9 := hb 4 9 rfl
      have d1 := hdep.1
      have d4 := hdep.2
      rw [d1.1] at e6
      rw [d4.1] at e9
      clear hb hb' hdep d1 d4
      go_simp
      refine (zmul_any _ _ q.num (r.den : Int) L M _ (IntZ.ext (QZ.num hx) hJ) (IntZ.ext (QZ.den hy).pos hJ) fq.1 (by simpa using fr.2) (by omega) (by omega)).mono ?_
      rintro e w' ⟨v, rfl, hv, hX⟩
      exact hK _ _ hv (fun j u _ h => hmono _ _ j u hX h) (Ext.trans hJ hX)
    · intro done us W hJ hdep haft hnot b hb hb' K hK Q'
      have e3 := (hb' 3 (by simp)).trans s3
      clear hb hb'
      go_simp
      exact hK _ _ rfl (fun _ _ _ h => h) hJ
    · intro done us W hJ hdep haft hnot b hb hb' K hK Q'
      simp only [List.getD_cons_succ, List.getD_cons_zero, List.mem_cons, List.not_mem_nil, or_false, forall_eq_or_imp, forall_eq] at hdep
      have e11 := hb 6 11 rfl
      have d6 := hdep
      rw [d6.1] at e11
      clear hb hb' hdep d6
      have z0 := Ext.cell hJ y0
      have z1 := Ext.cell hJ y1
      go_simp
      exact hK _ _ rfl (fun _ _ _ h => h) hJ
    · intro done us W hJ hdep haft hnot b hb hb' K hK Q'
      have e2 := (hb' 2 (by simp)).trans s2
      clear hb hb'
      go_simp
      exact hK _ _ rfl (fun _ _ _ h => h) hJ
    · intro done us W hJ hdep haft hnot b hb hb' K hK Q'
      simp only [List.getD_cons_succ, List.getD_cons_zero, List.mem_cons, List.not_mem_nil, or_false, forall_eq_or_imp, forall_eq] at hdep
      have e13 := hb 8 13 rfl
      have d8 := hdep
      rw [d8.1] at e13
      clear hb hb' hdep d8
      have q := Ext.cell hJ x2
      go_simp
      exact hK _ _ rfl (fun _ _ _ h => h) hJ
    · intro done us W hJ hdep haft hnot b hb hb' K hK Q'
      simp only [List.getD_cons_succ, List.getD_cons_zero, List.mem_cons, List.not_mem_nil, or_false, forall_eq_or_imp, forall_eq] at hdep
      have e14 := hb 9 14 rfl
      have d9 := hdep
      rw [d9.1] at e14
      clear hb hb' hdep d9
      go_simp
      exact hK _ _ rfl (fun _ _ _ h => h) hJ
    · intro done us W hJ hdep haft hnot b hb hb' K hK Q'
      simp only [List.getD_cons_succ, List.getD_cons_zero, List.mem_cons, List.not_mem_nil, or_false, forall_eq_or_imp, forall_eq] at hdep
      have e12 := hb 7 12 rfl
      have e15 := hb 10 15 rfl
      have d7 := hdep.1
      have d10 := hdep.2
      rw [d7.1] at e12
      rw [d10.1] at e15
      clear hb hb' hdep d7 d10
      go_simp
      refine (zmul_any _ _ r.num (q.den : Int) M L _ (IntZ.ext (QZ.num hy) hJ) (IntZ.ext (QZ.den hx).pos hJ) fr.1 (by simpa using fq.2) (by omega) (by omega)).mono ?_
      rintro e w' ⟨v, rfl, hv, hX⟩
      exact hK _ _ hv (fun j u _ h => hmono _ _ j u hX h) (Ext.trans hJ hX)
    · intro done us W hJ hdep haft hnot b hb hb' K hK Q'
      simp only [List.getD_cons_succ, List.getD_cons_zero, List.mem_cons, List.not_mem_nil, or_false, forall_eq_or_imp, forall_eq] at hdep
      have e10 := hb 5 10 rfl
      have e16 := hb 11 16 rfl
      have d5 := hdep.1
      have d11 := hdep.2
      clear hb hb' hdep 
      go_simp
      refine (zadd_any _ _ _ _ (L + M) _ d5.1 d11.1 (fit_mulI fq.1 (by simpa using fr.2) (Nat.le_refl _)) (fit_mulI fr.1 (by simpa using fq.2) (by omega)) (by omega)).mono ?_
      rintro e w' ⟨v, rfl, hv, hX⟩
      exact hK _ _ hv (fun j u _ h => hmono _ _ j u hX h) (Ext.trans hJ hX)
    · intro done us W hJ hdep haft hnot b hb hb' K hK Q'
      have e2 := (hb' 2 (by simp)).trans s2
      clear hb hb'
      go_simp
      exact hK _ _ rfl (fun _ _ _ h => h) hJ
    · intro done us W hJ hdep haft hnot b hb hb' K hK Q'
      simp only [List.getD_cons_succ, List.getD_cons_zero, List.mem_cons, List.not_mem_nil, or_false, forall_eq_or_imp, forall_eq] at hdep
      have e18 := hb 13 18 rfl
      have d13 := hdep
      rw [d13.1] at e18
      clear hb hb' hdep d13
      have q := Ext.cell hJ x2
      go_simp
      exact hK _ _ rfl (fun _ _ _ h => h) hJ
    · intro done us W hJ hdep haft hnot b hb hb' K hK Q'
      have e3 := (hb' 3 (by simp)).trans s3
      clear hb hb'
      go_simp
      exact hK _ _ rfl (fun _ _ _ h => h) hJ
    · intro done us W hJ hdep haft hnot b hb hb' K hK Q'
      simp only [List.getD_cons_succ, List.getD_cons_zero, List.mem_cons, List.not_mem_nil, or_false, forall_eq_or_imp, forall_eq] at hdep
      have e20 := hb 15 20 rfl
      have d15 := hdep
      rw [d15.1] at e20
      clear hb hb' hdep d15
      have q := Ext.cell hJ y2
      go_simp
      exact hK _ _ rfl (fun _ _ _ h => h) hJ
    · intro done us W hJ hdep haft hnot b hb hb' K hK Q'
      simp only [List.getD_cons_succ, List.getD_cons_zero, List.mem_cons, List.not_mem_nil, or_false, forall_eq_or_imp, forall_eq] at hdep
      have e19 := hb 14 19 rfl
      have e21 := hb 16 21 rfl
      have d14 := hdep.1
      have d16 := hdep.2
      rw [d14.1] at e19
      rw [d16.1] at e21
      clear hb hb' hdep d14 d16
      go_simp
      refine (times16_any _ _ q.den r.den L M _ (Z16.ext (QZ.den hx) hJ) (Z16.ext (QZ.den hy) hJ) fq.2 fr.2 (by omega) (by omega)).mono ?_
      rintro e w' ⟨v, rfl, hv, hX⟩
      exact hK _ _ hv (fun j u _ h => hmono _ _ j u hX h) (Ext.trans hJ hX)
    · intro done us W hJ hdep haft hnot b hb hb' K hK Q'
      simp only [List.getD_cons_succ, List.getD_cons_zero, List.mem_cons, List.not_mem_nil, or_false, forall_eq_or_imp, forall_eq] at hdep
      have e22 := hb 17 22 rfl
      have d17 := hdep
      clear hb hb' hdep 
      obtain ⟨A9, l9, c9, hv9, g9, _⟩ := Z16.open d17.1
      rw [hv9] at e22
      go_simp
      exact hK _ _ ⟨_, _, _, rfl, g9⟩ (fun _ _ _ h => h) hJ
    · intro done us W hJ hdep haft hnot b hb hb' K hK Q'
      simp only [List.getD_cons_succ, List.getD_cons_zero, List.mem_cons, List.not_mem_nil, or_false, forall_eq_or_imp, forall_eq] at hdep
      have e17 := hb 12 17 rfl
      have e23 := hb 18 23 rfl
      have d12 := hdep.1
      have d18 := hdep.2
      clear hb hb' hdep 
      obtain ⟨A9, l9, c9, hv9, g9⟩ := d18.1
      rw [hv9] at e23
      go_simp
      refine ((fracI _ _ false A9 l9 c9 _ (L + M + 1) _ d12.1 g9 (fit_addI (fit_mulI fq.1 (by simpa using fr.2) (Nat.le_refl _)) (fit_mulI fr.1 (by simpa using fq.2) (by omega)) (by omega)) (fit_mul fq.2 fr.2 (by omega)) (by omega) (Nat.mul_pos q.den_pos r.den_pos)).mono (RetQz.of (q_add q r))).mono ?_
      rintro e w' ⟨v, rfl, hv, hX⟩
      exact hK _ _ hv (fun j u _ h => hmono _ _ j u hX h) (Ext.trans hJ hX)
  · intro us W hV hJ
    exact hend (us 0) (us 1) (us 2) (us 3) (us 4) (us 5) (us 6) (us 7) (us 8) (us 9) (us 10) (us 11) (us 12) (us 13) (us 14) (us 15) (us 16) (us 17) (us 18) (us 19) W (hV 0 (by omega)) (hV 1 (by omega)) (hV 2 (by omega)) (hV 3 (by omega)) (hV 4 (by omega)) (hV 5 (by omega)) (hV 6 (by omega)) (hV 7 (by omega)) (hV 8 (by omega)) (hV 9 (by omega)) (hV 10 (by omega)) (hV 11 (by omega)) (hV 12 (by omega)) (hV 13 (by omega)) (hV 14 (by omega)) (hV 15 (by omega)) (hV 16 (by omega)) (hV 17 (by omega)) (hV 18 (by omega)) (hV 19 (by omega)) hJ
set_option maxRecDepth 100000 in
set_option maxHeartbeats 2000000 in
theorem qadd_v (s0 : Bool) (A0 B0 : Option Addr) (l0 c0 m0 k0 : Nat) (s1 : Bool) (A1 B1 : Option Addr) (l1 c1 m1 k1 : Nat) (q r : Rat) (L M : Nat) (w : World) (hx : QZ w (.agg #[.bool s0, .slice A0 l0 c0, .slice B0 m0 k0]) q) (hy : QZ w (.agg #[.bool s1, .slice A1 l1 c1, .slice B1 m1 k1]) r) (fq : FitR q L) (fr : FitR r M) (hLM : L + M + 1 ≤ 400000) :
    Calls Try.prog 105 #[.agg #[.bool s0, .slice A0 l0 c0, .slice B0 m0 k0], .agg #[.bool s1, .slice A1 l1 c1, .slice B1 m1 k1]] w (RetQz w (q + r)) := by
  have HXX := Lib.hid hx
  have HYY := Lib.hid hy
  have HFQ := Lib.hid fq
  have HFR := Lib.hid fr
  clear hx hy fq fr
  have hXe : Ext w (((w.alloc (.cells #[.bool s0, .slice A0 l0 c0, .slice B0 m0 k0] 42)).alloc (.cells #[.bool s1, .slice A1 l1 c1, .slice B1 m1 k1] 42)).alloc (.cells #[.bool false, .slice none 0 0, .slice none 0 0] 42)) := ((((Ext.refl w).alloc _).alloc _).alloc _)
  have kA : Blk (((w.alloc (.cells #[.bool s0, .slice A0 l0 c0, .slice B0 m0 k0] 42)).alloc (.cells #[.bool s1, .slice A1 l1 c1, .slice B1 m1 k1] 42)).alloc (.cells #[.bool false, .slice none 0 0, .slice none 0 0] 42)) w.heap.size 42 #[.bool s0, .slice A0 l0 c0, .slice B0 m0 k0] := Blk.alloc (Blk.alloc (Blk.at_ (by simp)) _) _
  have kB : Blk (((w.alloc (.cells #[.bool s0, .slice A0 l0 c0, .slice B0 m0 k0] 42)).alloc (.cells #[.bool s1, .slice A1 l1 c1, .slice B1 m1 k1] 42)).alloc (.cells #[.bool false, .slice none 0 0, .slice none 0 0] 42)) (w.heap.size + 1) 42 #[.bool s1, .slice A1 l1 c1, .slice B1 m1 k1] := Blk.alloc (Blk.at_ (by simp)) _
  have kR : Blk (((w.alloc (.cells #[.bool s0, .slice A0 l0 c0, .slice B0 m0 k0] 42)).alloc (.cells #[.bool s1, .slice A1 l1 c1, .slice B1 m1 k1] 42)).alloc (.cells #[.bool false, .slice none 0 0, .slice none 0 0] 42)) (w.heap.size + 2) 42 #[.bool false, .slice none 0 0, .slice none 0 0] := Blk.at_ (by simp)
  go_enter Try.func105, Try.ntmps105
  go_wp2_with fail
  generalize (((w.alloc (.cells #[.bool s0, .slice A0 l0 c0, .slice B0 m0 k0] 42)).alloc (.cells #[.bool s1, .slice A1 l1 c1, .slice B1 m1 k1] 42)).alloc (.cells #[.bool false, .slice none 0 0, .slice none 0 0] 42)) = w1 at hXe kA kB kR ⊢
  have HX := Lib.hid hXe
  clear hXe
  have KA := Lib.hid kA
  clear kA
  have KB := Lib.hid kB
  clear kB
  have KR := Lib.hid kR
  clear kR
  replace HXX := Lib.hid (HXX.out.ext HX.out)
  replace HYY := Lib.hid (HYY.out.ext HX.out)
  go_upto_region 1 with (fail)
  refine qadd_r1 w.heap.size (w.heap.size + 1) L M s0 A0 B0 l0 c0 m0 k0 s1 A1 B1 l1 c1 m1 k1 q r w1 (KA.out.cell 0) (KA.out.cell 1) (KA.out.cell 2) (KB.out.cell 0) (KB.out.cell 1) (KB.out.cell 2) HXX.out HYY.out HFQ.out HFR.out hLM _ _ (by simp) rfl rfl ?_
  rintro xv0 xv1 xv2 xv3 xv4 xv5 xv6 xv7 xv8 xv9 xv10 xv11 xv12 xv13 xv14 xv15 xv16 xv17 xv18 xv19 w2 rfl rfl rfl rfl rfl _ rfl rfl rfl rfl rfl _ _ rfl rfl rfl rfl _ _ hv hXW
  simp only [rops, Try.f105, regOf, Option.bind_some, Nat.reduceBEq, if_true, if_false, Bool.false_eq_true, Option.getD_some, List.drop_succ_cons, List.drop_zero]
  simp only [Act.put, List.setIfInBounds_toArray, List.set_cons_succ, List.set_cons_zero]
  replace HX := Lib.hid (HX.out.trans hXW)
  replace HXX := Lib.hid (HXX.out.ext hXW)
  replace HYY := Lib.hid (HYY.out.ext hXW)
  replace KA := Lib.hid (KA.out.ext hXW)
  replace KB := Lib.hid (KB.out.ext hXW)
  replace KR := Lib.hid (KR.out.ext hXW)
  clear hXW
  obtain ⟨s9, A9, l9, c9, B9, m9, k9, rfl⟩ := QZ.open hv
  have HV := Lib.hid (QZ.past hv (NoInts.three KR.out))
  clear hv
  have cR0 : w2.cell? ⟨(w.heap.size + 2), 0, none⟩ = some (.bool false) := KR.out.cell 0
  have fR0 : w2.frozen? ⟨(w.heap.size + 2), 0, none⟩ = false := KR.out.free 0
  have cR1 : w2.cell? ⟨(w.heap.size + 2), 1, none⟩ = some (.slice none 0 0) := KR.out.cell 1
  have fR1 : w2.frozen? ⟨(w.heap.size + 2), 1, none⟩ = false := KR.out.free 1
  have cR2 : w2.cell? ⟨(w.heap.size + 2), 2, none⟩ = some (.slice none 0 0) := KR.out.cell 2
  have fR2 : w2.frozen? ⟨(w.heap.size + 2), 2, none⟩ = false := KR.out.free 2
  go_wp2
  refine bodyPost_ret (v := .agg #[.bool s9, .slice A9 l9 c9, .slice B9 m9 k9]) (by simp [results, Try.results105, go_sem, *]) rfl ?_
  exact ⟨_, rfl, HV.out, Ext.boxed HX.out (by omega) _ _ _⟩

theorem qadd_any (va vb : Value) (q r : Rat) (L M : Nat) (w : World) (hx : QZ w va q) (hy : QZ w vb r) (fq : FitR q L) (fr : FitR r M) (hLM : L + M + 1 ≤ 400000) : Calls Try.prog 105 #[va, vb] w (RetQz w (q + r)) := by
  obtain ⟨s0, A0, l0, c0, B0, m0, k0, rfl⟩ := hx.open
  obtain ⟨s1, A1, l1, c1, B1, m1, k1, rfl⟩ := hy.open
  exact qadd_v s0 A0 B0 l0 c0 m0 k0 s1 A1 B1 l1 c1 m1 k1 q r L M w hx hy fq fr hLM

set_option maxRecDepth 100000 in
set_option maxHeartbeats 2000000 in
theorem qsub_r1 (ga gb L M : Nat) (s0 : Bool) (A0 B0 : Option Addr) (l0 c0 m0 k0 : Nat) (s1 : Bool) (A1 B1 : Option Addr) (l1 c1 m1 k1 : Nat) (q r : Rat) (w : World) (x0 : w.cell? ⟨ga, 0, none⟩ = some (.bool s0)) (x1 : w.cell? ⟨ga, 1, none⟩ = some (.slice A0 l0 c0)) (x2 : w.cell? ⟨ga, 2, none⟩ = some (.slice B0 m0 k0)) (y0 : w.cell? ⟨gb, 0, none⟩ = some (.bool s1)) (y1 : w.cell? ⟨gb, 1, none⟩ = some (.slice A1 l1 c1)) (y2 : w.cell? ⟨gb, 2, none⟩ = some (.slice B1 m1 k1)) (hx : QZ w (.agg #[.bool s0, .slice A0 l0 c0, .slice B0 m0 k0]) q) (hy : QZ w (.agg #[.bool s1, .slice A1 l1 c1, .slice B1 m1 k1]) r) (fq : FitR q L) (fr : FitR r M) (hLM : L + M + 1 ≤ 400000) (a : Act) (Q : Exit → Act → World → Prop) (hsize : 9 ≤ a.tmps.size)
    (s2 : a.tmps[2]? = some (.pointer (some ⟨ga, 0, none⟩)))
    (s3 : a.tmps[3]? = some (.pointer (some ⟨gb, 0, none⟩)))
    (hend : ∀ (xv0 xv1 xv2 xv3 : Value) (W : World), (xv0 = .agg #[.bool s0, .slice A0 l0 c0, .slice B0 m0 k0]) → (xv1 = .agg #[.bool s1, .slice A1 l1 c1, .slice B1 m1 k1]) → (QZ W xv2 (-r)) → (QZ W xv3 (q - r)) → Ext w W → wpList Try.prog (rops Try.f106 1).toArray Q ((rops Try.f106 1).drop 4) ((((a.put (some 5) xv0).put (some 6) xv1).put (some 7) xv2).put (some 8) xv3) W) :
    (Code.region 1 (rops Try.f106 1).toArray true).wp Try.prog Q a w := by
  have hmono : ∀ (W W' : World) (j : Nat) (u : Value), Ext W W' → (fun (i : Nat) (v : Value) (W : World) => match i with
    | 0 => v = .agg #[.bool s0, .slice A0 l0 c0, .slice B0 m0 k0]
    | 1 => v = .agg #[.bool s1, .slice A1 l1 c1, .slice B1 m1 k1]
    | 2 => QZ W v (-r)
    | 3 => QZ W v (q - r)
    | _ => True) j u W → (fun (i : Nat) (v : Value) (W : World) => match i with
    | 0 => v = .agg #[.bool s0, .slice A0 l0 c0, .slice B0 m0 k0]
    | 1 => v = .agg #[.bool s1, .slice A1 l1 c1, .slice B1 m1 k1]
    | 2 => QZ W v (-r)
    | 3 => QZ W v (q - r)
    | _ => True) j u W' := by
    intro W W' j u hX h
    match j, h with
    | 0, h => exact h
    | 1, h => exact h
    | 2, h => exact QZ.ext h hX
    | 3, h => exact QZ.ext h hX
    | _ + 4, h => exact h
  have hsz : ∀ d, some d ∈ ([some 5, some 6, some 7, some 8] : List (Option Tmp)) → d < a.tmps.size := slots_lt (by decide) hsize
  refine wp_region_j 4 [some 5, some 6, some 7, some 8] [[], [], [1], [0, 2]] [[], [], [], []] (fun (i : Nat) (v : Value) (W : World) => match i with
    | 0 => v = .agg #[.bool s0, .slice A0 l0 c0, .slice B0 m0 k0]
    | 1 => v = .agg #[.bool s1, .slice A1 l1 c1, .slice B1 m1 k1]
    | 2 => QZ W v (-r)
    | 3 => QZ W v (q - r)
    | _ => True) (fun _ W => Ext w W) (by kernel_rfl) (by kernel_rfl) hsz (fun _ _ _ _ h => h) ((Ext.refl w).drew) ?_ ?_
  · clear hend
    simp only [rops, Try.f106, regOf, Option.bind_some, Nat.reduceBEq, if_true, if_false, Bool.false_eq_true, Option.getD_some]
    simp only [List.take_succ_cons, List.take_zero]
    refine ⟨?_, ?_, ?_, ?_, trivial⟩
    · intro done us W hJ hdep haft hnot b hb hb' K hK Q'
      have e2 := (hb' 2 (by simp)).trans s2
      clear hb hb'
      have z0 := Ext.cell hJ x0
      have z1 := Ext.cell hJ x1
      have z2 := Ext.cell hJ x2
      go_simp
      exact hK _ _ rfl (fun _ _ _ h => h) hJ
    · intro done us W hJ hdep haft hnot b hb hb' K hK Q'
      have e3 := (hb' 3 (by simp)).trans s3
      clear hb hb'
      have z0 := Ext.cell hJ y0
      have z1 := Ext.cell hJ y1
      have z2 := Ext.cell hJ y2
      go_simp
      exact hK _ _ rfl (fun _ _ _ h => h) hJ
    · intro done us W hJ hdep haft hnot b hb hb' K hK Q'
      simp only [List.getD_cons_succ, List.getD_cons_zero, List.mem_cons, List.not_mem_nil, or_false, forall_eq_or_imp, forall_eq] at hdep
      have e6 := hb 1 6 rfl
      have d1 := hdep
      rw [d1.1] at e6
      clear hb hb' hdep d1
      go_simp
      refine (qminus_any _ _ _ (QZ.ext hy hJ)).mono ?_
      rintro e w' ⟨v, rfl, hv, hX⟩
      exact hK _ _ hv (fun j u _ h => hmono _ _ j u hX h) (Ext.trans hJ hX)
    · intro done us W hJ hdep haft hnot b hb hb' K hK Q'
      simp only [List.getD_cons_succ, List.getD_cons_zero, List.mem_cons, List.not_mem_nil, or_false, forall_eq_or_imp, forall_eq] at hdep
      have e5 := hb 0 5 rfl
      have e7 := hb 2 7 rfl
      have d0 := hdep.1
      have d2 := hdep.2
      rw [d0.1] at e5
      clear hb hb' hdep d0
      go_simp
      refine ((qadd_any _ _ q (-r) L M _ (QZ.ext hx hJ) d2.1 fq (fitR_neg fr) hLM).mono (RetQz.of (Rat.sub_eq_add_neg q r).symm)).mono ?_
      rintro e w' ⟨v, rfl, hv, hX⟩
      exact hK _ _ hv (fun j u _ h => hmono _ _ j u hX h) (Ext.trans hJ hX)
  · intro us W hV hJ
    exact hend (us 0) (us 1) (us 2) (us 3) W (hV 0 (by omega)) (hV 1 (by omega)) (hV 2 (by omega)) (hV 3 (by omega)) hJ
set_option maxRecDepth 100000 in
set_option maxHeartbeats 2000000 in
theorem qsub_v (s0 : Bool) (A0 B0 : Option Addr) (l0 c0 m0 k0 : Nat) (s1 : Bool) (A1 B1 : Option Addr) (l1 c1 m1 k1 : Nat) (q r : Rat) (L M : Nat) (w : World) (hx : QZ w (.agg #[.bool s0, .slice A0 l0 c0, .slice B0 m0 k0]) q) (hy : QZ w (.agg #[.bool s1, .slice A1 l1 c1, .slice B1 m1 k1]) r) (fq : FitR q L) (fr : FitR r M) (hLM : L + M + 1 ≤ 400000) :
    Calls Try.prog 106 #[.agg #[.bool s0, .slice A0 l0 c0, .slice B0 m0 k0], .agg #[.bool s1, .slice A1 l1 c1, .slice B1 m1 k1]] w (RetQz w (q - r)) := by
  have HXX := Lib.hid hx
  have HYY := Lib.hid hy
  have HFQ := Lib.hid fq
  have HFR := Lib.hid fr
  clear hx hy fq fr
  have hXe : Ext w (((w.alloc (.cells #[.bool s0, .slice A0 l0 c0, .slice B0 m0 k0] 42)).alloc (.cells #[.bool s1, .slice A1 l1 c1, .slice B1 m1 k1] 42)).alloc (.cells #[.bool false, .slice none 0 0, .slice none 0 0] 42)) := ((((Ext.refl w).alloc _).alloc _).alloc _)
  have kA : Blk (((w.alloc (.cells #[.bool s0, .slice A0 l0 c0, .slice B0 m0 k0] 42)).alloc (.cells #[.bool s1, .slice A1 l1 c1, .slice B1 m1 k1] 42)).alloc (.cells #[.bool false, .slice none 0 0, .slice none 0 0] 42)) w.heap.size 42 #[.bool s0, .slice A0 l0 c0, .slice B0 m0 k0] := Blk.alloc (Blk.alloc (Blk.at_ (by simp)) _) _
  have kB : Blk (((w.alloc (.cells #[.bool s0, .slice A0 l0 c0, .slice B0 m0 k0] 42)).alloc (.cells #[.bool s1, .slice A1 l1 c1, .slice B1 m1 k1] 42)).alloc (.cells #[.bool false, .slice none 0 0, .slice none 0 0] 42)) (w.heap.size + 1) 42 #[.bool s1, .slice A1 l1 c1, .slice B1 m1 k1] := Blk.alloc (Blk.at_ (by simp)) _
  have kR : Blk (((w.alloc (.cells #[.bool s0, .slice A0 l0 c0, .slice B0 m0 k0] 42)).alloc (.cells #[.bool s1, .slice A1 l1 c1, .slice B1 m1 k1] 42)).alloc (.cells #[.bool false, .slice none 0 0, .slice none 0 0] 42)) (w.heap.size + 2) 42 #[.bool false, .slice none 0 0, .slice none 0 0] := Blk.at_ (by simp)
  go_enter Try.func106, Try.ntmps106
  go_wp2_with fail
  generalize (((w.alloc (.cells #[.bool s0, .slice A0 l0 c0, .slice B0 m0 k0] 42)).alloc (.cells #[.bool s1, .slice A1 l1 c1, .slice B1 m1 k1] 42)).alloc (.cells #[.bool false, .slice none 0 0, .slice none 0 0] 42)) = w1 at hXe kA kB kR ⊢
  have HX := Lib.hid hXe
  clear hXe
  have KA := Lib.hid kA
  clear kA
  have KB := Lib.hid kB
  clear kB
  have KR := Lib.hid kR
  clear kR
  replace HXX := Lib.hid (HXX.out.ext HX.out)
  replace HYY := Lib.hid (HYY.out.ext HX.out)
  go_upto_region 1 with (fail)
  refine qsub_r1 w.heap.size (w.heap.size + 1) L M s0 A0 B0 l0 c0 m0 k0 s1 A1 B1 l1 c1 m1 k1 q r w1 (KA.out.cell 0) (KA.out.cell 1) (KA.out.cell 2) (KB.out.cell 0) (KB.out.cell 1) (KB.out.cell 2) HXX.out HYY.out HFQ.out HFR.out hLM _ _ (by simp) rfl rfl ?_
  rintro xv0 xv1 xv2 xv3 w2 rfl rfl _ hv hXW
  simp only [rops, Try.f106, regOf, Option.bind_some, Nat.reduceBEq, if_true, if_false, Bool.false_eq_true, Option.getD_some, List.drop_succ_cons, List.drop_zero]
  simp only [Act.put, List.setIfInBounds_toArray, List.set_cons_succ, List.set_cons_zero]
  replace HX := Lib.hid (HX.out.trans hXW)
  replace HXX := Lib.hid (HXX.out.ext hXW)
  replace HYY := Lib.hid (HYY.out.ext hXW)
  replace KA := Lib.hid (KA.out.ext hXW)
  replace KB := Lib.hid (KB.out.ext hXW)
  replace KR := Lib.hid (KR.out.ext hXW)
  clear hXW
  obtain ⟨s9, A9, l9, c9, B9, m9, k9, rfl⟩ := QZ.open hv
  have HV := Lib.hid (QZ.past hv (NoInts.three KR.out))
  clear hv
  have cR0 : w2.cell? ⟨(w.heap.size + 2), 0, none⟩ = some (.bool false) := KR.out.cell 0
  have fR0 : w2.frozen? ⟨(w.heap.size + 2), 0, none⟩ = false := KR.out.free 0
  have cR1 : w2.cell? ⟨(w.heap.size + 2), 1, none⟩ = some (.slice none 0 0) := KR.out.cell 1
  have fR1 : w2.frozen? ⟨(w.heap.size + 2), 1, none⟩ = false := KR.out.free 1
  have cR2 : w2.cell? ⟨(w.heap.size + 2), 2, none⟩ = some (.slice none 0 0) := KR.out.cell 2
  have fR2 : w2.frozen? ⟨(w.heap.size + 2), 2, none⟩ = false := KR.out.free 2
  go_wp2
  refine bodyPost_ret (v := .agg #[.bool s9, .slice A9 l9 c9, .slice B9 m9 k9]) (by simp [results, Try.results106, go_sem, *]) rfl ?_
  exact ⟨_, rfl, HV.out, Ext.boxed HX.out (by omega) _ _ _⟩

theorem qsub_any (va vb : Value) (q r : Rat) (L M : Nat) (w : World) (hx : QZ w va q) (hy : QZ w vb r) (fq : FitR q L) (fr : FitR r M) (hLM : L + M + 1 ≤ 400000) : Calls Try.prog 106 #[va, vb] w (RetQz w (q - r)) := by
  obtain ⟨s0, A0, l0, c0, B0, m0, k0, rfl⟩ := hx.open
  obtain ⟨s1, A1, l1, c1, B1, m1, k1, rfl⟩ := hy.open
  exact qsub_v s0 A0 B0 l0 c0 m0 k0 s1 A1 B1 l1 c1 m1 k1 q r L M w hx hy fq fr hLM

set_option maxRecDepth 100000 in
set_option maxHeartbeats 2000000 in
theorem qmul_r1 (ga gb L M : Nat) (s0 : Bool) (A0 B0 : Option Addr) (l0 c0 m0 k0 : Nat) (s1 : Bool) (A1 B1 : Option Addr) (l1 c1 m1 k1 : Nat) (q r : Rat) (w : World) (x0 : w.cell? ⟨ga, 0, none⟩ = some (.bool s0)) (x1 : w.cell? ⟨ga, 1, none⟩ = some (.slice A0 l0 c0)) (x2 : w.cell? ⟨ga, 2, none⟩ = some (.slice B0 m0 k0)) (y0 : w.cell? ⟨gb, 0, none⟩ = some (.bool s1)) (y1 : w.cell? ⟨gb, 1, none⟩ = some (.slice A1 l1 c1)) (y2 : w.cell? ⟨gb, 2, none⟩ = some (.slice B1 m1 k1)) (hx : QZ w (.agg #[.bool s0, .slice A0 l0 c0, .slice B0 m0 k0]) q) (hy : QZ w (.agg #[.bool s1, .slice A1 l1 c1, .slice B1 m1 k1]) r) (fq : FitR q L) (fr : FitR r M) (hLM : L + M + 1 ≤ 400000) (a : Act) (Q : Exit → Act → World → Prop) (hsize : 17 ≤ a.tmps.size)
    (s2 : a.tmps[2]? = some (.pointer (some ⟨ga, 0, none⟩)))
    (s3 : a.tmps[3]? = some (.pointer (some ⟨gb, 0, none⟩)))
    (hend : ∀ (xv0 xv1 xv2 xv3 xv4 xv5 xv6 xv7 xv8 xv9 xv10 xv11 : Value) (W : World), (xv0 = .pointer (some ⟨ga, 0, none⟩)) → (xv1 = .agg #[.bool s0, .slice A0 l0 c0]) → (xv2 = .pointer (some ⟨gb, 0, none⟩)) → (xv3 = .agg #[.bool s1, .slice A1 l1 c1]) → (IntZ W xv4 (q.num * r.num)) → (xv5 = .pointer (some ⟨ga, 2, none⟩)) → (xv6 = .slice B0 m0 k0) → (xv7 = .pointer (some ⟨gb, 2, none⟩)) → (xv8 = .slice B1 m1 k1) → (Z16 W xv9 (q.den * r.den)) → (∃ A l c, xv10 = .agg #[.bool false, .slice A l c] ∧ Z16 W (.slice A l c) (q.den * r.den)) → (QZ W xv11 (q * r)) → Ext w W → wpList Try.prog (rops Try.f107 1).toArray Q ((rops Try.f107 1).drop 12) ((((((((((((a.put (some 5) xv0).put (some 6) xv1).put (some 7) xv2).put (some 8) xv3).put (some 9) xv4).put (some 10) xv5).put (some 11) xv6).put (some 12) xv7).put (some 13) xv8).put (some 14) xv9).put (some 15) xv10).put (some 16) xv11) W) :
    (Code.region 1 (rops Try.f107 1).toArray true).wp Try.prog Q a w := by
  have hmono : ∀ (W W' : World) (j : Nat) (u : Value), Ext W W' → (fun (i : Nat) (v : Value) (W : World) => match i with
    | 0 => v = .pointer (some ⟨ga, 0, none⟩)
    | 1 => v = .agg #[.bool s0, .slice A0 l0 c0]
    | 2 => v = .pointer (some ⟨gb, 0, none⟩)
    | 3 => v = .agg #[.bool s1, .slice A1 l1 c1]
    | 4 => IntZ W v (q.num * r.num)
    | 5 => v = .pointer (some ⟨ga, 2, none⟩)
    | 6 => v = .slice B0 m0 k0
    | 7 => v = .pointer (some ⟨gb, 2, none⟩)
    | 8 => v = .slice B1 m1 k1
    | 9 => Z16 W v (q.den * r.den)
    | 10 => ∃ A l c, v = .agg #[.bool false, .slice A l c] ∧ Z16 W (.slice A l c) (q.den * r.den)
    | 11 => QZ W v (q * r)
    | _ => True) j u W → (fun (i : Nat) (v : Value) (W : World) => match i with
    | 0 => v = .pointer (some ⟨ga, 0, none⟩)
    | 1 => v = .agg #[.bool s0, .slice A0 l0 c0]
    | 2 => v = .pointer (some ⟨gb, 0, none⟩)
    | 3 => v = .agg #[.bool s1, .slice A1 l1 c1]
    | 4 => IntZ W v (q.num * r.num)
    | 5 => v = .pointer (some ⟨ga, 2, none⟩)
    | 6 => v = .slice B0 m0 k0
    | 7 => v = .pointer (some ⟨gb, 2, none⟩)
    | 8 => v = .slice B1 m1 k1
    | 9 => Z16 W v (q.den * r.den)
    | 10 => ∃ A l c, v = .agg #[.bool false, .slice A l c] ∧ Z16 W (.slice A l c) (q.den * r.den)
    | 11 => QZ W v (q * r)
    | _ => True) j u W' := by
    intro W W' j u hX h
    match j, h with
    | 0, h => exact h
    | 1, h => exact h
    | 2, h => exact h
    | 3, h => exact h
    | 4, h => exact IntZ.ext h hX
    | 5, h => exact h
    | 6, h => exact h
    | 7, h => exact h
    | 8, h => exact h
    | 9, h => exact Z16.ext h hX
    | 10, h => obtain ⟨A, l, c, h1, h2⟩ := h; exact ⟨A, l, c, h1, Z16.ext h2 hX⟩
    | 11, h => exact QZ.ext h hX
    | _ + 12, h => exact h
  have hsz : ∀ d, some d ∈ ([some 5, some 6, some 7, some 8, some 9, some 10, some 11, some 12, some 13, some 14, some 15, some 16] : List (Option Tmp)) → d < a.tmps.size := slots_lt (by decide) hsize
  refine wp_region_j 12 [some 5, some 6, some 7, some 8, some 9, some 10, some 11, some 12, some 13, some 14, some 15, some 16] [[], [0], [], [2], [1, 3], [], [5], [], [7], [6, 8], [9], [4, 10]] [[], [], [], [], [], [], [], [], [], [], [], []] (fun (i : Nat) (v : Value) (W : World) => match i with
    | 0 => v = .pointer (some ⟨ga, 0, none⟩)
    | 1 => v = .agg #[.bool s0, .slice A0 l0 c0]
    | 2 => v = .pointer (some ⟨gb, 0, none⟩)
    | 3 => v = .agg #[.bool s1, .slice A1 l1 c1]
    | 4 => IntZ W v (q.num * r.num)
    | 5 => v = .pointer (some ⟨ga, 2, none⟩)
    | 6 => v = .slice B0 m0 k0
    | 7 => v = .pointer (some ⟨gb, 2, none⟩)
    | 8 => v = .slice B1 m1 k1
    | 9 => Z16 W v (q.den * r.den)
    | 10 => ∃ A l c, v = .agg #[.bool false, .slice A l c] ∧ Z16 W (.slice A l c) (q.den * r.den)
    | 11 => QZ W v (q * r)
    | _ => True) (fun _ W => Ext w W) (by kernel_rfl) (by kernel_rfl) hsz (fun _ _ _ _ h => h) ((Ext.refl w).drew) ?_ ?_
  · clear hend
    simp only [rops, Try.f107, regOf, Option.bind_some, Nat.reduceBEq, if_true, if_false, Bool.false_eq_true, Option.getD_some]
    simp only [List.take_succ_cons, List.take_zero]
    refine ⟨?_, ?_, ?_, ?_, ?_, ?_, ?_, ?_, ?_, ?_, ?_, ?_, trivial⟩
    · intro done us W hJ hdep haft hnot b hb hb' K hK Q'
      have e2 := (hb' 2 (by simp)).trans s2
      clear hb hb'
      go_simp
      exact hK _ _ rfl (fun _ _ _ h => h) hJ
    · intro done us W hJ hdep haft hnot b hb hb' K hK Q'
      simp only [List.getD_cons_succ, List.getD_cons_zero, List.mem_cons, List.not_mem_nil, or_false, forall_eq_or_imp, forall_eq] at hdep
      have e5 := hb 0 5 rfl
      have d0 := hdep
      rw [d0.1] at e5
      clear hb hb' hdep d0
      have z0 := Ext.cell hJ x0
      have z1 := Ext.cell hJ x1
      go_simp
      exact hK _ _ rfl (fun _ _ _ h => h) hJ
    · intro done us W hJ hdep haft hnot b hb hb' K hK Q'
      have e3 := (hb' 3 (by simp)).trans s3
      clear hb hb'
      go_simp
      exact hK _ _ rfl (fun _ _ _ h => h) hJ
    · intro done us W hJ hdep haft hnot b hb hb' K hK Q'
      simp only [List.getD_cons_succ, List.getD_cons_zero, List.mem_cons, List.not_mem_nil, or_false, forall_eq_or_imp, forall_eq] at hdep
      have e7 := hb 2 7 rfl
      have d2 := hdep
      rw [d2.1] at e7
      clear hb hb' hdep d2
      have z0 := Ext.cell hJ y0
      have z1 := Ext.cell hJ y1
      go_simp
      exact hK _ _ rfl (fun _ _ _ h => h) hJ
    · intro done us W hJ hdep haft hnot b hb hb' K hK Q'
      simp only [List.getD_cons_succ, List.getD_cons_zero, List.mem_cons, List.not_mem_nil, or_false, forall_eq_or_imp, forall_eq] at hdep
      have e6 := hb 1 6 rfl
      have e8 := hb 3 8 rfl
      have d1 := hdep.1
      have d3 := hdep.2
      rw [d1.1] at e6
      rw [d3.1] at e8
      clear hb hb' hdep d1 d3
      go_simp
      refine (zmul_any _ _ q.num r.num L M _ (IntZ.ext (QZ.num hx) hJ) (IntZ.ext (QZ.num hy) hJ) fq.1 fr.1 (by omega) (by omega)).mono ?_
      rintro e w' ⟨v, rfl, hv, hX⟩
      exact hK _ _ hv (fun j u _ h => hmono _ _ j u hX h) (Ext.trans hJ hX)
    · intro done us W hJ hdep haft hnot b hb hb' K hK Q'
      have e2 := (hb' 2 (by simp)).trans s2
      clear hb hb'
      go_simp
      exact hK _ _ rfl (fun _ _ _ h => h) hJ
    · intro done us W hJ hdep haft hnot b hb hb' K hK Q'
      simp only [List.getD_cons_succ, List.getD_cons_zero, List.mem_cons, List.not_mem_nil, or_false, forall_eq_or_imp, forall_eq] at hdep
      have e10 := hb 5 10 rfl
      have d5 := hdep
      rw [d5.1] at e10
      clear hb hb' hdep d5
      have q := Ext.cell hJ x2
      go_simp
      exact hK _ _ rfl (fun _ _ _ h => h) hJ
    · intro done us W hJ hdep haft hnot b hb hb' K hK Q'
      have e3 := (hb' 3 (by simp)).trans s3
      clear hb hb'
      go_simp
      exact hK _ _ rfl (fun _ _ _ h => h) hJ
    · intro done us W hJ hdep haft hnot b hb hb' K hK Q'
      simp only [List.getD_cons_succ, List.getD_cons_zero, List.mem_cons, List.not_mem_nil, or_false, forall_eq_or_imp, forall_eq] at hdep
      have e12 := hb 7 12 rfl
      have d7 := hdep
      rw [d7.1] at e12
      clear hb hb' hdep d7
      have q := Ext.cell hJ y2
      go_simp
      exact hK _ _ rfl (fun _ _ _ h => h) hJ
    · intro done us W hJ hdep haft hnot b hb hb' K hK Q'
      simp only [List.getD_cons_succ, List.getD_cons_zero, List.mem_cons, List.not_mem_nil, or_false, forall_eq_or_imp, forall_eq] at hdep
      have e11 := hb 6 11 rfl
      have e13 := hb 8 13 rfl
      have d6 := hdep.1
      have d8 := hdep.2
      rw [d6.1] at e11
      rw [d8.1] at e13
      clear hb hb' hdep d6 d8
      go_simp
      refine (times16_any _ _ q.den r.den L M _ (Z16.ext (QZ.den hx) hJ) (Z16.ext (QZ.den hy) hJ) fq.2 fr.2 (by omega) (by omega)).mono ?_
      rintro e w' ⟨v, rfl, hv, hX⟩
      exact hK _ _ hv (fun j u _ h => hmono _ _ j u hX h) (Ext.trans hJ hX)
    · intro done us W hJ hdep haft hnot b hb hb' K hK Q'
      simp only [List.getD_cons_succ, List.getD_cons_zero, List.mem_cons, List.not_mem_nil, or_false, forall_eq_or_imp, forall_eq] at hdep
      have e14 := hb 9 14 rfl
      have d9 := hdep
      clear hb hb' hdep 
      obtain ⟨A9, l9, c9, hv9, g9, _⟩ := Z16.open d9.1
      rw [hv9] at e14
      go_simp
      exact hK _ _ ⟨_, _, _, rfl, g9⟩ (fun _ _ _ h => h) hJ
    · intro done us W hJ hdep haft hnot b hb hb' K hK Q'
      simp only [List.getD_cons_succ, List.getD_cons_zero, List.mem_cons, List.not_mem_nil, or_false, forall_eq_or_imp, forall_eq] at hdep
      have e9 := hb 4 9 rfl
      have e15 := hb 10 15 rfl
      have d4 := hdep.1
      have d10 := hdep.2
      clear hb hb' hdep 
      obtain ⟨A9, l9, c9, hv9, g9⟩ := d10.1
      rw [hv9] at e15
      go_simp
      refine ((fracI _ _ false A9 l9 c9 _ (L + M + 1) _ d4.1 g9 (fit_mulI fq.1 fr.1 (by omega)) (fit_mul fq.2 fr.2 (by omega)) (by omega) (Nat.mul_pos q.den_pos r.den_pos)).mono (RetQz.of (q_mul q r))).mono ?_
      rintro e w' ⟨v, rfl, hv, hX⟩
      exact hK _ _ hv (fun j u _ h => hmono _ _ j u hX h) (Ext.trans hJ hX)
  · intro us W hV hJ
    exact hend (us 0) (us 1) (us 2) (us 3) (us 4) (us 5) (us 6) (us 7) (us 8) (us 9) (us 10) (us 11) W (hV 0 (by omega)) (hV 1 (by omega)) (hV 2 (by omega)) (hV 3 (by omega)) (hV 4 (by omega)) (hV 5 (by omega)) (hV 6 (by omega)) (hV 7 (by omega)) (hV 8 (by omega)) (hV 9 (by omega)) (hV 10 (by omega)) (hV 11 (by omega)) hJ
set_option maxRecDepth 100000 in
set_option maxHeartbeats 2000000 in
theorem qmul_v (s0 : Bool) (A0 B0 : Option Addr) (l0 c0 m0 k0 : Nat) (s1 : Bool) (A1 B1 : Option Addr) (l1 c1 m1 k1 : Nat) (q r : Rat) (L M : Nat) (w : World) (hx : QZ w (.agg #[.bool s0, .slice A0 l0 c0, .slice B0 m0 k0]) q) (hy : QZ w (.agg #[.bool s1, .slice A1 l1 c1, .slice B1 m1 k1]) r) (fq : FitR q L) (fr : FitR r M) (hLM : L + M + 1 ≤ 400000) :
    Calls Try.prog 107 #[.agg #[.bool s0, .slice A0 l0 c0, .slice B0 m0 k0], .agg #[.bool s1, .slice A1 l1 c1, .slice B1 m1 k1]] w (RetQz w (q * r)) := by
  have HXX := Lib.hid hx
  have HYY := Lib.hid hy
  have HFQ := Lib.hid fq
  have HFR := Lib.hid fr
  clear hx hy fq fr
  have hXe : Ext w (((w.alloc (.cells #[.bool s0, .slice A0 l0 c0, .slice B0 m0 k0] 42)).alloc (.cells #[.bool s1, .slice A1 l1 c1, .slice B1 m1 k1] 42)).alloc (.cells #[.bool false, .slice none 0 0, .slice none 0 0] 42)) := ((((Ext.refl w).alloc _).alloc _).alloc _)
  have kA : Blk (((w.alloc (.cells #[.bool s0, .slice A0 l0 c0, .slice B0 m0 k0] 42)).alloc (.cells #[.bool s1, .slice A1 l1 c1, .slice B1 m1 k1] 42)).alloc (.cells #[.bool false, .slice none 0 0, .slice none 0 0] 42)) w.heap.size 42 #[.bool s0, .slice A0 l0 c0, .slice B0 m0 k0] := Blk.alloc (Blk.alloc (Blk.at_ (by simp)) _) _
  have kB : Blk (((w.alloc (.cells #[.bool s0, .slice A0 l0 c0, .slice B0 m0 k0] 42)).alloc (.cells #[.bool s1, .slice A1 l1 c1, .slice B1 m1 k1] 42)).alloc (.cells #[.bool false, .slice none 0 0, .slice none 0 0] 42)) (w.heap.size + 1) 42 #[.bool s1, .slice A1 l1 c1, .slice B1 m1 k1] := Blk.alloc (Blk.at_ (by simp)) _
  have kR : Blk (((w.alloc (.cells #[.bool s0, .slice A0 l0 c0, .slice B0 m0 k0] 42)).alloc (.cells #[.bool s1, .slice A1 l1 c1, .slice B1 m1 k1] 42)).alloc (.cells #[.bool false, .slice none 0 0, .slice none 0 0] 42)) (w.heap.size + 2) 42 #[.bool false, .slice none 0 0, .slice none 0 0] := Blk.at_ (by simp)
  go_enter Try.func107, Try.ntmps107
  go_wp2_with fail
  generalize (((w.alloc (.cells #[.bool s0, .slice A0 l0 c0, .slice B0 m0 k0] 42)).alloc (.cells #[.bool s1, .slice A1 l1 c1, .slice B1 m1 k1] 42)).alloc (.cells #[.bool false, .slice none 0 0, .slice none 0 0] 42)) = w1 at hXe kA kB kR ⊢
  have HX := Lib.hid hXe
  clear hXe
  have KA := Lib.hid kA
  clear kA
  have KB := Lib.hid kB
  clear kB
  have KR := Lib.hid kR
  clear kR
  replace HXX := Lib.hid (HXX.out.ext HX.out)
  replace HYY := Lib.hid (HYY.out.ext HX.out)
  go_upto_region 1 with (fail)
  refine qmul_r1 w.heap.size (w.heap.size + 1) L M s0 A0 B0 l0 c0 m0 k0 s1 A1 B1 l1 c1 m1 k1 q r w1 (KA.out.cell 0) (KA.out.cell 1) (KA.out.cell 2) (KB.out.cell 0) (KB.out.cell 1) (KB.out.cell 2) HXX.out HYY.out HFQ.out HFR.out hLM _ _ (by simp) rfl rfl ?_
  rintro xv0 xv1 xv2 xv3 xv4 xv5 xv6 xv7 xv8 xv9 xv10 xv11 w2 rfl rfl rfl rfl _ rfl rfl rfl rfl _ _ hv hXW
  simp only [rops, Try.f107, regOf, Option.bind_some, Nat.reduceBEq, if_true, if_false, Bool.false_eq_true, Option.getD_some, List.drop_succ_cons, List.drop_zero]
  simp only [Act.put, List.setIfInBounds_toArray, List.set_cons_succ, List.set_cons_zero]
  replace HX := Lib.hid (HX.out.trans hXW)
  replace HXX := Lib.hid (HXX.out.ext hXW)
  replace HYY := Lib.hid (HYY.out.ext hXW)
  replace KA := Lib.hid (KA.out.ext hXW)
  replace KB := Lib.hid (KB.out.ext hXW)
  replace KR := Lib.hid (KR.out.ext hXW)
  clear hXW
  obtain ⟨s9, A9, l9, c9, B9, m9, k9, rfl⟩ := QZ.open hv
  have HV := Lib.hid (QZ.past hv (NoInts.three KR.out))
  clear hv
  have cR0 : w2.cell? ⟨(w.heap.size + 2), 0, none⟩ = some (.bool false) := KR.out.cell 0
  have fR0 : w2.frozen? ⟨(w.heap.size + 2), 0, none⟩ = false := KR.out.free 0
  have cR1 : w2.cell? ⟨(w.heap.size + 2), 1, none⟩ = some (.slice none 0 0) := KR.out.cell 1
  have fR1 : w2.frozen? ⟨(w.heap.size + 2), 1, none⟩ = false := KR.out.free 1
  have cR2 : w2.cell? ⟨(w.heap.size + 2), 2, none⟩ = some (.slice none 0 0) := KR.out.cell 2
  have fR2 : w2.frozen? ⟨(w.heap.size + 2), 2, none⟩ = false := KR.out.free 2
  go_wp2
  refine bodyPost_ret (v := .agg #[.bool s9, .slice A9 l9 c9, .slice B9 m9 k9]) (by simp [results, Try.results107, go_sem, *]) rfl ?_
  exact ⟨_, rfl, HV.out, Ext.boxed HX.out (by omega) _ _ _⟩

theorem qmul_any (va vb : Value) (q r : Rat) (L M : Nat) (w : World) (hx : QZ w va q) (hy : QZ w vb r) (fq : FitR q L) (fr : FitR r M) (hLM : L + M + 1 ≤ 400000) : Calls Try.prog 107 #[va, vb] w (RetQz w (q * r)) := by
  obtain ⟨s0, A0, l0, c0, B0, m0, k0, rfl⟩ := hx.open
  obtain ⟨s1, A1, l1, c1, B1, m1, k1, rfl⟩ := hy.open
  exact qmul_v s0 A0 B0 l0 c0 m0 k0 s1 A1 B1 l1 c1 m1 k1 q r L M w hx hy fq fr hLM

set_option maxRecDepth 100000 in
set_option maxHeartbeats 2000000 in
theorem qcmp_v (s0 : Bool) (A0 B0 : Option Addr) (l0 c0 m0 k0 : Nat) (s1 : Bool) (A1 B1 : Option Addr) (l1 c1 m1 k1 : Nat) (q r : Rat) (L M : Nat) (w : World) (hx : QZ w (.agg #[.bool s0, .slice A0 l0 c0, .slice B0 m0 k0]) q) (hy : QZ w (.agg #[.bool s1, .slice A1 l1 c1, .slice B1 m1 k1]) r) (fq : FitR q L) (fr : FitR r M) (hLM : L + M + 1 ≤ 400000) :
    Calls Try.prog 62 #[.agg #[.bool s0, .slice A0 l0 c0, .slice B0 m0 k0], .agg #[.bool s1, .slice A1 l1 c1, .slice B1 m1 k1]] w (fun e w' => e = .returned (.int .i64 (sgnQ (q - r))) ∧ Ext w w') := by
  have HXX := Lib.hid hx
  have HYY := Lib.hid hy
  have HFQ := Lib.hid fq
  have HFR := Lib.hid fr
  clear hx hy fq fr
  have hXe : Ext w ((w.alloc (.cells #[.bool s0, .slice A0 l0 c0, .slice B0 m0 k0] 42)).alloc (.cells #[.bool s1, .slice A1 l1 c1, .slice B1 m1 k1] 42)) := (((Ext.refl w).alloc _).alloc _)
  have kA : Blk ((w.alloc (.cells #[.bool s0, .slice A0 l0 c0, .slice B0 m0 k0] 42)).alloc (.cells #[.bool s1, .slice A1 l1 c1, .slice B1 m1 k1] 42)) w.heap.size 42 #[.bool s0, .slice A0 l0 c0, .slice B0 m0 k0] := Blk.alloc (Blk.at_ (by simp)) _
  have kB : Blk ((w.alloc (.cells #[.bool s0, .slice A0 l0 c0, .slice B0 m0 k0] 42)).alloc (.cells #[.bool s1, .slice A1 l1 c1, .slice B1 m1 k1] 42)) (w.heap.size + 1) 42 #[.bool s1, .slice A1 l1 c1, .slice B1 m1 k1] := Blk.at_ (by simp)
  go_enter Try.func62, Try.ntmps62
  go_wp2_with fail
  generalize ((w.alloc (.cells #[.bool s0, .slice A0 l0 c0, .slice B0 m0 k0] 42)).alloc (.cells #[.bool s1, .slice A1 l1 c1, .slice B1 m1 k1] 42)) = w1 at hXe kA kB ⊢
  have HX := Lib.hid hXe
  clear hXe
  have KA := Lib.hid kA
  clear kA
  have KB := Lib.hid kB
  clear kB
  replace HXX := Lib.hid (HXX.out.ext HX.out)
  replace HYY := Lib.hid (HYY.out.ext HX.out)
  have cA0 : w1.cell? ⟨w.heap.size, 0, none⟩ = some (.bool s0) := KA.out.cell 0
  have cA1 : w1.cell? ⟨w.heap.size, 1, none⟩ = some (.slice A0 l0 c0) := KA.out.cell 1
  have cA2 : w1.cell? ⟨w.heap.size, 2, none⟩ = some (.slice B0 m0 k0) := KA.out.cell 2
  have cB0 : w1.cell? ⟨(w.heap.size + 1), 0, none⟩ = some (.bool s1) := KB.out.cell 0
  have cB1 : w1.cell? ⟨(w.heap.size + 1), 1, none⟩ = some (.slice A1 l1 c1) := KB.out.cell 1
  have cB2 : w1.cell? ⟨(w.heap.size + 1), 2, none⟩ = some (.slice B1 m1 k1) := KB.out.cell 2
  go_wp2_with fail
  clear cA0 cA1 cA2 cB0 cB1 cB2
  refine (qsub_any _ _ q r L M _ HXX.out HYY.out HFQ.out HFR.out hLM).mono ?_
  rintro e w2 ⟨v9, rfl, hv, hX⟩
  replace hX : Ext w1 w2 := by with_reducible exact hX
  replace HX := Lib.hid (HX.out.trans hX)
  replace HXX := Lib.hid (HXX.out.ext hX)
  replace HYY := Lib.hid (HYY.out.ext hX)
  replace KA := Lib.hid (KA.out.ext hX)
  replace KB := Lib.hid (KB.out.ext hX)
  clear hX
  obtain ⟨s9, A9, l9, c9, B9, m9, k9, rfl⟩ := QZ.open hv
  have HV := Lib.hid hv.num
  clear hv
  have hL := run_QN s9 A9 B9 l9 c9 m9 k9
  go_wp2_with fail
  refine (rsign_any _ _ _ HV.out).mono ?_
  rw [sgI_num]
  rintro e w3 ⟨rfl, hX⟩
  replace hX : Ext w2 w3 := by with_reducible exact hX
  replace HX := Lib.hid (HX.out.trans hX)
  replace HXX := Lib.hid (HXX.out.ext hX)
  replace HYY := Lib.hid (HYY.out.ext hX)
  replace HV := Lib.hid (HV.out.ext hX)
  replace KA := Lib.hid (KA.out.ext hX)
  replace KB := Lib.hid (KB.out.ext hX)
  clear hX
  go_wp2
  go_ret
  exact ⟨rfl, HX.out⟩

theorem qcmp_any (va vb : Value) (q r : Rat) (L M : Nat) (w : World) (hx : QZ w va q) (hy : QZ w vb r) (fq : FitR q L) (fr : FitR r M) (hLM : L + M + 1 ≤ 400000) : Calls Try.prog 62 #[va, vb] w fun e w' => e = .returned (.int .i64 (sgnQ (q - r))) ∧ Ext w w' := by
  obtain ⟨s0, A0, l0, c0, B0, m0, k0, rfl⟩ := hx.open
  obtain ⟨s1, A1, l1, c1, B1, m1, k1, rfl⟩ := hy.open
  exact qcmp_v s0 A0 B0 l0 c0 m0 k0 s1 A1 B1 l1 c1 m1 k1 q r L M w hx hy fq fr hLM

set_option maxRecDepth 100000 in
set_option maxHeartbeats 2000000 in
theorem qfloor_v (s0 : Bool) (A0 B0 : Option Addr) (l0 c0 m0 k0 : Nat) (q : Rat) (L : Nat) (w : World) (hx : QZ w (.agg #[.bool s0, .slice A0 l0 c0, .slice B0 m0 k0]) q) (fq : FitR q L) (hL : L ≤ 400000) :
    Calls Try.prog 90 #[.agg #[.bool s0, .slice A0 l0 c0, .slice B0 m0 k0]] w (RetZ w q.floor) := by
  have HXX := Lib.hid hx
  have HFQ := Lib.hid fq
  clear hx fq
  have hXe : Ext w ((w.alloc (.cells #[.bool s0, .slice A0 l0 c0, .slice B0 m0 k0] 42)).alloc (.cells #[.bool false, .slice none 0 0] 40)) := (((Ext.refl w).alloc _).alloc _)
  have kA : Blk ((w.alloc (.cells #[.bool s0, .slice A0 l0 c0, .slice B0 m0 k0] 42)).alloc (.cells #[.bool false, .slice none 0 0] 40)) w.heap.size 42 #[.bool s0, .slice A0 l0 c0, .slice B0 m0 k0] := Blk.alloc (Blk.at_ (by simp)) _
  have kR : Blk ((w.alloc (.cells #[.bool s0, .slice A0 l0 c0, .slice B0 m0 k0] 42)).alloc (.cells #[.bool false, .slice none 0 0] 40)) (w.heap.size + 1) 40 #[.bool false, .slice none 0 0] := Blk.at_ (by simp)
  go_enter Try.func90, Try.ntmps90
  go_wp2_with fail
  generalize ((w.alloc (.cells #[.bool s0, .slice A0 l0 c0, .slice B0 m0 k0] 42)).alloc (.cells #[.bool false, .slice none 0 0] 40)) = w1 at hXe kA kR ⊢
  have HX := Lib.hid hXe
  clear hXe
  have KA := Lib.hid kA
  clear kA
  have KR := Lib.hid kR
  clear kR
  replace HXX := Lib.hid (HXX.out.ext HX.out)
  have cA0 : w1.cell? ⟨w.heap.size, 0, none⟩ = some (.bool s0) := KA.out.cell 0
  have cA1 : w1.cell? ⟨w.heap.size, 1, none⟩ = some (.slice A0 l0 c0) := KA.out.cell 1
  have cA2 : w1.cell? ⟨w.heap.size, 2, none⟩ = some (.slice B0 m0 k0) := KA.out.cell 2
  go_wp2_with fail
  clear cA0 cA1 cA2
  refine (zdown_any _ q.num false _ _ _ q.den L _ HXX.out.num HXX.out.den HFQ.out.1 hL q.den_pos).mono ?_
  rw [← Rat.floor_def]
  rintro e w2 ⟨v9, rfl, hv, hX⟩
  replace hX : Ext w1 w2 := by with_reducible exact hX
  replace HX := Lib.hid (HX.out.trans hX)
  replace HXX := Lib.hid (HXX.out.ext hX)
  replace KA := Lib.hid (KA.out.ext hX)
  replace KR := Lib.hid (KR.out.ext hX)
  clear hX
  obtain ⟨A9, l9, c9, rfl, hv9⟩ := hv.open
  obtain ⟨b9, hb9⟩ : ∃ b, decide (q.floor < 0) = b := ⟨_, rfl⟩
  rw [hb9]
  have HB := Lib.hid hb9.symm
  have HV := Lib.hid (Z16.two hv9 (NoInts.two KR.out) b9 A9 l9 c9)
  clear hv hv9 hb9
  have cR0 : w2.cell? ⟨(w.heap.size + 1), 0, none⟩ = some (.bool false) := KR.out.cell 0
  have fR0 : w2.frozen? ⟨(w.heap.size + 1), 0, none⟩ = false := KR.out.free 0
  have cR1 : w2.cell? ⟨(w.heap.size + 1), 1, none⟩ = some (.slice none 0 0) := KR.out.cell 1
  have fR1 : w2.frozen? ⟨(w.heap.size + 1), 1, none⟩ = false := KR.out.free 1
  go_wp2
  refine bodyPost_ret (v := .agg #[.bool b9, .slice A9 l9 c9]) (by simp [results, Try.results90, go_sem, *]) rfl ?_
  exact ⟨_, rfl, ⟨_, _, _, by rw [HB.out], HV.out⟩, HX.out.two (by omega) _ _⟩

theorem qfloor_any (va : Value) (q : Rat) (L : Nat) (w : World) (hx : QZ w va q) (fq : FitR q L) (hL : L ≤ 400000) : Calls Try.prog 90 #[va] w (RetZ w q.floor) := by
  obtain ⟨s0, A0, l0, c0, B0, m0, k0, rfl⟩ := hx.open
  exact qfloor_v s0 A0 B0 l0 c0 m0 k0 q L w hx fq hL

set_option maxRecDepth 100000 in
set_option maxHeartbeats 2000000 in
theorem qceil_v (s0 : Bool) (A0 B0 : Option Addr) (l0 c0 m0 k0 : Nat) (q : Rat) (L : Nat) (w : World) (hx : QZ w (.agg #[.bool s0, .slice A0 l0 c0, .slice B0 m0 k0]) q) (fq : FitR q L) (hL : L ≤ 400000) :
    Calls Try.prog 89 #[.agg #[.bool s0, .slice A0 l0 c0, .slice B0 m0 k0]] w (RetZ w (-(-q).floor)) := by
  have HXX := Lib.hid hx
  have HFQ := Lib.hid fq
  clear hx fq
  obtain ⟨z, hz⟩ : ∃ z, (-q).floor = z := ⟨_, rfl⟩
  rw [hz]
  have HZ := Lib.hid hz
  clear hz
  have hXe : Ext w ((w.alloc (.cells #[.bool s0, .slice A0 l0 c0, .slice B0 m0 k0] 42)).alloc (.cells #[.bool false, .slice none 0 0] 40)) := (((Ext.refl w).alloc _).alloc _)
  have kA : Blk ((w.alloc (.cells #[.bool s0, .slice A0 l0 c0, .slice B0 m0 k0] 42)).alloc (.cells #[.bool false, .slice none 0 0] 40)) w.heap.size 42 #[.bool s0, .slice A0 l0 c0, .slice B0 m0 k0] := Blk.alloc (Blk.at_ (by simp)) _
  have kR : Blk ((w.alloc (.cells #[.bool s0, .slice A0 l0 c0, .slice B0 m0 k0] 42)).alloc (.cells #[.bool false, .slice none 0 0] 40)) (w.heap.size + 1) 40 #[.bool false, .slice none 0 0] := Blk.at_ (by simp)
  go_enter Try.func89, Try.ntmps89
  go_wp2_with fail
  generalize ((w.alloc (.cells #[.bool s0, .slice A0 l0 c0, .slice B0 m0 k0] 42)).alloc (.cells #[.bool false, .slice none 0 0] 40)) = w1 at hXe kA kR ⊢
  have HX := Lib.hid hXe
  clear hXe
  have KA := Lib.hid kA
  clear kA
  have KR := Lib.hid kR
  clear kR
  replace HXX := Lib.hid (HXX.out.ext HX.out)
  have cA0 : w1.cell? ⟨w.heap.size, 0, none⟩ = some (.bool s0) := KA.out.cell 0
  have cA1 : w1.cell? ⟨w.heap.size, 1, none⟩ = some (.slice A0 l0 c0) := KA.out.cell 1
  have cA2 : w1.cell? ⟨w.heap.size, 2, none⟩ = some (.slice B0 m0 k0) := KA.out.cell 2
  go_wp2_with fail
  clear cA0 cA1 cA2
  refine (qminus_any _ _ _ HXX.out).mono ?_
  rintro e w2 ⟨v7, rfl, h7, hX⟩
  replace hX : Ext w1 w2 := by with_reducible exact hX
  replace HX := Lib.hid (HX.out.trans hX)
  replace HXX := Lib.hid (HXX.out.ext hX)
  replace KA := Lib.hid (KA.out.ext hX)
  replace KR := Lib.hid (KR.out.ext hX)
  clear hX
  have HV := Lib.hid h7
  clear h7
  go_wp2_with fail
  refine (qfloor_any _ _ L _ HV.out (fitR_neg HFQ.out) hL).mono ?_
  rw [HZ.out]
  rintro e w3 ⟨v8, rfl, h8, hX⟩
  replace hX : Ext w2 w3 := by with_reducible exact hX
  replace HX := Lib.hid (HX.out.trans hX)
  replace HXX := Lib.hid (HXX.out.ext hX)
  replace HV := Lib.hid (HV.out.ext hX)
  replace KA := Lib.hid (KA.out.ext hX)
  replace KR := Lib.hid (KR.out.ext hX)
  clear hX
  have HW := Lib.hid h8
  clear h8
  go_wp2_with fail
  refine (rminus_any _ _ _ HW.out).mono ?_
  rintro e w4 ⟨v9, rfl, hv, hX⟩
  replace hX : Ext w3 w4 := by with_reducible exact hX
  replace HX := Lib.hid (HX.out.trans hX)
  replace HXX := Lib.hid (HXX.out.ext hX)
  replace HV := Lib.hid (HV.out.ext hX)
  replace HW := Lib.hid (HW.out.ext hX)
  replace KA := Lib.hid (KA.out.ext hX)
  replace KR := Lib.hid (KR.out.ext hX)
  clear hX
  obtain ⟨A9, l9, c9, rfl, hv9⟩ := hv.open
  obtain ⟨b9, hb9⟩ : ∃ b, decide (-z < 0) = b := ⟨_, rfl⟩
  rw [hb9]
  have HB := Lib.hid hb9.symm
  have HU := Lib.hid (Z16.two hv9 (NoInts.two KR.out) b9 A9 l9 c9)
  clear hv hv9 hb9
  have cR0 : w4.cell? ⟨(w.heap.size + 1), 0, none⟩ = some (.bool false) := KR.out.cell 0
  have fR0 : w4.frozen? ⟨(w.heap.size + 1), 0, none⟩ = false := KR.out.free 0
  have cR1 : w4.cell? ⟨(w.heap.size + 1), 1, none⟩ = some (.slice none 0 0) := KR.out.cell 1
  have fR1 : w4.frozen? ⟨(w.heap.size + 1), 1, none⟩ = false := KR.out.free 1
  go_wp2
  refine bodyPost_ret (v := .agg #[.bool b9, .slice A9 l9 c9]) (by simp [results, Try.results89, go_sem, *]) rfl ?_
  exact ⟨_, rfl, ⟨_, _, _, by rw [HB.out], HU.out⟩, HX.out.two (by omega) _ _⟩

theorem qceil_any (va : Value) (q : Rat) (L : Nat) (w : World) (hx : QZ w va q) (fq : FitR q L) (hL : L ≤ 400000) : Calls Try.prog 89 #[va] w (RetZ w (-(-q).floor)) := by
  obtain ⟨s0, A0, l0, c0, B0, m0, k0, rfl⟩ := hx.open
  exact qceil_v s0 A0 B0 l0 c0 m0 k0 q L w hx fq hL

end Go.Proofs.Yteoijnaljkagfaa
namespace Go.Proofs.Yteoijnaljkagfaa
open Go.RowKit

/-- What one operation must give, over a frame of which only the slots' values are known. -/
def GOq (P : Program) (ops : Array Oper) (J : (Nat → Prop) → (Nat → Value) → World → Prop) (D A : List (List Nat)) (ds : List (Option Tmp)) (a : Act) (i : Nat) (o : Oper) : Prop :=
  ∀ (done : Nat → Prop) (us : Nat → Value) (W : World), J done us W → (∀ j ∈ D.getD i [], done j) → (∀ j ∈ A.getD i [], ¬ done j) → ¬ done i → ∀ b : Act, (∀ j d, ds[j]? = some (some d) → b.tmps[d]? = some (us j)) → (∀ d, some d ∉ ds → b.tmps[d]? = a.tmps[d]?) → ∀ K : Act → World → Prop,
      (∀ v W', J (fun k => done k ∨ k = i) (updO us i v) W' → K (b.put o.dst v) W') → ∀ Q' : Exit → Act → World → Prop,
      if Region.wanted o (yielded ops b.tmps) then o.wp P b W K Q' else K (b.put o.dst undef) W
def GAllq (P : Program) (ops : Array Oper) (J : (Nat → Prop) → (Nat → Value) → World → Prop) (D A : List (List Nat)) (ds : List (Option Tmp)) (a : Act) : Nat → List Oper → Prop
  | _, [] => True
  | i, o :: rest => GOq P ops J D A ds a i o ∧ GAllq P ops J D A ds a (i + 1) rest
theorem GAllq.at {P : Program} {ops : Array Oper} {J : (Nat → Prop) → (Nat → Value) → World → Prop} {D A : List (List Nat)} {ds : List (Option Tmp)} {a : Act} : ∀ (l : List Oper) (k : Nat), GAllq P ops J D A ds a k l → ∀ i o, l[i]? = some o → GOq P ops J D A ds a (k + i) o := by
  intro l
  induction l with
  | nil => intro k _ i o h; simp at h
  | cons x l ih =>
    intro k h i o ho
    cases i with
    | zero => simp at ho; subst ho; exact h.1
    | succ i =>
      have := ih (k + 1) h.2 i o (by simpa using ho)
      rw [show k + 1 + i = k + (i + 1) by omega] at this
      exact this

section
variable {P : Program} {l : List Oper} {n : Nat} {ds : List (Option Tmp)} {D A : List (List Nat)} {J : (Nat → Prop) → (Nat → Value) → World → Prop} {a : Act} {Q : Exit → Act → World → Prop}

theorem g_any (hB : jB l.toArray n ds D A = true) (hs : ∀ d, some d ∈ ds → d < a.tmps.size) (hJ : ∀ p q us W, (∀ k, p k ↔ q k) → J p us W → J q us W) (hop : GAllq P l.toArray J D A ds a 0 (l.take n))
    (hend : ∀ us W, J (fun k => k < n) us W → wpList P l.toArray Q (l.drop n) (fillO a ds us 0) W) :
    ∀ (f : Nat) (rem : List Nat) (listed : Array Bool) (us : Nat → Value) (W : World), rem.length = f → rem.Nodup → HeadInv .any l.toArray n listed → (∀ j, j < n → (listed.getD j true = false ↔ j ∈ rem)) → (∀ j ∈ rem, j < n) →
      J (fun k => k < n ∧ k ∉ rem) us W → wpAny P .any l.toArray Q (f + (l.toArray.size - n)) listed (fillO a ds us 0) W := by
  simp only [jB, Bool.and_eq_true, decide_eq_true_eq] at hB
  obtain ⟨⟨⟨⟨⟨⟨hn, hl⟩, hnt⟩, hD⟩, hless⟩, hsc⟩, hseq⟩ := hB
  have hnd := noTwice_of ds hnt
  intro f
  induction f with
  | zero =>
    intro rem listed us W hlen _ inv hrem _ hX
    obtain rfl : rem = [] := List.eq_nil_of_length_eq_zero hlen
    have hlist : listed = ((List.range l.toArray.size).map (fun i => decide (i < n))).toArray := by
      apply Array.ext
      · simp [inv.size]
      · intro i h1 h2
        have hsz := inv.size
        simp only [List.getElem_toArray, List.getElem_map, List.getElem_range]
        by_cases hi : i < n
        · have h3 := hrem i hi
          simp only [List.not_mem_nil, iff_false, Bool.not_eq_false] at h3
          have h4 : listed.getD i true = listed[i] := by simp [Array.getD, h1]
          rw [h4] at h3
          simp [h3, hi]
        · have h3 := inv.tail i (by omega) (by omega)
          have h4 : listed.getD i true = listed[i] := by simp [Array.getD, h1]
          rw [h4] at h3
          simp [h3, hi]
    have hdl : (l.drop n).length = l.toArray.size - n := by simp
    rw [Nat.zero_add, ← hdl]
    refine wpAny_of_seq (l.drop n) n listed _ W (fun j => by simp [List.getElem?_drop]) ?_ (hend us W (hJ _ _ us W (by simp) hX))
    rw [hdl, hlist]
    exact hseq
  | succ f ih =>
    intro rem listed us W hlen hnodup inv hrem hlt hX
    rw [show f + 1 + (l.toArray.size - n) = (f + (l.toArray.size - n)) + 1 by omega]
    have hne : rem ≠ [] := by intro e; subst e; simp at hlen
    refine ⟨fun h0 => ?_, fun i hi => ?_⟩
    · exfalso
      obtain ⟨k, hk, hmin⟩ : ∃ k ∈ rem, ∀ j ∈ rem, k ≤ j := by
        obtain ⟨m, hm, hm2⟩ := exists_least (p := fun m => m ∈ rem) (by cases rem with | nil => exact absurd rfl hne | cons x xs => exact ⟨x, List.mem_cons_self ..⟩)
        exact ⟨m, hm, fun j hj => hm2 j hj⟩
      have hkn := hlt k hk
      have hr : k ∈ Region.ready .any l.toArray listed := by
        refine mem_ready.2 ⟨(hrem k hkn).2 hk, ?_⟩
        have h1 := List.all_eq_true.1 hless k (List.mem_range.2 hkn)
        cases ho : l.toArray[k]? with
        | none => rw [ho] at h1; simp at h1
        | some o =>
          rw [ho] at h1
          refine ⟨o, rfl, fun e he hb => ?_⟩
          have h2 := Array.all_eq_true_iff_forall_mem.1 h1 e he
          simp only [hb, Bool.not_true, Bool.false_or, decide_eq_true_eq] at h2
          have h3 : e.on ∉ rem := fun h => by have := hmin _ h; omega
          have h4 : listed.getD e.on true = true := by
            cases h5 : listed.getD e.on true with
            | true => rfl
            | false => exact absurd ((hrem e.on (by omega)).1 h5) h3
          have hsz : e.on < listed.size := by rw [inv.size]; omega
          simp [Array.getD, hsz] at h4 ⊢
          exact h4
      rw [h0] at hr
      cases hr
    · obtain ⟨hun, o, ho, hall⟩ := mem_ready.1 hi
      have hisz : i < l.toArray.size := (Array.getElem?_eq_some_iff.1 ho).1
      have hin : i < n := by
        rcases Nat.lt_or_ge i n with h | h
        · exact h
        · simp only [Bool.or_eq_true, Bool.and_eq_true, decide_eq_true_eq] at hsc
          rcases hsc with hsc | ⟨hs, hc⟩
          · omega
          · obtain ⟨k, hk⟩ : ∃ k, k ∈ rem := by cases rem with | nil => exact absurd rfl hne | cons x xs => exact ⟨x, List.mem_cons_self ..⟩
            exact absurd hi (tail_waits hs hc (by omega) inv _ k rfl (hlt k hk) ((hrem k (hlt k hk)).2 hk) i h)
      have hir : i ∈ rem := (hrem i hin).1 hun
      have hDi := List.all_eq_true.1 hD i (List.mem_range.2 hin)
      simp only [Bool.and_eq_true, beq_iff_eq] at hDi
      obtain ⟨⟨hdst, hdeps⟩, hafts⟩ := hDi
      rw [ho] at hdst
      simp only [Option.map_some] at hdst
      have hm := GAllq.at (l.take n) 0 hop i o (by rw [List.getElem?_take, if_pos hin]; simpa using ho)
      rw [Nat.zero_add] at hm
      have hdp : ∀ j ∈ D.getD i [], (j < n ∧ j ∉ rem) := fun j hj => by
        have h1 := List.all_eq_true.1 hdeps j hj
        simp only [Bool.and_eq_true, decide_eq_true_eq] at h1
        obtain ⟨oj, hoj, e, he, hb, hon⟩ := Region.waitsFor_spec h1.2
        have : oj = o := Option.some.inj (hoj.symm.trans ho)
        subst this
        have h2 := hall e he hb
        rw [hon] at h2
        have hjr : j ∉ rem := fun hjr => by
          have h3 := (hrem j (by omega)).2 hjr
          rw [getD_both h3] at h2
          cases h2
        exact ⟨by omega, hjr⟩
      have haf : ∀ j ∈ A.getD i [], ¬ (j < n ∧ j ∉ rem) := fun j hj hd => by
        have h1 := List.all_eq_true.1 hafts j hj
        simp only [Bool.and_eq_true, decide_eq_true_eq] at h1
        obtain ⟨oj, hoj, e, he, hb, hon⟩ := Region.waitsFor_spec h1.2
        have h4 : listed.getD j false = true := by
          have h5 : listed.getD j true = true := by
            cases h5 : listed.getD j true with
            | true => rfl
            | false => exact absurd ((hrem j hd.1).1 h5) hd.2
          have hsz : j < listed.size := by rw [inv.size]; omega
          simp [Array.getD, hsz] at h5 ⊢
          exact h5
        have h6 := inv.closed j oj hoj h4 e he hb
        rw [hon, getD_both hun] at h6
        cases h6
      have key : ∀ v W', J (fun k => (k < n ∧ k ∉ rem) ∨ k = i) (updO us i v) W' → wpAny P .any l.toArray Q (f + (l.toArray.size - n)) (listed.setIfInBounds i true) ((fillO a ds us 0).put o.dst v) W' := fun v W' hj => by
        rw [fillO_put us v ds hnd a 0 i o.dst hdst.symm, Nat.zero_add]
        refine ih (rem.erase i) _ (updO us i v) W' (by rw [List.length_erase_of_mem hir]; omega) (hnodup.erase i) (inv.set hi hin) (fun j hj => ?_) (fun j hj => hlt j (List.mem_of_mem_erase hj)) (hJ _ _ _ W' (fun k => ?_) hj)
        · by_cases hji : i = j
          · subst hji
            have hsz : i < listed.size := by rw [inv.size]; omega
            simp [Array.getD, hsz]
            exact fun h => (hnodup.mem_erase_iff.1 h).1 rfl
          · rw [getD_set_ne true hji, hrem j hj, hnodup.mem_erase_iff]
            exact ⟨fun h => ⟨Ne.symm hji, h⟩, fun h => h.2⟩
        · rw [hnodup.mem_erase_iff]
          constructor
          · rintro (⟨h1, h2⟩ | rfl)
            · exact ⟨h1, fun h => h2 h.2⟩
            · exact ⟨hin, fun h => h.1 rfl⟩
          · rintro ⟨h1, h2⟩
            by_cases hki : k = i
            · exact .inr hki
            · exact .inl ⟨h1, fun h => h2 ⟨hki, h⟩⟩
      unfold wpOp
      rw [ho]
      simp only
      have hgo := hm (fun k => k < n ∧ k ∉ rem) us W hX hdp haf (fun h => h.2 hir) (fillO a ds us 0) (fun j d hj => by
        have := fillO_get us ds hnd a 0 j d hj (hs d (List.mem_of_getElem? hj))
        rwa [Nat.zero_add] at this) (fun d hd => fillO_else us ds a 0 d hd) (wpAny P .any l.toArray Q (f + (l.toArray.size - n)) (listed.setIfInBounds i true)) key Q
      split
      · rename_i hw; rw [if_pos hw] at hgo; exact .inl hgo
      · rename_i hw; rw [if_neg hw] at hgo; exact hgo

/-- THE LAW. -/
theorem wp_region_g {id : Nat} {w : World} (n : Nat) (ds : List (Option Tmp)) (D A : List (List Nat)) (J : (Nat → Prop) → (Nat → Value) → World → Prop) (hm : P.follows .mixedOrders = true) (hB : jB l.toArray n ds D A = true)
    (hd : ∀ d, some d ∈ ds → d < a.tmps.size) (hJ : ∀ p q us W, (∀ k, p k ↔ q k) → J p us W → J q us W) (h0 : ∀ us, J (fun _ => False) us w.drew) (hop : GAllq P l.toArray J D A ds a 0 (l.take n))
    (hend : ∀ us W, J (fun k => k < n) us W → wpList P l.toArray Q (l.drop n) (fillO a ds us 0) W) : (Code.region id l.toArray true).wp P Q a w := by
  refine wp_region_any hm ?_
  have hB' := hB
  simp only [jB, Bool.and_eq_true, decide_eq_true_eq] at hB'
  obtain ⟨⟨⟨⟨⟨⟨hn, hl⟩, hnt⟩, _⟩, _⟩, _⟩, _⟩ := hB'
  have h := g_any hB hd hJ hop hend n (List.range n) (Array.replicate l.toArray.size false) (fun j => a.tmps.getD ((ds.getD j none).getD 0) undef) w.drew (by simp) List.nodup_range
    ⟨by simp, fun j oj _ hl => (by rw [getD_replicate_false] at hl; cases hl), fun t _ ht => getD_in (by simpa using ht) (getD_replicate_false _ _)⟩
    (fun j hj => ⟨fun _ => List.mem_range.2 hj, fun _ => getD_in (by simp at hn ⊢; omega) (getD_replicate_false _ _)⟩) (fun j hj => List.mem_range.1 hj)
    (hJ _ _ _ _ (fun k => by simp) (h0 _))
  rw [fillO_start ds a 0 _ hd (fun i d hi => by simp [List.getD, hi])] at h
  have e : n + (l.toArray.size - n) = l.toArray.size := by omega
  rw [e] at h
  exact h
end

/-- A local struct of a region: its cells are 'zs' until they are stored, then 'vs'. -/
structure Loc (w W : World) (T : TypeId) (zs vs : Array Value) (da dst : Prop) (v : Value) : Prop where
  ptr : da → ∃ g, v = .pointer (some ⟨g, 0, none⟩) ∧ w.heap.size ≤ g ∧ (dst → Blk W g T vs) ∧ (¬ dst → Blk W g T zs)
/-- Two addresses, if both are made, differ. -/
def Far (da db : Prop) (u v : Value) : Prop := da → db → u ≠ v
section
variable {w W W' : World} {T : TypeId} {zs vs : Array Value} {da dst da' dst' : Prop} {v u : Value}
theorem Loc.unmade (h : ¬ da) : Loc w W T zs vs da dst v := ⟨fun h' => absurd h' h⟩
theorem Loc.lt (h : Loc w W T zs vs da dst v) (hd : da) : ∃ g, v = .pointer (some ⟨g, 0, none⟩) ∧ w.heap.size ≤ g ∧ g < W.heap.size := by
  obtain ⟨g, h1, h2, h3, h4⟩ := h.ptr hd
  refine ⟨g, h1, h2, ?_⟩
  by_cases hs : dst
  · exact (h3 hs).lt
  · exact (h4 hs).lt
theorem Loc.far_new (h : Loc w W T zs vs da dst v) (hd : da) : v ≠ .pointer (some ⟨W.heap.size, 0, Option.none⟩) := by
  obtain ⟨g, h1, _, h2⟩ := h.lt hd
  intro e
  rw [h1] at e
  injection e with e
  injection e with e
  injection e with e1
  omega
theorem Loc.stored (h : Loc w W T zs vs da dst v) (hd : da) (hs : ¬ dst) : ∃ g, v = .pointer (some ⟨g, 0, Option.none⟩) ∧ w.heap.size ≤ g ∧ Blk W g T zs := by
  obtain ⟨g, h1, h2, _, h4⟩ := h.ptr hd
  exact ⟨g, h1, h2, h4 hs⟩
theorem Loc.done (h : Loc w W T zs vs da dst v) (hd : da) (hs : dst) : ∃ g, v = .pointer (some ⟨g, 0, Option.none⟩) ∧ w.heap.size ≤ g ∧ Blk W g T vs := by
  obtain ⟨g, h1, h2, h3, _⟩ := h.ptr hd
  exact ⟨g, h1, h2, h3 hs⟩
theorem Loc.same (h : Loc w W T zs vs da dst v) (ha : da' ↔ da) (hs : dst' ↔ dst) : Loc w W T zs vs da' dst' v := by
  have e1 := propext ha
  have e2 := propext hs
  subst e1 e2
  exact h
theorem Loc.ext (h : Loc w W T zs vs da dst v) (hX : Ext W W') : Loc w W' T zs vs da dst v := ⟨fun hd => by
  obtain ⟨g, h1, h2, h3, h4⟩ := h.ptr hd
  exact ⟨g, h1, h2, fun h => (h3 h).ext hX, fun h => (h4 h).ext hX⟩⟩
theorem Loc.new (w W : World) (hw : Ext w W) (hs : ¬ dst) (hX : Ext (W.alloc (.cells zs T)) W') : Loc w W' T zs vs da dst (.pointer (some ⟨W.heap.size, 0, none⟩)) :=
  ⟨fun _ => ⟨_, rfl, hw.size, fun h => absurd h hs, fun _ => (Blk.new W T zs).ext hX⟩⟩
theorem Loc.keep (h : Loc w W T zs vs da dst v) {g : Nat} {f : Far da da' v u} (hu : da') (e : u = .pointer (some ⟨g, 0, none⟩)) {i : Nat} {x : Value} : Loc w (W.setCell ⟨g, i, none⟩ x) T zs vs da dst v := ⟨fun hd => by
  obtain ⟨g', h1, h2, h3, h4⟩ := h.ptr hd
  have hne : g' ≠ g := by
    intro e'
    subst e'
    exact f hd hu (by rw [h1, e])
  exact ⟨g', h1, h2, fun h => (h3 h).far hne _, fun h => (h4 h).far hne _⟩⟩
end
end Go.Proofs.Yteoijnaljkagfaa
namespace Go.Proofs.Yteoijnaljkagfaa
open Go.RowKit

def aggOf : Value → Array Value
  | .agg vs => vs
  | _ => #[]
theorem Blk.put3 {W : World} {g : Nat} {T : TypeId} {z0 z1 z2 x0 x1 x2 v : Value} (h : Blk W g T #[z0, z1, z2]) (hu : v = .agg #[x0, x1, x2]) : Blk (((W.setCell ⟨g, 0, none⟩ x0).setCell ⟨g, 1, none⟩ x1).setCell ⟨g, 2, none⟩ x2) g T (aggOf v) := by
  subst hu; exact ((h.set 0 _).set 1 _).set 2 _
theorem IntZ.past {w : World} {v : Value} {z : Int} {g : Nat} (h : IntZ w v z) (hN : NoInts w g) {b : Bool} {A : Option Addr} {l c : Nat} : IntZ ((w.setCell ⟨g, 0, none⟩ (.bool b)).setCell ⟨g, 1, none⟩ (.slice A l c)) v z := by
  obtain ⟨A', l', c', h1, h2⟩ := h
  exact ⟨A', l', c', h1, h2.two hN _ _ _ _⟩
theorem QZ.past' {w : World} {v : Value} {q : Rat} {g : Nat} (h : QZ w v q) (hN : NoInts w g) {b : Bool} {A B : Option Addr} {l c m k : Nat} : QZ (((w.setCell ⟨g, 0, none⟩ (.bool b)).setCell ⟨g, 1, none⟩ (.slice A l c)).setCell ⟨g, 2, none⟩ (.slice B m k)) v q := by
  obtain ⟨b', A', l', c', B', m', k', h0, h1, h2, h3⟩ := h
  exact ⟨b', A', l', c', B', m', k', h0, h1, h2.box3 hN _ _ _ _ _ _ _, h3.box3 hN _ _ _ _ _ _ _⟩
theorem Loc.revs {w W : World} {T : TypeId} {zs vs vs' : Array Value} {da dst : Prop} {v : Value} (h : Loc w W T zs vs da dst v) (hn : ¬ dst) : Loc w W T zs vs' da dst v := ⟨fun hd => by
  obtain ⟨g, h1, h2, _, h4⟩ := h.ptr hd
  exact ⟨g, h1, h2, fun h => absurd h hn, h4⟩⟩
end Go.Proofs.Yteoijnaljkagfaa
namespace Go.Proofs.Yteoijnaljkagfaa
open Go.RowKit

/-- A place is valid. -/
def okP (p : Int × Int) : Bool := decide (-268435456 ≤ p.1 ∧ p.1 ≤ 268435456 ∧ -268435456 ≤ p.2 ∧ p.2 ≤ 268435456)
def okPs (ps : List (Int × Int)) : Bool := ps.all okP
/-- The block g holds the places. -/
def Pts (w : World) (g : Nat) (ps : List (Int × Int)) : Prop := ∀ j p, ps[j]? = some p → w.cell? ⟨g, j * 2, none⟩ = some (.int .i64 p.1) ∧ w.cell? ⟨g, j * 2 + 1, none⟩ = some (.int .i64 p.2)
theorem Pts.ext {w w' : World} {g : Nat} {ps : List (Int × Int)} (h : Pts w g ps) (he : Ext w w') : Pts w' g ps := fun j p hp => ⟨he.cell (h j p hp).1, he.cell (h j p hp).2⟩

set_option maxHeartbeats 1000000 in
theorem inside_any (g l : Nat) (ps : List (Int × Int)) (w : World) (hl : ps.length = l) (hm : l ≤ 1000000) (h : Pts w g ps) :
    Calls Try.prog 72 #[.slice (some ⟨g, 0, none⟩) l l] w fun e w' => e = .returned (.bool (okPs ps)) ∧ Ext w w' := by
  have HP := Lib.hid h
  have HL := Lib.hid hl
  clear h hl
  go_enter Try.func72, Try.ntmps72
  go_wp2
  go_loopg [7] l (fun g' i wr => ∃ k : Nat, g' = l - k ∧ k ≤ l ∧ i = .int .i64 (k : Int) ∧ Hid (okPs (ps.take k) = true) ∧ Hid (Ext w wr))
  case atStart => exact ⟨0, rfl, by omega, rfl, rfl, Ext.refl _⟩
  case round =>
    obtain ⟨k, rfl, hk, rfl, hok, HX⟩ := hrel
    by_cases hkl : k < l
    · have hkI : (k : Int) < (l : Int) := by omega
      have hk0 : (0 : Int) ≤ (k : Int) := by omega
      obtain ⟨x, y, hp⟩ : ∃ x y, ps[k]? = some (x, y) := ⟨_, _, List.getElem?_eq_getElem (by rw [HL.out]; exact hkl)⟩
      obtain ⟨c1, c2⟩ := HP.out.ext HX.out k _ hp
      simp only at c1 c2
      by_cases hb : okP (x, y) = true
      · have hb' := hb
        simp only [okP, decide_eq_true_eq] at hb'
        obtain ⟨b1, b2, b3, b4⟩ := hb'
        have HOK : Hid (okPs (ps.take (k + 1)) = true) := by
          show _ = _
          rw [List.take_add_one, hp]
          have := hok.out
          simp only [okPs] at this ⊢
          simp [this, hb]
        clear hb hok hp
        go_wp2
        go_roundg (l - (k + 1))
        case rel => exact ⟨k + 1, rfl, by omega, by go_num, HOK, HX.out.alloc _⟩
        case measure => omega
      · have HF : Hid (okPs ps = false) := by
          show _ = _
          simp only [okPs, List.all_eq_false]
          exact ⟨_, List.mem_of_getElem? hp, hb⟩
        have hb' : x < -268435456 ∨ (-268435456 ≤ x ∧ 268435456 < x) ∨ (-268435456 ≤ x ∧ x ≤ 268435456 ∧ y < -268435456) ∨ (-268435456 ≤ x ∧ x ≤ 268435456 ∧ -268435456 ≤ y ∧ 268435456 < y) := by
          simp only [okP, decide_eq_true_eq] at hb; omega
        clear hb hok hp
        rcases hb' with b1 | ⟨b1, b2⟩ | ⟨b1, b2, b3⟩ | ⟨b1, b2, b3, b4⟩
        all_goals
          go_wp2
          go_ret
          exact ⟨by rw [HF.out]; rfl, HX.out.alloc _⟩
    · obtain rfl : k = l := by omega
      have HF : Hid (okPs ps = true) := by
        have := hok.out
        rw [List.take_of_length_le (by rw [HL.out]; exact Nat.le_refl _)] at this
        exact this
      clear hok
      go_wp2
      go_ret
      exact ⟨by rw [HF.out]; rfl, HX.out⟩
end Go.Proofs.Yteoijnaljkagfaa
namespace Go.Proofs.Yteoijnaljkagfaa
open Go.RowKit

/-- Twice the directed area of a triangle. -/
def crossI (a b c : Int × Int) : Int := (b.1 - a.1) * (c.2 - a.2) - (b.2 - a.2) * (c.1 - a.1)
theorem mul_in {x y B C : Int} (hx : -B ≤ x ∧ x ≤ B) (hy : -C ≤ y ∧ y ≤ C) : -(B * C) ≤ x * y ∧ x * y ≤ B * C := by
  have hB : 0 ≤ B := by omega
  have h1 : (x * y).natAbs ≤ (B * C).natAbs := by
    rw [Int.natAbs_mul, Int.natAbs_mul]
    exact Nat.mul_le_mul (by omega) (by omega)
  have h2 : 0 ≤ B * C := Int.mul_nonneg hB (by omega)
  omega
theorem diff_in {x y : Int} (hx : -268435456 ≤ x ∧ x ≤ 268435456) (hy : -268435456 ≤ y ∧ y ≤ 268435456) : -536870912 ≤ x - y ∧ x - y ≤ 536870912 := by omega
theorem okP_in {x y : Int} (h : okP (x, y) = true) : (-268435456 ≤ x ∧ x ≤ 268435456) ∧ (-268435456 ≤ y ∧ y ≤ 268435456) := by
  simp only [okP, decide_eq_true_eq] at h; omega

set_option maxHeartbeats 1000000 in
theorem cross_any (a1 a2 b1 b2 c1 c2 : Int) (w : World) (ha : okP (a1, a2) = true) (hb : okP (b1, b2) = true) (hc : okP (c1, c2) = true) :
    Calls Try.prog 74 #[.agg #[.int .i64 a1, .int .i64 a2], .agg #[.int .i64 b1, .int .i64 b2], .agg #[.int .i64 c1, .int .i64 c2]] w fun e w' => e = .returned (.int .i64 (crossI (a1, a2) (b1, b2) (c1, c2))) ∧ Ext w w' := by
  obtain ⟨ha1, ha2⟩ := okP_in ha
  obtain ⟨hb1, hb2⟩ := okP_in hb
  obtain ⟨hc1, hc2⟩ := okP_in hc
  obtain ⟨p1, p2⟩ := mul_in (diff_in hb1 ha1) (diff_in hc2 ha2)
  obtain ⟨q1, q2⟩ := mul_in (diff_in hb2 ha2) (diff_in hc1 ha1)
  obtain ⟨d1, d1'⟩ := diff_in hb1 ha1
  obtain ⟨d2, d2'⟩ := diff_in hc2 ha2
  obtain ⟨d3, d3'⟩ := diff_in hb2 ha2
  obtain ⟨d4, d4'⟩ := diff_in hc1 ha1
  rw [show (536870912 : Int) * 536870912 = 288230376151711744 by decide] at p1 p2 q1 q2
  clear ha hb hc ha1 ha2 hb1 hb2 hc1 hc2
  go_enter Try.func74, Try.ntmps74
  go_wp2
  go_ret
  exact ⟨rfl, (((Ext.refl w).alloc _).alloc _).alloc _⟩
end Go.Proofs.Yteoijnaljkagfaa
namespace Go.Proofs.Yteoijnaljkagfaa
open Go.RowKit

theorem okPs3 (a b c : Int × Int) : okPs [a, b, c] = true ↔ okP a = true ∧ okP b = true ∧ okP c = true := by simp [okPs]
theorem pts3 {w : World} {g : Nat} {t : TypeId} {a1 a2 b1 b2 c1 c2 : Int} (h : Blk w g t #[.int .i64 a1, .int .i64 a2, .int .i64 b1, .int .i64 b2, .int .i64 c1, .int .i64 c2]) : Pts w g [(a1, a2), (b1, b2), (c1, c2)] := by
  intro j p hp
  rcases j with _ | _ | _ | j
  · obtain rfl : (a1, a2) = p := by simpa using hp
    exact ⟨h.cell 0, h.cell 1⟩
  · obtain rfl : (b1, b2) = p := by simpa using hp
    exact ⟨h.cell 2, h.cell 3⟩
  · obtain rfl : (c1, c2) = p := by simpa using hp
    exact ⟨h.cell 4, h.cell 5⟩
  · simp at hp

/-- What Turn returns. -/
def turnI (a b c : Int × Int) : Int := bif okPs [a, b, c] then sgI (crossI a b c) else 0
def turnE (a b c : Int × Int) : Int := bif okPs [a, b, c] then 0 else 11

set_option maxHeartbeats 1000000 in
theorem turn_any (a1 a2 b1 b2 c1 c2 : Int) (w : World) :
    Calls Try.prog 18 #[.agg #[.int .i64 a1, .int .i64 a2], .agg #[.int .i64 b1, .int .i64 b2], .agg #[.int .i64 c1, .int .i64 c2]] w fun e w' => e = .returned (.tuple #[.int .i64 (turnI (a1, a2) (b1, b2) (c1, c2)), .int .i64 (turnE (a1, a2) (b1, b2) (c1, c2))]) ∧ Ext w w' := by
  obtain ⟨r, hr⟩ : ∃ r, turnI (a1, a2) (b1, b2) (c1, c2) = r := ⟨_, rfl⟩
  obtain ⟨er, her⟩ : ∃ r, turnE (a1, a2) (b1, b2) (c1, c2) = r := ⟨_, rfl⟩
  rw [hr, her]
  have HR := Lib.hid hr
  have HE := Lib.hid her
  clear hr her
  go_enter Try.func18, Try.ntmps18
  go_wp2_with fail
  have hXw : Ext w ((((w.alloc (.cells #[.int .i64 a1, .int .i64 a2] 23)).alloc (.cells #[.int .i64 b1, .int .i64 b2] 23)).alloc (.cells #[.int .i64 c1, .int .i64 c2] 23)).alloc (.cells #[.int .i64 a1, .int .i64 a2, .int .i64 b1, .int .i64 b2, .int .i64 c1, .int .i64 c2] 23)) := ((((Ext.refl w).alloc _).alloc _).alloc _).alloc _
  have k1 := (((Blk.new w 23 #[.int .i64 a1, .int .i64 a2]).alloc (.cells #[.int .i64 b1, .int .i64 b2] 23)).alloc (.cells #[.int .i64 c1, .int .i64 c2] 23)).alloc (.cells #[.int .i64 a1, .int .i64 a2, .int .i64 b1, .int .i64 b2, .int .i64 c1, .int .i64 c2] 23)
  have k2 := ((Blk.new (w.alloc (.cells #[.int .i64 a1, .int .i64 a2] 23)) 23 #[.int .i64 b1, .int .i64 b2]).alloc (.cells #[.int .i64 c1, .int .i64 c2] 23)).alloc (.cells #[.int .i64 a1, .int .i64 a2, .int .i64 b1, .int .i64 b2, .int .i64 c1, .int .i64 c2] 23)
  have k3 := (Blk.new ((w.alloc (.cells #[.int .i64 a1, .int .i64 a2] 23)).alloc (.cells #[.int .i64 b1, .int .i64 b2] 23)) 23 #[.int .i64 c1, .int .i64 c2]).alloc (.cells #[.int .i64 a1, .int .i64 a2, .int .i64 b1, .int .i64 b2, .int .i64 c1, .int .i64 c2] 23)
  have k4 := Blk.new (((w.alloc (.cells #[.int .i64 a1, .int .i64 a2] 23)).alloc (.cells #[.int .i64 b1, .int .i64 b2] 23)).alloc (.cells #[.int .i64 c1, .int .i64 c2] 23)) 23 #[.int .i64 a1, .int .i64 a2, .int .i64 b1, .int .i64 b2, .int .i64 c1, .int .i64 c2]
  have es : ∀ (W : World) (o : Obj), (W.alloc o).heap.size = W.heap.size + 1 := fun W o => by simp
  simp only [es] at k2 k3 k4
  clear es
  generalize ((((w.alloc (.cells #[.int .i64 a1, .int .i64 a2] 23)).alloc (.cells #[.int .i64 b1, .int .i64 b2] 23)).alloc (.cells #[.int .i64 c1, .int .i64 c2] 23)).alloc (.cells #[.int .i64 a1, .int .i64 a2, .int .i64 b1, .int .i64 b2, .int .i64 c1, .int .i64 c2] 23)) = w1 at hXw k1 k2 k3 k4 ⊢
  have HXw := Lib.hid hXw
  have HP := Lib.hid (pts3 k4)
  have K1 := Lib.hid k1
  have K2 := Lib.hid k2
  have K3 := Lib.hid k3
  clear k1 k2 k3 k4 hXw
  refine (inside_any _ 3 _ _ rfl (by omega) HP.out).mono ?_
  rintro e w2 ⟨rfl, hX2⟩
  have x1 := (K1.out.ext hX2).cell 0
  have x2 := (K1.out.ext hX2).cell 1
  have x3 := (K2.out.ext hX2).cell 0
  have x4 := (K2.out.ext hX2).cell 1
  have x5 := (K3.out.ext hX2).cell 0
  have x6 := (K3.out.ext hX2).cell 1
  simp only [List.getElem?_toArray, List.getElem?_cons_zero, List.getElem?_cons_succ] at x1 x2 x3 x4 x5 x6
  have HX2 := Lib.hid (HXw.out.trans hX2)
  clear hX2
  rcases hb : okPs [(a1, a2), (b1, b2), (c1, c2)] with _ | _
  · have hr := HR.out
    have he := HE.out
    simp only [turnI, turnE, hb, cond_false] at hr he
    have H1 := Lib.hid hr
    have H2 := Lib.hid he
    clear hr he hb
    go_wp2
    go_ret2
    exact ⟨by rw [← H1.out, ← H2.out]; rfl, HX2.out⟩
  · have hr := HR.out
    have he := HE.out
    simp only [turnI, turnE, hb, cond_true] at hr he
    have H1 := Lib.hid hr
    have H2 := Lib.hid he
    obtain ⟨o1, o2, o3⟩ := (okPs3 _ _ _).1 hb
    have O1 := Lib.hid o1
    have O2 := Lib.hid o2
    have O3 := Lib.hid o3
    clear hr he hb o1 o2 o3
    go_wp2_with fail
    refine (cross_any a1 a2 b1 b2 c1 c2 _ O1.out O2.out O3.out).mono ?_
    rintro e w3 ⟨rfl, hX3⟩
    have HX3 := Lib.hid (HX2.out.trans hX3)
    clear hX3
    go_wp2_with fail
    refine (isign_any _ _).mono ?_
    rintro e w4 ⟨rfl, rfl⟩
    rw [H1.out]
    go_wp2
    go_ret2
    exact ⟨by rw [← H2.out]; rfl, HX3.out⟩
end Go.Proofs.Yteoijnaljkagfaa
namespace Go.Proofs.Yteoijnaljkagfaa
open Go.RowKit

theorem SmallR.fit {neg : Bool} {xs ys : List Int} (h : SmallR xs ys) : FitQ (ratOf neg xs ys) 256 := fit_red (wD_pos ys) h.1.fit h.den.fit
theorem FitQW.of {q : Rat} (h : FitQ q 256) : FitQW q := ⟨⟨h.1⟩, ⟨h.2⟩⟩
/-- The zero value, as a result with an error. -/
def zeroR : Value := .agg #[.bool false, .slice none 0 0, .slice none 0 0]
/-- A pair of a value and an error. -/
def RetE (w : World) (v : Value) (n : Int) (e : Ending) (w' : World) : Prop := e = .returned (.tuple #[v, .int .i64 n]) ∧ Ext w w'

set_option maxRecDepth 100000 in
set_option maxHeartbeats 2000000 in
theorem etext_ok (v : Value) (neg : Bool) (xs ys : List Int) (w : World) (h : RatV w v neg xs ys) (hs : SmallR xs ys) :
    Calls Try.prog 37 #[v] w (fun e w' => ∃ b, e = .returned (.tuple #[.string b, .int .i64 0]) ∧ TextB (decide ((ratOf neg xs ys).num < 0)) (ratOf neg xs ys).num.natAbs (ratOf neg xs ys).den b ∧ Ext w w') := by
  have HR := Lib.hid h
  have HS := Lib.hid hs
  clear hs
  obtain ⟨A, l, c, B, m, k, rfl, _⟩ := h
  have hXw : Ext w ((w.alloc (.cells #[.bool neg, .slice A l c, .slice B m k] 33)).alloc (.cells #[.bool neg, .slice A l c, .slice B m k] 33)) := (((Ext.refl w).alloc _).alloc _)
  have hB1 : Blk ((w.alloc (.cells #[.bool neg, .slice A l c, .slice B m k] 33)).alloc (.cells #[.bool neg, .slice A l c, .slice B m k] 33)) w.heap.size 33 #[.bool neg, .slice A l c, .slice B m k] := (Blk.new w _ _).alloc _
  have hB2 : Blk ((w.alloc (.cells #[.bool neg, .slice A l c, .slice B m k] 33)).alloc (.cells #[.bool neg, .slice A l c, .slice B m k] 33)) (w.heap.size + 1) 33 #[.bool neg, .slice A l c, .slice B m k] := by
    have := Blk.new (w.alloc (.cells #[.bool neg, .slice A l c, .slice B m k] 33)) 33 #[.bool neg, .slice A l c, .slice B m k]
    simpa using this
  go_enter Try.func37, Try.ntmps37
  go_wp2_with fail
  generalize ((w.alloc (.cells #[.bool neg, .slice A l c, .slice B m k] 33)).alloc (.cells #[.bool neg, .slice A l c, .slice B m k] 33)) = w1 at hXw hB1 hB2 ⊢
  refine (anyLarge_one false _ _ neg A B l c m k xs ys _ hB2 (HR.out.ext hXw) (by simp [HS.out])).mono ?_
  rintro e w2 ⟨rfl, hX2⟩
  obtain ⟨x0, x1, x2, _, _, _⟩ := (hB1.ext hX2).three
  have HX2 := Lib.hid (hXw.trans hX2)
  have HX12 := Lib.hid hX2
  clear hXw hB1 hB2 hX2
  go_wp2_with fail
  refine (of_any _ neg xs ys 256 _ (HR.out.ext HX2.out) HS.out.1.fit HS.out.den.fit (by omega)).mono ?_
  rintro e w3 ⟨v3, rfl, hv3, hX3⟩
  obtain ⟨A3, l3, c3, B3, m3, k3, rfl, _⟩ := NumV.open hv3
  have HV3 := Lib.hid (NumQ.numx hv3 HS.out.fit)
  have HQ3 := Lib.hid hv3
  have HX3 := Lib.hid (HX2.out.trans hX3)
  clear hX3 hv3 x0 x1 x2
  go_wp2_with fail
  refine (rtext_any _ _ _ _ 256 _ HQ3.out (ratOf neg xs ys).den_pos HS.out.fit.1 HS.out.fit.2 (by omega)).mono ?_
  rintro e w4 ⟨b, rfl, hb, hX4⟩
  have HX4 := Lib.hid (HX3.out.trans hX4)
  have HB := Lib.hid hb
  clear hX4 hb
  go_wp2
  go_ret2
  exact ⟨_, rfl, HB.out, HX4.out⟩

set_option maxRecDepth 100000 in
set_option maxHeartbeats 2000000 in
theorem eceil_ok (v : Value) (neg : Bool) (xs ys : List Int) (w : World) (h : RatV w v neg xs ys) (hs : SmallR xs ys) (h0 : -1152921504606846976 ≤ (-(ratOf neg xs ys)).floor) (h1 : (-(ratOf neg xs ys)).floor ≤ 1152921504606846976) :
    Calls Try.prog 29 #[v] w (RetE w (.int .i64 (-(-(ratOf neg xs ys)).floor)) 0) := by
  have HR := Lib.hid h
  have HS := Lib.hid hs
  clear hs
  obtain ⟨A, l, c, B, m, k, rfl, _⟩ := h
  have hXw : Ext w ((w.alloc (.cells #[.bool neg, .slice A l c, .slice B m k] 33)).alloc (.cells #[.bool neg, .slice A l c, .slice B m k] 33)) := (((Ext.refl w).alloc _).alloc _)
  have hB1 : Blk ((w.alloc (.cells #[.bool neg, .slice A l c, .slice B m k] 33)).alloc (.cells #[.bool neg, .slice A l c, .slice B m k] 33)) w.heap.size 33 #[.bool neg, .slice A l c, .slice B m k] := (Blk.new w _ _).alloc _
  have hB2 : Blk ((w.alloc (.cells #[.bool neg, .slice A l c, .slice B m k] 33)).alloc (.cells #[.bool neg, .slice A l c, .slice B m k] 33)) (w.heap.size + 1) 33 #[.bool neg, .slice A l c, .slice B m k] := by
    have := Blk.new (w.alloc (.cells #[.bool neg, .slice A l c, .slice B m k] 33)) 33 #[.bool neg, .slice A l c, .slice B m k]
    simpa using this
  go_enter Try.func29, Try.ntmps29
  go_wp2_with fail
  generalize ((w.alloc (.cells #[.bool neg, .slice A l c, .slice B m k] 33)).alloc (.cells #[.bool neg, .slice A l c, .slice B m k] 33)) = w1 at hXw hB1 hB2 ⊢
  refine (anyLarge_one false _ _ neg A B l c m k xs ys _ hB2 (HR.out.ext hXw) (by simp [HS.out])).mono ?_
  rintro e w2 ⟨rfl, hX2⟩
  obtain ⟨x0, x1, x2, _, _, _⟩ := (hB1.ext hX2).three
  have HX2 := Lib.hid (hXw.trans hX2)
  have HX12 := Lib.hid hX2
  clear hXw hB1 hB2 hX2
  go_wp2_with fail
  refine (of_any _ neg xs ys 256 _ (HR.out.ext HX2.out) HS.out.1.fit HS.out.den.fit (by omega)).mono ?_
  rintro e w3 ⟨v3, rfl, hv3, hX3⟩
  obtain ⟨A3, l3, c3, B3, m3, k3, rfl, _⟩ := NumV.open hv3
  have HV3 := Lib.hid (NumQ.numx hv3 HS.out.fit)
  have HQ3 := Lib.hid hv3
  have HX3 := Lib.hid (HX2.out.trans hX3)
  clear hX3 hv3 x0 x1 x2
  go_wp2_with fail
  refine (negX HV3.out).mono ?_
  rintro e w4 ⟨v4, rfl, hv4, hX4⟩
  obtain ⟨s4, A4, l4, c4, B4, m4, k4, rfl⟩ := hv4.open
  have HV4 := Lib.hid hv4
  have HX4 := Lib.hid (HX3.out.trans hX4)
  clear hX4 hv4
  go_wp2_with fail
  refine (xfloor_ok _ _ 256 _ HV4.out (by omega) h0 h1).mono ?_
  rintro e w5 ⟨rfl, hX5⟩
  have HX5 := Lib.hid (HX4.out.trans hX5)
  clear hX5
  generalize hf : (-(ratOf neg xs ys)).floor = f at h0 h1 ⊢
  have HF := Lib.hid hf
  clear hf
  go_wp2
  go_ret2
  exact ⟨by rw [HF.out]; rfl, HX5.out⟩

end Go.Proofs.Yteoijnaljkagfaa
namespace Go.Proofs.Yteoijnaljkagfaa
open Go.RowKit

theorem RatC.past {w : World} {v : Value} {q : Rat} {g : Nat} (h : RatC w v q) (hN : NoInts w g) (b : Bool) (A1 A2 : Option Addr) (l1 c1 l2 c2 : Nat) :
    RatC (((w.setCell ⟨g, 0, none⟩ (.bool b)).setCell ⟨g, 1, none⟩ (.slice A1 l1 c1)).setCell ⟨g, 2, none⟩ (.slice A2 l2 c2)) v q := by
  obtain ⟨xs, ys, ⟨A, l, c, B, m, k, rfl, h1, h2, h3, h4, h5, h6⟩, hx, hy⟩ := h
  refine ⟨xs, ys, ⟨A, l, c, B, m, k, rfl, ?_, h2, h3, ?_, h5, h6⟩, hx, hy⟩
  · exact ((h1.past hN.cell 0 _).past (hN.set 0 (noInt_bool _)).cell 1 _).past ((hN.set 0 (noInt_bool _)).set 1 (noInt_slice _ _ _)).cell 2 _
  · exact ((h4.past hN.cell 0 _).past (hN.set 0 (noInt_bool _)).cell 1 _).past ((hN.set 0 (noInt_bool _)).set 1 (noInt_slice _ _ _)).cell 2 _
theorem RatC.open {w : World} {v : Value} {q : Rat} (h : RatC w v q) : ∃ s A l c B m k, v = .agg #[.bool s, .slice A l c, .slice B m k] := by
  obtain ⟨xs, ys, ⟨A, l, c, B, m, k, rfl, _⟩, _⟩ := h
  exact ⟨_, _, _, _, _, _, _, rfl⟩
theorem FitQW.of4 {q : Rat} {L : Nat} (h : FitQ q L) (hl : L ≤ 256) : FitQW q := FitQW.of (h.mono hl)
set_option maxRecDepth 100000 in
set_option maxHeartbeats 2000000 in
theorem eratio_ok (a b : Int) (w : World) (h0 : -9223372036854775808 ≤ a) (h1 : a ≤ 9223372036854775807) (h2 : -9223372036854775808 ≤ b) (h3 : b ≤ 9223372036854775807) (hb : b ≠ 0) :
    Calls Try.prog 22 #[.int .i64 a, .int .i64 b] w (RetC w ((a : Rat) / (b : Rat))) := by
  have hXw : Ext w (w.alloc (.cells #[.bool false, .slice none 0 0, .slice none 0 0] 33)) := (Ext.refl w).alloc _
  have hBR : Blk (w.alloc (.cells #[.bool false, .slice none 0 0, .slice none 0 0] 33)) w.heap.size 33 #[.bool false, .slice none 0 0, .slice none 0 0] := Blk.new w _ _
  have hbq : ((b : Int) : Rat) ≠ 0 := by simpa using hb
  have HBQ := Lib.hid hbq
  have hb' : (b == 0) = false := by simpa using hb
  go_enter Try.func22, Try.ntmps22
  go_wp2_with fail
  generalize (w.alloc (.cells #[.bool false, .slice none 0 0, .slice none 0 0] 33)) = w1 at hXw hBR ⊢
  refine (intX a _ h0 h1).mono ?_
  rintro e w2 ⟨v2, rfl, hv2, hX2⟩
  obtain ⟨s2, A2, l2, c2, B2, m2, k2, rfl⟩ := hv2.open
  have HV2 := Lib.hid hv2
  have HX2 := Lib.hid (hXw.trans hX2)
  have HB2 := Lib.hid (hBR.ext hX2)
  clear hXw hBR hX2 hv2 hb' hbq hb
  go_wp2_with fail
  refine (intX b _ h2 h3).mono ?_
  rintro e w3 ⟨v3, rfl, hv3, hX3⟩
  obtain ⟨s3, A3, l3, c3, B3, m3, k3, rfl⟩ := hv3.open
  have HV3 := Lib.hid hv3
  have HV2' := Lib.hid (HV2.out.ext hX3)
  have HX3 := Lib.hid (HX2.out.trans hX3)
  have HB3 := Lib.hid (HB2.out.ext hX3)
  clear hX3 hv3
  go_wp2_with fail
  refine (divX HV2'.out HV3.out HBQ.out (by omega) (by omega)).mono ?_
  rintro e w4 ⟨v4, rfl, hv4, hX4⟩
  obtain ⟨s4, A4, l4, c4, B4, m4, k4, rfl⟩ := hv4.open
  have HV4 := Lib.hid hv4
  have HX4 := Lib.hid (HX3.out.trans hX4)
  have HB4 := Lib.hid (HB3.out.ext hX4)
  clear hX4 hv4
  go_wp2_with fail
  refine (done_ok _ _ 4 _ HV4.out (by omega) (FitQW.of4 HV4.out.fit (by omega))).mono ?_
  rintro e w5 ⟨v5, rfl, hv5, hX5⟩
  obtain ⟨s5, A5, l5, c5, B5, m5, k5, rfl⟩ := hv5.open
  have HX5 := Lib.hid (HX4.out.trans hX5)
  have hB5 := HB4.out.ext hX5
  obtain ⟨r0, r1, r2, g0, g1, g2⟩ := hB5.three
  have HV6 := Lib.hid (hv5.past (NoInts.three hB5) s5 A5 B5 l5 c5 m5 k5)
  clear hX5 hv5 hB5
  go_wp2
  refine bodyPost_ret (v := .tuple #[.agg #[.bool s5, .slice A5 l5 c5, .slice B5 m5 k5], .int .i64 0]) (by simp [results, Try.results22, go_sem, *]) rfl ?_
  exact ⟨_, rfl, HV6.out, Ext.boxed HX5.out (Nat.le_refl _) _ _ _⟩

end Go.Proofs.Yteoijnaljkagfaa
