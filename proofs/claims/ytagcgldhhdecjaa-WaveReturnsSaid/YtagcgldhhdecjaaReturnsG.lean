/- Lemmas of the proof that follows (Returns, part 7): walks of functions by contract, and plain lemmas. Conditions: none. -/
import Derived.Test.YtagcgldhhdecjaaReturnsF
namespace Go.Proofs.Ytagcgldhhdecjaa
open Go.RowKit

theorem Z16.pos {w : World} {A : Option Addr} {l c n : Nat} (h : Z16 w (.slice A l c) n) : IntZ w (.agg #[.bool false, .slice A l c]) (n : Int) := ⟨A, l, c, by rw [decide_eq_false (by omega)], h⟩
theorem IntZ.open {w : World} {v : Value} {z : Int} (h : IntZ w v z) : ∃ A l c, v = .agg #[.bool (decide (z < 0)), .slice A l c] ∧ Z16 w (.slice A l c) z.natAbs := by
  obtain ⟨A, l, c, rfl, h1⟩ := h
  exact ⟨A, l, c, rfl, h1⟩
theorem QZ.mk' {w : World} {b : Bool} {A B : Option Addr} {l c m k : Nat} {q : Rat} (hb : b = decide (q.num < 0)) (h : Z16 w (.slice A l c) q.num.natAbs) (h' : Z16 w (.slice B m k) q.den) : QZ w (.agg #[.bool b, .slice A l c, .slice B m k]) q :=
  ⟨_, _, _, _, _, _, _, rfl, hb, h, h'⟩
theorem run_QN (b : Bool) (A B : Option Addr) (l c m k : Nat) (w : World) : (Instr.field 101 (.agg #[.bool b, .slice A l c, .slice B m k]) 0).run Try.prog w = .ok (.agg #[.bool b, .slice A l c]) w := by kernel_rfl
theorem sgI_num (q : Rat) : sgI q.num = sgnQ q := by
  unfold sgI sgnQ
  by_cases h : q.num < 0
  · rw [if_pos h, if_pos h]
  · rw [if_neg h, if_neg h]
    by_cases h0 : q.num = 0
    · rw [if_pos h0, if_neg (by omega)]
    · rw [if_neg h0, if_pos (by omega)]

set_option maxRecDepth 100000 in
set_option maxHeartbeats 2000000 in
theorem qminus_r1 (ga : Nat) (s0 : Bool) (A0 B0 : Option Addr) (l0 c0 m0 k0 : Nat) (q : Rat) (w : World) (x0 : w.cell? ⟨ga, 0, none⟩ = some (.bool s0)) (x1 : w.cell? ⟨ga, 1, none⟩ = some (.slice A0 l0 c0)) (x2 : w.cell? ⟨ga, 2, none⟩ = some (.slice B0 m0 k0)) (hx : QZ w (.agg #[.bool s0, .slice A0 l0 c0, .slice B0 m0 k0]) q) (a : Act) (Q : Exit → Act → World → Prop) (hsize : 8 ≤ a.tmps.size)
    (s1 : a.tmps[1]? = some (.pointer (some ⟨ga, 0, none⟩)))
    (hend : ∀ (xv0 xv1 xv2 xv3 xv4 : Value) (W : World), (xv0 = .pointer (some ⟨ga, 0, none⟩)) → (xv1 = .agg #[.bool s0, .slice A0 l0 c0]) → (IntZ W xv2 (-q.num)) → (xv3 = .pointer (some ⟨ga, 2, none⟩)) → (xv4 = .slice B0 m0 k0) → Ext w W → wpList Try.prog (rops Try.f121 1).toArray Q ((rops Try.f121 1).drop 5) (((((a.put (some 3) xv0).put (some 4) xv1).put (some 5) xv2).put (some 6) xv3).put (some 7) xv4) W) :
    (Code.region 1 (rops Try.f121 1).toArray true).wp Try.prog Q a w := by
  have hmono : ∀ (W W' : World) (j : Nat) (u : Value), Ext W W' → (fun (i : Nat) (v : Value) (W : World) => match i with
    | 0 => v = .pointer (some ⟨ga, 0, none⟩)
    | 1 => v = .agg #[.bool s0, .slice A0 l0 c0]
    | 2 => IntZ W v (-q.num)
    | 3 => v = .pointer (some ⟨ga, 2, none⟩)
    | 4 => v = .slice B0 m0 k0
    | _ => True) j u W → (fun (i : Nat) (v : Value) (W : World) => match i with
    | 0 => v = .pointer (some ⟨ga, 0, none⟩)
    | 1 => v = .agg #[.bool s0, .slice A0 l0 c0]
    | 2 => IntZ W v (-q.num)
    | 3 => v = .pointer (some ⟨ga, 2, none⟩)
    | 4 => v = .slice B0 m0 k0
    | _ => True) j u W' := by
    intro W W' j u hX h
    match j, h with
    | 0, h => exact h
    | 1, h => exact h
    | 2, h => exact IntZ.ext h hX
    | 3, h => exact h
    | 4, h => exact h
    | _ + 5, h => exact h
  have hsz : ∀ d, some d ∈ ([some 3, some 4, some 5, some 6, some 7] : List (Option Tmp)) → d < a.tmps.size := slots_lt (by decide) hsize
  refine wp_region_j 5 [some 3, some 4, some 5, some 6, some 7] [[], [0], [1], [], [3]] [[], [], [], [], []] (fun (i : Nat) (v : Value) (W : World) => match i with
    | 0 => v = .pointer (some ⟨ga, 0, none⟩)
    | 1 => v = .agg #[.bool s0, .slice A0 l0 c0]
    | 2 => IntZ W v (-q.num)
    | 3 => v = .pointer (some ⟨ga, 2, none⟩)
    | 4 => v = .slice B0 m0 k0
    | _ => True) (fun _ W => Ext w W) (by kernel_rfl) (by kernel_rfl) hsz (fun _ _ _ _ h => h) ((Ext.refl w).drew) ?_ ?_
  · clear hend
    simp only [rops, Try.f121, regOf, Option.bind_some, Nat.reduceBEq, if_true, if_false, Bool.false_eq_true, Option.getD_some]
    simp only [List.take_succ_cons, List.take_zero]
    refine ⟨?_, ?_, ?_, ?_, ?_, trivial⟩
    · intro done us W hJ hdep haft hnot b hb hb' K hK Q'
      have e1 := (hb' 1 (by simp)).trans s1
      clear hb hb'
      go_simp
      exact hK _ _ rfl (fun _ _ _ h => h) hJ
    · intro done us W hJ hdep haft hnot b hb hb' K hK Q'
      simp only [List.getD_cons_succ, List.getD_cons_zero, List.mem_cons, List.not_mem_nil, or_false, forall_eq_or_imp, forall_eq] at hdep
      have e3 := hb 0 3 rfl
      have d0 := hdep
      rw [d0.1] at e3
      clear hb hb' hdep d0
      have z0 := Ext.cell hJ x0
      have z1 := Ext.cell hJ x1
      go_simp
      exact hK _ _ rfl (fun _ _ _ h => h) hJ
    · intro done us W hJ hdep haft hnot b hb hb' K hK Q'
      simp only [List.getD_cons_succ, List.getD_cons_zero, List.mem_cons, List.not_mem_nil, or_false, forall_eq_or_imp, forall_eq] at hdep
      have e4 := hb 1 4 rfl
      have d1 := hdep
      rw [d1.1] at e4
      clear hb hb' hdep d1
      go_simp
      refine (rminus_any _ _ _ (IntZ.ext (QZ.num hx) hJ)).mono ?_
      rintro e w' ⟨v, rfl, hv, hX⟩
      exact hK _ _ hv (fun j u _ h => hmono _ _ j u hX h) (Ext.trans hJ hX)
    · intro done us W hJ hdep haft hnot b hb hb' K hK Q'
      have e1 := (hb' 1 (by simp)).trans s1
      clear hb hb'
      go_simp
      exact hK _ _ rfl (fun _ _ _ h => h) hJ
    · intro done us W hJ hdep haft hnot b hb hb' K hK Q'
      simp only [List.getD_cons_succ, List.getD_cons_zero, List.mem_cons, List.not_mem_nil, or_false, forall_eq_or_imp, forall_eq] at hdep
      have e6 := hb 3 6 rfl
      have d3 := hdep
      rw [d3.1] at e6
      clear hb hb' hdep d3
      have q := Ext.cell hJ x2
      go_simp
      exact hK _ _ rfl (fun _ _ _ h => h) hJ
  · intro us W hV hJ
    exact hend (us 0) (us 1) (us 2) (us 3) (us 4) W (hV 0 (by omega)) (hV 1 (by omega)) (hV 2 (by omega)) (hV 3 (by omega)) (hV 4 (by omega)) hJ
set_option maxRecDepth 100000 in
set_option maxHeartbeats 2000000 in
theorem qminus_v (s0 : Bool) (A0 B0 : Option Addr) (l0 c0 m0 k0 : Nat) (q : Rat) (w : World) (hx : QZ w (.agg #[.bool s0, .slice A0 l0 c0, .slice B0 m0 k0]) q) :
    Calls Try.prog 121 #[.agg #[.bool s0, .slice A0 l0 c0, .slice B0 m0 k0]] w (RetQz w (-q)) := by
  have HXX := Lib.hid hx
  clear hx
  have hXe : Ext w ((w.alloc (.cells #[.bool s0, .slice A0 l0 c0, .slice B0 m0 k0] 101)).alloc (.cells #[.bool false, .slice none 0 0, .slice none 0 0] 101)) := (((Ext.refl w).alloc _).alloc _)
  have kA : Blk ((w.alloc (.cells #[.bool s0, .slice A0 l0 c0, .slice B0 m0 k0] 101)).alloc (.cells #[.bool false, .slice none 0 0, .slice none 0 0] 101)) w.heap.size 101 #[.bool s0, .slice A0 l0 c0, .slice B0 m0 k0] := Blk.alloc (Blk.at_ (by simp)) _
  have kR : Blk ((w.alloc (.cells #[.bool s0, .slice A0 l0 c0, .slice B0 m0 k0] 101)).alloc (.cells #[.bool false, .slice none 0 0, .slice none 0 0] 101)) (w.heap.size + 1) 101 #[.bool false, .slice none 0 0, .slice none 0 0] := Blk.at_ (by simp)
  go_enter Try.func121, Try.ntmps121
  go_wp2_with fail
  generalize ((w.alloc (.cells #[.bool s0, .slice A0 l0 c0, .slice B0 m0 k0] 101)).alloc (.cells #[.bool false, .slice none 0 0, .slice none 0 0] 101)) = w1 at hXe kA kR ⊢
  have HX := Lib.hid hXe
  clear hXe
  have KA := Lib.hid kA
  clear kA
  have KR := Lib.hid kR
  clear kR
  replace HXX := Lib.hid (HXX.out.ext HX.out)
  go_upto_region 1 with (fail)
  refine qminus_r1 w.heap.size s0 A0 B0 l0 c0 m0 k0 q w1 (KA.out.cell 0) (KA.out.cell 1) (KA.out.cell 2) HXX.out _ _ (by simp) rfl ?_
  rintro xv0 xv1 xv2 xv3 xv4 w2 rfl rfl hv rfl rfl hXW
  simp only [rops, Try.f121, regOf, Option.bind_some, Nat.reduceBEq, if_true, if_false, Bool.false_eq_true, Option.getD_some, List.drop_succ_cons, List.drop_zero]
  simp only [Act.put, List.setIfInBounds_toArray, List.set_cons_succ, List.set_cons_zero]
  replace HX := Lib.hid (HX.out.trans hXW)
  replace HXX := Lib.hid (HXX.out.ext hXW)
  replace KA := Lib.hid (KA.out.ext hXW)
  replace KR := Lib.hid (KR.out.ext hXW)
  clear hXW
  obtain ⟨A9, l9, c9, rfl, hv9⟩ := hv.open
  obtain ⟨b9, hb9⟩ : ∃ b, decide (-q.num < 0) = b := ⟨_, rfl⟩
  rw [hb9]
  have HD := Lib.hid HXX.out.den
  have HV : Hid (QZ w2 (.agg #[.bool b9, .slice A9 l9 c9, .slice B0 m0 k0]) (-q)) := QZ.mk' (by rw [Rat.neg_num, hb9]) (by rw [Rat.neg_num]; exact hv9) (by rw [Rat.neg_den]; exact HD.out)
  clear hv hv9 hb9
  replace HV := Lib.hid (QZ.past HV.out (NoInts.three KR.out))
  have cR0 : w2.cell? ⟨(w.heap.size + 1), 0, none⟩ = some (.bool false) := KR.out.cell 0
  have fR0 : w2.frozen? ⟨(w.heap.size + 1), 0, none⟩ = false := KR.out.free 0
  have cR1 : w2.cell? ⟨(w.heap.size + 1), 1, none⟩ = some (.slice none 0 0) := KR.out.cell 1
  have fR1 : w2.frozen? ⟨(w.heap.size + 1), 1, none⟩ = false := KR.out.free 1
  have cR2 : w2.cell? ⟨(w.heap.size + 1), 2, none⟩ = some (.slice none 0 0) := KR.out.cell 2
  have fR2 : w2.frozen? ⟨(w.heap.size + 1), 2, none⟩ = false := KR.out.free 2
  go_wp2
  refine bodyPost_ret (v := .agg #[.bool b9, .slice A9 l9 c9, .slice B0 m0 k0]) (by simp [results, Try.results121, go_sem, *]) rfl ?_
  exact ⟨_, rfl, HV.out, Ext.boxed HX.out (by omega) _ _ _⟩

theorem qminus_any (va : Value) (q : Rat) (w : World) (hx : QZ w va q) : Calls Try.prog 121 #[va] w (RetQz w (-q)) := by
  obtain ⟨s0, A0, l0, c0, B0, m0, k0, rfl⟩ := hx.open
  exact qminus_v s0 A0 B0 l0 c0 m0 k0 q w hx

set_option maxRecDepth 100000 in
set_option maxHeartbeats 2000000 in
theorem qadd_r1 (ga gb L M : Nat) (s0 : Bool) (A0 B0 : Option Addr) (l0 c0 m0 k0 : Nat) (s1 : Bool) (A1 B1 : Option Addr) (l1 c1 m1 k1 : Nat) (q r : Rat) (w : World) (x0 : w.cell? ⟨ga, 0, none⟩ = some (.bool s0)) (x1 : w.cell? ⟨ga, 1, none⟩ = some (.slice A0 l0 c0)) (x2 : w.cell? ⟨ga, 2, none⟩ = some (.slice B0 m0 k0)) (y0 : w.cell? ⟨gb, 0, none⟩ = some (.bool s1)) (y1 : w.cell? ⟨gb, 1, none⟩ = some (.slice A1 l1 c1)) (y2 : w.cell? ⟨gb, 2, none⟩ = some (.slice B1 m1 k1)) (hx : QZ w (.agg #[.bool s0, .slice A0 l0 c0, .slice B0 m0 k0]) q) (hy : QZ w (.agg #[.bool s1, .slice A1 l1 c1, .slice B1 m1 k1]) r) (fq : FitR q L) (fr : FitR r M) (hLM : L + M + 1 ≤ 400000) (a : Act) (Q : Exit → Act → World → Prop) (hsize : 25 ≤ a.tmps.size)
    (s2 : a.tmps[2]? = some (.pointer (some ⟨ga, 0, none⟩)))
    (s3 : a.tmps[3]? = some (.pointer (some ⟨gb, 0, none⟩)))
    (hend : ∀ (xv0 xv1 xv2 xv3 xv4 xv5 xv6 xv7 xv8 xv9 xv10 xv11 xv12 xv13 xv14 xv15 xv16 xv17 xv18 xv19 : Value) (W : World), (xv0 = .pointer (some ⟨ga, 0, none⟩)) → (xv1 = .agg #[.bool s0, .slice A0 l0 c0]) → (xv2 = .pointer (some ⟨gb, 2, none⟩)) → (xv3 = .slice B1 m1 k1) → (xv4 = .agg #[.bool false, .slice B1 m1 k1]) → (IntZ W xv5 (q.num * (r.den : Int))) → (xv6 = .pointer (some ⟨gb, 0, none⟩)) → (xv7 = .agg #[.bool s1, .slice A1 l1 c1]) → (xv8 = .pointer (some ⟨ga, 2, none⟩)) → (xv9 = .slice B0 m0 k0) → (xv10 = .agg #[.bool false, .slice B0 m0 k0]) → (IntZ W xv11 (r.num * (q.den : Int))) → (IntZ W xv12 (q.num * (r.den : Int) + r.num * (q.den : Int))) → (xv13 = .pointer (some ⟨ga, 2, none⟩)) → (xv14 = .slice B0 m0 k0) → (xv15 = .pointer (some ⟨gb, 2, none⟩)) → (xv16 = .slice B1 m1 k1) → (Z16 W xv17 (q.den * r.den)) → (∃ A l c, xv18 = .agg #[.bool false, .slice A l c] ∧ Z16 W (.slice A l c) (q.den * r.den)) → (QZ W xv19 (q + r)) → Ext w W → wpList Try.prog (rops Try.f88 1).toArray Q ((rops Try.f88 1).drop 20) ((((((((((((((((((((a.put (some 5) xv0).put (some 6) xv1).put (some 7) xv2).put (some 8) xv3).put (some 9) xv4).put (some 10) xv5).put (some 11) xv6).put (some 12) xv7).put (some 13) xv8).put (some 14) xv9).put (some 15) xv10).put (some 16) xv11).put (some 17) xv12).put (some 18) xv13).put (some 19) xv14).put (some 20) xv15).put (some 21) xv16).put (some 22) xv17).put (some 23) xv18).put (some 24) xv19) W) :
    (Code.region 1 (rops Try.f88 1).toArray true).wp Try.prog Q a w := by
  have hmono : ∀ (W W' : World) (j : Nat) (u : Value), Ext W W' → (fun (i : Nat) (v : Value) (W : World) => match i with
    | 0 => v = .pointer (some ⟨ga, 0, none⟩)
    | 1 => v = .agg #[.bool s0, .slice A0 l0 c0]
    | 2 => v = .pointer (some ⟨gb, 2, none⟩)
    | 3 => v = .slice B1 m1 k1
    | 4 => v = .agg #[.bool false, .slice B1 m1 k1]
    | 5 => IntZ W v (q.num * (r.den : Int))
    | 6 => v = .pointer (some ⟨gb, 0, none⟩)
    | 7 => v = .agg #[.bool s1, .slice A1 l1 c1]
    | 8 => v = .pointer (some ⟨ga, 2, none⟩)
    | 9 => v = .slice B0 m0 k0
    | 10 => v = .agg #[.bool false, .slice B0 m0 k0]
    | 11 => IntZ W v (r.num * (q.den : Int))
    | 12 => IntZ W v (q.num * (r.den : Int) + r.num * (q.den : Int))
    | 13 => v = .pointer (some ⟨ga, 2, none⟩)
    | 14 => v = .slice B0 m0 k0
    | 15 => v = .pointer (some ⟨gb, 2, none⟩)
    | 16 => v = .slice B1 m1 k1
    | 17 => Z16 W v (q.den * r.den)
    | 18 => ∃ A l c, v = .agg #[.bool false, .slice A l c] ∧ Z16 W (.slice A l c) (q.den * r.den)
    | 19 => QZ W v (q + r)
    | _ => True) j u W → (fun (i : Nat) (v : Value) (W : World) => match i with
    | 0 => v = .pointer (some ⟨ga, 0, none⟩)
    | 1 => v = .agg #[.bool s0, .slice A0 l0 c0]
    | 2 => v = .pointer (some ⟨gb, 2, none⟩)
    | 3 => v = .slice B1 m1 k1
    | 4 => v = .agg #[.bool false, .slice B1 m1 k1]
    | 5 => IntZ W v (q.num * (r.den : Int))
    | 6 => v = .pointer (some ⟨gb, 0, none⟩)
    | 7 => v = .agg #[.bool s1, .slice A1 l1 c1]
    | 8 => v = .pointer (some ⟨ga, 2, none⟩)
    | 9 => v = .slice B0 m0 k0
    | 10 => v = .agg #[.bool false, .slice B0 m0 k0]
    | 11 => IntZ W v (r.num * (q.den : Int))
    | 12 => IntZ W v (q.num * (r.den : Int) + r.num * (q.den : Int))
    | 13 => v = .pointer (some ⟨ga, 2, none⟩)
    | 14 => v = .slice B0 m0 k0
    | 15 => v = .pointer (some ⟨gb, 2, none⟩)
    | 16 => v = .slice B1 m1 k1
    | 17 => Z16 W v (q.den * r.den)
    | 18 => ∃ A l c, v = .agg #[.bool false, .slice A l c] ∧ Z16 W (.slice A l c) (q.den * r.den)
    | 19 => QZ W v (q + r)
    | _ => True) j u W' := by
    intro W W' j u hX h
    match j, h with
    | 0, h => exact h
    | 1, h => exact h
    | 2, h => exact h
    | 3, h => exact h
    | 4, h => exact h
    | 5, h => exact IntZ.ext h hX
    | 6, h => exact h
    | 7, h => exact h
    | 8, h => exact h
    | 9, h => exact h
    | 10, h => exact h
    | 11, h => exact IntZ.ext h hX
    | 12, h => exact IntZ.ext h hX
    | 13, h => exact h
    | 14, h => exact h
    | 15, h => exact h
    | 16, h => exact h
    | 17, h => exact Z16.ext h hX
    | 18, h => obtain ⟨A, l, c, h1, h2⟩ := h; exact ⟨A, l, c, h1, Z16.ext h2 hX⟩
    | 19, h => exact QZ.ext h hX
    | _ + 20, h => exact h
  have hsz : ∀ d, some d ∈ ([some 5, some 6, some 7, some 8, some 9, some 10, some 11, some 12, some 13, some 14, some 15, some 16, some 17, some 18, some 19, some 20, some 21, some 22, some 23, some 24] : List (Option Tmp)) → d < a.tmps.size := slots_lt (by decide) hsize
  refine wp_region_j 20 [some 5, some 6, some 7, some 8, some 9, some 10, some 11, some 12, some 13, some 14, some 15, some 16, some 17, some 18, some 19, some 20, some 21, some 22, some 23, some 24] [[], [0], [], [2], [3], [1, 4], [], [6], [], [8], [9], [7, 10], [5, 11], [], [13], [], [15], [14, 16], [17], [12, 18]] [[], [], [], [], [], [], [], [], [], [], [], [], [], [], [], [], [], [], [], []] (fun (i : Nat) (v : Value) (W : World) => match i with
    | 0 => v = .pointer (some ⟨ga, 0, none⟩)
    | 1 => v = .agg #[.bool s0, .slice A0 l0 c0]
    | 2 => v = .pointer (some ⟨gb, 2, none⟩)
    | 3 => v = .slice B1 m1 k1
    | 4 => v = .agg #[.bool false, .slice B1 m1 k1]
    | 5 => IntZ W v (q.num * (r.den : Int))
    | 6 => v = .pointer (some ⟨gb, 0, none⟩)
    | 7 => v = .agg #[.bool s1, .slice A1 l1 c1]
    | 8 => v = .pointer (some ⟨ga, 2, none⟩)
    | 9 => v = .slice B0 m0 k0
    | 10 => v = .agg #[.bool false, .slice B0 m0 k0]
    | 11 => IntZ W v (r.num * (q.den : Int))
    | 12 => IntZ W v (q.num * (r.den : Int) + r.num * (q.den : Int))
    | 13 => v = .pointer (some ⟨ga, 2, none⟩)
    | 14 => v = .slice B0 m0 k0
    | 15 => v = .pointer (some ⟨gb, 2, none⟩)
    | 16 => v = .slice B1 m1 k1
    | 17 => Z16 W v (q.den * r.den)
    | 18 => ∃ A l c, v = .agg #[.bool false, .slice A l c] ∧ Z16 W (.slice A l c) (q.den * r.den)
    | 19 => QZ W v (q + r)
    | _ => True) (fun _ W => Ext w W) (by kernel_rfl) (by kernel_rfl) hsz (fun _ _ _ _ h => h) ((Ext.refl w).drew) ?_ ?_
  · clear hend
    simp only [rops, Try.f88, regOf, Option.bind_some, Nat.reduceBEq, if_true, if_false, Bool.false_eq_true, Option.getD_some]
    simp only [List.take_succ_cons, List.take_zero]
    refine ⟨?_, ?_, ?_, ?_, ?_, ?_, ?_, ?_, ?_, ?_, ?_, ?_, ?_, ?_, ?_, ?_, ?_, ?_, ?_, ?_, trivial⟩
    · intro done us W hJ hdep haft hnot b hb hb' K hK Q'
      have e2 := (hb' 2 (by simp)).trans s2
      clear hb hb'
      go_simp
      exact hK _ _ rfl (fun _ _ _ h => h) hJ
    · intro done us W hJ hdep haft hnot b hb hb' K hK Q'
      simp only [List.getD_cons_succ, List.getD_cons_zero, List.mem_cons, List.not_mem_nil, or_false, forall_eq_or_imp, forall_eq] at hdep
      have e5 := hb 0 5 rfl
      have d0 := hdep
      rw [d0.1] at e5
      clear hb hb' hdep d0
      have z0 := Ext.cell hJ x0
      have z1 := Ext.cell hJ x1
      go_simp
      exact hK _ _ rfl (fun _ _ _ h => h) hJ
    · intro done us W hJ hdep haft hnot b hb hb' K hK Q'
      have e3 := (hb' 3 (by simp)).trans s3
      clear hb hb'
      go_simp
      exact hK _ _ rfl (fun _ _ _ h => h) hJ
    · intro done us W hJ hdep haft hnot b hb hb' K hK Q'
      simp only [List.getD_cons_succ, List.getD_cons_zero, List.mem_cons, List.not_mem_nil, or_false, forall_eq_or_imp, forall_eq] at hdep
      have e7 := hb 2 7 rfl
      have d2 := hdep
      rw [d2.1] at e7
      clear hb hb' hdep d2
      have q := Ext.cell hJ y2
      go_simp
      exact hK _ _ rfl (fun _ _ _ h => h) hJ
    · intro done us W hJ hdep haft hnot b hb hb' K hK Q'
      simp only [List.getD_cons_succ, List.getD_cons_zero, List.mem_cons, List.not_mem_nil, or_false, forall_eq_or_imp, forall_eq] at hdep
      have e8 := hb 3 8 rfl
      have d3 := hdep
      rw [d3.1] at e8
      clear hb hb' hdep d3
      go_simp
      exact hK _ _ rfl (fun _ _ _ h => h) hJ
    · intro done us W hJ hdep haft hnot b hb hb' K hK Q'
      simp only [List.getD_cons_succ, List.getD_cons_zero, List.mem_cons, List.not_mem_nil, or_false, forall_eq_or_imp, forall_eq] at hdep
      have e6 := hb 1 6 rfl
      have e9 := hb 4 9 rfl
      have d1 := hdep.1
      have d4 := hdep.2
      rw [d1.1] at e6
      rw [d4.1] at e9
      clear hb hb' hdep d1 d4
      go_simp
      refine (zmul_any _ _ q.num (r.den : Int) L M _ (IntZ.ext (QZ.num hx) hJ) (IntZ.ext (QZ.den hy).pos hJ) fq.1 (by simpa using fr.2) (by omega) (by omega)).mono ?_
      rintro e w' ⟨v, rfl, hv, hX⟩
      exact hK _ _ hv (fun j u _ h => hmono _ _ j u hX h) (Ext.trans hJ hX)
    · intro done us W hJ hdep haft hnot b hb hb' K hK Q'
      have e3 := (hb' 3 (by simp)).trans s3
      clear hb hb'
      go_simp
      exact hK _ _ rfl (fun _ _ _ h => h) hJ
    · intro done us W hJ hdep haft hnot b hb hb' K hK Q'
      simp only [List.getD_cons_succ, List.getD_cons_zero, List.mem_cons, List.not_mem_nil, or_false, forall_eq_or_imp, forall_eq] at hdep
      have e11 := hb 6 11 rfl
      have d6 := hdep
      rw [d6.1] at e11
      clear hb hb' hdep d6
      have z0 := Ext.cell hJ y0
      have z1 := Ext.cell hJ y1
      go_simp
      exact hK _ _ rfl (fun _ _ _ h => h) hJ
    · intro done us W hJ hdep haft hnot b hb hb' K hK Q'
      have e2 := (hb' 2 (by simp)).trans s2
      clear hb hb'
      go_simp
      exact hK _ _ rfl (fun _ _ _ h => h) hJ
    · intro done us W hJ hdep haft hnot b hb hb' K hK Q'
      simp only [List.getD_cons_succ, List.getD_cons_zero, List.mem_cons, List.not_mem_nil, or_false, forall_eq_or_imp, forall_eq] at hdep
      have e13 := hb 8 13 rfl
      have d8 := hdep
      rw [d8.1] at e13
      clear hb hb' hdep d8
      have q := Ext.cell hJ x2
      go_simp
      exact hK _ _ rfl (fun _ _ _ h => h) hJ
    · intro done us W hJ hdep haft hnot b hb hb' K hK Q'
      simp only [List.getD_cons_succ, List.getD_cons_zero, List.mem_cons, List.not_mem_nil, or_false, forall_eq_or_imp, forall_eq] at hdep
      have e14 := hb 9 14 rfl
      have d9 := hdep
      rw [d9.1] at e14
      clear hb hb' hdep d9
      go_simp
      exact hK _ _ rfl (fun _ _ _ h => h) hJ
    · intro done us W hJ hdep haft hnot b hb hb' K hK Q'
      simp only [List.getD_cons_succ, List.getD_cons_zero, List.mem_cons, List.not_mem_nil, or_false, forall_eq_or_imp, forall_eq] at hdep
      have e12 := hb 7 12 rfl
      have e15 := hb 10 15 rfl
      have d7 := hdep.1
      have d10 := hdep.2
      rw [d7.1] at e12
      rw [d10.1] at e15
      clear hb hb' hdep d7 d10
      go_simp
      refine (zmul_any _ _ r.num (q.den : Int) M L _ (IntZ.ext (QZ.num hy) hJ) (IntZ.ext (QZ.den hx).pos hJ) fr.1 (by simpa using fq.2) (by omega) (by omega)).mono ?_
      rintro e w' ⟨v, rfl, hv, hX⟩
      exact hK _ _ hv (fun j u _ h => hmono _ _ j u hX h) (Ext.trans hJ hX)
    · intro done us W hJ hdep haft hnot b hb hb' K hK Q'
      simp only [List.getD_cons_succ, List.getD_cons_zero, List.mem_cons, List.not_mem_nil, or_false, forall_eq_or_imp, forall_eq] at hdep
      have e10 := hb 5 10 rfl
      have e16 := hb 11 16 rfl
      have d5 := hdep.1
      have d11 := hdep.2
      clear hb hb' hdep 
      go_simp
      refine (zadd_any _ _ _ _ (L + M) _ d5.1 d11.1 (fit_mulI fq.1 (by simpa using fr.2) (Nat.le_refl _)) (fit_mulI fr.1 (by simpa using fq.2) (by omega)) (by omega)).mono ?_
      rintro e w' ⟨v, rfl, hv, hX⟩
      exact hK _ _ hv (fun j u _ h => hmono _ _ j u hX h) (Ext.trans hJ hX)
    · intro done us W hJ hdep haft hnot b hb hb' K hK Q'
      have e2 := (hb' 2 (by simp)).trans s2
      clear hb hb'
      go_simp
      exact hK _ _ rfl (fun _ _ _ h => h) hJ
    · intro done us W hJ hdep haft hnot b hb hb' K hK Q'
      simp only [List.getD_cons_succ, List.getD_cons_zero, List.mem_cons, List.not_mem_nil, or_false, forall_eq_or_imp, forall_eq] at hdep
      have e18 := hb 13 18 rfl
      have d13 := hdep
      rw [d13.1] at e18
      clear hb hb' hdep d13
      have q := Ext.cell hJ x2
      go_simp
      exact hK _ _ rfl (fun _ _ _ h => h) hJ
    · intro done us W hJ hdep haft hnot b hb hb' K hK Q'
      have e3 := (hb' 3 (by simp)).trans s3
      clear hb hb'
      go_simp
      exact hK _ _ rfl (fun _ _ _ h => h) hJ
    · intro done us W hJ hdep haft hnot b hb hb' K hK Q'
      simp only [List.getD_cons_succ, List.getD_cons_zero, List.mem_cons, List.not_mem_nil, or_false, forall_eq_or_imp, forall_eq] at hdep
      have e20 := hb 15 20 rfl
      have d15 := hdep
      rw [d15.1] at e20
      clear hb hb' hdep d15
      have q := Ext.cell hJ y2
      go_simp
      exact hK _ _ rfl (fun _ _ _ h => h) hJ
    · intro done us W hJ hdep haft hnot b hb hb' K hK Q'
      simp only [List.getD_cons_succ, List.getD_cons_zero, List.mem_cons, List.not_mem_nil, or_false, forall_eq_or_imp, forall_eq] at hdep
      have e19 := hb 14 19 rfl
      have e21 := hb 16 21 rfl
      have d14 := hdep.1
      have d16 := hdep.2
      rw [d14.1] at e19
      rw [d16.1] at e21
      clear hb hb' hdep d14 d16
      go_simp
      refine (times16_any _ _ q.den r.den L M _ (Z16.ext (QZ.den hx) hJ) (Z16.ext (QZ.den hy) hJ) fq.2 fr.2 (by omega) (by omega)).mono ?_
      rintro e w' ⟨v, rfl, hv, hX⟩
      exact hK _ _ hv (fun j u _ h => hmono _ _ j u hX h) (Ext.trans hJ hX)
    · intro done us W hJ hdep haft hnot b hb hb' K hK Q'
      simp only [List.getD_cons_succ, List.getD_cons_zero, List.mem_cons, List.not_mem_nil, or_false, forall_eq_or_imp, forall_eq] at hdep
      have e22 := hb 17 22 rfl
      have d17 := hdep
      clear hb hb' hdep 
      obtain ⟨A9, l9, c9, hv9, g9, _⟩ := Z16.open d17.1
      rw [hv9] at e22
      go_simp
      exact hK _ _ ⟨_, _, _, rfl, g9⟩ (fun _ _ _ h => h) hJ
    · intro done us W hJ hdep haft hnot b hb hb' K hK Q'
      simp only [List.getD_cons_succ, List.getD_cons_zero, List.mem_cons, List.not_mem_nil, or_false, forall_eq_or_imp, forall_eq] at hdep
      have e17 := hb 12 17 rfl
      have e23 := hb 18 23 rfl
      have d12 := hdep.1
      have d18 := hdep.2
      clear hb hb' hdep 
      obtain ⟨A9, l9, c9, hv9, g9⟩ := d18.1
      rw [hv9] at e23
      go_simp
      refine ((fracI _ _ false A9 l9 c9 _ (L + M + 1) _ d12.1 g9 (fit_addI (fit_mulI fq.1 (by simpa using fr.2) (Nat.le_refl _)) (fit_mulI fr.1 (by simpa using fq.2) (by omega)) (by omega)) (fit_mul fq.2 fr.2 (by omega)) (by omega) (Nat.mul_pos q.den_pos r.den_pos)).mono (RetQz.of (q_add q r))).mono ?_
      rintro e w' ⟨v, rfl, hv, hX⟩
      exact hK _ _ hv (fun j u _ h => hmono _ _ j u hX h) (Ext.trans hJ hX)
  · intro us W hV hJ
    exact hend (us 0) (us 1) (us 2) (us 3) (us 4) (us 5) (us 6) (us 7) (us 8) (us 9) (us 10) (us 11) (us 12) (us 13) (us 14) (us 15) (us 16) (us 17) (us 18) (us 19) W (hV 0 (by omega)) (hV 1 (by omega)) (hV 2 (by omega)) (hV 3 (by omega)) (hV 4 (by omega)) (hV 5 (by omega)) (hV 6 (by omega)) (hV 7 (by omega)) (hV 8 (by omega)) (hV 9 (by omega)) (hV 10 (by omega)) (hV 11 (by omega)) (hV 12 (by omega)) (hV 13 (by omega)) (hV 14 (by omega)) (hV 15 (by omega)) (hV 16 (by omega)) (hV 17 (by omega)) (hV 18 (by omega)) (hV 19 (by omega)) hJ
set_option maxRecDepth 100000 in
set_option maxHeartbeats 2000000 in
theorem qadd_v (s0 : Bool) (A0 B0 : Option Addr) (l0 c0 m0 k0 : Nat) (s1 : Bool) (A1 B1 : Option Addr) (l1 c1 m1 k1 : Nat) (q r : Rat) (L M : Nat) (w : World) (hx : QZ w (.agg #[.bool s0, .slice A0 l0 c0, .slice B0 m0 k0]) q) (hy : QZ w (.agg #[.bool s1, .slice A1 l1 c1, .slice B1 m1 k1]) r) (fq : FitR q L) (fr : FitR r M) (hLM : L + M + 1 ≤ 400000) :
    Calls Try.prog 88 #[.agg #[.bool s0, .slice A0 l0 c0, .slice B0 m0 k0], .agg #[.bool s1, .slice A1 l1 c1, .slice B1 m1 k1]] w (RetQz w (q + r)) := by
  have HXX := Lib.hid hx
  have HYY := Lib.hid hy
  have HFQ := Lib.hid fq
  have HFR := Lib.hid fr
  clear hx hy fq fr
  have hXe : Ext w (((w.alloc (.cells #[.bool s0, .slice A0 l0 c0, .slice B0 m0 k0] 101)).alloc (.cells #[.bool s1, .slice A1 l1 c1, .slice B1 m1 k1] 101)).alloc (.cells #[.bool false, .slice none 0 0, .slice none 0 0] 101)) := ((((Ext.refl w).alloc _).alloc _).alloc _)
  have kA : Blk (((w.alloc (.cells #[.bool s0, .slice A0 l0 c0, .slice B0 m0 k0] 101)).alloc (.cells #[.bool s1, .slice A1 l1 c1, .slice B1 m1 k1] 101)).alloc (.cells #[.bool false, .slice none 0 0, .slice none 0 0] 101)) w.heap.size 101 #[.bool s0, .slice A0 l0 c0, .slice B0 m0 k0] := Blk.alloc (Blk.alloc (Blk.at_ (by simp)) _) _
  have kB : Blk (((w.alloc (.cells #[.bool s0, .slice A0 l0 c0, .slice B0 m0 k0] 101)).alloc (.cells #[.bool s1, .slice A1 l1 c1, .slice B1 m1 k1] 101)).alloc (.cells #[.bool false, .slice none 0 0, .slice none 0 0] 101)) (w.heap.size + 1) 101 #[.bool s1, .slice A1 l1 c1, .slice B1 m1 k1] := Blk.alloc (Blk.at_ (by simp)) _
  have kR : Blk (((w.alloc (.cells #[.bool s0, .slice A0 l0 c0, .slice B0 m0 k0] 101)).alloc (.cells #[.bool s1, .slice A1 l1 c1, .slice B1 m1 k1] 101)).alloc (.cells #[.bool false, .slice none 0 0, .slice none 0 0] 101)) (w.heap.size + 2) 101 #[.bool false, .slice none 0 0, .slice none 0 0] := Blk.at_ (by simp)
  go_enter Try.func88, Try.ntmps88
  go_wp2_with fail
  generalize (((w.alloc (.cells #[.bool s0, .slice A0 l0 c0, .slice B0 m0 k0] 101)).alloc (.cells #[.bool s1, .slice A1 l1 c1, .slice B1 m1 k1] 101)).alloc (.cells #[.bool false, .slice none 0 0, .slice none 0 0] 101)) = w1 at hXe kA kB kR ⊢
  have HX := Lib.hid hXe
  clear hXe
  have KA := Lib.hid kA
  clear kA
  have KB := Lib.hid kB
  clear kB
  have KR := Lib.hid kR
  clear kR
  replace HXX := Lib.hid (HXX.out.ext HX.out)
  replace HYY := Lib.hid (HYY.out.ext HX.out)
  go_upto_region 1 with (fail)
  refine qadd_r1 w.heap.size (w.heap.size + 1) L M s0 A0 B0 l0 c0 m0 k0 s1 A1 B1 l1 c1 m1 k1 q r w1 (KA.out.cell 0) (KA.out.cell 1) (KA.out.cell 2) (KB.out.cell 0) (KB.out.cell 1) (KB.out.cell 2) HXX.out HYY.out HFQ.out HFR.out hLM _ _ (by simp) rfl rfl ?_
  rintro xv0 xv1 xv2 xv3 xv4 xv5 xv6 xv7 xv8 xv9 xv10 xv11 xv12 xv13 xv14 xv15 xv16 xv17 xv18 xv19 w2 rfl rfl rfl rfl rfl _ rfl rfl rfl rfl rfl _ _ rfl rfl rfl rfl _ _ hv hXW
  simp only [rops, Try.f88, regOf, Option.bind_some, Nat.reduceBEq, if_true, if_false, Bool.false_eq_true, Option.getD_some, List.drop_succ_cons, List.drop_zero]
  simp only [Act.put, List.setIfInBounds_toArray, List.set_cons_succ, List.set_cons_zero]
  replace HX := Lib.hid (HX.out.trans hXW)
  replace HXX := Lib.hid (HXX.out.ext hXW)
  replace HYY := Lib.hid (HYY.out.ext hXW)
  replace KA := Lib.hid (KA.out.ext hXW)
  replace KB := Lib.hid (KB.out.ext hXW)
  replace KR := Lib.hid (KR.out.ext hXW)
  clear hXW
  obtain ⟨s9, A9, l9, c9, B9, m9, k9, rfl⟩ := QZ.open hv
  have HV := Lib.hid (QZ.past hv (NoInts.three KR.out))
  clear hv
  have cR0 : w2.cell? ⟨(w.heap.size + 2), 0, none⟩ = some (.bool false) := KR.out.cell 0
  have fR0 : w2.frozen? ⟨(w.heap.size + 2), 0, none⟩ = false := KR.out.free 0
  have cR1 : w2.cell? ⟨(w.heap.size + 2), 1, none⟩ = some (.slice none 0 0) := KR.out.cell 1
  have fR1 : w2.frozen? ⟨(w.heap.size + 2), 1, none⟩ = false := KR.out.free 1
  have cR2 : w2.cell? ⟨(w.heap.size + 2), 2, none⟩ = some (.slice none 0 0) := KR.out.cell 2
  have fR2 : w2.frozen? ⟨(w.heap.size + 2), 2, none⟩ = false := KR.out.free 2
  go_wp2
  refine bodyPost_ret (v := .agg #[.bool s9, .slice A9 l9 c9, .slice B9 m9 k9]) (by simp [results, Try.results88, go_sem, *]) rfl ?_
  exact ⟨_, rfl, HV.out, Ext.boxed HX.out (by omega) _ _ _⟩

theorem qadd_any (va vb : Value) (q r : Rat) (L M : Nat) (w : World) (hx : QZ w va q) (hy : QZ w vb r) (fq : FitR q L) (fr : FitR r M) (hLM : L + M + 1 ≤ 400000) : Calls Try.prog 88 #[va, vb] w (RetQz w (q + r)) := by
  obtain ⟨s0, A0, l0, c0, B0, m0, k0, rfl⟩ := hx.open
  obtain ⟨s1, A1, l1, c1, B1, m1, k1, rfl⟩ := hy.open
  exact qadd_v s0 A0 B0 l0 c0 m0 k0 s1 A1 B1 l1 c1 m1 k1 q r L M w hx hy fq fr hLM

set_option maxRecDepth 100000 in
set_option maxHeartbeats 2000000 in
theorem qsub_r1 (ga gb L M : Nat) (s0 : Bool) (A0 B0 : Option Addr) (l0 c0 m0 k0 : Nat) (s1 : Bool) (A1 B1 : Option Addr) (l1 c1 m1 k1 : Nat) (q r : Rat) (w : World) (x0 : w.cell? ⟨ga, 0, none⟩ = some (.bool s0)) (x1 : w.cell? ⟨ga, 1, none⟩ = some (.slice A0 l0 c0)) (x2 : w.cell? ⟨ga, 2, none⟩ = some (.slice B0 m0 k0)) (y0 : w.cell? ⟨gb, 0, none⟩ = some (.bool s1)) (y1 : w.cell? ⟨gb, 1, none⟩ = some (.slice A1 l1 c1)) (y2 : w.cell? ⟨gb, 2, none⟩ = some (.slice B1 m1 k1)) (hx : QZ w (.agg #[.bool s0, .slice A0 l0 c0, .slice B0 m0 k0]) q) (hy : QZ w (.agg #[.bool s1, .slice A1 l1 c1, .slice B1 m1 k1]) r) (fq : FitR q L) (fr : FitR r M) (hLM : L + M + 1 ≤ 400000) (a : Act) (Q : Exit → Act → World → Prop) (hsize : 9 ≤ a.tmps.size)
    (s2 : a.tmps[2]? = some (.pointer (some ⟨ga, 0, none⟩)))
    (s3 : a.tmps[3]? = some (.pointer (some ⟨gb, 0, none⟩)))
    (hend : ∀ (xv0 xv1 xv2 xv3 : Value) (W : World), (xv0 = .agg #[.bool s0, .slice A0 l0 c0, .slice B0 m0 k0]) → (xv1 = .agg #[.bool s1, .slice A1 l1 c1, .slice B1 m1 k1]) → (QZ W xv2 (-r)) → (QZ W xv3 (q - r)) → Ext w W → wpList Try.prog (rops Try.f117 1).toArray Q ((rops Try.f117 1).drop 4) ((((a.put (some 5) xv0).put (some 6) xv1).put (some 7) xv2).put (some 8) xv3) W) :
    (Code.region 1 (rops Try.f117 1).toArray true).wp Try.prog Q a w := by
  have hmono : ∀ (W W' : World) (j : Nat) (u : Value), Ext W W' → (fun (i : Nat) (v : Value) (W : World) => match i with
    | 0 => v = .agg #[.bool s0, .slice A0 l0 c0, .slice B0 m0 k0]
    | 1 => v = .agg #[.bool s1, .slice A1 l1 c1, .slice B1 m1 k1]
    | 2 => QZ W v (-r)
    | 3 => QZ W v (q - r)
    | _ => True) j u W → (fun (i : Nat) (v : Value) (W : World) => match i with
    | 0 => v = .agg #[.bool s0, .slice A0 l0 c0, .slice B0 m0 k0]
    | 1 => v = .agg #[.bool s1, .slice A1 l1 c1, .slice B1 m1 k1]
    | 2 => QZ W v (-r)
    | 3 => QZ W v (q - r)
    | _ => True) j u W' := by
    intro W W' j u hX h
    match j, h with
    | 0, h => exact h
    | 1, h => exact h
    | 2, h => exact QZ.ext h hX
    | 3, h => exact QZ.ext h hX
    | _ + 4, h => exact h
  have hsz : ∀ d, some d ∈ ([some 5, some 6, some 7, some 8] : List (Option Tmp)) → d < a.tmps.size := slots_lt (by decide) hsize
  refine wp_region_j 4 [some 5, some 6, some 7, some 8] [[], [], [1], [0, 2]] [[], [], [], []] (fun (i : Nat) (v : Value) (W : World) => match i with
    | 0 => v = .agg #[.bool s0, .slice A0 l0 c0, .slice B0 m0 k0]
    | 1 => v = .agg #[.bool s1, .slice A1 l1 c1, .slice B1 m1 k1]
    | 2 => QZ W v (-r)
    | 3 => QZ W v (q - r)
    | _ => True) (fun _ W => Ext w W) (by kernel_rfl) (by kernel_rfl) hsz (fun _ _ _ _ h => h) ((Ext.refl w).drew) ?_ ?_
  · clear hend
    simp only [rops, Try.f117, regOf, Option.bind_some, Nat.reduceBEq, if_true, if_false, Bool.false_eq_true, Option.getD_some]
    simp only [List.take_succ_cons, List.take_zero]
    refine ⟨?_, ?_, ?_, ?_, trivial⟩
    · intro done us W hJ hdep haft hnot b hb hb' K hK Q'
      have e2 := (hb' 2 (by simp)).trans s2
      clear hb hb'
      have z0 := Ext.cell hJ x0
      have z1 := Ext.cell hJ x1
      have z2 := Ext.cell hJ x2
      go_simp
      exact hK _ _ rfl (fun _ _ _ h => h) hJ
    · intro done us W hJ hdep haft hnot b hb hb' K hK Q'
      have e3 := (hb' 3 (by simp)).trans s3
      clear hb hb'
      have z0 := Ext.cell hJ y0
      have z1 := Ext.cell hJ y1
      have z2 := Ext.cell hJ y2
      go_simp
      exact hK _ _ rfl (fun _ _ _ h => h) hJ
    · intro done us W hJ hdep haft hnot b hb hb' K hK Q'
      simp only [List.getD_cons_succ, List.getD_cons_zero, List.mem_cons, List.not_mem_nil, or_false, forall_eq_or_imp, forall_eq] at hdep
      have e6 := hb 1 6 rfl
      have d1 := hdep
      rw [d1.1] at e6
      clear hb hb' hdep d1
      go_simp
      refine (qminus_any _ _ _ (QZ.ext hy hJ)).mono ?_
      rintro e w' ⟨v, rfl, hv, hX⟩
      exact hK _ _ hv (fun j u _ h => hmono _ _ j u hX h) (Ext.trans hJ hX)
    · intro done us W hJ hdep haft hnot b hb hb' K hK Q'
      simp only [List.getD_cons_succ, List.getD_cons_zero, List.mem_cons, List.not_mem_nil, or_false, forall_eq_or_imp, forall_eq] at hdep
      have e5 := hb 0 5 rfl
      have e7 := hb 2 7 rfl
      have d0 := hdep.1
      have d2 := hdep.2
      rw [d0.1] at e5
      clear hb hb' hdep d0
      go_simp
      refine ((qadd_any _ _ q (-r) L M _ (QZ.ext hx hJ) d2.1 fq (fitR_neg fr) hLM).mono (RetQz.of (Rat.sub_eq_add_neg q r).symm)).mono ?_
      rintro e w' ⟨v, rfl, hv, hX⟩
      exact hK _ _ hv (fun j u _ h => hmono _ _ j u hX h) (Ext.trans hJ hX)
  · intro us W hV hJ
    exact hend (us 0) (us 1) (us 2) (us 3) W (hV 0 (by omega)) (hV 1 (by omega)) (hV 2 (by omega)) (hV 3 (by omega)) hJ
set_option maxRecDepth 100000 in
set_option maxHeartbeats 2000000 in
theorem qsub_v (s0 : Bool) (A0 B0 : Option Addr) (l0 c0 m0 k0 : Nat) (s1 : Bool) (A1 B1 : Option Addr) (l1 c1 m1 k1 : Nat) (q r : Rat) (L M : Nat) (w : World) (hx : QZ w (.agg #[.bool s0, .slice A0 l0 c0, .slice B0 m0 k0]) q) (hy : QZ w (.agg #[.bool s1, .slice A1 l1 c1, .slice B1 m1 k1]) r) (fq : FitR q L) (fr : FitR r M) (hLM : L + M + 1 ≤ 400000) :
    Calls Try.prog 117 #[.agg #[.bool s0, .slice A0 l0 c0, .slice B0 m0 k0], .agg #[.bool s1, .slice A1 l1 c1, .slice B1 m1 k1]] w (RetQz w (q - r)) := by
  have HXX := Lib.hid hx
  have HYY := Lib.hid hy
  have HFQ := Lib.hid fq
  have HFR := Lib.hid fr
  clear hx hy fq fr
  have hXe : Ext w (((w.alloc (.cells #[.bool s0, .slice A0 l0 c0, .slice B0 m0 k0] 101)).alloc (.cells #[.bool s1, .slice A1 l1 c1, .slice B1 m1 k1] 101)).alloc (.cells #[.bool false, .slice none 0 0, .slice none 0 0] 101)) := ((((Ext.refl w).alloc _).alloc _).alloc _)
  have kA : Blk (((w.alloc (.cells #[.bool s0, .slice A0 l0 c0, .slice B0 m0 k0] 101)).alloc (.cells #[.bool s1, .slice A1 l1 c1, .slice B1 m1 k1] 101)).alloc (.cells #[.bool false, .slice none 0 0, .slice none 0 0] 101)) w.heap.size 101 #[.bool s0, .slice A0 l0 c0, .slice B0 m0 k0] := Blk.alloc (Blk.alloc (Blk.at_ (by simp)) _) _
  have kB : Blk (((w.alloc (.cells #[.bool s0, .slice A0 l0 c0, .slice B0 m0 k0] 101)).alloc (.cells #[.bool s1, .slice A1 l1 c1, .slice B1 m1 k1] 101)).alloc (.cells #[.bool false, .slice none 0 0, .slice none 0 0] 101)) (w.heap.size + 1) 101 #[.bool s1, .slice A1 l1 c1, .slice B1 m1 k1] := Blk.alloc (Blk.at_ (by simp)) _
  have kR : Blk (((w.alloc (.cells #[.bool s0, .slice A0 l0 c0, .slice B0 m0 k0] 101)).alloc (.cells #[.bool s1, .slice A1 l1 c1, .slice B1 m1 k1] 101)).alloc (.cells #[.bool false, .slice none 0 0, .slice none 0 0] 101)) (w.heap.size + 2) 101 #[.bool false, .slice none 0 0, .slice none 0 0] := Blk.at_ (by simp)
  go_enter Try.func117, Try.ntmps117
  go_wp2_with fail
  generalize (((w.alloc (.cells #[.bool s0, .slice A0 l0 c0, .slice B0 m0 k0] 101)).alloc (.cells #[.bool s1, .slice A1 l1 c1, .slice B1 m1 k1] 101)).alloc (.cells #[.bool false, .slice none 0 0, .slice none 0 0] 101)) = w1 at hXe kA kB kR ⊢
  have HX := Lib.hid hXe
  clear hXe
  have KA := Lib.hid kA
  clear kA
  have KB := Lib.hid kB
  clear kB
  have KR := Lib.hid kR
  clear kR
  replace HXX := Lib.hid (HXX.out.ext HX.out)
  replace HYY := Lib.hid (HYY.out.ext HX.out)
  go_upto_region 1 with (fail)
  refine qsub_r1 w.heap.size (w.heap.size + 1) L M s0 A0 B0 l0 c0 m0 k0 s1 A1 B1 l1 c1 m1 k1 q r w1 (KA.out.cell 0) (KA.out.cell 1) (KA.out.cell 2) (KB.out.cell 0) (KB.out.cell 1) (KB.out.cell 2) HXX.out HYY.out HFQ.out HFR.out hLM _ _ (by simp) rfl rfl ?_
  rintro xv0 xv1 xv2 xv3 w2 rfl rfl _ hv hXW
  simp only [rops, Try.f117, regOf, Option.bind_some, Nat.reduceBEq, if_true, if_false, Bool.false_eq_true, Option.getD_some, List.drop_succ_cons, List.drop_zero]
  simp only [Act.put, List.setIfInBounds_toArray, List.set_cons_succ, List.set_cons_zero]
  replace HX := Lib.hid (HX.out.trans hXW)
  replace HXX := Lib.hid (HXX.out.ext hXW)
  replace HYY := Lib.hid (HYY.out.ext hXW)
  replace KA := Lib.hid (KA.out.ext hXW)
  replace KB := Lib.hid (KB.out.ext hXW)
  replace KR := Lib.hid (KR.out.ext hXW)
  clear hXW
  obtain ⟨s9, A9, l9, c9, B9, m9, k9, rfl⟩ := QZ.open hv
  have HV := Lib.hid (QZ.past hv (NoInts.three KR.out))
  clear hv
  have cR0 : w2.cell? ⟨(w.heap.size + 2), 0, none⟩ = some (.bool false) := KR.out.cell 0
  have fR0 : w2.frozen? ⟨(w.heap.size + 2), 0, none⟩ = false := KR.out.free 0
  have cR1 : w2.cell? ⟨(w.heap.size + 2), 1, none⟩ = some (.slice none 0 0) := KR.out.cell 1
  have fR1 : w2.frozen? ⟨(w.heap.size + 2), 1, none⟩ = false := KR.out.free 1
  have cR2 : w2.cell? ⟨(w.heap.size + 2), 2, none⟩ = some (.slice none 0 0) := KR.out.cell 2
  have fR2 : w2.frozen? ⟨(w.heap.size + 2), 2, none⟩ = false := KR.out.free 2
  go_wp2
  refine bodyPost_ret (v := .agg #[.bool s9, .slice A9 l9 c9, .slice B9 m9 k9]) (by simp [results, Try.results117, go_sem, *]) rfl ?_
  exact ⟨_, rfl, HV.out, Ext.boxed HX.out (by omega) _ _ _⟩

theorem qsub_any (va vb : Value) (q r : Rat) (L M : Nat) (w : World) (hx : QZ w va q) (hy : QZ w vb r) (fq : FitR q L) (fr : FitR r M) (hLM : L + M + 1 ≤ 400000) : Calls Try.prog 117 #[va, vb] w (RetQz w (q - r)) := by
  obtain ⟨s0, A0, l0, c0, B0, m0, k0, rfl⟩ := hx.open
  obtain ⟨s1, A1, l1, c1, B1, m1, k1, rfl⟩ := hy.open
  exact qsub_v s0 A0 B0 l0 c0 m0 k0 s1 A1 B1 l1 c1 m1 k1 q r L M w hx hy fq fr hLM

set_option maxRecDepth 100000 in
set_option maxHeartbeats 2000000 in
theorem qcmp_v (s0 : Bool) (A0 B0 : Option Addr) (l0 c0 m0 k0 : Nat) (s1 : Bool) (A1 B1 : Option Addr) (l1 c1 m1 k1 : Nat) (q r : Rat) (L M : Nat) (w : World) (hx : QZ w (.agg #[.bool s0, .slice A0 l0 c0, .slice B0 m0 k0]) q) (hy : QZ w (.agg #[.bool s1, .slice A1 l1 c1, .slice B1 m1 k1]) r) (fq : FitR q L) (fr : FitR r M) (hLM : L + M + 1 ≤ 400000) :
    Calls Try.prog 92 #[.agg #[.bool s0, .slice A0 l0 c0, .slice B0 m0 k0], .agg #[.bool s1, .slice A1 l1 c1, .slice B1 m1 k1]] w (fun e w' => e = .returned (.int .i64 (sgnQ (q - r))) ∧ Ext w w') := by
  have HXX := Lib.hid hx
  have HYY := Lib.hid hy
  have HFQ := Lib.hid fq
  have HFR := Lib.hid fr
  clear hx hy fq fr
  have hXe : Ext w ((w.alloc (.cells #[.bool s0, .slice A0 l0 c0, .slice B0 m0 k0] 101)).alloc (.cells #[.bool s1, .slice A1 l1 c1, .slice B1 m1 k1] 101)) := (((Ext.refl w).alloc _).alloc _)
  have kA : Blk ((w.alloc (.cells #[.bool s0, .slice A0 l0 c0, .slice B0 m0 k0] 101)).alloc (.cells #[.bool s1, .slice A1 l1 c1, .slice B1 m1 k1] 101)) w.heap.size 101 #[.bool s0, .slice A0 l0 c0, .slice B0 m0 k0] := Blk.alloc (Blk.at_ (by simp)) _
  have kB : Blk ((w.alloc (.cells #[.bool s0, .slice A0 l0 c0, .slice B0 m0 k0] 101)).alloc (.cells #[.bool s1, .slice A1 l1 c1, .slice B1 m1 k1] 101)) (w.heap.size + 1) 101 #[.bool s1, .slice A1 l1 c1, .slice B1 m1 k1] := Blk.at_ (by simp)
  go_enter Try.func92, Try.ntmps92
  go_wp2_with fail
  generalize ((w.alloc (.cells #[.bool s0, .slice A0 l0 c0, .slice B0 m0 k0] 101)).alloc (.cells #[.bool s1, .slice A1 l1 c1, .slice B1 m1 k1] 101)) = w1 at hXe kA kB ⊢
  have HX := Lib.hid hXe
  clear hXe
  have KA := Lib.hid kA
  clear kA
  have KB := Lib.hid kB
  clear kB
  replace HXX := Lib.hid (HXX.out.ext HX.out)
  replace HYY := Lib.hid (HYY.out.ext HX.out)
  have cA0 : w1.cell? ⟨w.heap.size, 0, none⟩ = some (.bool s0) := KA.out.cell 0
  have cA1 : w1.cell? ⟨w.heap.size, 1, none⟩ = some (.slice A0 l0 c0) := KA.out.cell 1
  have cA2 : w1.cell? ⟨w.heap.size, 2, none⟩ = some (.slice B0 m0 k0) := KA.out.cell 2
  have cB0 : w1.cell? ⟨(w.heap.size + 1), 0, none⟩ = some (.bool s1) := KB.out.cell 0
  have cB1 : w1.cell? ⟨(w.heap.size + 1), 1, none⟩ = some (.slice A1 l1 c1) := KB.out.cell 1
  have cB2 : w1.cell? ⟨(w.heap.size + 1), 2, none⟩ = some (.slice B1 m1 k1) := KB.out.cell 2
  go_wp2_with fail
  clear cA0 cA1 cA2 cB0 cB1 cB2
  refine (qsub_any _ _ q r L M _ HXX.out HYY.out HFQ.out HFR.out hLM).mono ?_
  rintro e w2 ⟨v9, rfl, hv, hX⟩
  replace hX : Ext w1 w2 := by with_reducible exact hX
  replace HX := Lib.hid (HX.out.trans hX)
  replace HXX := Lib.hid (HXX.out.ext hX)
  replace HYY := Lib.hid (HYY.out.ext hX)
  replace KA := Lib.hid (KA.out.ext hX)
  replace KB := Lib.hid (KB.out.ext hX)
  clear hX
  obtain ⟨s9, A9, l9, c9, B9, m9, k9, rfl⟩ := QZ.open hv
  have HV := Lib.hid hv.num
  clear hv
  have hL := run_QN s9 A9 B9 l9 c9 m9 k9
  go_wp2_with fail
  refine (rsign_any _ _ _ HV.out).mono ?_
  rw [sgI_num]
  rintro e w3 ⟨rfl, hX⟩
  replace hX : Ext w2 w3 := by with_reducible exact hX
  replace HX := Lib.hid (HX.out.trans hX)
  replace HXX := Lib.hid (HXX.out.ext hX)
  replace HYY := Lib.hid (HYY.out.ext hX)
  replace HV := Lib.hid (HV.out.ext hX)
  replace KA := Lib.hid (KA.out.ext hX)
  replace KB := Lib.hid (KB.out.ext hX)
  clear hX
  go_wp2
  go_ret
  exact ⟨rfl, HX.out⟩

theorem qcmp_any (va vb : Value) (q r : Rat) (L M : Nat) (w : World) (hx : QZ w va q) (hy : QZ w vb r) (fq : FitR q L) (fr : FitR r M) (hLM : L + M + 1 ≤ 400000) : Calls Try.prog 92 #[va, vb] w fun e w' => e = .returned (.int .i64 (sgnQ (q - r))) ∧ Ext w w' := by
  obtain ⟨s0, A0, l0, c0, B0, m0, k0, rfl⟩ := hx.open
  obtain ⟨s1, A1, l1, c1, B1, m1, k1, rfl⟩ := hy.open
  exact qcmp_v s0 A0 B0 l0 c0 m0 k0 s1 A1 B1 l1 c1 m1 k1 q r L M w hx hy fq fr hLM

set_option maxRecDepth 100000 in
set_option maxHeartbeats 2000000 in
theorem qfloor_v (s0 : Bool) (A0 B0 : Option Addr) (l0 c0 m0 k0 : Nat) (q : Rat) (L : Nat) (w : World) (hx : QZ w (.agg #[.bool s0, .slice A0 l0 c0, .slice B0 m0 k0]) q) (fq : FitR q L) (hL : L ≤ 400000) :
    Calls Try.prog 94 #[.agg #[.bool s0, .slice A0 l0 c0, .slice B0 m0 k0]] w (RetZ w q.floor) := by
  have HXX := Lib.hid hx
  have HFQ := Lib.hid fq
  clear hx fq
  have hXe : Ext w ((w.alloc (.cells #[.bool s0, .slice A0 l0 c0, .slice B0 m0 k0] 101)).alloc (.cells #[.bool false, .slice none 0 0] 99)) := (((Ext.refl w).alloc _).alloc _)
  have kA : Blk ((w.alloc (.cells #[.bool s0, .slice A0 l0 c0, .slice B0 m0 k0] 101)).alloc (.cells #[.bool false, .slice none 0 0] 99)) w.heap.size 101 #[.bool s0, .slice A0 l0 c0, .slice B0 m0 k0] := Blk.alloc (Blk.at_ (by simp)) _
  have kR : Blk ((w.alloc (.cells #[.bool s0, .slice A0 l0 c0, .slice B0 m0 k0] 101)).alloc (.cells #[.bool false, .slice none 0 0] 99)) (w.heap.size + 1) 99 #[.bool false, .slice none 0 0] := Blk.at_ (by simp)
  go_enter Try.func94, Try.ntmps94
  go_wp2_with fail
  generalize ((w.alloc (.cells #[.bool s0, .slice A0 l0 c0, .slice B0 m0 k0] 101)).alloc (.cells #[.bool false, .slice none 0 0] 99)) = w1 at hXe kA kR ⊢
  have HX := Lib.hid hXe
  clear hXe
  have KA := Lib.hid kA
  clear kA
  have KR := Lib.hid kR
  clear kR
  replace HXX := Lib.hid (HXX.out.ext HX.out)
  have cA0 : w1.cell? ⟨w.heap.size, 0, none⟩ = some (.bool s0) := KA.out.cell 0
  have cA1 : w1.cell? ⟨w.heap.size, 1, none⟩ = some (.slice A0 l0 c0) := KA.out.cell 1
  have cA2 : w1.cell? ⟨w.heap.size, 2, none⟩ = some (.slice B0 m0 k0) := KA.out.cell 2
  go_wp2_with fail
  clear cA0 cA1 cA2
  refine (zdown_any _ q.num false _ _ _ q.den L _ HXX.out.num HXX.out.den HFQ.out.1 hL q.den_pos).mono ?_
  rw [← Rat.floor_def]
  rintro e w2 ⟨v9, rfl, hv, hX⟩
  replace hX : Ext w1 w2 := by with_reducible exact hX
  replace HX := Lib.hid (HX.out.trans hX)
  replace HXX := Lib.hid (HXX.out.ext hX)
  replace KA := Lib.hid (KA.out.ext hX)
  replace KR := Lib.hid (KR.out.ext hX)
  clear hX
  obtain ⟨A9, l9, c9, rfl, hv9⟩ := hv.open
  obtain ⟨b9, hb9⟩ : ∃ b, decide (q.floor < 0) = b := ⟨_, rfl⟩
  rw [hb9]
  have HB := Lib.hid hb9.symm
  have HV := Lib.hid (Z16.two hv9 (NoInts.two KR.out) b9 A9 l9 c9)
  clear hv hv9 hb9
  have cR0 : w2.cell? ⟨(w.heap.size + 1), 0, none⟩ = some (.bool false) := KR.out.cell 0
  have fR0 : w2.frozen? ⟨(w.heap.size + 1), 0, none⟩ = false := KR.out.free 0
  have cR1 : w2.cell? ⟨(w.heap.size + 1), 1, none⟩ = some (.slice none 0 0) := KR.out.cell 1
  have fR1 : w2.frozen? ⟨(w.heap.size + 1), 1, none⟩ = false := KR.out.free 1
  go_wp2
  refine bodyPost_ret (v := .agg #[.bool b9, .slice A9 l9 c9]) (by simp [results, Try.results94, go_sem, *]) rfl ?_
  exact ⟨_, rfl, ⟨_, _, _, by rw [HB.out], HV.out⟩, HX.out.two (by omega) _ _⟩

theorem qfloor_any (va : Value) (q : Rat) (L : Nat) (w : World) (hx : QZ w va q) (fq : FitR q L) (hL : L ≤ 400000) : Calls Try.prog 94 #[va] w (RetZ w q.floor) := by
  obtain ⟨s0, A0, l0, c0, B0, m0, k0, rfl⟩ := hx.open
  exact qfloor_v s0 A0 B0 l0 c0 m0 k0 q L w hx fq hL

set_option maxRecDepth 100000 in
set_option maxHeartbeats 2000000 in
theorem qceil_v (s0 : Bool) (A0 B0 : Option Addr) (l0 c0 m0 k0 : Nat) (q : Rat) (L : Nat) (w : World) (hx : QZ w (.agg #[.bool s0, .slice A0 l0 c0, .slice B0 m0 k0]) q) (fq : FitR q L) (hL : L ≤ 400000) :
    Calls Try.prog 95 #[.agg #[.bool s0, .slice A0 l0 c0, .slice B0 m0 k0]] w (RetZ w (-(-q).floor)) := by
  have HXX := Lib.hid hx
  have HFQ := Lib.hid fq
  clear hx fq
  obtain ⟨z, hz⟩ : ∃ z, (-q).floor = z := ⟨_, rfl⟩
  rw [hz]
  have HZ := Lib.hid hz
  clear hz
  have hXe : Ext w ((w.alloc (.cells #[.bool s0, .slice A0 l0 c0, .slice B0 m0 k0] 101)).alloc (.cells #[.bool false, .slice none 0 0] 99)) := (((Ext.refl w).alloc _).alloc _)
  have kA : Blk ((w.alloc (.cells #[.bool s0, .slice A0 l0 c0, .slice B0 m0 k0] 101)).alloc (.cells #[.bool false, .slice none 0 0] 99)) w.heap.size 101 #[.bool s0, .slice A0 l0 c0, .slice B0 m0 k0] := Blk.alloc (Blk.at_ (by simp)) _
  have kR : Blk ((w.alloc (.cells #[.bool s0, .slice A0 l0 c0, .slice B0 m0 k0] 101)).alloc (.cells #[.bool false, .slice none 0 0] 99)) (w.heap.size + 1) 99 #[.bool false, .slice none 0 0] := Blk.at_ (by simp)
  go_enter Try.func95, Try.ntmps95
  go_wp2_with fail
  generalize ((w.alloc (.cells #[.bool s0, .slice A0 l0 c0, .slice B0 m0 k0] 101)).alloc (.cells #[.bool false, .slice none 0 0] 99)) = w1 at hXe kA kR ⊢
  have HX := Lib.hid hXe
  clear hXe
  have KA := Lib.hid kA
  clear kA
  have KR := Lib.hid kR
  clear kR
  replace HXX := Lib.hid (HXX.out.ext HX.out)
  have cA0 : w1.cell? ⟨w.heap.size, 0, none⟩ = some (.bool s0) := KA.out.cell 0
  have cA1 : w1.cell? ⟨w.heap.size, 1, none⟩ = some (.slice A0 l0 c0) := KA.out.cell 1
  have cA2 : w1.cell? ⟨w.heap.size, 2, none⟩ = some (.slice B0 m0 k0) := KA.out.cell 2
  go_wp2_with fail
  clear cA0 cA1 cA2
  refine (qminus_any _ _ _ HXX.out).mono ?_
  rintro e w2 ⟨v7, rfl, h7, hX⟩
  replace hX : Ext w1 w2 := by with_reducible exact hX
  replace HX := Lib.hid (HX.out.trans hX)
  replace HXX := Lib.hid (HXX.out.ext hX)
  replace KA := Lib.hid (KA.out.ext hX)
  replace KR := Lib.hid (KR.out.ext hX)
  clear hX
  have HV := Lib.hid h7
  clear h7
  go_wp2_with fail
  refine (qfloor_any _ _ L _ HV.out (fitR_neg HFQ.out) hL).mono ?_
  rw [HZ.out]
  rintro e w3 ⟨v8, rfl, h8, hX⟩
  replace hX : Ext w2 w3 := by with_reducible exact hX
  replace HX := Lib.hid (HX.out.trans hX)
  replace HXX := Lib.hid (HXX.out.ext hX)
  replace HV := Lib.hid (HV.out.ext hX)
  replace KA := Lib.hid (KA.out.ext hX)
  replace KR := Lib.hid (KR.out.ext hX)
  clear hX
  have HW := Lib.hid h8
  clear h8
  go_wp2_with fail
  refine (rminus_any _ _ _ HW.out).mono ?_
  rintro e w4 ⟨v9, rfl, hv, hX⟩
  replace hX : Ext w3 w4 := by with_reducible exact hX
  replace HX := Lib.hid (HX.out.trans hX)
  replace HXX := Lib.hid (HXX.out.ext hX)
  replace HV := Lib.hid (HV.out.ext hX)
  replace HW := Lib.hid (HW.out.ext hX)
  replace KA := Lib.hid (KA.out.ext hX)
  replace KR := Lib.hid (KR.out.ext hX)
  clear hX
  obtain ⟨A9, l9, c9, rfl, hv9⟩ := hv.open
  obtain ⟨b9, hb9⟩ : ∃ b, decide (-z < 0) = b := ⟨_, rfl⟩
  rw [hb9]
  have HB := Lib.hid hb9.symm
  have HU := Lib.hid (Z16.two hv9 (NoInts.two KR.out) b9 A9 l9 c9)
  clear hv hv9 hb9
  have cR0 : w4.cell? ⟨(w.heap.size + 1), 0, none⟩ = some (.bool false) := KR.out.cell 0
  have fR0 : w4.frozen? ⟨(w.heap.size + 1), 0, none⟩ = false := KR.out.free 0
  have cR1 : w4.cell? ⟨(w.heap.size + 1), 1, none⟩ = some (.slice none 0 0) := KR.out.cell 1
  have fR1 : w4.frozen? ⟨(w.heap.size + 1), 1, none⟩ = false := KR.out.free 1
  go_wp2
  refine bodyPost_ret (v := .agg #[.bool b9, .slice A9 l9 c9]) (by simp [results, Try.results95, go_sem, *]) rfl ?_
  exact ⟨_, rfl, ⟨_, _, _, by rw [HB.out], HU.out⟩, HX.out.two (by omega) _ _⟩

theorem qceil_any (va : Value) (q : Rat) (L : Nat) (w : World) (hx : QZ w va q) (fq : FitR q L) (hL : L ≤ 400000) : Calls Try.prog 95 #[va] w (RetZ w (-(-q).floor)) := by
  obtain ⟨s0, A0, l0, c0, B0, m0, k0, rfl⟩ := hx.open
  exact qceil_v s0 A0 B0 l0 c0 m0 k0 q L w hx fq hL

end Go.Proofs.Ytagcgldhhdecjaa
namespace Go.Proofs.Ytagcgldhhdecjaa
open Go.RowKit

theorem IntZ.past {w : World} {v : Value} {z : Int} {g : Nat} (h : IntZ w v z) (hN : NoInts w g) {b : Bool} {A : Option Addr} {l c : Nat} : IntZ ((w.setCell ⟨g, 0, none⟩ (.bool b)).setCell ⟨g, 1, none⟩ (.slice A l c)) v z := by
  obtain ⟨A', l', c', h1, h2⟩ := h
  exact ⟨A', l', c', h1, h2.two hN _ _ _ _⟩
theorem QZ.past' {w : World} {v : Value} {q : Rat} {g : Nat} (h : QZ w v q) (hN : NoInts w g) {b : Bool} {A B : Option Addr} {l c m k : Nat} : QZ (((w.setCell ⟨g, 0, none⟩ (.bool b)).setCell ⟨g, 1, none⟩ (.slice A l c)).setCell ⟨g, 2, none⟩ (.slice B m k)) v q := by
  obtain ⟨b', A', l', c', B', m', k', h0, h1, h2, h3⟩ := h
  exact ⟨b', A', l', c', B', m', k', h0, h1, h2.box3 hN _ _ _ _ _ _ _, h3.box3 hN _ _ _ _ _ _ _⟩
end Go.Proofs.Ytagcgldhhdecjaa
namespace Go.Proofs.Ytagcgldhhdecjaa
open Go.RowKit

/-- A pair of a value and an error. -/
def RetE (w : World) (v : Value) (n : Int) (e : Ending) (w' : World) : Prop := e = .returned (.tuple #[v, .int .i64 n]) ∧ Ext w w'

end Go.Proofs.Ytagcgldhhdecjaa
namespace Go.Proofs.Ytagcgldhhdecjaa
open Go.RowKit

theorem pow_double (m : Nat) : (65536 : Int) ^ (2 * m) = 4294967296 ^ m := by rw [Int.pow_mul]; rfl
theorem fit_double {n L : Nat} : Fit 65536 n (2 * L) ↔ Fit 4294967296 n L := by unfold Fit; rw [pow_double]
theorem fitR_double {q : Rat} {L : Nat} (h : FitQ q L) : FitR q (2 * L) := ⟨fit_double.2 h.1, fit_double.2 h.2⟩
end Go.Proofs.Ytagcgldhhdecjaa
namespace Go.Proofs.Ytagcgldhhdecjaa
open Go.RowKit

/-- An integer as an end of a span, and its error. -/
def endV (z : Int) : Int := if -1152921504606846976 ≤ z ∧ z ≤ 1152921504606846976 then z else 0
def endE (z : Int) : Int := if -1152921504606846976 ≤ z ∧ z ≤ 1152921504606846976 then 0 else 3
theorem end_in {z : Int} (h : -1152921504606846976 ≤ z ∧ z ≤ 1152921504606846976) : endV z = z ∧ endE z = 0 := ⟨if_pos h, if_pos h⟩
theorem end_out {z : Int} (h : ¬ (-1152921504606846976 ≤ z ∧ z ≤ 1152921504606846976)) : endV z = 0 ∧ endE z = 3 := ⟨if_neg h, if_neg h⟩
theorem fit_in {z : Int} (h : -4611686018427387904 ≤ z ∧ z ≤ 4611686018427387904) : fitI z = z ∧ fitB z = true := ⟨by rw [fitI, if_pos h], decide_eq_true h⟩
theorem fit_out {z : Int} (h : ¬ (-4611686018427387904 ≤ z ∧ z ≤ 4611686018427387904)) : fitI z = 0 ∧ fitB z = false := ⟨by rw [fitI, if_neg h], decide_eq_false h⟩
set_option maxRecDepth 100000 in
set_option maxHeartbeats 2000000 in
theorem rend_in (s : Bool) (A : Option Addr) (l c : Nat) (z : Int) (w : World) (hx : IntZ w (.agg #[.bool s, .slice A l c]) z) (hz : -1152921504606846976 ≤ z ∧ z ≤ 1152921504606846976) :
    Calls Try.prog 93 #[.agg #[.bool s, .slice A l c]] w (fun e w' => e = .returned (.tuple #[.int .i64 z, .int .i64 0]) ∧ Ext w w') := by
  have HXX := Lib.hid hx
  clear hx
  obtain ⟨e1, e2⟩ := fit_in (z := z) (by omega)
  have E1 := Lib.hid e1
  have E2 := Lib.hid e2
  clear e1 e2
  have hXe : Ext w (w.alloc (.cells #[.bool s, .slice A l c] 99)) := ((Ext.refl w).alloc _)
  have kA : Blk (w.alloc (.cells #[.bool s, .slice A l c] 99)) w.heap.size 99 #[.bool s, .slice A l c] := Blk.at_ (by simp)
  go_enter Try.func93, Try.ntmps93
  go_wp2_with fail
  generalize (w.alloc (.cells #[.bool s, .slice A l c] 99)) = w1 at hXe kA ⊢
  have HX := Lib.hid hXe
  clear hXe
  have KA := Lib.hid kA
  clear kA
  replace HXX := Lib.hid (HXX.out.ext HX.out)
  have cA0 : w1.cell? ⟨w.heap.size, 0, none⟩ = some (.bool s) := KA.out.cell 0
  have cA1 : w1.cell? ⟨w.heap.size, 1, none⟩ = some (.slice A l c) := KA.out.cell 1
  obtain ⟨hz0, hz1⟩ := hz
  have hz2 : ¬ z < -1152921504606846976 := by omega
  have hz3 : ¬ 1152921504606846976 < z := by omega
  go_wp2_with fail
  clear cA0 cA1
  refine (zfits_any _ z _ HXX.out).mono ?_
  rw [E1.out, E2.out]
  rintro e w2 ⟨rfl, hX⟩
  replace hX : Ext w1 w2 := by with_reducible exact hX
  replace HX := Lib.hid (HX.out.trans hX)
  replace KA := Lib.hid (KA.out.ext hX)
  clear hX
  go_wp2
  go_ret2
  exact ⟨rfl, HX.out⟩

set_option maxRecDepth 100000 in
set_option maxHeartbeats 2000000 in
theorem rend_mid (s : Bool) (A : Option Addr) (l c : Nat) (z : Int) (w : World) (hx : IntZ w (.agg #[.bool s, .slice A l c]) z) (hz : z < -1152921504606846976 ∨ 1152921504606846976 < z) (hf : -4611686018427387904 ≤ z ∧ z ≤ 4611686018427387904) :
    Calls Try.prog 93 #[.agg #[.bool s, .slice A l c]] w (fun e w' => e = .returned (.tuple #[.int .i64 0, .int .i64 3]) ∧ Ext w w') := by
  have HXX := Lib.hid hx
  clear hx
  obtain ⟨e1, e2⟩ := fit_in hf
  have E1 := Lib.hid e1
  have E2 := Lib.hid e2
  clear e1 e2
  have hXe : Ext w (w.alloc (.cells #[.bool s, .slice A l c] 99)) := ((Ext.refl w).alloc _)
  have kA : Blk (w.alloc (.cells #[.bool s, .slice A l c] 99)) w.heap.size 99 #[.bool s, .slice A l c] := Blk.at_ (by simp)
  go_enter Try.func93, Try.ntmps93
  go_wp2_with fail
  generalize (w.alloc (.cells #[.bool s, .slice A l c] 99)) = w1 at hXe kA ⊢
  have HX := Lib.hid hXe
  clear hXe
  have KA := Lib.hid kA
  clear kA
  replace HXX := Lib.hid (HXX.out.ext HX.out)
  have cA0 : w1.cell? ⟨w.heap.size, 0, none⟩ = some (.bool s) := KA.out.cell 0
  have cA1 : w1.cell? ⟨w.heap.size, 1, none⟩ = some (.slice A l c) := KA.out.cell 1
  rcases hz with hz | hz
  · go_wp2_with fail
    clear cA0 cA1
    refine (zfits_any _ z _ HXX.out).mono ?_
    rw [E1.out, E2.out]
    rintro e w2 ⟨rfl, hX⟩
    replace hX : Ext w1 w2 := by with_reducible exact hX
    replace HX := Lib.hid (HX.out.trans hX)
    replace KA := Lib.hid (KA.out.ext hX)
    clear hX
    go_wp2
    go_ret2
    exact ⟨rfl, HX.out⟩
  · go_wp2_with fail
    clear cA0 cA1
    refine (zfits_any _ z _ HXX.out).mono ?_
    rw [E1.out, E2.out]
    rintro e w2 ⟨rfl, hX⟩
    replace hX : Ext w1 w2 := by with_reducible exact hX
    replace HX := Lib.hid (HX.out.trans hX)
    replace KA := Lib.hid (KA.out.ext hX)
    clear hX
    have hz2 : ¬ z < -1152921504606846976 := by omega
    go_wp2
    go_ret2
    exact ⟨rfl, HX.out⟩

set_option maxRecDepth 100000 in
set_option maxHeartbeats 2000000 in
theorem rend_far (s : Bool) (A : Option Addr) (l c : Nat) (z : Int) (w : World) (hx : IntZ w (.agg #[.bool s, .slice A l c]) z) (hf : ¬ (-4611686018427387904 ≤ z ∧ z ≤ 4611686018427387904)) :
    Calls Try.prog 93 #[.agg #[.bool s, .slice A l c]] w (fun e w' => e = .returned (.tuple #[.int .i64 0, .int .i64 3]) ∧ Ext w w') := by
  have HXX := Lib.hid hx
  clear hx
  obtain ⟨e1, e2⟩ := fit_out hf
  have E1 := Lib.hid e1
  have E2 := Lib.hid e2
  clear e1 e2
  have hXe : Ext w (w.alloc (.cells #[.bool s, .slice A l c] 99)) := ((Ext.refl w).alloc _)
  have kA : Blk (w.alloc (.cells #[.bool s, .slice A l c] 99)) w.heap.size 99 #[.bool s, .slice A l c] := Blk.at_ (by simp)
  go_enter Try.func93, Try.ntmps93
  go_wp2_with fail
  generalize (w.alloc (.cells #[.bool s, .slice A l c] 99)) = w1 at hXe kA ⊢
  have HX := Lib.hid hXe
  clear hXe
  have KA := Lib.hid kA
  clear kA
  replace HXX := Lib.hid (HXX.out.ext HX.out)
  have cA0 : w1.cell? ⟨w.heap.size, 0, none⟩ = some (.bool s) := KA.out.cell 0
  have cA1 : w1.cell? ⟨w.heap.size, 1, none⟩ = some (.slice A l c) := KA.out.cell 1
  go_wp2_with fail
  clear cA0 cA1
  refine (zfits_any _ z _ HXX.out).mono ?_
  rw [E1.out, E2.out]
  rintro e w2 ⟨rfl, hX⟩
  replace hX : Ext w1 w2 := by with_reducible exact hX
  replace HX := Lib.hid (HX.out.trans hX)
  replace KA := Lib.hid (KA.out.ext hX)
  clear hX
  go_wp2
  go_ret2
  exact ⟨rfl, HX.out⟩

theorem rend_any {w : World} {v : Value} {z : Int} (h : IntZ w v z) : Calls Try.prog 93 #[v] w fun e w' => e = .returned (.tuple #[.int .i64 (endV z), .int .i64 (endE z)]) ∧ Ext w w' := by
  obtain ⟨A, l, c, rfl, hz⟩ := h
  by_cases hr : -1152921504606846976 ≤ z ∧ z ≤ 1152921504606846976
  · rw [(end_in hr).1, (end_in hr).2]; exact rend_in _ A l c z w ⟨A, l, c, rfl, hz⟩ hr
  · rw [(end_out hr).1, (end_out hr).2]
    by_cases hf : -4611686018427387904 ≤ z ∧ z ≤ 4611686018427387904
    · exact rend_mid _ A l c z w ⟨A, l, c, rfl, hz⟩ (by omega) hf
    · exact rend_far _ A l c z w ⟨A, l, c, rfl, hz⟩ hf

end Go.Proofs.Ytagcgldhhdecjaa
namespace Go.Proofs.Ytagcgldhhdecjaa
open Go.RowKit

theorem fitQ_int {n : Int} {L : Nat} (h : Fit 4294967296 n.natAbs L) (hL : 0 < L) : FitQ ((n : Int) : Rat) L := by
  refine ⟨by rw [Rat.num_intCast]; exact h, ?_⟩
  rw [Rat.den_intCast]
  exact Fit.one (by omega) hL
theorem fitQ_small {n : Int} (h0 : -9223372036854775808 ≤ n) (h1 : n ≤ 9223372036854775807) : FitQ ((n : Int) : Rat) 2 := by
  refine fitQ_int ?_ (by omega)
  unfold Fit
  have : (4294967296 : Int) ^ 2 = 18446744073709551616 := by decide
  omega
end Go.Proofs.Ytagcgldhhdecjaa
namespace Go.Proofs.Ytagcgldhhdecjaa
open Go.RowKit

/-- A span is valid. -/
def okS (lo hi : Int) : Bool := decide (-1152921504606846976 ≤ lo ∧ lo ≤ hi ∧ hi ≤ 1152921504606846976)
theorem okS_cases (lo hi : Int) : (okS lo hi = true ∧ -1152921504606846976 ≤ lo ∧ lo ≤ hi ∧ hi ≤ 1152921504606846976) ∨ (okS lo hi = false ∧ (lo < -1152921504606846976 ∨ (-1152921504606846976 ≤ lo ∧ hi < lo) ∨ (-1152921504606846976 ≤ lo ∧ lo ≤ hi ∧ 1152921504606846976 < hi))) := by
  by_cases hb : okS lo hi = true
  · have hb' := hb
    simp only [okS, decide_eq_true_eq] at hb'
    exact .inl ⟨hb, hb'⟩
  · refine .inr ⟨by simpa using hb, ?_⟩
    simp only [okS, decide_eq_true_eq] at hb; omega
theorem okS_in {lo hi : Int} (h : okS lo hi = true) : -1152921504606846976 ≤ lo ∧ lo ≤ hi ∧ hi ≤ 1152921504606846976 := by simpa [okS] using h

set_option maxHeartbeats 1000000 in
theorem valid_any (x y : Int) (w : World) : Calls Try.prog 68 #[.agg #[.int .i64 x, .int .i64 y]] w fun e w' => e = .returned (.bool (okS x y)) ∧ Ext w w' := by
  have HX := Lib.hid ((Ext.refl w).alloc (.cells #[.int .i64 x, .int .i64 y] 44))
  rcases okS_cases x y with ⟨hb, b1, b2, b3⟩ | ⟨hb, b1 | ⟨b1, b2⟩ | ⟨b1, b2, b3⟩⟩
  all_goals
    rw [hb]
    clear hb
    go_enter Try.func68, Try.ntmps68
    go_wp2
    go_ret
    refine ⟨?_, HX.out⟩
    first
    | rfl
    | (show Ending.returned (.bool (decide (y ≤ 1152921504606846976))) = Ending.returned (.bool false); rw [decide_eq_false (by omega)])
set_option maxHeartbeats 1000000 in
theorem both_any (a b c d : Int) (w : World) : Calls Try.prog 86 #[.agg #[.int .i64 a, .int .i64 b], .agg #[.int .i64 c, .int .i64 d]] w fun e w' => e = .returned (.bool (okS a b && okS c d)) ∧ Ext w w' := by
  obtain ⟨p, hp⟩ : ∃ p, okS a b = p := ⟨_, rfl⟩
  rw [hp]
  have HP := Lib.hid hp
  clear hp
  have hXw : Ext w ((w.alloc (.cells #[.int .i64 a, .int .i64 b] 44)).alloc (.cells #[.int .i64 c, .int .i64 d] 44)) := ((Ext.refl w).alloc _).alloc _
  have k2 := Blk.new (w.alloc (.cells #[.int .i64 a, .int .i64 b] 44)) 44 #[.int .i64 c, .int .i64 d]
  rw [show (w.alloc (.cells #[.int .i64 a, .int .i64 b] 44)).heap.size = w.heap.size + 1 by simp] at k2
  go_enter Try.func86, Try.ntmps86
  go_wp2_with fail
  generalize ((w.alloc (.cells #[.int .i64 a, .int .i64 b] 44)).alloc (.cells #[.int .i64 c, .int .i64 d] 44)) = w1 at hXw k2 ⊢
  refine (valid_any a b _).mono ?_
  rw [HP.out]
  rintro e w2 ⟨rfl, hX2⟩
  have x1 := (k2.ext hX2).cell 0
  have x2 := (k2.ext hX2).cell 1
  simp only [List.getElem?_toArray, List.getElem?_cons_zero, List.getElem?_cons_succ] at x1 x2
  have HX2 := Lib.hid (hXw.trans hX2)
  clear hXw hX2 k2
  cases p
  · go_wp2
    go_ret
    exact ⟨rfl, HX2.out⟩
  · go_wp2_with fail
    refine (valid_any c d _).mono ?_
    rintro e w3 ⟨rfl, hX3⟩
    have HX3 := Lib.hid (HX2.out.trans hX3)
    clear hX3
    go_wp2
    go_ret
    exact ⟨rfl, HX3.out⟩


set_option maxHeartbeats 1000000 in
theorem span_ok (lo hi : Int) (w : World) (h0 : -1152921504606846976 ≤ lo) (h1 : hi ≤ 1152921504606846976) : Calls Try.prog 84 #[.int .i64 lo, .int .i64 hi] w (RetE w (.agg #[.int .i64 lo, .int .i64 hi]) 0) := by
  have HX := Lib.hid ((Ext.refl w).alloc (.cells #[.int .i64 lo, .int .i64 hi] 44))
  go_enter Try.func84, Try.ntmps84
  go_wp2
  refine bodyPost_ret (v := .tuple #[.agg #[.int .i64 lo, .int .i64 hi], .int .i64 0]) (by simp [results, Try.results84, go_sem, *]) rfl ?_
  exact ⟨rfl, HX.out⟩
end Go.Proofs.Ytagcgldhhdecjaa
namespace Go.Proofs.Ytagcgldhhdecjaa
open Go.RowKit

set_option maxRecDepth 100000 in
set_option maxHeartbeats 2000000 in
theorem eplus_ok (a b c d : Int) (w : World) (hab : okS a b = true) (hcd : okS c d = true) (h0 : -1152921504606846976 ≤ a + c) (h1 : b + d ≤ 1152921504606846976) :
    Calls Try.prog 70 #[.agg #[.int .i64 a, .int .i64 b], .agg #[.int .i64 c, .int .i64 d]] w (RetE w (.agg #[.int .i64 (a + c), .int .i64 (b + d)]) 0) := by
  obtain ⟨a0, a1, a2⟩ := okS_in hab
  obtain ⟨c0, c1, c2⟩ := okS_in hcd
  have HB : Hid ((okS a b && okS c d) = true) := by show _ = _; rw [hab, hcd]; rfl
  clear hab hcd
  have hXe : Ext w (((w.alloc (.cells #[.int .i64 a, .int .i64 b] 44)).alloc (.cells #[.int .i64 c, .int .i64 d] 44)).alloc (.cells #[.int .i64 0, .int .i64 0] 44)) := ((((Ext.refl w).alloc _).alloc _).alloc _)
  have kA : Blk (((w.alloc (.cells #[.int .i64 a, .int .i64 b] 44)).alloc (.cells #[.int .i64 c, .int .i64 d] 44)).alloc (.cells #[.int .i64 0, .int .i64 0] 44)) w.heap.size 44 #[.int .i64 a, .int .i64 b] := Blk.alloc (Blk.alloc (Blk.at_ (by simp)) _) _
  have kB : Blk (((w.alloc (.cells #[.int .i64 a, .int .i64 b] 44)).alloc (.cells #[.int .i64 c, .int .i64 d] 44)).alloc (.cells #[.int .i64 0, .int .i64 0] 44)) (w.heap.size + 1) 44 #[.int .i64 c, .int .i64 d] := Blk.alloc (Blk.at_ (by simp)) _
  have kR : Blk (((w.alloc (.cells #[.int .i64 a, .int .i64 b] 44)).alloc (.cells #[.int .i64 c, .int .i64 d] 44)).alloc (.cells #[.int .i64 0, .int .i64 0] 44)) (w.heap.size + 2) 44 #[.int .i64 0, .int .i64 0] := Blk.at_ (by simp)
  go_enter Try.func70, Try.ntmps70
  go_wp2_with fail
  generalize (((w.alloc (.cells #[.int .i64 a, .int .i64 b] 44)).alloc (.cells #[.int .i64 c, .int .i64 d] 44)).alloc (.cells #[.int .i64 0, .int .i64 0] 44)) = w1 at hXe kA kB kR ⊢
  have HX := Lib.hid hXe
  clear hXe
  have KA := Lib.hid kA
  clear kA
  have KB := Lib.hid kB
  clear kB
  have KR := Lib.hid kR
  clear kR
  refine (both_any a b c d _).mono ?_
  rw [HB.out]
  rintro e w2 ⟨rfl, hX⟩
  replace HX := Lib.hid (HX.out.trans hX)
  replace KA := Lib.hid (KA.out.ext hX)
  replace KB := Lib.hid (KB.out.ext hX)
  replace KR := Lib.hid (KR.out.ext hX)
  clear hX
  have cA0 : w2.cell? ⟨w.heap.size, 0, none⟩ = some (.int .i64 a) := KA.out.cell 0
  have cA1 : w2.cell? ⟨w.heap.size, 1, none⟩ = some (.int .i64 b) := KA.out.cell 1
  have cB0 : w2.cell? ⟨(w.heap.size + 1), 0, none⟩ = some (.int .i64 c) := KB.out.cell 0
  have cB1 : w2.cell? ⟨(w.heap.size + 1), 1, none⟩ = some (.int .i64 d) := KB.out.cell 1
  have cR0 : w2.cell? ⟨(w.heap.size + 2), 0, none⟩ = some (.int .i64 0) := KR.out.cell 0
  have fR0 : w2.frozen? ⟨(w.heap.size + 2), 0, none⟩ = false := KR.out.free 0
  have cR1 : w2.cell? ⟨(w.heap.size + 2), 1, none⟩ = some (.int .i64 0) := KR.out.cell 1
  have fR1 : w2.frozen? ⟨(w.heap.size + 2), 1, none⟩ = false := KR.out.free 1
  go_wp2_with fail
  clear cA0 cA1 cB0 cB1 cR0 fR0 cR1 fR1
  refine (span_ok _ _ _ (by omega) (by omega)).mono ?_
  rintro e w3 ⟨rfl, hX⟩
  replace HX := Lib.hid (HX.out.trans hX)
  replace KA := Lib.hid (KA.out.ext hX)
  replace KB := Lib.hid (KB.out.ext hX)
  replace KR := Lib.hid (KR.out.ext hX)
  clear hX
  have cA0 : w3.cell? ⟨w.heap.size, 0, none⟩ = some (.int .i64 a) := KA.out.cell 0
  have cA1 : w3.cell? ⟨w.heap.size, 1, none⟩ = some (.int .i64 b) := KA.out.cell 1
  have cB0 : w3.cell? ⟨(w.heap.size + 1), 0, none⟩ = some (.int .i64 c) := KB.out.cell 0
  have cB1 : w3.cell? ⟨(w.heap.size + 1), 1, none⟩ = some (.int .i64 d) := KB.out.cell 1
  have cR0 : w3.cell? ⟨(w.heap.size + 2), 0, none⟩ = some (.int .i64 0) := KR.out.cell 0
  have fR0 : w3.frozen? ⟨(w.heap.size + 2), 0, none⟩ = false := KR.out.free 0
  have cR1 : w3.cell? ⟨(w.heap.size + 2), 1, none⟩ = some (.int .i64 0) := KR.out.cell 1
  have fR1 : w3.frozen? ⟨(w.heap.size + 2), 1, none⟩ = false := KR.out.free 1
  go_wp2
  refine bodyPost_ret (v := .tuple #[.agg #[.int .i64 (a + c), .int .i64 (b + d)], .int .i64 0]) (by simp [results, Try.results70, go_sem, *]) rfl ?_
  exact ⟨rfl, HX.out.two (by omega) _ _⟩

end Go.Proofs.Ytagcgldhhdecjaa
namespace Go.Proofs.Ytagcgldhhdecjaa
open Go.RowKit

theorem down_facts {a n : Int} (hn : 1 ≤ n) (ha : a < 0) : (a.tmod n = 0 ∧ a.tdiv n = a / n) ∨ (a.tmod n < 0 ∧ a.tdiv n = a / n + 1) := by
  have h1 := Int.tdiv_eq_ediv (a := a) (b := n)
  have h2 := Int.tmod_eq_emod (a := a) (b := n)
  by_cases hd : n ∣ a
  · left
    rw [if_pos (.inr hd)] at h1 h2
    have := Int.emod_eq_zero_of_dvd hd
    omega
  · right
    have hne : ¬ (0 ≤ a ∨ n ∣ a) := fun h => by rcases h with h | h; omega; exact hd h
    rw [if_neg hne] at h1 h2
    have h3 := Int.emod_lt_of_pos a (show 0 < n by omega)
    have h4 : n.sign = 1 := Int.sign_eq_one_of_pos (by omega)
    omega
theorem div_in {a n lo hi : Int} (hn : 1 ≤ n) (h0 : lo ≤ 0) (h1 : 0 ≤ hi) (ha : lo ≤ a) (hb : a ≤ hi) : lo ≤ a / n ∧ a / n ≤ hi := by
  constructor
  · rw [Int.le_ediv_iff_mul_le (by omega)]
    have : lo * n ≤ lo * 1 := Int.mul_le_mul_of_nonpos_left h0 hn
    omega
  · by_cases h : 0 ≤ a
    · have := Int.ediv_le_self n h
      omega
    · have : a / n < 0 := Int.ediv_neg_of_neg_of_pos (by omega) (by omega)
      omega

set_option maxHeartbeats 1000000 in
theorem down_any (a n : Int) (w : World) (a0 : -1152921504606846976 ≤ a) (a1 : a ≤ 1152921504606846976) (hn : 1 ≤ n) (hn2 : n ≤ 9223372036854775807) :
    Calls Try.prog 85 #[.int .i64 a, .int .i64 n] w fun e w' => e = .returned (.int .i64 (a / n)) ∧ w = w' := by
  obtain ⟨d0, d1⟩ := div_in hn (show -1152921504606846976 ≤ (0 : Int) by omega) (show (0 : Int) ≤ 1152921504606846976 by omega) a0 a1
  have hnz : (n == 0) = false := by simp; omega
  by_cases h : 0 ≤ a
  · have hm := Int.emod_nonneg a (show n ≠ 0 by omega)
    have hm2 := Int.emod_lt_of_pos a (show 0 < n by omega)
    have e1 : a.tdiv n = a / n := Int.tdiv_eq_ediv_of_nonneg h
    have e2 : a.tmod n = a % n := Int.tmod_eq_emod_of_nonneg h
    have HD : Hid (a.tdiv n = a / n) := e1
    clear e1 e2 HD
    go_enter Try.func85, Try.ntmps85
    go_wp2
    go_ret
    exact ⟨rfl, rfl⟩
  · have hneg : a < 0 := by omega
    rcases down_facts hn hneg with ⟨e1, e2⟩ | ⟨e1, e2⟩
    · rw [← e2] at d0 d1 ⊢
      have HE := Lib.hid e2
      clear e2
      go_enter Try.func85, Try.ntmps85
      go_wp2
      go_ret
      exact ⟨rfl, rfl⟩
    · have e3 : a / n = a.tdiv n - 1 := by omega
      rw [e3] at d0 d1 ⊢
      clear e2 e3
      have d2 : -9223372036854775808 ≤ a.tdiv n - 1 := by omega
      go_enter Try.func85, Try.ntmps85
      go_wp2
      go_ret
      exact ⟨rfl, rfl⟩

set_option maxRecDepth 100000 in
set_option maxHeartbeats 2000000 in
theorem over_r3 (ga : Nat) (x y n : Int) (w : World) (x0 : w.cell? ⟨ga, 0, none⟩ = some (.int .i64 x)) (x1 : w.cell? ⟨ga, 1, none⟩ = some (.int .i64 y)) (a0 : -1152921504606846976 ≤ x) (a1 : x ≤ y) (a2 : y ≤ 1152921504606846976) (hn : 1 ≤ n) (hn2 : n ≤ 9223372036854775807) (h0 : -1152921504606846976 ≤ x / n) (h1 : -((-y) / n) ≤ 1152921504606846976) (a : Act) (Q : Exit → Act → World → Prop) (hsize : 27 ≤ a.tmps.size)
    (s1 : a.tmps[1]? = some (.int .i64 n))
    (s2 : a.tmps[2]? = some (.pointer (some ⟨ga, 0, none⟩)))
    (hend : ∀ (xv0 xv1 xv2 xv3 xv4 xv5 xv6 xv7 xv8 xv9 xv10 xv11 xv12 : Value) (W : World), (xv0 = .pointer (some ⟨ga, 0, none⟩)) → (xv1 = .int .i64 x) → (xv2 = .int .i64 n) → (xv3 = .int .i64 (x / n)) → (xv4 = .pointer (some ⟨ga, 1, none⟩)) → (xv5 = .int .i64 y) → (xv6 = .int .i64 (-y)) → (xv7 = .int .i64 n) → (xv8 = .int .i64 ((-y) / n)) → (xv9 = .int .i64 (-((-y) / n))) → (xv10 = .tuple #[.agg #[.int .i64 (x / n), .int .i64 (-((-y) / n))], .int .i64 0]) → (xv11 = .agg #[.int .i64 (x / n), .int .i64 (-((-y) / n))]) → (xv12 = .int .i64 0) → Ext w W → wpList Try.prog (rops Try.f69 3).toArray Q ((rops Try.f69 3).drop 13) (((((((((((((a.put (some 14) xv0).put (some 15) xv1).put (some 16) xv2).put (some 17) xv3).put (some 18) xv4).put (some 19) xv5).put (some 20) xv6).put (some 21) xv7).put (some 22) xv8).put (some 23) xv9).put (some 24) xv10).put (some 25) xv11).put (some 26) xv12) W) :
    (Code.region 3 (rops Try.f69 3).toArray true).wp Try.prog Q a w := by
  have hmono : ∀ (W W' : World) (j : Nat) (u : Value), Ext W W' → (fun (i : Nat) (v : Value) (W : World) => match i with
    | 0 => v = .pointer (some ⟨ga, 0, none⟩)
    | 1 => v = .int .i64 x
    | 2 => v = .int .i64 n
    | 3 => v = .int .i64 (x / n)
    | 4 => v = .pointer (some ⟨ga, 1, none⟩)
    | 5 => v = .int .i64 y
    | 6 => v = .int .i64 (-y)
    | 7 => v = .int .i64 n
    | 8 => v = .int .i64 ((-y) / n)
    | 9 => v = .int .i64 (-((-y) / n))
    | 10 => v = .tuple #[.agg #[.int .i64 (x / n), .int .i64 (-((-y) / n))], .int .i64 0]
    | 11 => v = .agg #[.int .i64 (x / n), .int .i64 (-((-y) / n))]
    | 12 => v = .int .i64 0
    | _ => True) j u W → (fun (i : Nat) (v : Value) (W : World) => match i with
    | 0 => v = .pointer (some ⟨ga, 0, none⟩)
    | 1 => v = .int .i64 x
    | 2 => v = .int .i64 n
    | 3 => v = .int .i64 (x / n)
    | 4 => v = .pointer (some ⟨ga, 1, none⟩)
    | 5 => v = .int .i64 y
    | 6 => v = .int .i64 (-y)
    | 7 => v = .int .i64 n
    | 8 => v = .int .i64 ((-y) / n)
    | 9 => v = .int .i64 (-((-y) / n))
    | 10 => v = .tuple #[.agg #[.int .i64 (x / n), .int .i64 (-((-y) / n))], .int .i64 0]
    | 11 => v = .agg #[.int .i64 (x / n), .int .i64 (-((-y) / n))]
    | 12 => v = .int .i64 0
    | _ => True) j u W' := by
    intro W W' j u hX h
    match j, h with
    | 0, h => exact h
    | 1, h => exact h
    | 2, h => exact h
    | 3, h => exact h
    | 4, h => exact h
    | 5, h => exact h
    | 6, h => exact h
    | 7, h => exact h
    | 8, h => exact h
    | 9, h => exact h
    | 10, h => exact h
    | 11, h => exact h
    | 12, h => exact h
    | _ + 13, h => exact h
  have hsz : ∀ d, some d ∈ ([some 14, some 15, some 16, some 17, some 18, some 19, some 20, some 21, some 22, some 23, some 24, some 25, some 26] : List (Option Tmp)) → d < a.tmps.size := slots_lt (by decide) hsize
  refine wp_region_j 13 [some 14, some 15, some 16, some 17, some 18, some 19, some 20, some 21, some 22, some 23, some 24, some 25, some 26] [[], [0], [], [1, 2], [], [4], [5], [], [6, 7], [8], [3, 9], [10], [10]] [[], [], [], [], [], [], [], [], [], [], [], [], []] (fun (i : Nat) (v : Value) (W : World) => match i with
    | 0 => v = .pointer (some ⟨ga, 0, none⟩)
    | 1 => v = .int .i64 x
    | 2 => v = .int .i64 n
    | 3 => v = .int .i64 (x / n)
    | 4 => v = .pointer (some ⟨ga, 1, none⟩)
    | 5 => v = .int .i64 y
    | 6 => v = .int .i64 (-y)
    | 7 => v = .int .i64 n
    | 8 => v = .int .i64 ((-y) / n)
    | 9 => v = .int .i64 (-((-y) / n))
    | 10 => v = .tuple #[.agg #[.int .i64 (x / n), .int .i64 (-((-y) / n))], .int .i64 0]
    | 11 => v = .agg #[.int .i64 (x / n), .int .i64 (-((-y) / n))]
    | 12 => v = .int .i64 0
    | _ => True) (fun _ W => Ext w W) (by kernel_rfl) (by kernel_rfl) hsz (fun _ _ _ _ h => h) ((Ext.refl w).drew) ?_ ?_
  · clear hend
    simp only [rops, Try.f69, regOf, Option.bind_some, Nat.reduceBEq, if_true, if_false, Bool.false_eq_true, Option.getD_some]
    simp only [List.take_succ_cons, List.take_zero]
    refine ⟨?_, ?_, ?_, ?_, ?_, ?_, ?_, ?_, ?_, ?_, ?_, ?_, ?_, trivial⟩
    · intro done us W hJ hdep haft hnot b hb hb' K hK Q'
      have e2 := (hb' 2 (by simp)).trans s2
      clear hb hb'
      go_simp
      exact hK _ _ rfl (fun _ _ _ h => h) hJ
    · intro done us W hJ hdep haft hnot b hb hb' K hK Q'
      simp only [List.getD_cons_succ, List.getD_cons_zero, List.mem_cons, List.not_mem_nil, or_false, forall_eq_or_imp, forall_eq] at hdep
      have e14 := hb 0 14 rfl
      have d0 := hdep
      rw [d0.1] at e14
      clear hb hb' hdep d0
      have q := Ext.cell hJ x0
      go_simp
      exact hK _ _ rfl (fun _ _ _ h => h) hJ
    · intro done us W hJ hdep haft hnot b hb hb' K hK Q'
      have e1 := (hb' 1 (by simp)).trans s1
      clear hb hb'
      go_simp
      exact hK _ _ rfl (fun _ _ _ h => h) hJ
    · intro done us W hJ hdep haft hnot b hb hb' K hK Q'
      simp only [List.getD_cons_succ, List.getD_cons_zero, List.mem_cons, List.not_mem_nil, or_false, forall_eq_or_imp, forall_eq] at hdep
      have e15 := hb 1 15 rfl
      have e16 := hb 2 16 rfl
      have d1 := hdep.1
      have d2 := hdep.2
      rw [d1.1] at e15
      rw [d2.1] at e16
      clear hb hb' hdep d1 d2
      go_simp
      refine (down_any _ _ _ a0 (by omega) hn hn2).mono ?_
      rintro e w' ⟨rfl, rfl⟩
      exact hK _ _ rfl (fun j u _ h => h) hJ
    · intro done us W hJ hdep haft hnot b hb hb' K hK Q'
      have e2 := (hb' 2 (by simp)).trans s2
      clear hb hb'
      go_simp
      exact hK _ _ rfl (fun _ _ _ h => h) hJ
    · intro done us W hJ hdep haft hnot b hb hb' K hK Q'
      simp only [List.getD_cons_succ, List.getD_cons_zero, List.mem_cons, List.not_mem_nil, or_false, forall_eq_or_imp, forall_eq] at hdep
      have e18 := hb 4 18 rfl
      have d4 := hdep
      rw [d4.1] at e18
      clear hb hb' hdep d4
      have q := Ext.cell hJ x1
      go_simp
      exact hK _ _ rfl (fun _ _ _ h => h) hJ
    · intro done us W hJ hdep haft hnot b hb hb' K hK Q'
      simp only [List.getD_cons_succ, List.getD_cons_zero, List.mem_cons, List.not_mem_nil, or_false, forall_eq_or_imp, forall_eq] at hdep
      have e19 := hb 5 19 rfl
      have d5 := hdep
      rw [d5.1] at e19
      clear hb hb' hdep d5
      have hw : IntKind.i64.wrap (-y) = -y := by rw [IntKind.wrap_i64]; omega
      go_simp
      exact hK _ _ rfl (fun _ _ _ h => h) hJ
    · intro done us W hJ hdep haft hnot b hb hb' K hK Q'
      have e1 := (hb' 1 (by simp)).trans s1
      clear hb hb'
      go_simp
      exact hK _ _ rfl (fun _ _ _ h => h) hJ
    · intro done us W hJ hdep haft hnot b hb hb' K hK Q'
      simp only [List.getD_cons_succ, List.getD_cons_zero, List.mem_cons, List.not_mem_nil, or_false, forall_eq_or_imp, forall_eq] at hdep
      have e20 := hb 6 20 rfl
      have e21 := hb 7 21 rfl
      have d6 := hdep.1
      have d7 := hdep.2
      rw [d6.1] at e20
      rw [d7.1] at e21
      clear hb hb' hdep d6 d7
      go_simp
      refine (down_any _ _ _ (by omega) (by omega) hn hn2).mono ?_
      rintro e w' ⟨rfl, rfl⟩
      exact hK _ _ rfl (fun j u _ h => h) hJ
    · intro done us W hJ hdep haft hnot b hb hb' K hK Q'
      simp only [List.getD_cons_succ, List.getD_cons_zero, List.mem_cons, List.not_mem_nil, or_false, forall_eq_or_imp, forall_eq] at hdep
      have e22 := hb 8 22 rfl
      have d8 := hdep
      rw [d8.1] at e22
      clear hb hb' hdep d8
      have g := div_in hn (show -1152921504606846976 ≤ (0 : Int) by omega) (show (0 : Int) ≤ 1152921504606846976 by omega) (show -1152921504606846976 ≤ -y by omega) (show -y ≤ 1152921504606846976 by omega)
      obtain ⟨g1, g2⟩ := g
      have hw : IntKind.i64.wrap (-((-y) / n)) = -((-y) / n) := by rw [IntKind.wrap_i64]; omega
      go_simp
      exact hK _ _ rfl (fun _ _ _ h => h) hJ
    · intro done us W hJ hdep haft hnot b hb hb' K hK Q'
      simp only [List.getD_cons_succ, List.getD_cons_zero, List.mem_cons, List.not_mem_nil, or_false, forall_eq_or_imp, forall_eq] at hdep
      have e17 := hb 3 17 rfl
      have e23 := hb 9 23 rfl
      have d3 := hdep.1
      have d9 := hdep.2
      rw [d3.1] at e17
      rw [d9.1] at e23
      clear hb hb' hdep d3 d9
      go_simp
      refine (span_ok _ _ _ h0 h1).mono ?_
      rintro e w' ⟨rfl, hX⟩
      exact hK _ _ rfl (fun j u _ h => hmono _ _ j u hX h) (Ext.trans hJ hX)
    · intro done us W hJ hdep haft hnot b hb hb' K hK Q'
      simp only [List.getD_cons_succ, List.getD_cons_zero, List.mem_cons, List.not_mem_nil, or_false, forall_eq_or_imp, forall_eq] at hdep
      have e24 := hb 10 24 rfl
      have d10 := hdep
      rw [d10.1] at e24
      clear hb hb' hdep d10
      go_simp
      exact hK _ _ rfl (fun _ _ _ h => h) hJ
    · intro done us W hJ hdep haft hnot b hb hb' K hK Q'
      simp only [List.getD_cons_succ, List.getD_cons_zero, List.mem_cons, List.not_mem_nil, or_false, forall_eq_or_imp, forall_eq] at hdep
      have e24 := hb 10 24 rfl
      have d10 := hdep
      rw [d10.1] at e24
      clear hb hb' hdep d10
      go_simp
      exact hK _ _ rfl (fun _ _ _ h => h) hJ
  · intro us W hV hJ
    exact hend (us 0) (us 1) (us 2) (us 3) (us 4) (us 5) (us 6) (us 7) (us 8) (us 9) (us 10) (us 11) (us 12) W (hV 0 (by omega)) (hV 1 (by omega)) (hV 2 (by omega)) (hV 3 (by omega)) (hV 4 (by omega)) (hV 5 (by omega)) (hV 6 (by omega)) (hV 7 (by omega)) (hV 8 (by omega)) (hV 9 (by omega)) (hV 10 (by omega)) (hV 11 (by omega)) (hV 12 (by omega)) hJ
set_option maxRecDepth 100000 in
set_option maxHeartbeats 2000000 in
theorem eover_ok (a b n : Int) (w : World) (h : okS a b = true) (hn : 1 ≤ n) (hn2 : n ≤ 9223372036854775807) :
    Calls Try.prog 69 #[.agg #[.int .i64 (a), .int .i64 (b)], .int .i64 n] w (RetE w (.agg #[.int .i64 (a / n), .int .i64 (-((-b) / n))]) 0) := by
  obtain ⟨a0, a1, a2⟩ := okS_in h
  have HB := Lib.hid h
  clear h
  obtain ⟨g1, g2⟩ := div_in hn (show -1152921504606846976 ≤ (0 : Int) by omega) (show (0 : Int) ≤ 1152921504606846976 by omega) a0 (show a ≤ 1152921504606846976 by omega)
  obtain ⟨g3, g4⟩ := div_in hn (show -1152921504606846976 ≤ (0 : Int) by omega) (show (0 : Int) ≤ 1152921504606846976 by omega) (show -1152921504606846976 ≤ -b by omega) (show -b ≤ 1152921504606846976 by omega)
  have H1 := Lib.hid (show -1152921504606846976 ≤ a / n ∧ -((-b) / n) ≤ 1152921504606846976 by omega)
  clear g1 g2 g3 g4
  have hXe : Ext w ((w.alloc (.cells #[.int .i64 a, .int .i64 b] 44)).alloc (.cells #[.int .i64 0, .int .i64 0] 44)) := (((Ext.refl w).alloc _).alloc _)
  have kA : Blk ((w.alloc (.cells #[.int .i64 a, .int .i64 b] 44)).alloc (.cells #[.int .i64 0, .int .i64 0] 44)) w.heap.size 44 #[.int .i64 a, .int .i64 b] := Blk.alloc (Blk.at_ (by simp)) _
  have kR : Blk ((w.alloc (.cells #[.int .i64 a, .int .i64 b] 44)).alloc (.cells #[.int .i64 0, .int .i64 0] 44)) (w.heap.size + 1) 44 #[.int .i64 0, .int .i64 0] := Blk.at_ (by simp)
  go_enter Try.func69, Try.ntmps69
  go_wp2_with fail
  generalize ((w.alloc (.cells #[.int .i64 a, .int .i64 b] 44)).alloc (.cells #[.int .i64 0, .int .i64 0] 44)) = w1 at hXe kA kR ⊢
  have HX := Lib.hid hXe
  clear hXe
  have KA := Lib.hid kA
  clear kA
  have KR := Lib.hid kR
  clear kR
  refine (valid_any a b _).mono ?_
  rw [HB.out]
  rintro e w2 ⟨rfl, hX⟩
  replace HX := Lib.hid (HX.out.trans hX)
  replace KA := Lib.hid (KA.out.ext hX)
  replace KR := Lib.hid (KR.out.ext hX)
  clear hX
  have cA0 : w2.cell? ⟨w.heap.size, 0, none⟩ = some (.int .i64 a) := KA.out.cell 0
  have cA1 : w2.cell? ⟨w.heap.size, 1, none⟩ = some (.int .i64 b) := KA.out.cell 1
  have cR0 : w2.cell? ⟨(w.heap.size + 1), 0, none⟩ = some (.int .i64 0) := KR.out.cell 0
  have cR1 : w2.cell? ⟨(w.heap.size + 1), 1, none⟩ = some (.int .i64 0) := KR.out.cell 1
  go_upto_region 3 with (fail)
  clear cA0 cA1 cR0 cR1
  refine over_r3 w.heap.size a b n w2 (KA.out.cell 0) (KA.out.cell 1) a0 a1 a2 hn hn2 H1.out.1 H1.out.2 _ _ (by simp) rfl rfl ?_
  rintro xv0 xv1 xv2 xv3 xv4 xv5 xv6 xv7 xv8 xv9 xv10 xv11 xv12 w3 rfl rfl rfl rfl rfl rfl rfl rfl rfl rfl rfl rfl rfl hXW
  simp only [rops, Try.f69, regOf, Option.bind_some, Nat.reduceBEq, if_true, if_false, Bool.false_eq_true, Option.getD_some, List.drop_succ_cons, List.drop_zero]
  simp only [Act.put, List.setIfInBounds_toArray, List.set_cons_succ, List.set_cons_zero]
  replace HX := Lib.hid (HX.out.trans hXW)
  replace KA := Lib.hid (KA.out.ext hXW)
  replace KR := Lib.hid (KR.out.ext hXW)
  clear hXW
  obtain ⟨lo, hlo⟩ : ∃ q, a / n = q := ⟨_, rfl⟩
  obtain ⟨hi, hhi⟩ : ∃ q, -((-b) / n) = q := ⟨_, rfl⟩
  rw [hlo, hhi]
  have HLO := Lib.hid hlo
  have HHI := Lib.hid hhi
  clear hlo hhi
  have cA0 : w3.cell? ⟨w.heap.size, 0, none⟩ = some (.int .i64 a) := KA.out.cell 0
  have cA1 : w3.cell? ⟨w.heap.size, 1, none⟩ = some (.int .i64 b) := KA.out.cell 1
  have cR0 : w3.cell? ⟨(w.heap.size + 1), 0, none⟩ = some (.int .i64 0) := KR.out.cell 0
  have fR0 : w3.frozen? ⟨(w.heap.size + 1), 0, none⟩ = false := KR.out.free 0
  have cR1 : w3.cell? ⟨(w.heap.size + 1), 1, none⟩ = some (.int .i64 0) := KR.out.cell 1
  have fR1 : w3.frozen? ⟨(w.heap.size + 1), 1, none⟩ = false := KR.out.free 1
  go_wp2
  refine bodyPost_ret (v := .tuple #[.agg #[.int .i64 (lo), .int .i64 (hi)], .int .i64 0]) (by simp [results, Try.results69, go_sem, *]) rfl ?_
  exact ⟨by rw [HLO.out, HHI.out], HX.out.two (by omega) _ _⟩

end Go.Proofs.Ytagcgldhhdecjaa
