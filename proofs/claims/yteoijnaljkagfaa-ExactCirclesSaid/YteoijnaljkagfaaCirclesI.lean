/- Lemmas of the proof that follows (Circles, part 9): walks of functions by contract, and plain lemmas. Conditions: none. -/
import Derived.Test.YteoijnaljkagfaaCirclesH
namespace Go.Proofs.Yteoijnaljkagfaa
open Go.RowKit

theorem fit4c {n : Int} (h0 : -9223372036854775808 ≤ n) (h1 : n ≤ 9223372036854775807) : Fit 65536 n.natAbs 4 := by
  have h := (fitR_small h0 h1).1
  rw [Rat.num_intCast] at h
  exact h
theorem circ_power (a1 a2 b1 b2 c1 c2 d1 d2 : Int) :
    detI (a1, a2) (b1, b2) (c1, c2) (d1, d2) = -(((d1 - a1) * (d1 - a1) + (d2 - a2) * (d2 - a2)) * ((b1 - a1) * (c2 - a2) - (b2 - a2) * (c1 - a1)) + -((d1 - a1) * (((b1 - a1) * (b1 - a1) + (b2 - a2) * (b2 - a2)) * (c2 - a2) + -(((c1 - a1) * (c1 - a1) + (c2 - a2) * (c2 - a2)) * (b2 - a2))) + (d2 - a2) * (((c1 - a1) * (c1 - a1) + (c2 - a2) * (c2 - a2)) * (b1 - a1) + -(((b1 - a1) * (b1 - a1) + (b2 - a2) * (b2 - a2)) * (c1 - a1))))) := by
  unfold detI liftI crossI
  simp only
  grind
theorem mul29 {x y : Int} (hx : -536870912 ≤ x ∧ x ≤ 536870912) (hy : -536870912 ≤ y ∧ y ≤ 536870912) : -288230376151711744 ≤ x * y ∧ x * y ≤ 288230376151711744 := by
  have h := mul_in hx hy
  rw [show (536870912 : Int) * 536870912 = 288230376151711744 by decide] at h
  exact h

set_option maxRecDepth 100000 in
set_option maxHeartbeats 2000000 in
theorem circle_r1 (ga gb gc : Nat) (a1 a2 b1 b2 c1 c2 d1 d2 bx ey cx cy : Int) (w : World) (ea1 : w.cell? ⟨ga, 0, none⟩ = some (.int .i64 a1)) (ea2 : w.cell? ⟨ga, 1, none⟩ = some (.int .i64 a2)) (eb1 : w.cell? ⟨gb, 0, none⟩ = some (.int .i64 b1)) (eb2 : w.cell? ⟨gb, 1, none⟩ = some (.int .i64 b2)) (ec1 : w.cell? ⟨gc, 0, none⟩ = some (.int .i64 c1)) (ec2 : w.cell? ⟨gc, 1, none⟩ = some (.int .i64 c2)) (ha10 : -268435456 ≤ a1) (ha11 : a1 ≤ 268435456) (ha20 : -268435456 ≤ a2) (ha21 : a2 ≤ 268435456) (hb10 : -268435456 ≤ b1) (hb11 : b1 ≤ 268435456) (hb20 : -268435456 ≤ b2) (hb21 : b2 ≤ 268435456) (hc10 : -268435456 ≤ c1) (hc11 : c1 ≤ 268435456) (hc20 : -268435456 ≤ c2) (hc21 : c2 ≤ 268435456) (hd10 : -268435456 ≤ d1) (hd11 : d1 ≤ 268435456) (hd20 : -268435456 ≤ d2) (hd21 : d2 ≤ 268435456) (hhbx : Hid (b1 - a1 = bx)) (hhey : Hid (b2 - a2 = ey)) (hhcx : Hid (c1 - a1 = cx)) (hhcy : Hid (c2 - a2 = cy)) (a : Act) (Q : Exit → Act → World → Prop) (hsize : 42 ≤ a.tmps.size)
    (s4 : a.tmps[4]? = some (.pointer (some ⟨ga, 0, none⟩)))
    (s5 : a.tmps[5]? = some (.pointer (some ⟨gb, 0, none⟩)))
    (s6 : a.tmps[6]? = some (.pointer (some ⟨gc, 0, none⟩)))
    (hend : ∀ (xv0 xv1 xv2 xv3 xv4 xv5 xv6 xv7 xv8 xv9 xv10 xv11 xv12 xv13 xv14 xv15 xv16 xv17 xv18 xv19 xv20 xv21 xv22 xv23 : Value) (W : World), (xv0 = .pointer (some ⟨gb, 0, none⟩)) → (xv1 = .int .i64 b1) → (xv2 = .pointer (some ⟨ga, 0, none⟩)) → (xv3 = .int .i64 a1) → (xv4 = .int .i64 bx) → (xv5 = .pointer (some ⟨gb, 1, none⟩)) → (xv6 = .int .i64 b2) → (xv7 = .pointer (some ⟨ga, 1, none⟩)) → (xv8 = .int .i64 a2) → (xv9 = .int .i64 ey) → (xv10 = .pointer (some ⟨gc, 0, none⟩)) → (xv11 = .int .i64 c1) → (xv12 = .pointer (some ⟨ga, 0, none⟩)) → (xv13 = .int .i64 a1) → (xv14 = .int .i64 cx) → (xv15 = .pointer (some ⟨gc, 1, none⟩)) → (xv16 = .int .i64 c2) → (xv17 = .pointer (some ⟨ga, 1, none⟩)) → (xv18 = .int .i64 a2) → (xv19 = .int .i64 cy) → (xv20 = .int .i64 bx) → (xv21 = .int .i64 ey) → (xv22 = .int .i64 cx) → (xv23 = .int .i64 cy) → Ext w W → wpList Try.prog (rops Try.f47 1).toArray Q ((rops Try.f47 1).drop 24) ((((((((((((((((((((((((a.put (some 22) xv0).put (some 23) xv1).put (some 24) xv2).put (some 25) xv3).put (some 26) xv4).put (some 27) xv5).put (some 28) xv6).put (some 29) xv7).put (some 30) xv8).put (some 31) xv9).put (some 32) xv10).put (some 33) xv11).put (some 34) xv12).put (some 35) xv13).put (some 36) xv14).put (some 37) xv15).put (some 38) xv16).put (some 39) xv17).put (some 40) xv18).put (some 41) xv19).put (some 9) xv20).put (some 10) xv21).put (some 11) xv22).put (some 12) xv23) W) :
    (Code.region 1 (rops Try.f47 1).toArray true).wp Try.prog Q a w := by
  have hmono : ∀ (W W' : World) (j : Nat) (u : Value), Ext W W' → (fun (i : Nat) (v : Value) (W : World) => match i with
    | 0 => v = .pointer (some ⟨gb, 0, none⟩)
    | 1 => v = .int .i64 b1
    | 2 => v = .pointer (some ⟨ga, 0, none⟩)
    | 3 => v = .int .i64 a1
    | 4 => v = .int .i64 bx
    | 5 => v = .pointer (some ⟨gb, 1, none⟩)
    | 6 => v = .int .i64 b2
    | 7 => v = .pointer (some ⟨ga, 1, none⟩)
    | 8 => v = .int .i64 a2
    | 9 => v = .int .i64 ey
    | 10 => v = .pointer (some ⟨gc, 0, none⟩)
    | 11 => v = .int .i64 c1
    | 12 => v = .pointer (some ⟨ga, 0, none⟩)
    | 13 => v = .int .i64 a1
    | 14 => v = .int .i64 cx
    | 15 => v = .pointer (some ⟨gc, 1, none⟩)
    | 16 => v = .int .i64 c2
    | 17 => v = .pointer (some ⟨ga, 1, none⟩)
    | 18 => v = .int .i64 a2
    | 19 => v = .int .i64 cy
    | 20 => v = .int .i64 bx
    | 21 => v = .int .i64 ey
    | 22 => v = .int .i64 cx
    | 23 => v = .int .i64 cy
    | _ => True) j u W → (fun (i : Nat) (v : Value) (W : World) => match i with
    | 0 => v = .pointer (some ⟨gb, 0, none⟩)
    | 1 => v = .int .i64 b1
    | 2 => v = .pointer (some ⟨ga, 0, none⟩)
    | 3 => v = .int .i64 a1
    | 4 => v = .int .i64 bx
    | 5 => v = .pointer (some ⟨gb, 1, none⟩)
    | 6 => v = .int .i64 b2
    | 7 => v = .pointer (some ⟨ga, 1, none⟩)
    | 8 => v = .int .i64 a2
    | 9 => v = .int .i64 ey
    | 10 => v = .pointer (some ⟨gc, 0, none⟩)
    | 11 => v = .int .i64 c1
    | 12 => v = .pointer (some ⟨ga, 0, none⟩)
    | 13 => v = .int .i64 a1
    | 14 => v = .int .i64 cx
    | 15 => v = .pointer (some ⟨gc, 1, none⟩)
    | 16 => v = .int .i64 c2
    | 17 => v = .pointer (some ⟨ga, 1, none⟩)
    | 18 => v = .int .i64 a2
    | 19 => v = .int .i64 cy
    | 20 => v = .int .i64 bx
    | 21 => v = .int .i64 ey
    | 22 => v = .int .i64 cx
    | 23 => v = .int .i64 cy
    | _ => True) j u W' := by
    intro W W' j u hX h
    match j, h with
    | 0, h => exact h
    | 1, h => exact h
    | 2, h => exact h
    | 3, h => exact h
    | 4, h => exact h
    | 5, h => exact h
    | 6, h => exact h
    | 7, h => exact h
    | 8, h => exact h
    | 9, h => exact h
    | 10, h => exact h
    | 11, h => exact h
    | 12, h => exact h
    | 13, h => exact h
    | 14, h => exact h
    | 15, h => exact h
    | 16, h => exact h
    | 17, h => exact h
    | 18, h => exact h
    | 19, h => exact h
    | 20, h => exact h
    | 21, h => exact h
    | 22, h => exact h
    | 23, h => exact h
    | _ + 24, h => exact h
  have hsz : ∀ d, some d ∈ ([some 22, some 23, some 24, some 25, some 26, some 27, some 28, some 29, some 30, some 31, some 32, some 33, some 34, some 35, some 36, some 37, some 38, some 39, some 40, some 41, some 9, some 10, some 11, some 12] : List (Option Tmp)) → d < a.tmps.size := slots_lt (by decide) hsize
  refine wp_region_j 24 [some 22, some 23, some 24, some 25, some 26, some 27, some 28, some 29, some 30, some 31, some 32, some 33, some 34, some 35, some 36, some 37, some 38, some 39, some 40, some 41, some 9, some 10, some 11, some 12] [[], [0], [], [2], [1, 3], [], [5], [], [7], [6, 8], [], [10], [], [12], [11, 13], [], [15], [], [17], [16, 18], [4], [9], [14], [19]] [[], [], [], [], [], [], [], [], [], [], [], [], [], [], [], [], [], [], [], [], [], [], [], []] (fun (i : Nat) (v : Value) (W : World) => match i with
    | 0 => v = .pointer (some ⟨gb, 0, none⟩)
    | 1 => v = .int .i64 b1
    | 2 => v = .pointer (some ⟨ga, 0, none⟩)
    | 3 => v = .int .i64 a1
    | 4 => v = .int .i64 bx
    | 5 => v = .pointer (some ⟨gb, 1, none⟩)
    | 6 => v = .int .i64 b2
    | 7 => v = .pointer (some ⟨ga, 1, none⟩)
    | 8 => v = .int .i64 a2
    | 9 => v = .int .i64 ey
    | 10 => v = .pointer (some ⟨gc, 0, none⟩)
    | 11 => v = .int .i64 c1
    | 12 => v = .pointer (some ⟨ga, 0, none⟩)
    | 13 => v = .int .i64 a1
    | 14 => v = .int .i64 cx
    | 15 => v = .pointer (some ⟨gc, 1, none⟩)
    | 16 => v = .int .i64 c2
    | 17 => v = .pointer (some ⟨ga, 1, none⟩)
    | 18 => v = .int .i64 a2
    | 19 => v = .int .i64 cy
    | 20 => v = .int .i64 bx
    | 21 => v = .int .i64 ey
    | 22 => v = .int .i64 cx
    | 23 => v = .int .i64 cy
    | _ => True) (fun _ W => Ext w W) (by kernel_rfl) (by kernel_rfl) hsz (fun _ _ _ _ h => h) ((Ext.refl w).drew) ?_ ?_
  · clear hend
    simp only [rops, Try.f47, regOf, Option.bind_some, Nat.reduceBEq, if_true, if_false, Bool.false_eq_true, Option.getD_some]
    simp only [List.take_succ_cons, List.take_zero]
    refine ⟨?_, ?_, ?_, ?_, ?_, ?_, ?_, ?_, ?_, ?_, ?_, ?_, ?_, ?_, ?_, ?_, ?_, ?_, ?_, ?_, ?_, ?_, ?_, ?_, trivial⟩
    · intro done us W hJ hdep haft hnot b hb hb' K hK Q'
      have e5 := (hb' 5 (by simp)).trans s5
      clear hb hb'
      go_simp
      exact hK _ _ rfl (fun _ _ _ h => h) hJ
    · intro done us W hJ hdep haft hnot b hb hb' K hK Q'
      simp only [List.getD_cons_succ, List.getD_cons_zero, List.mem_cons, List.not_mem_nil, or_false, forall_eq_or_imp, forall_eq] at hdep
      have e22 := hb 0 22 rfl
      have d0 := hdep
      rw [d0.1] at e22
      clear hb hb' hdep d0
      have q := Ext.cell hJ eb1
      go_simp
      exact hK _ _ rfl (fun _ _ _ h => h) hJ
    · intro done us W hJ hdep haft hnot b hb hb' K hK Q'
      have e4 := (hb' 4 (by simp)).trans s4
      clear hb hb'
      go_simp
      exact hK _ _ rfl (fun _ _ _ h => h) hJ
    · intro done us W hJ hdep haft hnot b hb hb' K hK Q'
      simp only [List.getD_cons_succ, List.getD_cons_zero, List.mem_cons, List.not_mem_nil, or_false, forall_eq_or_imp, forall_eq] at hdep
      have e24 := hb 2 24 rfl
      have d2 := hdep
      rw [d2.1] at e24
      clear hb hb' hdep d2
      have q := Ext.cell hJ ea1
      go_simp
      exact hK _ _ rfl (fun _ _ _ h => h) hJ
    · intro done us W hJ hdep haft hnot b hb hb' K hK Q'
      simp only [List.getD_cons_succ, List.getD_cons_zero, List.mem_cons, List.not_mem_nil, or_false, forall_eq_or_imp, forall_eq] at hdep
      have e23 := hb 1 23 rfl
      have e25 := hb 3 25 rfl
      have d1 := hdep.1
      have d3 := hdep.2
      rw [d1.1] at e23
      rw [d3.1] at e25
      clear hb hb' hdep d1 d3
      go_simp
      rw [IntWalk.i64_in (b1 - a1) (by omega), hhbx.out]
      exact hK _ _ rfl (fun _ _ _ h => h) hJ
    · intro done us W hJ hdep haft hnot b hb hb' K hK Q'
      have e5 := (hb' 5 (by simp)).trans s5
      clear hb hb'
      go_simp
      exact hK _ _ rfl (fun _ _ _ h => h) hJ
    · intro done us W hJ hdep haft hnot b hb hb' K hK Q'
      simp only [List.getD_cons_succ, List.getD_cons_zero, List.mem_cons, List.not_mem_nil, or_false, forall_eq_or_imp, forall_eq] at hdep
      have e27 := hb 5 27 rfl
      have d5 := hdep
      rw [d5.1] at e27
      clear hb hb' hdep d5
      have q := Ext.cell hJ eb2
      go_simp
      exact hK _ _ rfl (fun _ _ _ h => h) hJ
    · intro done us W hJ hdep haft hnot b hb hb' K hK Q'
      have e4 := (hb' 4 (by simp)).trans s4
      clear hb hb'
      go_simp
      exact hK _ _ rfl (fun _ _ _ h => h) hJ
    · intro done us W hJ hdep haft hnot b hb hb' K hK Q'
      simp only [List.getD_cons_succ, List.getD_cons_zero, List.mem_cons, List.not_mem_nil, or_false, forall_eq_or_imp, forall_eq] at hdep
      have e29 := hb 7 29 rfl
      have d7 := hdep
      rw [d7.1] at e29
      clear hb hb' hdep d7
      have q := Ext.cell hJ ea2
      go_simp
      exact hK _ _ rfl (fun _ _ _ h => h) hJ
    · intro done us W hJ hdep haft hnot b hb hb' K hK Q'
      simp only [List.getD_cons_succ, List.getD_cons_zero, List.mem_cons, List.not_mem_nil, or_false, forall_eq_or_imp, forall_eq] at hdep
      have e28 := hb 6 28 rfl
      have e30 := hb 8 30 rfl
      have d6 := hdep.1
      have d8 := hdep.2
      rw [d6.1] at e28
      rw [d8.1] at e30
      clear hb hb' hdep d6 d8
      go_simp
      rw [IntWalk.i64_in (b2 - a2) (by omega), hhey.out]
      exact hK _ _ rfl (fun _ _ _ h => h) hJ
    · intro done us W hJ hdep haft hnot b hb hb' K hK Q'
      have e6 := (hb' 6 (by simp)).trans s6
      clear hb hb'
      go_simp
      exact hK _ _ rfl (fun _ _ _ h => h) hJ
    · intro done us W hJ hdep haft hnot b hb hb' K hK Q'
      simp only [List.getD_cons_succ, List.getD_cons_zero, List.mem_cons, List.not_mem_nil, or_false, forall_eq_or_imp, forall_eq] at hdep
      have e32 := hb 10 32 rfl
      have d10 := hdep
      rw [d10.1] at e32
      clear hb hb' hdep d10
      have q := Ext.cell hJ ec1
      go_simp
      exact hK _ _ rfl (fun _ _ _ h => h) hJ
    · intro done us W hJ hdep haft hnot b hb hb' K hK Q'
      have e4 := (hb' 4 (by simp)).trans s4
      clear hb hb'
      go_simp
      exact hK _ _ rfl (fun _ _ _ h => h) hJ
    · intro done us W hJ hdep haft hnot b hb hb' K hK Q'
      simp only [List.getD_cons_succ, List.getD_cons_zero, List.mem_cons, List.not_mem_nil, or_false, forall_eq_or_imp, forall_eq] at hdep
      have e34 := hb 12 34 rfl
      have d12 := hdep
      rw [d12.1] at e34
      clear hb hb' hdep d12
      have q := Ext.cell hJ ea1
      go_simp
      exact hK _ _ rfl (fun _ _ _ h => h) hJ
    · intro done us W hJ hdep haft hnot b hb hb' K hK Q'
      simp only [List.getD_cons_succ, List.getD_cons_zero, List.mem_cons, List.not_mem_nil, or_false, forall_eq_or_imp, forall_eq] at hdep
      have e33 := hb 11 33 rfl
      have e35 := hb 13 35 rfl
      have d11 := hdep.1
      have d13 := hdep.2
      rw [d11.1] at e33
      rw [d13.1] at e35
      clear hb hb' hdep d11 d13
      go_simp
      rw [IntWalk.i64_in (c1 - a1) (by omega), hhcx.out]
      exact hK _ _ rfl (fun _ _ _ h => h) hJ
    · intro done us W hJ hdep haft hnot b hb hb' K hK Q'
      have e6 := (hb' 6 (by simp)).trans s6
      clear hb hb'
      go_simp
      exact hK _ _ rfl (fun _ _ _ h => h) hJ
    · intro done us W hJ hdep haft hnot b hb hb' K hK Q'
      simp only [List.getD_cons_succ, List.getD_cons_zero, List.mem_cons, List.not_mem_nil, or_false, forall_eq_or_imp, forall_eq] at hdep
      have e37 := hb 15 37 rfl
      have d15 := hdep
      rw [d15.1] at e37
      clear hb hb' hdep d15
      have q := Ext.cell hJ ec2
      go_simp
      exact hK _ _ rfl (fun _ _ _ h => h) hJ
    · intro done us W hJ hdep haft hnot b hb hb' K hK Q'
      have e4 := (hb' 4 (by simp)).trans s4
      clear hb hb'
      go_simp
      exact hK _ _ rfl (fun _ _ _ h => h) hJ
    · intro done us W hJ hdep haft hnot b hb hb' K hK Q'
      simp only [List.getD_cons_succ, List.getD_cons_zero, List.mem_cons, List.not_mem_nil, or_false, forall_eq_or_imp, forall_eq] at hdep
      have e39 := hb 17 39 rfl
      have d17 := hdep
      rw [d17.1] at e39
      clear hb hb' hdep d17
      have q := Ext.cell hJ ea2
      go_simp
      exact hK _ _ rfl (fun _ _ _ h => h) hJ
    · intro done us W hJ hdep haft hnot b hb hb' K hK Q'
      simp only [List.getD_cons_succ, List.getD_cons_zero, List.mem_cons, List.not_mem_nil, or_false, forall_eq_or_imp, forall_eq] at hdep
      have e38 := hb 16 38 rfl
      have e40 := hb 18 40 rfl
      have d16 := hdep.1
      have d18 := hdep.2
      rw [d16.1] at e38
      rw [d18.1] at e40
      clear hb hb' hdep d16 d18
      go_simp
      rw [IntWalk.i64_in (c2 - a2) (by omega), hhcy.out]
      exact hK _ _ rfl (fun _ _ _ h => h) hJ
    · intro done us W hJ hdep haft hnot b hb hb' K hK Q'
      simp only [List.getD_cons_succ, List.getD_cons_zero, List.mem_cons, List.not_mem_nil, or_false, forall_eq_or_imp, forall_eq] at hdep
      have e26 := hb 4 26 rfl
      have d4 := hdep
      rw [d4.1] at e26
      clear hb hb' hdep d4
      go_simp
      exact hK _ _ rfl (fun _ _ _ h => h) hJ
    · intro done us W hJ hdep haft hnot b hb hb' K hK Q'
      simp only [List.getD_cons_succ, List.getD_cons_zero, List.mem_cons, List.not_mem_nil, or_false, forall_eq_or_imp, forall_eq] at hdep
      have e31 := hb 9 31 rfl
      have d9 := hdep
      rw [d9.1] at e31
      clear hb hb' hdep d9
      go_simp
      exact hK _ _ rfl (fun _ _ _ h => h) hJ
    · intro done us W hJ hdep haft hnot b hb hb' K hK Q'
      simp only [List.getD_cons_succ, List.getD_cons_zero, List.mem_cons, List.not_mem_nil, or_false, forall_eq_or_imp, forall_eq] at hdep
      have e36 := hb 14 36 rfl
      have d14 := hdep
      rw [d14.1] at e36
      clear hb hb' hdep d14
      go_simp
      exact hK _ _ rfl (fun _ _ _ h => h) hJ
    · intro done us W hJ hdep haft hnot b hb hb' K hK Q'
      simp only [List.getD_cons_succ, List.getD_cons_zero, List.mem_cons, List.not_mem_nil, or_false, forall_eq_or_imp, forall_eq] at hdep
      have e41 := hb 19 41 rfl
      have d19 := hdep
      rw [d19.1] at e41
      clear hb hb' hdep d19
      go_simp
      exact hK _ _ rfl (fun _ _ _ h => h) hJ
  · intro us W hV hJ
    exact hend (us 0) (us 1) (us 2) (us 3) (us 4) (us 5) (us 6) (us 7) (us 8) (us 9) (us 10) (us 11) (us 12) (us 13) (us 14) (us 15) (us 16) (us 17) (us 18) (us 19) (us 20) (us 21) (us 22) (us 23) W (hV 0 (by omega)) (hV 1 (by omega)) (hV 2 (by omega)) (hV 3 (by omega)) (hV 4 (by omega)) (hV 5 (by omega)) (hV 6 (by omega)) (hV 7 (by omega)) (hV 8 (by omega)) (hV 9 (by omega)) (hV 10 (by omega)) (hV 11 (by omega)) (hV 12 (by omega)) (hV 13 (by omega)) (hV 14 (by omega)) (hV 15 (by omega)) (hV 16 (by omega)) (hV 17 (by omega)) (hV 18 (by omega)) (hV 19 (by omega)) (hV 20 (by omega)) (hV 21 (by omega)) (hV 22 (by omega)) (hV 23 (by omega)) hJ
set_option maxRecDepth 100000 in
set_option maxHeartbeats 2000000 in
theorem circle_r2 (ga gd : Nat) (a1 a2 b1 b2 c1 c2 d1 d2 dx dy : Int) (w : World) (ea1 : w.cell? ⟨ga, 0, none⟩ = some (.int .i64 a1)) (ea2 : w.cell? ⟨ga, 1, none⟩ = some (.int .i64 a2)) (ed1 : w.cell? ⟨gd, 0, none⟩ = some (.int .i64 d1)) (ed2 : w.cell? ⟨gd, 1, none⟩ = some (.int .i64 d2)) (ha10 : -268435456 ≤ a1) (ha11 : a1 ≤ 268435456) (ha20 : -268435456 ≤ a2) (ha21 : a2 ≤ 268435456) (hb10 : -268435456 ≤ b1) (hb11 : b1 ≤ 268435456) (hb20 : -268435456 ≤ b2) (hb21 : b2 ≤ 268435456) (hc10 : -268435456 ≤ c1) (hc11 : c1 ≤ 268435456) (hc20 : -268435456 ≤ c2) (hc21 : c2 ≤ 268435456) (hd10 : -268435456 ≤ d1) (hd11 : d1 ≤ 268435456) (hd20 : -268435456 ≤ d2) (hd21 : d2 ≤ 268435456) (hhdx : Hid (d1 - a1 = dx)) (hhdy : Hid (d2 - a2 = dy)) (a : Act) (Q : Exit → Act → World → Prop) (hsize : 52 ≤ a.tmps.size)
    (s4 : a.tmps[4]? = some (.pointer (some ⟨ga, 0, none⟩)))
    (s7 : a.tmps[7]? = some (.pointer (some ⟨gd, 0, none⟩)))
    (hend : ∀ (xv0 xv1 xv2 xv3 xv4 xv5 xv6 xv7 xv8 xv9 xv10 xv11 : Value) (W : World), (xv0 = .pointer (some ⟨gd, 0, none⟩)) → (xv1 = .int .i64 d1) → (xv2 = .pointer (some ⟨ga, 0, none⟩)) → (xv3 = .int .i64 a1) → (xv4 = .int .i64 dx) → (xv5 = .pointer (some ⟨gd, 1, none⟩)) → (xv6 = .int .i64 d2) → (xv7 = .pointer (some ⟨ga, 1, none⟩)) → (xv8 = .int .i64 a2) → (xv9 = .int .i64 dy) → (xv10 = .int .i64 dx) → (xv11 = .int .i64 dy) → Ext w W → wpList Try.prog (rops Try.f47 2).toArray Q ((rops Try.f47 2).drop 12) ((((((((((((a.put (some 42) xv0).put (some 43) xv1).put (some 44) xv2).put (some 45) xv3).put (some 46) xv4).put (some 47) xv5).put (some 48) xv6).put (some 49) xv7).put (some 50) xv8).put (some 51) xv9).put (some 13) xv10).put (some 14) xv11) W) :
    (Code.region 2 (rops Try.f47 2).toArray true).wp Try.prog Q a w := by
  have hmono : ∀ (W W' : World) (j : Nat) (u : Value), Ext W W' → (fun (i : Nat) (v : Value) (W : World) => match i with
    | 0 => v = .pointer (some ⟨gd, 0, none⟩)
    | 1 => v = .int .i64 d1
    | 2 => v = .pointer (some ⟨ga, 0, none⟩)
    | 3 => v = .int .i64 a1
    | 4 => v = .int .i64 dx
    | 5 => v = .pointer (some ⟨gd, 1, none⟩)
    | 6 => v = .int .i64 d2
    | 7 => v = .pointer (some ⟨ga, 1, none⟩)
    | 8 => v = .int .i64 a2
    | 9 => v = .int .i64 dy
    | 10 => v = .int .i64 dx
    | 11 => v = .int .i64 dy
    | _ => True) j u W → (fun (i : Nat) (v : Value) (W : World) => match i with
    | 0 => v = .pointer (some ⟨gd, 0, none⟩)
    | 1 => v = .int .i64 d1
    | 2 => v = .pointer (some ⟨ga, 0, none⟩)
    | 3 => v = .int .i64 a1
    | 4 => v = .int .i64 dx
    | 5 => v = .pointer (some ⟨gd, 1, none⟩)
    | 6 => v = .int .i64 d2
    | 7 => v = .pointer (some ⟨ga, 1, none⟩)
    | 8 => v = .int .i64 a2
    | 9 => v = .int .i64 dy
    | 10 => v = .int .i64 dx
    | 11 => v = .int .i64 dy
    | _ => True) j u W' := by
    intro W W' j u hX h
    match j, h with
    | 0, h => exact h
    | 1, h => exact h
    | 2, h => exact h
    | 3, h => exact h
    | 4, h => exact h
    | 5, h => exact h
    | 6, h => exact h
    | 7, h => exact h
    | 8, h => exact h
    | 9, h => exact h
    | 10, h => exact h
    | 11, h => exact h
    | _ + 12, h => exact h
  have hsz : ∀ d, some d ∈ ([some 42, some 43, some 44, some 45, some 46, some 47, some 48, some 49, some 50, some 51, some 13, some 14] : List (Option Tmp)) → d < a.tmps.size := slots_lt (by decide) hsize
  refine wp_region_j 12 [some 42, some 43, some 44, some 45, some 46, some 47, some 48, some 49, some 50, some 51, some 13, some 14] [[], [0], [], [2], [1, 3], [], [5], [], [7], [6, 8], [4], [9]] [[], [], [], [], [], [], [], [], [], [], [], []] (fun (i : Nat) (v : Value) (W : World) => match i with
    | 0 => v = .pointer (some ⟨gd, 0, none⟩)
    | 1 => v = .int .i64 d1
    | 2 => v = .pointer (some ⟨ga, 0, none⟩)
    | 3 => v = .int .i64 a1
    | 4 => v = .int .i64 dx
    | 5 => v = .pointer (some ⟨gd, 1, none⟩)
    | 6 => v = .int .i64 d2
    | 7 => v = .pointer (some ⟨ga, 1, none⟩)
    | 8 => v = .int .i64 a2
    | 9 => v = .int .i64 dy
    | 10 => v = .int .i64 dx
    | 11 => v = .int .i64 dy
    | _ => True) (fun _ W => Ext w W) (by kernel_rfl) (by kernel_rfl) hsz (fun _ _ _ _ h => h) ((Ext.refl w).drew) ?_ ?_
  · clear hend
    simp only [rops, Try.f47, regOf, Option.bind_some, Nat.reduceBEq, if_true, if_false, Bool.false_eq_true, Option.getD_some]
    simp only [List.take_succ_cons, List.take_zero]
    refine ⟨?_, ?_, ?_, ?_, ?_, ?_, ?_, ?_, ?_, ?_, ?_, ?_, trivial⟩
    · intro done us W hJ hdep haft hnot b hb hb' K hK Q'
      have e7 := (hb' 7 (by simp)).trans s7
      clear hb hb'
      go_simp
      exact hK _ _ rfl (fun _ _ _ h => h) hJ
    · intro done us W hJ hdep haft hnot b hb hb' K hK Q'
      simp only [List.getD_cons_succ, List.getD_cons_zero, List.mem_cons, List.not_mem_nil, or_false, forall_eq_or_imp, forall_eq] at hdep
      have e42 := hb 0 42 rfl
      have d0 := hdep
      rw [d0.1] at e42
      clear hb hb' hdep d0
      have q := Ext.cell hJ ed1
      go_simp
      exact hK _ _ rfl (fun _ _ _ h => h) hJ
    · intro done us W hJ hdep haft hnot b hb hb' K hK Q'
      have e4 := (hb' 4 (by simp)).trans s4
      clear hb hb'
      go_simp
      exact hK _ _ rfl (fun _ _ _ h => h) hJ
    · intro done us W hJ hdep haft hnot b hb hb' K hK Q'
      simp only [List.getD_cons_succ, List.getD_cons_zero, List.mem_cons, List.not_mem_nil, or_false, forall_eq_or_imp, forall_eq] at hdep
      have e44 := hb 2 44 rfl
      have d2 := hdep
      rw [d2.1] at e44
      clear hb hb' hdep d2
      have q := Ext.cell hJ ea1
      go_simp
      exact hK _ _ rfl (fun _ _ _ h => h) hJ
    · intro done us W hJ hdep haft hnot b hb hb' K hK Q'
      simp only [List.getD_cons_succ, List.getD_cons_zero, List.mem_cons, List.not_mem_nil, or_false, forall_eq_or_imp, forall_eq] at hdep
      have e43 := hb 1 43 rfl
      have e45 := hb 3 45 rfl
      have d1 := hdep.1
      have d3 := hdep.2
      rw [d1.1] at e43
      rw [d3.1] at e45
      clear hb hb' hdep d1 d3
      go_simp
      rw [IntWalk.i64_in (d1 - a1) (by omega), hhdx.out]
      exact hK _ _ rfl (fun _ _ _ h => h) hJ
    · intro done us W hJ hdep haft hnot b hb hb' K hK Q'
      have e7 := (hb' 7 (by simp)).trans s7
      clear hb hb'
      go_simp
      exact hK _ _ rfl (fun _ _ _ h => h) hJ
    · intro done us W hJ hdep haft hnot b hb hb' K hK Q'
      simp only [List.getD_cons_succ, List.getD_cons_zero, List.mem_cons, List.not_mem_nil, or_false, forall_eq_or_imp, forall_eq] at hdep
      have e47 := hb 5 47 rfl
      have d5 := hdep
      rw [d5.1] at e47
      clear hb hb' hdep d5
      have q := Ext.cell hJ ed2
      go_simp
      exact hK _ _ rfl (fun _ _ _ h => h) hJ
    · intro done us W hJ hdep haft hnot b hb hb' K hK Q'
      have e4 := (hb' 4 (by simp)).trans s4
      clear hb hb'
      go_simp
      exact hK _ _ rfl (fun _ _ _ h => h) hJ
    · intro done us W hJ hdep haft hnot b hb hb' K hK Q'
      simp only [List.getD_cons_succ, List.getD_cons_zero, List.mem_cons, List.not_mem_nil, or_false, forall_eq_or_imp, forall_eq] at hdep
      have e49 := hb 7 49 rfl
      have d7 := hdep
      rw [d7.1] at e49
      clear hb hb' hdep d7
      have q := Ext.cell hJ ea2
      go_simp
      exact hK _ _ rfl (fun _ _ _ h => h) hJ
    · intro done us W hJ hdep haft hnot b hb hb' K hK Q'
      simp only [List.getD_cons_succ, List.getD_cons_zero, List.mem_cons, List.not_mem_nil, or_false, forall_eq_or_imp, forall_eq] at hdep
      have e48 := hb 6 48 rfl
      have e50 := hb 8 50 rfl
      have d6 := hdep.1
      have d8 := hdep.2
      rw [d6.1] at e48
      rw [d8.1] at e50
      clear hb hb' hdep d6 d8
      go_simp
      rw [IntWalk.i64_in (d2 - a2) (by omega), hhdy.out]
      exact hK _ _ rfl (fun _ _ _ h => h) hJ
    · intro done us W hJ hdep haft hnot b hb hb' K hK Q'
      simp only [List.getD_cons_succ, List.getD_cons_zero, List.mem_cons, List.not_mem_nil, or_false, forall_eq_or_imp, forall_eq] at hdep
      have e46 := hb 4 46 rfl
      have d4 := hdep
      rw [d4.1] at e46
      clear hb hb' hdep d4
      go_simp
      exact hK _ _ rfl (fun _ _ _ h => h) hJ
    · intro done us W hJ hdep haft hnot b hb hb' K hK Q'
      simp only [List.getD_cons_succ, List.getD_cons_zero, List.mem_cons, List.not_mem_nil, or_false, forall_eq_or_imp, forall_eq] at hdep
      have e51 := hb 9 51 rfl
      have d9 := hdep
      rw [d9.1] at e51
      clear hb hb' hdep d9
      go_simp
      exact hK _ _ rfl (fun _ _ _ h => h) hJ
  · intro us W hV hJ
    exact hend (us 0) (us 1) (us 2) (us 3) (us 4) (us 5) (us 6) (us 7) (us 8) (us 9) (us 10) (us 11) W (hV 0 (by omega)) (hV 1 (by omega)) (hV 2 (by omega)) (hV 3 (by omega)) (hV 4 (by omega)) (hV 5 (by omega)) (hV 6 (by omega)) (hV 7 (by omega)) (hV 8 (by omega)) (hV 9 (by omega)) (hV 10 (by omega)) (hV 11 (by omega)) hJ
set_option maxRecDepth 100000 in
set_option maxHeartbeats 2000000 in
theorem circle_r5 (gf gs : Nat) (s31 : Bool) (A31 : Option Addr) (l31 c31 : Nat) (s32 : Bool) (A32 : Option Addr) (l32 c32 : Nat) (f r x y : Int) (w : World) (p0 : w.cell? ⟨gf, 0, none⟩ = some (.bool s31)) (p1 : w.cell? ⟨gf, 1, none⟩ = some (.slice A31 l31 c31)) (q0 : w.cell? ⟨gs, 0, none⟩ = some (.bool s32)) (q1 : w.cell? ⟨gs, 1, none⟩ = some (.slice A32 l32 c32)) (hf : IntZ w (.agg #[.bool s31, .slice A31 l31 c31]) f) (hs : IntZ w (.agg #[.bool s32, .slice A32 l32 c32]) r) (hbf0 : -9223372036854775808 ≤ f) (hbf1 : f ≤ 9223372036854775807) (hbr0 : -9223372036854775808 ≤ r) (hbr1 : r ≤ 9223372036854775807) (hbx0 : -9223372036854775808 ≤ x) (hbx1 : x ≤ 9223372036854775807) (hby0 : -9223372036854775808 ≤ y) (hby1 : y ≤ 9223372036854775807) (a : Act) (Q : Exit → Act → World → Prop) (hsize : 86 ≤ a.tmps.size)
    (s10 : a.tmps[10]? = some (.int .i64 y))
    (s12 : a.tmps[12]? = some (.int .i64 x))
    (s16 : a.tmps[16]? = some (.pointer (some ⟨gf, 0, none⟩)))
    (s17 : a.tmps[17]? = some (.pointer (some ⟨gs, 0, none⟩)))
    (hend : ∀ (xv0 xv1 xv2 xv3 xv4 xv5 xv6 xv7 xv8 xv9 xv10 : Value) (W : World), (xv0 = .agg #[.bool s31, .slice A31 l31 c31]) → (xv1 = .int .i64 x) → (IntZ W xv2 (x)) → (IntZ W xv3 (f * x)) → (xv4 = .agg #[.bool s32, .slice A32 l32 c32]) → (xv5 = .int .i64 y) → (IntZ W xv6 (y)) → (IntZ W xv7 (r * y)) → (IntZ W xv8 (-(r * y))) → (IntZ W xv9 (f * x + -(r * y))) → (∃ g, xv10 = .pointer (some ⟨g, 0, none⟩) ∧ w.heap.size ≤ g ∧ Blk W g 40 #[.bool false, .slice none 0 0]) → Ext w W → wpList Try.prog (rops Try.f47 5).toArray Q ((rops Try.f47 5).drop 11) (((((((((((a.put (some 76) xv0).put (some 77) xv1).put (some 78) xv2).put (some 79) xv3).put (some 80) xv4).put (some 81) xv5).put (some 82) xv6).put (some 83) xv7).put (some 84) xv8).put (some 85) xv9).put (some 18) xv10) W) :
    (Code.region 5 (rops Try.f47 5).toArray true).wp Try.prog Q a w := by
  have hmono : ∀ (W W' : World) (j : Nat) (u : Value), Ext W W' → (fun (i : Nat) (v : Value) (W : World) => match i with
    | 0 => v = .agg #[.bool s31, .slice A31 l31 c31]
    | 1 => v = .int .i64 x
    | 2 => IntZ W v (x)
    | 3 => IntZ W v (f * x)
    | 4 => v = .agg #[.bool s32, .slice A32 l32 c32]
    | 5 => v = .int .i64 y
    | 6 => IntZ W v (y)
    | 7 => IntZ W v (r * y)
    | 8 => IntZ W v (-(r * y))
    | 9 => IntZ W v (f * x + -(r * y))
    | 10 => ∃ g, v = .pointer (some ⟨g, 0, none⟩) ∧ w.heap.size ≤ g ∧ Blk W g 40 #[.bool false, .slice none 0 0]
    | _ => True) j u W → (fun (i : Nat) (v : Value) (W : World) => match i with
    | 0 => v = .agg #[.bool s31, .slice A31 l31 c31]
    | 1 => v = .int .i64 x
    | 2 => IntZ W v (x)
    | 3 => IntZ W v (f * x)
    | 4 => v = .agg #[.bool s32, .slice A32 l32 c32]
    | 5 => v = .int .i64 y
    | 6 => IntZ W v (y)
    | 7 => IntZ W v (r * y)
    | 8 => IntZ W v (-(r * y))
    | 9 => IntZ W v (f * x + -(r * y))
    | 10 => ∃ g, v = .pointer (some ⟨g, 0, none⟩) ∧ w.heap.size ≤ g ∧ Blk W g 40 #[.bool false, .slice none 0 0]
    | _ => True) j u W' := by
    intro W W' j u hX h
    match j, h with
    | 0, h => exact h
    | 1, h => exact h
    | 2, h => exact IntZ.ext h hX
    | 3, h => exact IntZ.ext h hX
    | 4, h => exact h
    | 5, h => exact h
    | 6, h => exact IntZ.ext h hX
    | 7, h => exact IntZ.ext h hX
    | 8, h => exact IntZ.ext h hX
    | 9, h => exact IntZ.ext h hX
    | 10, h => obtain ⟨g, h1, h2, h3⟩ := h; exact ⟨g, h1, h2, h3.ext hX⟩
    | _ + 11, h => exact h
  have hsz : ∀ d, some d ∈ ([some 76, some 77, some 78, some 79, some 80, some 81, some 82, some 83, some 84, some 85, some 18] : List (Option Tmp)) → d < a.tmps.size := slots_lt (by decide) hsize
  refine wp_region_j 11 [some 76, some 77, some 78, some 79, some 80, some 81, some 82, some 83, some 84, some 85, some 18] [[], [], [1], [0, 2], [], [], [5], [4, 6], [7], [3, 8], []] [[], [], [], [], [], [], [], [], [], [], []] (fun (i : Nat) (v : Value) (W : World) => match i with
    | 0 => v = .agg #[.bool s31, .slice A31 l31 c31]
    | 1 => v = .int .i64 x
    | 2 => IntZ W v (x)
    | 3 => IntZ W v (f * x)
    | 4 => v = .agg #[.bool s32, .slice A32 l32 c32]
    | 5 => v = .int .i64 y
    | 6 => IntZ W v (y)
    | 7 => IntZ W v (r * y)
    | 8 => IntZ W v (-(r * y))
    | 9 => IntZ W v (f * x + -(r * y))
    | 10 => ∃ g, v = .pointer (some ⟨g, 0, none⟩) ∧ w.heap.size ≤ g ∧ Blk W g 40 #[.bool false, .slice none 0 0]
    | _ => True) (fun _ W => Ext w W) (by kernel_rfl) (by kernel_rfl) hsz (fun _ _ _ _ h => h) ((Ext.refl w).drew) ?_ ?_
  · clear hend
    simp only [rops, Try.f47, regOf, Option.bind_some, Nat.reduceBEq, if_true, if_false, Bool.false_eq_true, Option.getD_some]
    simp only [List.take_succ_cons, List.take_zero]
    refine ⟨?_, ?_, ?_, ?_, ?_, ?_, ?_, ?_, ?_, ?_, ?_, trivial⟩
    · intro done us W hJ hdep haft hnot b hb hb' K hK Q'
      have e16 := (hb' 16 (by simp)).trans s16
      clear hb hb'
      have u0 := Ext.cell hJ p0
      have u1 := Ext.cell hJ p1
      go_simp
      exact hK _ _ rfl (fun _ _ _ h => h) hJ
    · intro done us W hJ hdep haft hnot b hb hb' K hK Q'
      have e12 := (hb' 12 (by simp)).trans s12
      clear hb hb'
      go_simp
      exact hK _ _ rfl (fun _ _ _ h => h) hJ
    · intro done us W hJ hdep haft hnot b hb hb' K hK Q'
      simp only [List.getD_cons_succ, List.getD_cons_zero, List.mem_cons, List.not_mem_nil, or_false, forall_eq_or_imp, forall_eq] at hdep
      have e77 := hb 1 77 rfl
      have d1 := hdep
      rw [d1.1] at e77
      clear hb hb' hdep d1
      go_simp
      refine (small_any x _ hbx0 hbx1).mono ?_
      rintro e w' ⟨v, rfl, hv, hX⟩
      exact hK _ _ hv (fun j u _ h => hmono _ _ j u hX h) (Ext.trans hJ hX)
    · intro done us W hJ hdep haft hnot b hb hb' K hK Q'
      simp only [List.getD_cons_succ, List.getD_cons_zero, List.mem_cons, List.not_mem_nil, or_false, forall_eq_or_imp, forall_eq] at hdep
      have e76 := hb 0 76 rfl
      have e78 := hb 2 78 rfl
      have d0 := hdep.1
      have d2 := hdep.2
      rw [d0.1] at e76
      clear hb hb' hdep d0
      go_simp
      refine (zmul_any _ _ f x 4 4 _ (IntZ.ext hf hJ) d2.1 (fit4c hbf0 hbf1) (fit4c hbx0 hbx1) (by omega) (by omega)).mono ?_
      rintro e w' ⟨v, rfl, hv, hX⟩
      exact hK _ _ hv (fun j u _ h => hmono _ _ j u hX h) (Ext.trans hJ hX)
    · intro done us W hJ hdep haft hnot b hb hb' K hK Q'
      have e17 := (hb' 17 (by simp)).trans s17
      clear hb hb'
      have u0 := Ext.cell hJ q0
      have u1 := Ext.cell hJ q1
      go_simp
      exact hK _ _ rfl (fun _ _ _ h => h) hJ
    · intro done us W hJ hdep haft hnot b hb hb' K hK Q'
      have e10 := (hb' 10 (by simp)).trans s10
      clear hb hb'
      go_simp
      exact hK _ _ rfl (fun _ _ _ h => h) hJ
    · intro done us W hJ hdep haft hnot b hb hb' K hK Q'
      simp only [List.getD_cons_succ, List.getD_cons_zero, List.mem_cons, List.not_mem_nil, or_false, forall_eq_or_imp, forall_eq] at hdep
      have e81 := hb 5 81 rfl
      have d5 := hdep
      rw [d5.1] at e81
      clear hb hb' hdep d5
      go_simp
      refine (small_any y _ hby0 hby1).mono ?_
      rintro e w' ⟨v, rfl, hv, hX⟩
      exact hK _ _ hv (fun j u _ h => hmono _ _ j u hX h) (Ext.trans hJ hX)
    · intro done us W hJ hdep haft hnot b hb hb' K hK Q'
      simp only [List.getD_cons_succ, List.getD_cons_zero, List.mem_cons, List.not_mem_nil, or_false, forall_eq_or_imp, forall_eq] at hdep
      have e80 := hb 4 80 rfl
      have e82 := hb 6 82 rfl
      have d4 := hdep.1
      have d6 := hdep.2
      rw [d4.1] at e80
      clear hb hb' hdep d4
      go_simp
      refine (zmul_any _ _ r y 4 4 _ (IntZ.ext hs hJ) d6.1 (fit4c hbr0 hbr1) (fit4c hby0 hby1) (by omega) (by omega)).mono ?_
      rintro e w' ⟨v, rfl, hv, hX⟩
      exact hK _ _ hv (fun j u _ h => hmono _ _ j u hX h) (Ext.trans hJ hX)
    · intro done us W hJ hdep haft hnot b hb hb' K hK Q'
      simp only [List.getD_cons_succ, List.getD_cons_zero, List.mem_cons, List.not_mem_nil, or_false, forall_eq_or_imp, forall_eq] at hdep
      have e83 := hb 7 83 rfl
      have d7 := hdep
      clear hb hb' hdep 
      go_simp
      refine (rminus_any _ (r * y) _ d7.1).mono ?_
      rintro e w' ⟨v, rfl, hv, hX⟩
      exact hK _ _ hv (fun j u _ h => hmono _ _ j u hX h) (Ext.trans hJ hX)
    · intro done us W hJ hdep haft hnot b hb hb' K hK Q'
      simp only [List.getD_cons_succ, List.getD_cons_zero, List.mem_cons, List.not_mem_nil, or_false, forall_eq_or_imp, forall_eq] at hdep
      have e79 := hb 3 79 rfl
      have e84 := hb 8 84 rfl
      have d3 := hdep.1
      have d8 := hdep.2
      clear hb hb' hdep 
      go_simp
      refine (zadd_any _ _ _ _ 8 _ d3.1 d8.1 (fit_mulI (fit4c hbf0 hbf1) (fit4c hbx0 hbx1) (by omega)) (by rw [Int.natAbs_neg]; exact fit_mulI (fit4c hbr0 hbr1) (fit4c hby0 hby1) (by omega)) (by omega)).mono ?_
      rintro e w' ⟨v, rfl, hv, hX⟩
      exact hK _ _ hv (fun j u _ h => hmono _ _ j u hX h) (Ext.trans hJ hX)
    · intro done us W hJ hdep haft hnot b hb hb' K hK Q'
      clear hb hb'
      go_simp
      exact hK _ _ ⟨W.heap.size, rfl, Ext.size hJ, Blk.new _ _ _⟩ (fun j u _ h => hmono _ _ j u ((Ext.refl _).alloc _) h) (Ext.alloc hJ _)
  · intro us W hV hJ
    exact hend (us 0) (us 1) (us 2) (us 3) (us 4) (us 5) (us 6) (us 7) (us 8) (us 9) (us 10) W (hV 0 (by omega)) (hV 1 (by omega)) (hV 2 (by omega)) (hV 3 (by omega)) (hV 4 (by omega)) (hV 5 (by omega)) (hV 6 (by omega)) (hV 7 (by omega)) (hV 8 (by omega)) (hV 9 (by omega)) (hV 10 (by omega)) hJ
set_option maxRecDepth 100000 in
set_option maxHeartbeats 2000000 in
theorem circle_r6 (gf gs : Nat) (s31 : Bool) (A31 : Option Addr) (l31 c31 : Nat) (s32 : Bool) (A32 : Option Addr) (l32 c32 : Nat) (f r x y : Int) (w : World) (p0 : w.cell? ⟨gf, 0, none⟩ = some (.bool s31)) (p1 : w.cell? ⟨gf, 1, none⟩ = some (.slice A31 l31 c31)) (q0 : w.cell? ⟨gs, 0, none⟩ = some (.bool s32)) (q1 : w.cell? ⟨gs, 1, none⟩ = some (.slice A32 l32 c32)) (hf : IntZ w (.agg #[.bool s31, .slice A31 l31 c31]) f) (hs : IntZ w (.agg #[.bool s32, .slice A32 l32 c32]) r) (hbf0 : -9223372036854775808 ≤ f) (hbf1 : f ≤ 9223372036854775807) (hbr0 : -9223372036854775808 ≤ r) (hbr1 : r ≤ 9223372036854775807) (hbx0 : -9223372036854775808 ≤ x) (hbx1 : x ≤ 9223372036854775807) (hby0 : -9223372036854775808 ≤ y) (hby1 : y ≤ 9223372036854775807) (a : Act) (Q : Exit → Act → World → Prop) (hsize : 96 ≤ a.tmps.size)
    (s9 : a.tmps[9]? = some (.int .i64 x))
    (s11 : a.tmps[11]? = some (.int .i64 y))
    (s16 : a.tmps[16]? = some (.pointer (some ⟨gs, 0, none⟩)))
    (s17 : a.tmps[17]? = some (.pointer (some ⟨gf, 0, none⟩)))
    (hend : ∀ (xv0 xv1 xv2 xv3 xv4 xv5 xv6 xv7 xv8 xv9 xv10 : Value) (W : World), (xv0 = .agg #[.bool s31, .slice A31 l31 c31]) → (xv1 = .int .i64 x) → (IntZ W xv2 (x)) → (IntZ W xv3 (f * x)) → (xv4 = .agg #[.bool s32, .slice A32 l32 c32]) → (xv5 = .int .i64 y) → (IntZ W xv6 (y)) → (IntZ W xv7 (r * y)) → (IntZ W xv8 (-(r * y))) → (IntZ W xv9 (f * x + -(r * y))) → (∃ g, xv10 = .pointer (some ⟨g, 0, none⟩) ∧ w.heap.size ≤ g ∧ Blk W g 40 #[.bool false, .slice none 0 0]) → Ext w W → wpList Try.prog (rops Try.f47 6).toArray Q ((rops Try.f47 6).drop 11) (((((((((((a.put (some 86) xv0).put (some 87) xv1).put (some 88) xv2).put (some 89) xv3).put (some 90) xv4).put (some 91) xv5).put (some 92) xv6).put (some 93) xv7).put (some 94) xv8).put (some 95) xv9).put (some 19) xv10) W) :
    (Code.region 6 (rops Try.f47 6).toArray true).wp Try.prog Q a w := by
  have hmono : ∀ (W W' : World) (j : Nat) (u : Value), Ext W W' → (fun (i : Nat) (v : Value) (W : World) => match i with
    | 0 => v = .agg #[.bool s31, .slice A31 l31 c31]
    | 1 => v = .int .i64 x
    | 2 => IntZ W v (x)
    | 3 => IntZ W v (f * x)
    | 4 => v = .agg #[.bool s32, .slice A32 l32 c32]
    | 5 => v = .int .i64 y
    | 6 => IntZ W v (y)
    | 7 => IntZ W v (r * y)
    | 8 => IntZ W v (-(r * y))
    | 9 => IntZ W v (f * x + -(r * y))
    | 10 => ∃ g, v = .pointer (some ⟨g, 0, none⟩) ∧ w.heap.size ≤ g ∧ Blk W g 40 #[.bool false, .slice none 0 0]
    | _ => True) j u W → (fun (i : Nat) (v : Value) (W : World) => match i with
    | 0 => v = .agg #[.bool s31, .slice A31 l31 c31]
    | 1 => v = .int .i64 x
    | 2 => IntZ W v (x)
    | 3 => IntZ W v (f * x)
    | 4 => v = .agg #[.bool s32, .slice A32 l32 c32]
    | 5 => v = .int .i64 y
    | 6 => IntZ W v (y)
    | 7 => IntZ W v (r * y)
    | 8 => IntZ W v (-(r * y))
    | 9 => IntZ W v (f * x + -(r * y))
    | 10 => ∃ g, v = .pointer (some ⟨g, 0, none⟩) ∧ w.heap.size ≤ g ∧ Blk W g 40 #[.bool false, .slice none 0 0]
    | _ => True) j u W' := by
    intro W W' j u hX h
    match j, h with
    | 0, h => exact h
    | 1, h => exact h
    | 2, h => exact IntZ.ext h hX
    | 3, h => exact IntZ.ext h hX
    | 4, h => exact h
    | 5, h => exact h
    | 6, h => exact IntZ.ext h hX
    | 7, h => exact IntZ.ext h hX
    | 8, h => exact IntZ.ext h hX
    | 9, h => exact IntZ.ext h hX
    | 10, h => obtain ⟨g, h1, h2, h3⟩ := h; exact ⟨g, h1, h2, h3.ext hX⟩
    | _ + 11, h => exact h
  have hsz : ∀ d, some d ∈ ([some 86, some 87, some 88, some 89, some 90, some 91, some 92, some 93, some 94, some 95, some 19] : List (Option Tmp)) → d < a.tmps.size := slots_lt (by decide) hsize
  refine wp_region_j 11 [some 86, some 87, some 88, some 89, some 90, some 91, some 92, some 93, some 94, some 95, some 19] [[], [], [1], [0, 2], [], [], [5], [4, 6], [7], [3, 8], []] [[], [], [], [], [], [], [], [], [], [], []] (fun (i : Nat) (v : Value) (W : World) => match i with
    | 0 => v = .agg #[.bool s31, .slice A31 l31 c31]
    | 1 => v = .int .i64 x
    | 2 => IntZ W v (x)
    | 3 => IntZ W v (f * x)
    | 4 => v = .agg #[.bool s32, .slice A32 l32 c32]
    | 5 => v = .int .i64 y
    | 6 => IntZ W v (y)
    | 7 => IntZ W v (r * y)
    | 8 => IntZ W v (-(r * y))
    | 9 => IntZ W v (f * x + -(r * y))
    | 10 => ∃ g, v = .pointer (some ⟨g, 0, none⟩) ∧ w.heap.size ≤ g ∧ Blk W g 40 #[.bool false, .slice none 0 0]
    | _ => True) (fun _ W => Ext w W) (by kernel_rfl) (by kernel_rfl) hsz (fun _ _ _ _ h => h) ((Ext.refl w).drew) ?_ ?_
  · clear hend
    simp only [rops, Try.f47, regOf, Option.bind_some, Nat.reduceBEq, if_true, if_false, Bool.false_eq_true, Option.getD_some]
    simp only [List.take_succ_cons, List.take_zero]
    refine ⟨?_, ?_, ?_, ?_, ?_, ?_, ?_, ?_, ?_, ?_, ?_, trivial⟩
    · intro done us W hJ hdep haft hnot b hb hb' K hK Q'
      have e17 := (hb' 17 (by simp)).trans s17
      clear hb hb'
      have u0 := Ext.cell hJ p0
      have u1 := Ext.cell hJ p1
      go_simp
      exact hK _ _ rfl (fun _ _ _ h => h) hJ
    · intro done us W hJ hdep haft hnot b hb hb' K hK Q'
      have e9 := (hb' 9 (by simp)).trans s9
      clear hb hb'
      go_simp
      exact hK _ _ rfl (fun _ _ _ h => h) hJ
    · intro done us W hJ hdep haft hnot b hb hb' K hK Q'
      simp only [List.getD_cons_succ, List.getD_cons_zero, List.mem_cons, List.not_mem_nil, or_false, forall_eq_or_imp, forall_eq] at hdep
      have e87 := hb 1 87 rfl
      have d1 := hdep
      rw [d1.1] at e87
      clear hb hb' hdep d1
      go_simp
      refine (small_any x _ hbx0 hbx1).mono ?_
      rintro e w' ⟨v, rfl, hv, hX⟩
      exact hK _ _ hv (fun j u _ h => hmono _ _ j u hX h) (Ext.trans hJ hX)
    · intro done us W hJ hdep haft hnot b hb hb' K hK Q'
      simp only [List.getD_cons_succ, List.getD_cons_zero, List.mem_cons, List.not_mem_nil, or_false, forall_eq_or_imp, forall_eq] at hdep
      have e86 := hb 0 86 rfl
      have e88 := hb 2 88 rfl
      have d0 := hdep.1
      have d2 := hdep.2
      rw [d0.1] at e86
      clear hb hb' hdep d0
      go_simp
      refine (zmul_any _ _ f x 4 4 _ (IntZ.ext hf hJ) d2.1 (fit4c hbf0 hbf1) (fit4c hbx0 hbx1) (by omega) (by omega)).mono ?_
      rintro e w' ⟨v, rfl, hv, hX⟩
      exact hK _ _ hv (fun j u _ h => hmono _ _ j u hX h) (Ext.trans hJ hX)
    · intro done us W hJ hdep haft hnot b hb hb' K hK Q'
      have e16 := (hb' 16 (by simp)).trans s16
      clear hb hb'
      have u0 := Ext.cell hJ q0
      have u1 := Ext.cell hJ q1
      go_simp
      exact hK _ _ rfl (fun _ _ _ h => h) hJ
    · intro done us W hJ hdep haft hnot b hb hb' K hK Q'
      have e11 := (hb' 11 (by simp)).trans s11
      clear hb hb'
      go_simp
      exact hK _ _ rfl (fun _ _ _ h => h) hJ
    · intro done us W hJ hdep haft hnot b hb hb' K hK Q'
      simp only [List.getD_cons_succ, List.getD_cons_zero, List.mem_cons, List.not_mem_nil, or_false, forall_eq_or_imp, forall_eq] at hdep
      have e91 := hb 5 91 rfl
      have d5 := hdep
      rw [d5.1] at e91
      clear hb hb' hdep d5
      go_simp
      refine (small_any y _ hby0 hby1).mono ?_
      rintro e w' ⟨v, rfl, hv, hX⟩
      exact hK _ _ hv (fun j u _ h => hmono _ _ j u hX h) (Ext.trans hJ hX)
    · intro done us W hJ hdep haft hnot b hb hb' K hK Q'
      simp only [List.getD_cons_succ, List.getD_cons_zero, List.mem_cons, List.not_mem_nil, or_false, forall_eq_or_imp, forall_eq] at hdep
      have e90 := hb 4 90 rfl
      have e92 := hb 6 92 rfl
      have d4 := hdep.1
      have d6 := hdep.2
      rw [d4.1] at e90
      clear hb hb' hdep d4
      go_simp
      refine (zmul_any _ _ r y 4 4 _ (IntZ.ext hs hJ) d6.1 (fit4c hbr0 hbr1) (fit4c hby0 hby1) (by omega) (by omega)).mono ?_
      rintro e w' ⟨v, rfl, hv, hX⟩
      exact hK _ _ hv (fun j u _ h => hmono _ _ j u hX h) (Ext.trans hJ hX)
    · intro done us W hJ hdep haft hnot b hb hb' K hK Q'
      simp only [List.getD_cons_succ, List.getD_cons_zero, List.mem_cons, List.not_mem_nil, or_false, forall_eq_or_imp, forall_eq] at hdep
      have e93 := hb 7 93 rfl
      have d7 := hdep
      clear hb hb' hdep 
      go_simp
      refine (rminus_any _ (r * y) _ d7.1).mono ?_
      rintro e w' ⟨v, rfl, hv, hX⟩
      exact hK _ _ hv (fun j u _ h => hmono _ _ j u hX h) (Ext.trans hJ hX)
    · intro done us W hJ hdep haft hnot b hb hb' K hK Q'
      simp only [List.getD_cons_succ, List.getD_cons_zero, List.mem_cons, List.not_mem_nil, or_false, forall_eq_or_imp, forall_eq] at hdep
      have e89 := hb 3 89 rfl
      have e94 := hb 8 94 rfl
      have d3 := hdep.1
      have d8 := hdep.2
      clear hb hb' hdep 
      go_simp
      refine (zadd_any _ _ _ _ 8 _ d3.1 d8.1 (fit_mulI (fit4c hbf0 hbf1) (fit4c hbx0 hbx1) (by omega)) (by rw [Int.natAbs_neg]; exact fit_mulI (fit4c hbr0 hbr1) (fit4c hby0 hby1) (by omega)) (by omega)).mono ?_
      rintro e w' ⟨v, rfl, hv, hX⟩
      exact hK _ _ hv (fun j u _ h => hmono _ _ j u hX h) (Ext.trans hJ hX)
    · intro done us W hJ hdep haft hnot b hb hb' K hK Q'
      clear hb hb'
      go_simp
      exact hK _ _ ⟨W.heap.size, rfl, Ext.size hJ, Blk.new _ _ _⟩ (fun j u _ h => hmono _ _ j u ((Ext.refl _).alloc _) h) (Ext.alloc hJ _)
  · intro us W hV hJ
    exact hend (us 0) (us 1) (us 2) (us 3) (us 4) (us 5) (us 6) (us 7) (us 8) (us 9) (us 10) W (hV 0 (by omega)) (hV 1 (by omega)) (hV 2 (by omega)) (hV 3 (by omega)) (hV 4 (by omega)) (hV 5 (by omega)) (hV 6 (by omega)) (hV 7 (by omega)) (hV 8 (by omega)) (hV 9 (by omega)) (hV 10 (by omega)) hJ
set_option maxRecDepth 100000 in
set_option maxHeartbeats 2000000 in
theorem circle_r7 (gf gs gt : Nat) (s31 : Bool) (A31 : Option Addr) (l31 c31 : Nat) (s32 : Bool) (A32 : Option Addr) (l32 c32 : Nat) (s33 : Bool) (A33 : Option Addr) (l33 c33 : Nat) (det f r x y m : Int) (w : World) (p0 : w.cell? ⟨gf, 0, none⟩ = some (.bool s31)) (p1 : w.cell? ⟨gf, 1, none⟩ = some (.slice A31 l31 c31)) (q0 : w.cell? ⟨gs, 0, none⟩ = some (.bool s32)) (q1 : w.cell? ⟨gs, 1, none⟩ = some (.slice A32 l32 c32)) (t0 : w.cell? ⟨gt, 0, none⟩ = some (.bool s33)) (t1 : w.cell? ⟨gt, 1, none⟩ = some (.slice A33 l33 c33)) (hz1 : IntZ w (.agg #[.bool s31, .slice A31 l31 c31]) det) (hz2 : IntZ w (.agg #[.bool s32, .slice A32 l32 c32]) f) (hz3 : IntZ w (.agg #[.bool s33, .slice A33 l33 c33]) r) (hff : Fit 65536 f.natAbs 9) (hfr : Fit 65536 r.natAbs 9) (hm : Hid (x * x + y * y = m)) (hxx0 : -288230376151711744 ≤ x * x) (hxx1 : x * x ≤ 288230376151711744) (hyy0 : -288230376151711744 ≤ y * y) (hyy1 : y * y ≤ 288230376151711744) (hbdet0 : -9223372036854775808 ≤ det) (hbdet1 : det ≤ 9223372036854775807) (hbx0 : -9223372036854775808 ≤ x) (hbx1 : x ≤ 9223372036854775807) (hby0 : -9223372036854775808 ≤ y) (hby1 : y ≤ 9223372036854775807) (hbm0 : -9223372036854775808 ≤ m) (hbm1 : m ≤ 9223372036854775807) (a : Act) (Q : Exit → Act → World → Prop) (hsize : 117 ≤ a.tmps.size)
    (s13 : a.tmps[13]? = some (.int .i64 x))
    (s14 : a.tmps[14]? = some (.int .i64 y))
    (s15 : a.tmps[15]? = some (.pointer (some ⟨gf, 0, none⟩)))
    (s18 : a.tmps[18]? = some (.pointer (some ⟨gs, 0, none⟩)))
    (s19 : a.tmps[19]? = some (.pointer (some ⟨gt, 0, none⟩)))
    (hend : ∀ (xv0 xv1 xv2 xv3 xv4 xv5 xv6 xv7 xv8 xv9 xv10 xv11 xv12 xv13 xv14 xv15 xv16 xv17 xv18 xv19 xv20 xv21 : Value) (W : World), (xv0 = .int .i64 x) → (xv1 = .int .i64 x) → (xv2 = .int .i64 (x * x)) → (xv3 = .int .i64 y) → (xv4 = .int .i64 y) → (xv5 = .int .i64 (y * y)) → (xv6 = .int .i64 m) → (IntZ W xv7 (m)) → (xv8 = .agg #[.bool s31, .slice A31 l31 c31]) → (IntZ W xv9 (m * det)) → (xv10 = .int .i64 x) → (IntZ W xv11 (x)) → (xv12 = .agg #[.bool s32, .slice A32 l32 c32]) → (IntZ W xv13 (x * f)) → (xv14 = .int .i64 y) → (IntZ W xv15 (y)) → (xv16 = .agg #[.bool s33, .slice A33 l33 c33]) → (IntZ W xv17 (y * r)) → (IntZ W xv18 (x * f + y * r)) → (IntZ W xv19 (-(x * f + y * r))) → (IntZ W xv20 (m * det + -(x * f + y * r))) → (∃ g, xv21 = .pointer (some ⟨g, 0, none⟩) ∧ w.heap.size ≤ g ∧ Blk W g 40 #[.bool false, .slice none 0 0]) → Ext w W → wpList Try.prog (rops Try.f47 7).toArray Q ((rops Try.f47 7).drop 22) ((((((((((((((((((((((a.put (some 96) xv0).put (some 97) xv1).put (some 98) xv2).put (some 99) xv3).put (some 100) xv4).put (some 101) xv5).put (some 102) xv6).put (some 103) xv7).put (some 104) xv8).put (some 105) xv9).put (some 106) xv10).put (some 107) xv11).put (some 108) xv12).put (some 109) xv13).put (some 110) xv14).put (some 111) xv15).put (some 112) xv16).put (some 113) xv17).put (some 114) xv18).put (some 115) xv19).put (some 116) xv20).put (some 20) xv21) W) :
    (Code.region 7 (rops Try.f47 7).toArray true).wp Try.prog Q a w := by
  have hmono : ∀ (W W' : World) (j : Nat) (u : Value), Ext W W' → (fun (i : Nat) (v : Value) (W : World) => match i with
    | 0 => v = .int .i64 x
    | 1 => v = .int .i64 x
    | 2 => v = .int .i64 (x * x)
    | 3 => v = .int .i64 y
    | 4 => v = .int .i64 y
    | 5 => v = .int .i64 (y * y)
    | 6 => v = .int .i64 m
    | 7 => IntZ W v (m)
    | 8 => v = .agg #[.bool s31, .slice A31 l31 c31]
    | 9 => IntZ W v (m * det)
    | 10 => v = .int .i64 x
    | 11 => IntZ W v (x)
    | 12 => v = .agg #[.bool s32, .slice A32 l32 c32]
    | 13 => IntZ W v (x * f)
    | 14 => v = .int .i64 y
    | 15 => IntZ W v (y)
    | 16 => v = .agg #[.bool s33, .slice A33 l33 c33]
    | 17 => IntZ W v (y * r)
    | 18 => IntZ W v (x * f + y * r)
    | 19 => IntZ W v (-(x * f + y * r))
    | 20 => IntZ W v (m * det + -(x * f + y * r))
    | 21 => ∃ g, v = .pointer (some ⟨g, 0, none⟩) ∧ w.heap.size ≤ g ∧ Blk W g 40 #[.bool false, .slice none 0 0]
    | _ => True) j u W → (fun (i : Nat) (v : Value) (W : World) => match i with
    | 0 => v = .int .i64 x
    | 1 => v = .int .i64 x
    | 2 => v = .int .i64 (x * x)
    | 3 => v = .int .i64 y
    | 4 => v = .int .i64 y
    | 5 => v = .int .i64 (y * y)
    | 6 => v = .int .i64 m
    | 7 => IntZ W v (m)
    | 8 => v = .agg #[.bool s31, .slice A31 l31 c31]
    | 9 => IntZ W v (m * det)
    | 10 => v = .int .i64 x
    | 11 => IntZ W v (x)
    | 12 => v = .agg #[.bool s32, .slice A32 l32 c32]
    | 13 => IntZ W v (x * f)
    | 14 => v = .int .i64 y
    | 15 => IntZ W v (y)
    | 16 => v = .agg #[.bool s33, .slice A33 l33 c33]
    | 17 => IntZ W v (y * r)
    | 18 => IntZ W v (x * f + y * r)
    | 19 => IntZ W v (-(x * f + y * r))
    | 20 => IntZ W v (m * det + -(x * f + y * r))
    | 21 => ∃ g, v = .pointer (some ⟨g, 0, none⟩) ∧ w.heap.size ≤ g ∧ Blk W g 40 #[.bool false, .slice none 0 0]
    | _ => True) j u W' := by
    intro W W' j u hX h
    match j, h with
    | 0, h => exact h
    | 1, h => exact h
    | 2, h => exact h
    | 3, h => exact h
    | 4, h => exact h
    | 5, h => exact h
    | 6, h => exact h
    | 7, h => exact IntZ.ext h hX
    | 8, h => exact h
    | 9, h => exact IntZ.ext h hX
    | 10, h => exact h
    | 11, h => exact IntZ.ext h hX
    | 12, h => exact h
    | 13, h => exact IntZ.ext h hX
    | 14, h => exact h
    | 15, h => exact IntZ.ext h hX
    | 16, h => exact h
    | 17, h => exact IntZ.ext h hX
    | 18, h => exact IntZ.ext h hX
    | 19, h => exact IntZ.ext h hX
    | 20, h => exact IntZ.ext h hX
    | 21, h => obtain ⟨g, h1, h2, h3⟩ := h; exact ⟨g, h1, h2, h3.ext hX⟩
    | _ + 22, h => exact h
  have hsz : ∀ d, some d ∈ ([some 96, some 97, some 98, some 99, some 100, some 101, some 102, some 103, some 104, some 105, some 106, some 107, some 108, some 109, some 110, some 111, some 112, some 113, some 114, some 115, some 116, some 20] : List (Option Tmp)) → d < a.tmps.size := slots_lt (by decide) hsize
  refine wp_region_j 22 [some 96, some 97, some 98, some 99, some 100, some 101, some 102, some 103, some 104, some 105, some 106, some 107, some 108, some 109, some 110, some 111, some 112, some 113, some 114, some 115, some 116, some 20] [[], [], [0, 1], [], [], [3, 4], [2, 5], [6], [], [7, 8], [], [10], [], [11, 12], [], [14], [], [15, 16], [13, 17], [18], [9, 19], []] [[], [], [], [], [], [], [], [], [], [], [], [], [], [], [], [], [], [], [], [], [], []] (fun (i : Nat) (v : Value) (W : World) => match i with
    | 0 => v = .int .i64 x
    | 1 => v = .int .i64 x
    | 2 => v = .int .i64 (x * x)
    | 3 => v = .int .i64 y
    | 4 => v = .int .i64 y
    | 5 => v = .int .i64 (y * y)
    | 6 => v = .int .i64 m
    | 7 => IntZ W v (m)
    | 8 => v = .agg #[.bool s31, .slice A31 l31 c31]
    | 9 => IntZ W v (m * det)
    | 10 => v = .int .i64 x
    | 11 => IntZ W v (x)
    | 12 => v = .agg #[.bool s32, .slice A32 l32 c32]
    | 13 => IntZ W v (x * f)
    | 14 => v = .int .i64 y
    | 15 => IntZ W v (y)
    | 16 => v = .agg #[.bool s33, .slice A33 l33 c33]
    | 17 => IntZ W v (y * r)
    | 18 => IntZ W v (x * f + y * r)
    | 19 => IntZ W v (-(x * f + y * r))
    | 20 => IntZ W v (m * det + -(x * f + y * r))
    | 21 => ∃ g, v = .pointer (some ⟨g, 0, none⟩) ∧ w.heap.size ≤ g ∧ Blk W g 40 #[.bool false, .slice none 0 0]
    | _ => True) (fun _ W => Ext w W) (by kernel_rfl) (by kernel_rfl) hsz (fun _ _ _ _ h => h) ((Ext.refl w).drew) ?_ ?_
  · clear hend
    simp only [rops, Try.f47, regOf, Option.bind_some, Nat.reduceBEq, if_true, if_false, Bool.false_eq_true, Option.getD_some]
    simp only [List.take_succ_cons, List.take_zero]
    refine ⟨?_, ?_, ?_, ?_, ?_, ?_, ?_, ?_, ?_, ?_, ?_, ?_, ?_, ?_, ?_, ?_, ?_, ?_, ?_, ?_, ?_, ?_, trivial⟩
    · intro done us W hJ hdep haft hnot b hb hb' K hK Q'
      have e13 := (hb' 13 (by simp)).trans s13
      clear hb hb'
      go_simp
      exact hK _ _ rfl (fun _ _ _ h => h) hJ
    · intro done us W hJ hdep haft hnot b hb hb' K hK Q'
      have e13 := (hb' 13 (by simp)).trans s13
      clear hb hb'
      go_simp
      exact hK _ _ rfl (fun _ _ _ h => h) hJ
    · intro done us W hJ hdep haft hnot b hb hb' K hK Q'
      simp only [List.getD_cons_succ, List.getD_cons_zero, List.mem_cons, List.not_mem_nil, or_false, forall_eq_or_imp, forall_eq] at hdep
      have e96 := hb 0 96 rfl
      have e97 := hb 1 97 rfl
      have d0 := hdep.1
      have d1 := hdep.2
      rw [d0.1] at e96
      rw [d1.1] at e97
      clear hb hb' hdep d0 d1
      go_simp
      rw [IntWalk.i64_in (x * x) (by omega)]
      exact hK _ _ rfl (fun _ _ _ h => h) hJ
    · intro done us W hJ hdep haft hnot b hb hb' K hK Q'
      have e14 := (hb' 14 (by simp)).trans s14
      clear hb hb'
      go_simp
      exact hK _ _ rfl (fun _ _ _ h => h) hJ
    · intro done us W hJ hdep haft hnot b hb hb' K hK Q'
      have e14 := (hb' 14 (by simp)).trans s14
      clear hb hb'
      go_simp
      exact hK _ _ rfl (fun _ _ _ h => h) hJ
    · intro done us W hJ hdep haft hnot b hb hb' K hK Q'
      simp only [List.getD_cons_succ, List.getD_cons_zero, List.mem_cons, List.not_mem_nil, or_false, forall_eq_or_imp, forall_eq] at hdep
      have e99 := hb 3 99 rfl
      have e100 := hb 4 100 rfl
      have d3 := hdep.1
      have d4 := hdep.2
      rw [d3.1] at e99
      rw [d4.1] at e100
      clear hb hb' hdep d3 d4
      go_simp
      rw [IntWalk.i64_in (y * y) (by omega)]
      exact hK _ _ rfl (fun _ _ _ h => h) hJ
    · intro done us W hJ hdep haft hnot b hb hb' K hK Q'
      simp only [List.getD_cons_succ, List.getD_cons_zero, List.mem_cons, List.not_mem_nil, or_false, forall_eq_or_imp, forall_eq] at hdep
      have e98 := hb 2 98 rfl
      have e101 := hb 5 101 rfl
      have d2 := hdep.1
      have d5 := hdep.2
      rw [d2.1] at e98
      rw [d5.1] at e101
      clear hb hb' hdep d2 d5
      go_simp
      rw [IntWalk.i64_in (x * x + y * y) (by omega), hm.out]
      exact hK _ _ rfl (fun _ _ _ h => h) hJ
    · intro done us W hJ hdep haft hnot b hb hb' K hK Q'
      simp only [List.getD_cons_succ, List.getD_cons_zero, List.mem_cons, List.not_mem_nil, or_false, forall_eq_or_imp, forall_eq] at hdep
      have e102 := hb 6 102 rfl
      have d6 := hdep
      rw [d6.1] at e102
      clear hb hb' hdep d6
      go_simp
      refine (small_any m _ hbm0 hbm1).mono ?_
      rintro e w' ⟨v, rfl, hv, hX⟩
      exact hK _ _ hv (fun j u _ h => hmono _ _ j u hX h) (Ext.trans hJ hX)
    · intro done us W hJ hdep haft hnot b hb hb' K hK Q'
      have e15 := (hb' 15 (by simp)).trans s15
      clear hb hb'
      have u0 := Ext.cell hJ p0
      have u1 := Ext.cell hJ p1
      go_simp
      exact hK _ _ rfl (fun _ _ _ h => h) hJ
    · intro done us W hJ hdep haft hnot b hb hb' K hK Q'
      simp only [List.getD_cons_succ, List.getD_cons_zero, List.mem_cons, List.not_mem_nil, or_false, forall_eq_or_imp, forall_eq] at hdep
      have e103 := hb 7 103 rfl
      have e104 := hb 8 104 rfl
      have d7 := hdep.1
      have d8 := hdep.2
      rw [d8.1] at e104
      clear hb hb' hdep d8
      go_simp
      refine (zmul_any _ _ m det 4 4 _ d7.1 (IntZ.ext hz1 hJ) (fit4c hbm0 hbm1) (fit4c hbdet0 hbdet1) (by omega) (by omega)).mono ?_
      rintro e w' ⟨v, rfl, hv, hX⟩
      exact hK _ _ hv (fun j u _ h => hmono _ _ j u hX h) (Ext.trans hJ hX)
    · intro done us W hJ hdep haft hnot b hb hb' K hK Q'
      have e13 := (hb' 13 (by simp)).trans s13
      clear hb hb'
      go_simp
      exact hK _ _ rfl (fun _ _ _ h => h) hJ
    · intro done us W hJ hdep haft hnot b hb hb' K hK Q'
      simp only [List.getD_cons_succ, List.getD_cons_zero, List.mem_cons, List.not_mem_nil, or_false, forall_eq_or_imp, forall_eq] at hdep
      have e106 := hb 10 106 rfl
      have d10 := hdep
      rw [d10.1] at e106
      clear hb hb' hdep d10
      go_simp
      refine (small_any x _ hbx0 hbx1).mono ?_
      rintro e w' ⟨v, rfl, hv, hX⟩
      exact hK _ _ hv (fun j u _ h => hmono _ _ j u hX h) (Ext.trans hJ hX)
    · intro done us W hJ hdep haft hnot b hb hb' K hK Q'
      have e18 := (hb' 18 (by simp)).trans s18
      clear hb hb'
      have u0 := Ext.cell hJ q0
      have u1 := Ext.cell hJ q1
      go_simp
      exact hK _ _ rfl (fun _ _ _ h => h) hJ
    · intro done us W hJ hdep haft hnot b hb hb' K hK Q'
      simp only [List.getD_cons_succ, List.getD_cons_zero, List.mem_cons, List.not_mem_nil, or_false, forall_eq_or_imp, forall_eq] at hdep
      have e107 := hb 11 107 rfl
      have e108 := hb 12 108 rfl
      have d11 := hdep.1
      have d12 := hdep.2
      rw [d12.1] at e108
      clear hb hb' hdep d12
      go_simp
      refine (zmul_any _ _ x f 4 9 _ d11.1 (IntZ.ext hz2 hJ) (fit4c hbx0 hbx1) hff (by omega) (by omega)).mono ?_
      rintro e w' ⟨v, rfl, hv, hX⟩
      exact hK _ _ hv (fun j u _ h => hmono _ _ j u hX h) (Ext.trans hJ hX)
    · intro done us W hJ hdep haft hnot b hb hb' K hK Q'
      have e14 := (hb' 14 (by simp)).trans s14
      clear hb hb'
      go_simp
      exact hK _ _ rfl (fun _ _ _ h => h) hJ
    · intro done us W hJ hdep haft hnot b hb hb' K hK Q'
      simp only [List.getD_cons_succ, List.getD_cons_zero, List.mem_cons, List.not_mem_nil, or_false, forall_eq_or_imp, forall_eq] at hdep
      have e110 := hb 14 110 rfl
      have d14 := hdep
      rw [d14.1] at e110
      clear hb hb' hdep d14
      go_simp
      refine (small_any y _ hby0 hby1).mono ?_
      rintro e w' ⟨v, rfl, hv, hX⟩
      exact hK _ _ hv (fun j u _ h => hmono _ _ j u hX h) (Ext.trans hJ hX)
    · intro done us W hJ hdep haft hnot b hb hb' K hK Q'
      have e19 := (hb' 19 (by simp)).trans s19
      clear hb hb'
      have u0 := Ext.cell hJ t0
      have u1 := Ext.cell hJ t1
      go_simp
      exact hK _ _ rfl (fun _ _ _ h => h) hJ
    · intro done us W hJ hdep haft hnot b hb hb' K hK Q'
      simp only [List.getD_cons_succ, List.getD_cons_zero, List.mem_cons, List.not_mem_nil, or_false, forall_eq_or_imp, forall_eq] at hdep
      have e111 := hb 15 111 rfl
      have e112 := hb 16 112 rfl
      have d15 := hdep.1
      have d16 := hdep.2
      rw [d16.1] at e112
      clear hb hb' hdep d16
      go_simp
      refine (zmul_any _ _ y r 4 9 _ d15.1 (IntZ.ext hz3 hJ) (fit4c hby0 hby1) hfr (by omega) (by omega)).mono ?_
      rintro e w' ⟨v, rfl, hv, hX⟩
      exact hK _ _ hv (fun j u _ h => hmono _ _ j u hX h) (Ext.trans hJ hX)
    · intro done us W hJ hdep haft hnot b hb hb' K hK Q'
      simp only [List.getD_cons_succ, List.getD_cons_zero, List.mem_cons, List.not_mem_nil, or_false, forall_eq_or_imp, forall_eq] at hdep
      have e109 := hb 13 109 rfl
      have e113 := hb 17 113 rfl
      have d13 := hdep.1
      have d17 := hdep.2
      clear hb hb' hdep 
      go_simp
      refine (zadd_any _ _ _ _ 13 _ d13.1 d17.1 (fit_mulI (fit4c hbx0 hbx1) hff (by omega)) (fit_mulI (fit4c hby0 hby1) hfr (by omega)) (by omega)).mono ?_
      rintro e w' ⟨v, rfl, hv, hX⟩
      exact hK _ _ hv (fun j u _ h => hmono _ _ j u hX h) (Ext.trans hJ hX)
    · intro done us W hJ hdep haft hnot b hb hb' K hK Q'
      simp only [List.getD_cons_succ, List.getD_cons_zero, List.mem_cons, List.not_mem_nil, or_false, forall_eq_or_imp, forall_eq] at hdep
      have e114 := hb 18 114 rfl
      have d18 := hdep
      clear hb hb' hdep 
      go_simp
      refine (rminus_any _ _ _ d18.1).mono ?_
      rintro e w' ⟨v, rfl, hv, hX⟩
      exact hK _ _ hv (fun j u _ h => hmono _ _ j u hX h) (Ext.trans hJ hX)
    · intro done us W hJ hdep haft hnot b hb hb' K hK Q'
      simp only [List.getD_cons_succ, List.getD_cons_zero, List.mem_cons, List.not_mem_nil, or_false, forall_eq_or_imp, forall_eq] at hdep
      have e105 := hb 9 105 rfl
      have e115 := hb 19 115 rfl
      have d9 := hdep.1
      have d19 := hdep.2
      clear hb hb' hdep 
      go_simp
      refine (zadd_any _ _ _ _ 14 _ d9.1 d19.1 (fit_mulI (fit4c hbm0 hbm1) (fit4c hbdet0 hbdet1) (by omega)) (by rw [Int.natAbs_neg]; exact fit_addI (a := 13) (fit_mulI (fit4c hbx0 hbx1) hff (by omega)) (fit_mulI (fit4c hby0 hby1) hfr (by omega)) (by omega)) (by omega)).mono ?_
      rintro e w' ⟨v, rfl, hv, hX⟩
      exact hK _ _ hv (fun j u _ h => hmono _ _ j u hX h) (Ext.trans hJ hX)
    · intro done us W hJ hdep haft hnot b hb hb' K hK Q'
      clear hb hb'
      go_simp
      exact hK _ _ ⟨W.heap.size, rfl, Ext.size hJ, Blk.new _ _ _⟩ (fun j u _ h => hmono _ _ j u ((Ext.refl _).alloc _) h) (Ext.alloc hJ _)
  · intro us W hV hJ
    exact hend (us 0) (us 1) (us 2) (us 3) (us 4) (us 5) (us 6) (us 7) (us 8) (us 9) (us 10) (us 11) (us 12) (us 13) (us 14) (us 15) (us 16) (us 17) (us 18) (us 19) (us 20) (us 21) W (hV 0 (by omega)) (hV 1 (by omega)) (hV 2 (by omega)) (hV 3 (by omega)) (hV 4 (by omega)) (hV 5 (by omega)) (hV 6 (by omega)) (hV 7 (by omega)) (hV 8 (by omega)) (hV 9 (by omega)) (hV 10 (by omega)) (hV 11 (by omega)) (hV 12 (by omega)) (hV 13 (by omega)) (hV 14 (by omega)) (hV 15 (by omega)) (hV 16 (by omega)) (hV 17 (by omega)) (hV 18 (by omega)) (hV 19 (by omega)) (hV 20 (by omega)) (hV 21 (by omega)) hJ
set_option maxRecDepth 100000 in
set_option maxHeartbeats 2000000 in
theorem rcircle_n (a1 a2 b1 b2 c1 c2 d1 d2 : Int) (w : World) (oa : okP (a1, a2) = true) (ob : okP (b1, b2) = true) (oc : okP (c1, c2) = true) (od : okP (d1, d2) = true) (hz : crossI (a1, a2) (b1, b2) (c1, c2) < 0) :
    Calls Try.prog 47 #[.agg #[.int .i64 a1, .int .i64 a2], .agg #[.int .i64 b1, .int .i64 b2], .agg #[.int .i64 c1, .int .i64 c2], .agg #[.int .i64 d1, .int .i64 d2]] w (fun e w' => e = .returned (.int .i64 (circI (a1, a2) (b1, b2) (c1, c2) (d1, d2))) ∧ Ext w w') := by
  obtain ⟨⟨ha10, ha11⟩, ⟨ha20, ha21⟩⟩ := okP_in oa
  obtain ⟨⟨hb10, hb11⟩, ⟨hb20, hb21⟩⟩ := okP_in ob
  obtain ⟨⟨hc10, hc11⟩, ⟨hc20, hc21⟩⟩ := okP_in oc
  obtain ⟨⟨hd10, hd11⟩, ⟨hd20, hd21⟩⟩ := okP_in od
  clear oa ob oc od
  have HP := Lib.hid (circ_power a1 a2 b1 b2 c1 c2 d1 d2)
  have HCR : Hid (crossI (a1, a2) (b1, b2) (c1, c2) = (b1 - a1) * (c2 - a2) - (b2 - a2) * (c1 - a1)) := rfl
  obtain ⟨bx, hhbx⟩ : ∃ x, b1 - a1 = x := ⟨_, rfl⟩
  have kbx : -536870912 ≤ bx ∧ bx ≤ 536870912 := by omega
  obtain ⟨kbx0, kbx1⟩ := kbx
  rw [hhbx] at HP HCR
  have HHbx := Lib.hid hhbx
  clear hhbx
  obtain ⟨ey, hhey⟩ : ∃ x, b2 - a2 = x := ⟨_, rfl⟩
  have key : -536870912 ≤ ey ∧ ey ≤ 536870912 := by omega
  obtain ⟨key0, key1⟩ := key
  rw [hhey] at HP HCR
  have HHey := Lib.hid hhey
  clear hhey
  obtain ⟨cx, hhcx⟩ : ∃ x, c1 - a1 = x := ⟨_, rfl⟩
  have kcx : -536870912 ≤ cx ∧ cx ≤ 536870912 := by omega
  obtain ⟨kcx0, kcx1⟩ := kcx
  rw [hhcx] at HP HCR
  have HHcx := Lib.hid hhcx
  clear hhcx
  obtain ⟨cy, hhcy⟩ : ∃ x, c2 - a2 = x := ⟨_, rfl⟩
  have kcy : -536870912 ≤ cy ∧ cy ≤ 536870912 := by omega
  obtain ⟨kcy0, kcy1⟩ := kcy
  rw [hhcy] at HP HCR
  have HHcy := Lib.hid hhcy
  clear hhcy
  obtain ⟨dx, hhdx⟩ : ∃ x, d1 - a1 = x := ⟨_, rfl⟩
  have kdx : -536870912 ≤ dx ∧ dx ≤ 536870912 := by omega
  obtain ⟨kdx0, kdx1⟩ := kdx
  rw [hhdx] at HP
  have HHdx := Lib.hid hhdx
  clear hhdx
  obtain ⟨dy, hhdy⟩ : ∃ x, d2 - a2 = x := ⟨_, rfl⟩
  have kdy : -536870912 ≤ dy ∧ dy ≤ 536870912 := by omega
  obtain ⟨kdy0, kdy1⟩ := kdy
  rw [hhdy] at HP
  have HHdy := Lib.hid hhdy
  clear hhdy
  obtain ⟨mbxcy0, mbxcy1⟩ := mul29 ⟨kbx0, kbx1⟩ ⟨kcy0, kcy1⟩
  obtain ⟨meycx0, meycx1⟩ := mul29 ⟨key0, key1⟩ ⟨kcx0, kcx1⟩
  obtain ⟨mbxbx0, mbxbx1⟩ := mul29 ⟨kbx0, kbx1⟩ ⟨kbx0, kbx1⟩
  obtain ⟨meyey0, meyey1⟩ := mul29 ⟨key0, key1⟩ ⟨key0, key1⟩
  obtain ⟨mcxcx0, mcxcx1⟩ := mul29 ⟨kcx0, kcx1⟩ ⟨kcx0, kcx1⟩
  obtain ⟨mcycy0, mcycy1⟩ := mul29 ⟨kcy0, kcy1⟩ ⟨kcy0, kcy1⟩
  obtain ⟨mdxdx0, mdxdx1⟩ := mul29 ⟨kdx0, kdx1⟩ ⟨kdx0, kdx1⟩
  obtain ⟨mdydy0, mdydy1⟩ := mul29 ⟨kdy0, kdy1⟩ ⟨kdy0, kdy1⟩
  obtain ⟨det, hhdet⟩ : ∃ x, bx * cy - ey * cx = x := ⟨_, rfl⟩
  have ndet : -1152921504606846976 ≤ det ∧ det ≤ 1152921504606846976 := by omega
  obtain ⟨ndet0, ndet1⟩ := ndet
  rw [hhdet] at HP HCR
  have HHdet := Lib.hid hhdet
  clear hhdet
  obtain ⟨pp, hhpp⟩ : ∃ x, bx * bx + ey * ey = x := ⟨_, rfl⟩
  have npp : -1152921504606846976 ≤ pp ∧ pp ≤ 1152921504606846976 := by omega
  obtain ⟨npp0, npp1⟩ := npp
  rw [hhpp] at HP
  have HHpp := Lib.hid hhpp
  clear hhpp
  obtain ⟨qq, hhqq⟩ : ∃ x, cx * cx + cy * cy = x := ⟨_, rfl⟩
  have nqq : -1152921504606846976 ≤ qq ∧ qq ≤ 1152921504606846976 := by omega
  obtain ⟨nqq0, nqq1⟩ := nqq
  rw [hhqq] at HP
  have HHqq := Lib.hid hhqq
  clear hhqq
  obtain ⟨mm, hhmm⟩ : ∃ x, dx * dx + dy * dy = x := ⟨_, rfl⟩
  have nmm : -1152921504606846976 ≤ mm ∧ mm ≤ 1152921504606846976 := by omega
  obtain ⟨nmm0, nmm1⟩ := nmm
  rw [hhmm] at HP
  have HHmm := Lib.hid hhmm
  clear hhmm
  rw [HCR.out] at hz
  obtain ⟨f2, hf2⟩ : ∃ x, pp * cy + -(qq * ey) = x := ⟨_, rfl⟩
  obtain ⟨r2, hr2⟩ : ∃ x, qq * bx + -(pp * cx) = x := ⟨_, rfl⟩
  rw [hf2, hr2] at HP
  have HF2 := Lib.hid hf2
  have HR2 := Lib.hid hr2
  have HFF : Hid (Fit 65536 f2.natAbs 9) := by rw [← hf2]; exact fit_addI (a := 8) (fit_mulI (fit4c (by omega) (by omega)) (fit4c (by omega) (by omega)) (by omega)) (by rw [Int.natAbs_neg]; exact fit_mulI (fit4c (by omega) (by omega)) (fit4c (by omega) (by omega)) (by omega)) (by omega)
  have HFR : Hid (Fit 65536 r2.natAbs 9) := by rw [← hr2]; exact fit_addI (a := 8) (fit_mulI (fit4c (by omega) (by omega)) (fit4c (by omega) (by omega)) (by omega)) (by rw [Int.natAbs_neg]; exact fit_mulI (fit4c (by omega) (by omega)) (fit4c (by omega) (by omega)) (by omega)) (by omega)
  obtain ⟨zz, hzz⟩ : ∃ x, mm * det + -(dx * f2 + dy * r2) = x := ⟨_, rfl⟩
  rw [hzz] at HP
  have HZZ := Lib.hid hzz
  clear hf2 hr2 hzz
  have HC : Hid (circI (a1, a2) (b1, b2) (c1, c2) (d1, d2) = sgI zz) := by
    show _ = _
    unfold circI
    rw [HP.out, HCR.out, sgI_neg]
    have : sgI det = -1 := by unfold sgI; rw [if_pos hz]
    rw [this]
    omega
  rw [HC.out]
  obtain ⟨sg, hsg⟩ : ∃ s, sgI zz = s := ⟨_, rfl⟩
  have hsb := sgI_in zz
  rw [hsg] at hsb ⊢
  obtain ⟨hs0, hs1⟩ := hsb
  have HSG := Lib.hid hsg
  clear hsg HP HC HCR
  have HDN : Hid (decide (det < 0) = true) := decide_eq_true hz
  clear hz
  have hXe : Ext w ((((w.alloc (.cells #[.int .i64 a1, .int .i64 a2] 23)).alloc (.cells #[.int .i64 b1, .int .i64 b2] 23)).alloc (.cells #[.int .i64 c1, .int .i64 c2] 23)).alloc (.cells #[.int .i64 d1, .int .i64 d2] 23)) := (((((Ext.refl w).alloc _).alloc _).alloc _).alloc _)
  have kA : Blk ((((w.alloc (.cells #[.int .i64 a1, .int .i64 a2] 23)).alloc (.cells #[.int .i64 b1, .int .i64 b2] 23)).alloc (.cells #[.int .i64 c1, .int .i64 c2] 23)).alloc (.cells #[.int .i64 d1, .int .i64 d2] 23)) w.heap.size 23 #[.int .i64 a1, .int .i64 a2] := Blk.alloc (Blk.alloc (Blk.alloc (Blk.at_ (by simp)) _) _) _
  have kB : Blk ((((w.alloc (.cells #[.int .i64 a1, .int .i64 a2] 23)).alloc (.cells #[.int .i64 b1, .int .i64 b2] 23)).alloc (.cells #[.int .i64 c1, .int .i64 c2] 23)).alloc (.cells #[.int .i64 d1, .int .i64 d2] 23)) (w.heap.size + 1) 23 #[.int .i64 b1, .int .i64 b2] := Blk.alloc (Blk.alloc (Blk.at_ (by simp)) _) _
  have kC : Blk ((((w.alloc (.cells #[.int .i64 a1, .int .i64 a2] 23)).alloc (.cells #[.int .i64 b1, .int .i64 b2] 23)).alloc (.cells #[.int .i64 c1, .int .i64 c2] 23)).alloc (.cells #[.int .i64 d1, .int .i64 d2] 23)) (w.heap.size + 2) 23 #[.int .i64 c1, .int .i64 c2] := Blk.alloc (Blk.at_ (by simp)) _
  have kD : Blk ((((w.alloc (.cells #[.int .i64 a1, .int .i64 a2] 23)).alloc (.cells #[.int .i64 b1, .int .i64 b2] 23)).alloc (.cells #[.int .i64 c1, .int .i64 c2] 23)).alloc (.cells #[.int .i64 d1, .int .i64 d2] 23)) (w.heap.size + 3) 23 #[.int .i64 d1, .int .i64 d2] := Blk.at_ (by simp)
  go_enter Try.func47, Try.ntmps47
  go_upto_region 1 with (fail)
  generalize ((((w.alloc (.cells #[.int .i64 a1, .int .i64 a2] 23)).alloc (.cells #[.int .i64 b1, .int .i64 b2] 23)).alloc (.cells #[.int .i64 c1, .int .i64 c2] 23)).alloc (.cells #[.int .i64 d1, .int .i64 d2] 23)) = w1 at hXe kA kB kC kD ⊢
  have HX := Lib.hid hXe
  clear hXe
  have KA := Lib.hid kA
  clear kA
  have KB := Lib.hid kB
  clear kB
  have KC := Lib.hid kC
  clear kC
  have KD := Lib.hid kD
  clear kD
  have zz1 := KD.out.lt
  go_wp2_with fail
  refine circle_r1 w.heap.size (w.heap.size + 1) (w.heap.size + 2) a1 a2 b1 b2 c1 c2 d1 d2 bx ey cx cy w1 (KA.out.cell 0) (KA.out.cell 1) (KB.out.cell 0) (KB.out.cell 1) (KC.out.cell 0) (KC.out.cell 1) ha10 ha11 ha20 ha21 hb10 hb11 hb20 hb21 hc10 hc11 hc20 hc21 hd10 hd11 hd20 hd21 HHbx HHey HHcx HHcy _ _ (by simp) rfl rfl rfl ?_
  rintro xv0 xv1 xv2 xv3 xv4 xv5 xv6 xv7 xv8 xv9 xv10 xv11 xv12 xv13 xv14 xv15 xv16 xv17 xv18 xv19 xv20 xv21 xv22 xv23 w2 rfl rfl rfl rfl rfl rfl rfl rfl rfl rfl rfl rfl rfl rfl rfl rfl rfl rfl rfl rfl rfl rfl rfl rfl hXW
  simp only [rops, Try.f47, regOf, Option.bind_some, Nat.reduceBEq, if_true, if_false, Bool.false_eq_true, Option.getD_some, List.drop_succ_cons, List.drop_zero]
  simp only [Act.put, List.setIfInBounds_toArray, List.set_cons_succ, List.set_cons_zero]
  replace HX := Lib.hid (HX.out.trans hXW)
  replace KA := Lib.hid (KA.out.ext hXW)
  replace KB := Lib.hid (KB.out.ext hXW)
  replace KC := Lib.hid (KC.out.ext hXW)
  replace KD := Lib.hid (KD.out.ext hXW)
  clear hXW
  go_upto_region 2 with (fail)
  refine circle_r2 w.heap.size (w.heap.size + 3) a1 a2 b1 b2 c1 c2 d1 d2 dx dy w2 (KA.out.cell 0) (KA.out.cell 1) (KD.out.cell 0) (KD.out.cell 1) ha10 ha11 ha20 ha21 hb10 hb11 hb20 hb21 hc10 hc11 hc20 hc21 hd10 hd11 hd20 hd21 HHdx HHdy _ _ (by simp) rfl rfl ?_
  rintro xv0 xv1 xv2 xv3 xv4 xv5 xv6 xv7 xv8 xv9 xv10 xv11 w3 rfl rfl rfl rfl rfl rfl rfl rfl rfl rfl rfl rfl hXW
  simp only [rops, Try.f47, regOf, Option.bind_some, Nat.reduceBEq, if_true, if_false, Bool.false_eq_true, Option.getD_some, List.drop_succ_cons, List.drop_zero]
  simp only [Act.put, List.setIfInBounds_toArray, List.set_cons_succ, List.set_cons_zero]
  replace HX := Lib.hid (HX.out.trans hXW)
  replace KA := Lib.hid (KA.out.ext hXW)
  replace KB := Lib.hid (KB.out.ext hXW)
  replace KC := Lib.hid (KC.out.ext hXW)
  replace KD := Lib.hid (KD.out.ext hXW)
  clear hXW
  clear KA
  clear KB
  clear KC
  clear KD
  go_wp2_with fail
  refine (small_any (bx * cy - ey * cx) _ (by omega) (by omega)).mono ?_
  rw [HHdet.out]
  rintro e w4 ⟨v1, rfl, hv, hX⟩
  replace hX : Ext w3 w4 := by with_reducible exact hX
  replace HX := Lib.hid (HX.out.trans hX)
  clear hX
  obtain ⟨A1, l1, c1, rfl, hv1⟩ := hv
  have HZ1 : Hid (IntZ w4 (.agg #[.bool (decide (det < 0)), .slice A1 l1 c1]) det) := ⟨A1, l1, c1, rfl, hv1⟩
  clear hv1
  rw [HDN.out] at HZ1 ⊢
  go_upto_region 4 with (fail)
  have hXa : Ext w4 (w4.alloc (.cells #[.bool true, .slice A1 l1 c1] 40)) := (Ext.refl _).alloc _
  have kDET := Blk.new w4 40 #[.bool true, .slice A1 l1 c1]
  have zg := HX.out.size
  replace HX := Lib.hid (HX.out.trans hXa)
  replace HZ1 := Lib.hid (HZ1.out.ext hXa)
  generalize (w4.alloc (.cells #[.bool true, .slice A1 l1 c1] 40)) = w5 at HX HZ1 kDET ⊢
  have KDET := Lib.hid kDET
  clear kDET hXa
  go_wp2_with fail
  refine (small_any (bx * bx + ey * ey) _ (by omega) (by omega)).mono ?_
  rw [HHpp.out]
  rintro e w6 ⟨v2, rfl, hv, hX⟩
  replace hX : Ext w5 w6 := by with_reducible exact hX
  replace HX := Lib.hid (HX.out.trans hX)
  replace HZ1 := Lib.hid (HZ1.out.ext hX)
  replace KDET := Lib.hid (KDET.out.ext hX)
  clear hX
  obtain ⟨A2, l2, c2, rfl, hv2⟩ := hv
  have HZ2 : Hid (IntZ w6 (.agg #[.bool (decide (pp < 0)), .slice A2 l2 c2]) pp) := ⟨A2, l2, c2, rfl, hv2⟩
  clear hv2
  obtain ⟨s2, hs2⟩ : ∃ b, decide (pp < 0) = b := ⟨_, rfl⟩
  rw [hs2] at HZ2 ⊢
  clear hs2
  go_wp2_with fail
  refine (small_any (cx * cx + cy * cy) _ (by omega) (by omega)).mono ?_
  rw [HHqq.out]
  rintro e w7 ⟨v3, rfl, hv, hX⟩
  replace hX : Ext w6 w7 := by with_reducible exact hX
  replace HX := Lib.hid (HX.out.trans hX)
  replace HZ1 := Lib.hid (HZ1.out.ext hX)
  replace HZ2 := Lib.hid (HZ2.out.ext hX)
  replace KDET := Lib.hid (KDET.out.ext hX)
  clear hX
  obtain ⟨A3, l3, c3, rfl, hv3⟩ := hv
  have HZ3 : Hid (IntZ w7 (.agg #[.bool (decide (qq < 0)), .slice A3 l3 c3]) qq) := ⟨A3, l3, c3, rfl, hv3⟩
  clear hv3
  obtain ⟨s3, hs3⟩ : ∃ b, decide (qq < 0) = b := ⟨_, rfl⟩
  rw [hs3] at HZ3 ⊢
  clear hs3
  go_upto_region 5 with (fail)
  skip
  have hXa : Ext w7 ((w7.alloc (.cells #[.bool s2, .slice A2 l2 c2] 40)).alloc (.cells #[.bool s3, .slice A3 l3 c3] 40)) := ((Ext.refl _).alloc _).alloc _
  have kP : Blk ((w7.alloc (.cells #[.bool s2, .slice A2 l2 c2] 40)).alloc (.cells #[.bool s3, .slice A3 l3 c3] 40)) w7.heap.size 40 #[.bool s2, .slice A2 l2 c2] := (Blk.new _ _ _).alloc _
  have kQ : Blk ((w7.alloc (.cells #[.bool s2, .slice A2 l2 c2] 40)).alloc (.cells #[.bool s3, .slice A3 l3 c3] 40)) (w7.heap.size + 1) 40 #[.bool s3, .slice A3 l3 c3] := Blk.at_ (by simp)
  have zD := KDET.out.lt
  have zg := HX.out.size
  replace HX := Lib.hid (HX.out.trans hXa)
  replace HZ1 := Lib.hid (HZ1.out.ext hXa)
  replace HZ2 := Lib.hid (HZ2.out.ext hXa)
  replace HZ3 := Lib.hid (HZ3.out.ext hXa)
  replace KDET := Lib.hid (KDET.out.ext hXa)
  generalize ((w7.alloc (.cells #[.bool s2, .slice A2 l2 c2] 40)).alloc (.cells #[.bool s3, .slice A3 l3 c3] 40)) = w8 at HX HZ1 HZ2 HZ3 KDET kP kQ ⊢
  have KP := Lib.hid kP
  have KQ := Lib.hid kQ
  clear kP kQ hXa
  have hz5 := HX.out.size
  have da5 := KDET.out.lt
  have db5 := KP.out.lt
  have dc5 := KQ.out.lt
  refine circle_r5 w7.heap.size (w7.heap.size + 1) s2 A2 l2 c2 s3 A3 l3 c3 pp qq cy ey w8 (KP.out.cell 0) (KP.out.cell 1) (KQ.out.cell 0) (KQ.out.cell 1) HZ2.out HZ3.out (by omega) (by omega) (by omega) (by omega) (by omega) (by omega) (by omega) (by omega) _ _ (by simp) rfl rfl rfl rfl ?_
  rintro xv0 xv1 xv2 xv3 xv4 xv5 xv6 xv7 xv8 xv9 xv10 w9 rfl rfl _ _ rfl rfl _ _ _ hv ⟨gx2, rfl, hgx2, hBgx2⟩ hXW
  simp only [rops, Try.f47, regOf, Option.bind_some, Nat.reduceBEq, if_true, if_false, Bool.false_eq_true, Option.getD_some, List.drop_succ_cons, List.drop_zero]
  simp only [Act.put, List.setIfInBounds_toArray, List.set_cons_succ, List.set_cons_zero]
  replace HX := Lib.hid (HX.out.trans hXW)
  replace HZ1 := Lib.hid (HZ1.out.ext hXW)
  replace HZ2 := Lib.hid (HZ2.out.ext hXW)
  replace HZ3 := Lib.hid (HZ3.out.ext hXW)
  replace KDET := Lib.hid (KDET.out.ext hXW)
  replace KP := Lib.hid (KP.out.ext hXW)
  replace KQ := Lib.hid (KQ.out.ext hXW)
  clear hXW
  rw [HF2.out] at hv
  obtain ⟨A4, l4, c4, rfl, hv4⟩ := hv
  have HZ4 : Hid (IntZ w9 (.agg #[.bool (decide (f2 < 0)), .slice A4 l4 c4]) f2) := ⟨A4, l4, c4, rfl, hv4⟩
  clear hv4
  obtain ⟨s4, hs4⟩ : ∃ b, decide (f2 < 0) = b := ⟨_, rfl⟩
  rw [hs4] at HZ4 ⊢
  clear hs4
  have KX := Lib.hid hBgx2
  have ggx21 : w.heap.size ≤ gx2 := by omega
  have ggx22 := KDET.out.lt
  clear hBgx2
  have q1 := KP.out.lt
  have q2 := KQ.out.lt
  have cX0 : w9.cell? ⟨gx2, 0, none⟩ = some (.bool false) := KX.out.cell 0
  have fX0 : w9.frozen? ⟨gx2, 0, none⟩ = false := KX.out.free 0
  have cX1 : w9.cell? ⟨gx2, 1, none⟩ = some (.slice none 0 0) := KX.out.cell 1
  have fX1 : w9.frozen? ⟨gx2, 1, none⟩ = false := KX.out.free 1
  go_upto_region 6 with (fail)
  clear cX0 fX0 cX1 fX1
  have hXs : Ext w ((w9.setCell ⟨gx2, 0, none⟩ (.bool s4)).setCell ⟨gx2, 1, none⟩ (.slice A4 l4 c4)) := ((HX.out.setCell (show w.heap.size ≤ gx2 by omega) _).setCell (show w.heap.size ≤ gx2 by omega) _)
  have kDET : Blk ((w9.setCell ⟨gx2, 0, none⟩ (.bool s4)).setCell ⟨gx2, 1, none⟩ (.slice A4 l4 c4)) w4.heap.size 40 #[.bool true, .slice A1 l1 c1] := (Blk.far (Blk.far KDET.out (show w4.heap.size ≠ gx2 by omega) _) (show w4.heap.size ≠ gx2 by omega) _)
  have kP : Blk ((w9.setCell ⟨gx2, 0, none⟩ (.bool s4)).setCell ⟨gx2, 1, none⟩ (.slice A4 l4 c4)) w7.heap.size 40 #[.bool s2, .slice A2 l2 c2] := (Blk.far (Blk.far KP.out (show w7.heap.size ≠ gx2 by omega) _) (show w7.heap.size ≠ gx2 by omega) _)
  have kQ : Blk ((w9.setCell ⟨gx2, 0, none⟩ (.bool s4)).setCell ⟨gx2, 1, none⟩ (.slice A4 l4 c4)) (w7.heap.size + 1) 40 #[.bool s3, .slice A3 l3 c3] := (Blk.far (Blk.far KQ.out (show (w7.heap.size + 1) ≠ gx2 by omega) _) (show (w7.heap.size + 1) ≠ gx2 by omega) _)
  have kX : Blk ((w9.setCell ⟨gx2, 0, none⟩ (.bool s4)).setCell ⟨gx2, 1, none⟩ (.slice A4 l4 c4)) gx2 40 #[.bool s4, .slice A4 l4 c4] := (Blk.set (Blk.set KX.out 0 _) 1 _)
  have hHZ1 := IntZ.past HZ1.out (NoInts.two KX.out) (b := s4) (A := A4) (l := l4) (c := c4)
  have hHZ2 := IntZ.past HZ2.out (NoInts.two KX.out) (b := s4) (A := A4) (l := l4) (c := c4)
  have hHZ3 := IntZ.past HZ3.out (NoInts.two KX.out) (b := s4) (A := A4) (l := l4) (c := c4)
  have hHZ4 := IntZ.past HZ4.out (NoInts.two KX.out) (b := s4) (A := A4) (l := l4) (c := c4)
  generalize ((w9.setCell ⟨gx2, 0, none⟩ (.bool s4)).setCell ⟨gx2, 1, none⟩ (.slice A4 l4 c4)) = w10 at hXs kDET kP kQ kX hHZ1 hHZ2 hHZ3 hHZ4 ⊢
  clear HX KDET KP KQ KX HZ1 HZ2 HZ3 HZ4
  have HX := Lib.hid hXs
  clear hXs
  have KDET := Lib.hid kDET
  clear kDET
  have KP := Lib.hid kP
  clear kP
  have KQ := Lib.hid kQ
  clear kQ
  have KX := Lib.hid kX
  clear kX
  have HZ1 := Lib.hid hHZ1
  clear hHZ1
  have HZ2 := Lib.hid hHZ2
  clear hHZ2
  have HZ3 := Lib.hid hHZ3
  clear hHZ3
  have HZ4 := Lib.hid hHZ4
  clear hHZ4
  have hz6 := HX.out.size
  have da6 := KDET.out.lt
  have db6 := KP.out.lt
  have dc6 := KQ.out.lt
  have dd6 := KX.out.lt
  go_upto_region 6 with (fail)
  refine circle_r6 (w7.heap.size + 1) w7.heap.size s3 A3 l3 c3 s2 A2 l2 c2 qq pp bx cx w10 (KQ.out.cell 0) (KQ.out.cell 1) (KP.out.cell 0) (KP.out.cell 1) HZ3.out HZ2.out (by omega) (by omega) (by omega) (by omega) (by omega) (by omega) (by omega) (by omega) _ _ (by simp) rfl rfl rfl rfl ?_
  rintro xv0 xv1 xv2 xv3 xv4 xv5 xv6 xv7 xv8 xv9 xv10 w11 rfl rfl _ _ rfl rfl _ _ _ hv ⟨gy2, rfl, hgy2, hBgy2⟩ hXW
  simp only [rops, Try.f47, regOf, Option.bind_some, Nat.reduceBEq, if_true, if_false, Bool.false_eq_true, Option.getD_some, List.drop_succ_cons, List.drop_zero]
  simp only [Act.put, List.setIfInBounds_toArray, List.set_cons_succ, List.set_cons_zero]
  replace HX := Lib.hid (HX.out.trans hXW)
  replace HZ1 := Lib.hid (HZ1.out.ext hXW)
  replace HZ2 := Lib.hid (HZ2.out.ext hXW)
  replace HZ3 := Lib.hid (HZ3.out.ext hXW)
  replace HZ4 := Lib.hid (HZ4.out.ext hXW)
  replace KDET := Lib.hid (KDET.out.ext hXW)
  replace KP := Lib.hid (KP.out.ext hXW)
  replace KQ := Lib.hid (KQ.out.ext hXW)
  replace KX := Lib.hid (KX.out.ext hXW)
  clear hXW
  rw [HR2.out] at hv
  obtain ⟨A5, l5, c5, rfl, hv5⟩ := hv
  have HZ5 : Hid (IntZ w11 (.agg #[.bool (decide (r2 < 0)), .slice A5 l5 c5]) r2) := ⟨A5, l5, c5, rfl, hv5⟩
  clear hv5
  obtain ⟨s5, hs5⟩ : ∃ b, decide (r2 < 0) = b := ⟨_, rfl⟩
  rw [hs5] at HZ5 ⊢
  clear hs5
  have KY := Lib.hid hBgy2
  have ggy21 : w.heap.size ≤ gy2 := by omega
  have ggy22 := KDET.out.lt
  clear hBgy2
  have q1 := KP.out.lt
  have q2 := KQ.out.lt
  have q3 := KX.out.lt
  have cY0 : w11.cell? ⟨gy2, 0, none⟩ = some (.bool false) := KY.out.cell 0
  have fY0 : w11.frozen? ⟨gy2, 0, none⟩ = false := KY.out.free 0
  have cY1 : w11.cell? ⟨gy2, 1, none⟩ = some (.slice none 0 0) := KY.out.cell 1
  have fY1 : w11.frozen? ⟨gy2, 1, none⟩ = false := KY.out.free 1
  go_upto_region 7 with (fail)
  clear cY0 fY0 cY1 fY1
  have hXs : Ext w ((w11.setCell ⟨gy2, 0, none⟩ (.bool s5)).setCell ⟨gy2, 1, none⟩ (.slice A5 l5 c5)) := ((HX.out.setCell (show w.heap.size ≤ gy2 by omega) _).setCell (show w.heap.size ≤ gy2 by omega) _)
  have kDET : Blk ((w11.setCell ⟨gy2, 0, none⟩ (.bool s5)).setCell ⟨gy2, 1, none⟩ (.slice A5 l5 c5)) w4.heap.size 40 #[.bool true, .slice A1 l1 c1] := (Blk.far (Blk.far KDET.out (show w4.heap.size ≠ gy2 by omega) _) (show w4.heap.size ≠ gy2 by omega) _)
  have kP : Blk ((w11.setCell ⟨gy2, 0, none⟩ (.bool s5)).setCell ⟨gy2, 1, none⟩ (.slice A5 l5 c5)) w7.heap.size 40 #[.bool s2, .slice A2 l2 c2] := (Blk.far (Blk.far KP.out (show w7.heap.size ≠ gy2 by omega) _) (show w7.heap.size ≠ gy2 by omega) _)
  have kQ : Blk ((w11.setCell ⟨gy2, 0, none⟩ (.bool s5)).setCell ⟨gy2, 1, none⟩ (.slice A5 l5 c5)) (w7.heap.size + 1) 40 #[.bool s3, .slice A3 l3 c3] := (Blk.far (Blk.far KQ.out (show (w7.heap.size + 1) ≠ gy2 by omega) _) (show (w7.heap.size + 1) ≠ gy2 by omega) _)
  have kX : Blk ((w11.setCell ⟨gy2, 0, none⟩ (.bool s5)).setCell ⟨gy2, 1, none⟩ (.slice A5 l5 c5)) gx2 40 #[.bool s4, .slice A4 l4 c4] := (Blk.far (Blk.far KX.out (show gx2 ≠ gy2 by omega) _) (show gx2 ≠ gy2 by omega) _)
  have kY : Blk ((w11.setCell ⟨gy2, 0, none⟩ (.bool s5)).setCell ⟨gy2, 1, none⟩ (.slice A5 l5 c5)) gy2 40 #[.bool s5, .slice A5 l5 c5] := (Blk.set (Blk.set KY.out 0 _) 1 _)
  have hHZ1 := IntZ.past HZ1.out (NoInts.two KY.out) (b := s5) (A := A5) (l := l5) (c := c5)
  have hHZ2 := IntZ.past HZ2.out (NoInts.two KY.out) (b := s5) (A := A5) (l := l5) (c := c5)
  have hHZ3 := IntZ.past HZ3.out (NoInts.two KY.out) (b := s5) (A := A5) (l := l5) (c := c5)
  have hHZ4 := IntZ.past HZ4.out (NoInts.two KY.out) (b := s5) (A := A5) (l := l5) (c := c5)
  have hHZ5 := IntZ.past HZ5.out (NoInts.two KY.out) (b := s5) (A := A5) (l := l5) (c := c5)
  generalize ((w11.setCell ⟨gy2, 0, none⟩ (.bool s5)).setCell ⟨gy2, 1, none⟩ (.slice A5 l5 c5)) = w12 at hXs kDET kP kQ kX kY hHZ1 hHZ2 hHZ3 hHZ4 hHZ5 ⊢
  clear HX KDET KP KQ KX KY HZ1 HZ2 HZ3 HZ4 HZ5
  have HX := Lib.hid hXs
  clear hXs
  have KDET := Lib.hid kDET
  clear kDET
  have KP := Lib.hid kP
  clear kP
  have KQ := Lib.hid kQ
  clear kQ
  have KX := Lib.hid kX
  clear kX
  have KY := Lib.hid kY
  clear kY
  have HZ1 := Lib.hid hHZ1
  clear hHZ1
  have HZ2 := Lib.hid hHZ2
  clear hHZ2
  have HZ3 := Lib.hid hHZ3
  clear hHZ3
  have HZ4 := Lib.hid hHZ4
  clear hHZ4
  have HZ5 := Lib.hid hHZ5
  clear hHZ5
  have hz7 := HX.out.size
  have da7 := KDET.out.lt
  have db7 := KP.out.lt
  have dc7 := KQ.out.lt
  have dd7 := KX.out.lt
  have de7 := KY.out.lt
  go_upto_region 7 with (fail)
  refine circle_r7 w4.heap.size gx2 gy2 true A1 l1 c1 s4 A4 l4 c4 s5 A5 l5 c5 det f2 r2 dx dy mm w12 (KDET.out.cell 0) (KDET.out.cell 1) (KX.out.cell 0) (KX.out.cell 1) (KY.out.cell 0) (KY.out.cell 1) HZ1.out HZ4.out HZ5.out HFF.out HFR.out HHmm mdxdx0 mdxdx1 mdydy0 mdydy1 (by omega) (by omega) (by omega) (by omega) (by omega) (by omega) (by omega) (by omega) _ _ (by simp) rfl rfl rfl rfl rfl ?_
  rintro xv0 xv1 xv2 xv3 xv4 xv5 xv6 xv7 xv8 xv9 xv10 xv11 xv12 xv13 xv14 xv15 xv16 xv17 xv18 xv19 xv20 xv21 w13 rfl rfl rfl rfl rfl rfl rfl _ rfl _ rfl _ rfl _ rfl _ rfl _ _ _ hv ⟨gz, rfl, hgz, hBz⟩ hXW
  simp only [rops, Try.f47, regOf, Option.bind_some, Nat.reduceBEq, if_true, if_false, Bool.false_eq_true, Option.getD_some, List.drop_succ_cons, List.drop_zero]
  simp only [Act.put, List.setIfInBounds_toArray, List.set_cons_succ, List.set_cons_zero]
  replace HX := Lib.hid (HX.out.trans hXW)
  replace HZ1 := Lib.hid (HZ1.out.ext hXW)
  replace HZ2 := Lib.hid (HZ2.out.ext hXW)
  replace HZ3 := Lib.hid (HZ3.out.ext hXW)
  replace HZ4 := Lib.hid (HZ4.out.ext hXW)
  replace HZ5 := Lib.hid (HZ5.out.ext hXW)
  replace KDET := Lib.hid (KDET.out.ext hXW)
  replace KP := Lib.hid (KP.out.ext hXW)
  replace KQ := Lib.hid (KQ.out.ext hXW)
  replace KX := Lib.hid (KX.out.ext hXW)
  replace KY := Lib.hid (KY.out.ext hXW)
  clear hXW
  rw [HZZ.out] at hv
  clear KP
  clear KQ
  clear KX
  clear KY
  clear HZ2
  clear HZ3
  clear HZ4
  clear HZ5
  obtain ⟨A6, l6, c6, rfl, hv6⟩ := hv
  have HZ6 : Hid (IntZ w13 (.agg #[.bool (decide (zz < 0)), .slice A6 l6 c6]) zz) := ⟨A6, l6, c6, rfl, hv6⟩
  clear hv6
  obtain ⟨s6, hs6⟩ : ∃ b, decide (zz < 0) = b := ⟨_, rfl⟩
  rw [hs6] at HZ6 ⊢
  clear hs6
  have KZ := Lib.hid hBz
  have gz1 : w.heap.size ≤ gz := by omega
  clear hBz
  have q4 := KDET.out.lt
  have cZ0 : w13.cell? ⟨gz, 0, none⟩ = some (.bool false) := KZ.out.cell 0
  have fZ0 : w13.frozen? ⟨gz, 0, none⟩ = false := KZ.out.free 0
  have cZ1 : w13.cell? ⟨gz, 1, none⟩ = some (.slice none 0 0) := KZ.out.cell 1
  have fZ1 : w13.frozen? ⟨gz, 1, none⟩ = false := KZ.out.free 1
  go_upto_region 8 with (fail)
  clear cZ0 fZ0 cZ1 fZ1
  have hXs : Ext w ((w13.setCell ⟨gz, 0, none⟩ (.bool s6)).setCell ⟨gz, 1, none⟩ (.slice A6 l6 c6)) := ((HX.out.setCell (show w.heap.size ≤ gz by omega) _).setCell (show w.heap.size ≤ gz by omega) _)
  have kDET : Blk ((w13.setCell ⟨gz, 0, none⟩ (.bool s6)).setCell ⟨gz, 1, none⟩ (.slice A6 l6 c6)) w4.heap.size 40 #[.bool true, .slice A1 l1 c1] := (Blk.far (Blk.far KDET.out (show w4.heap.size ≠ gz by omega) _) (show w4.heap.size ≠ gz by omega) _)
  have kZ : Blk ((w13.setCell ⟨gz, 0, none⟩ (.bool s6)).setCell ⟨gz, 1, none⟩ (.slice A6 l6 c6)) gz 40 #[.bool s6, .slice A6 l6 c6] := (Blk.set (Blk.set KZ.out 0 _) 1 _)
  have hHZ1 := IntZ.past HZ1.out (NoInts.two KZ.out) (b := s6) (A := A6) (l := l6) (c := c6)
  have hHZ6 := IntZ.past HZ6.out (NoInts.two KZ.out) (b := s6) (A := A6) (l := l6) (c := c6)
  generalize ((w13.setCell ⟨gz, 0, none⟩ (.bool s6)).setCell ⟨gz, 1, none⟩ (.slice A6 l6 c6)) = w14 at hXs kDET kZ hHZ1 hHZ6 ⊢
  clear HX KDET KZ HZ1 HZ6
  have HX := Lib.hid hXs
  clear hXs
  have KDET := Lib.hid kDET
  clear kDET
  have KZ := Lib.hid kZ
  clear kZ
  have HZ1 := Lib.hid hHZ1
  clear hHZ1
  have HZ6 := Lib.hid hHZ6
  clear hHZ6
  have cZ0 : w14.cell? ⟨gz, 0, none⟩ = some (.bool s6) := KZ.out.cell 0
  have cZ1 : w14.cell? ⟨gz, 1, none⟩ = some (.slice A6 l6 c6) := KZ.out.cell 1
  go_wp2_with fail
  clear cZ0 cZ1
  refine (rsign_any _ zz _ HZ6.out).mono ?_
  rw [HSG.out]
  rintro e w15 ⟨rfl, hX⟩
  replace hX : Ext w14 w15 := by with_reducible exact hX
  replace HX := Lib.hid (HX.out.trans hX)
  replace HZ1 := Lib.hid (HZ1.out.ext hX)
  replace HZ6 := Lib.hid (HZ6.out.ext hX)
  replace KDET := Lib.hid (KDET.out.ext hX)
  replace KZ := Lib.hid (KZ.out.ext hX)
  clear hX
  have cDET0 : w15.cell? ⟨w4.heap.size, 0, none⟩ = some (.bool true) := KDET.out.cell 0
  have cDET1 : w15.cell? ⟨w4.heap.size, 1, none⟩ = some (.slice A1 l1 c1) := KDET.out.cell 1
  go_wp2
  go_ret
  exact ⟨rfl, HX.out⟩

set_option maxRecDepth 100000 in
set_option maxHeartbeats 2000000 in
theorem rcircle_p (a1 a2 b1 b2 c1 c2 d1 d2 : Int) (w : World) (oa : okP (a1, a2) = true) (ob : okP (b1, b2) = true) (oc : okP (c1, c2) = true) (od : okP (d1, d2) = true) (hz : 0 < crossI (a1, a2) (b1, b2) (c1, c2)) :
    Calls Try.prog 47 #[.agg #[.int .i64 a1, .int .i64 a2], .agg #[.int .i64 b1, .int .i64 b2], .agg #[.int .i64 c1, .int .i64 c2], .agg #[.int .i64 d1, .int .i64 d2]] w (fun e w' => e = .returned (.int .i64 (circI (a1, a2) (b1, b2) (c1, c2) (d1, d2))) ∧ Ext w w') := by
  obtain ⟨⟨ha10, ha11⟩, ⟨ha20, ha21⟩⟩ := okP_in oa
  obtain ⟨⟨hb10, hb11⟩, ⟨hb20, hb21⟩⟩ := okP_in ob
  obtain ⟨⟨hc10, hc11⟩, ⟨hc20, hc21⟩⟩ := okP_in oc
  obtain ⟨⟨hd10, hd11⟩, ⟨hd20, hd21⟩⟩ := okP_in od
  clear oa ob oc od
  have HP := Lib.hid (circ_power a1 a2 b1 b2 c1 c2 d1 d2)
  have HCR : Hid (crossI (a1, a2) (b1, b2) (c1, c2) = (b1 - a1) * (c2 - a2) - (b2 - a2) * (c1 - a1)) := rfl
  obtain ⟨bx, hhbx⟩ : ∃ x, b1 - a1 = x := ⟨_, rfl⟩
  have kbx : -536870912 ≤ bx ∧ bx ≤ 536870912 := by omega
  obtain ⟨kbx0, kbx1⟩ := kbx
  rw [hhbx] at HP HCR
  have HHbx := Lib.hid hhbx
  clear hhbx
  obtain ⟨ey, hhey⟩ : ∃ x, b2 - a2 = x := ⟨_, rfl⟩
  have key : -536870912 ≤ ey ∧ ey ≤ 536870912 := by omega
  obtain ⟨key0, key1⟩ := key
  rw [hhey] at HP HCR
  have HHey := Lib.hid hhey
  clear hhey
  obtain ⟨cx, hhcx⟩ : ∃ x, c1 - a1 = x := ⟨_, rfl⟩
  have kcx : -536870912 ≤ cx ∧ cx ≤ 536870912 := by omega
  obtain ⟨kcx0, kcx1⟩ := kcx
  rw [hhcx] at HP HCR
  have HHcx := Lib.hid hhcx
  clear hhcx
  obtain ⟨cy, hhcy⟩ : ∃ x, c2 - a2 = x := ⟨_, rfl⟩
  have kcy : -536870912 ≤ cy ∧ cy ≤ 536870912 := by omega
  obtain ⟨kcy0, kcy1⟩ := kcy
  rw [hhcy] at HP HCR
  have HHcy := Lib.hid hhcy
  clear hhcy
  obtain ⟨dx, hhdx⟩ : ∃ x, d1 - a1 = x := ⟨_, rfl⟩
  have kdx : -536870912 ≤ dx ∧ dx ≤ 536870912 := by omega
  obtain ⟨kdx0, kdx1⟩ := kdx
  rw [hhdx] at HP
  have HHdx := Lib.hid hhdx
  clear hhdx
  obtain ⟨dy, hhdy⟩ : ∃ x, d2 - a2 = x := ⟨_, rfl⟩
  have kdy : -536870912 ≤ dy ∧ dy ≤ 536870912 := by omega
  obtain ⟨kdy0, kdy1⟩ := kdy
  rw [hhdy] at HP
  have HHdy := Lib.hid hhdy
  clear hhdy
  obtain ⟨mbxcy0, mbxcy1⟩ := mul29 ⟨kbx0, kbx1⟩ ⟨kcy0, kcy1⟩
  obtain ⟨meycx0, meycx1⟩ := mul29 ⟨key0, key1⟩ ⟨kcx0, kcx1⟩
  obtain ⟨mbxbx0, mbxbx1⟩ := mul29 ⟨kbx0, kbx1⟩ ⟨kbx0, kbx1⟩
  obtain ⟨meyey0, meyey1⟩ := mul29 ⟨key0, key1⟩ ⟨key0, key1⟩
  obtain ⟨mcxcx0, mcxcx1⟩ := mul29 ⟨kcx0, kcx1⟩ ⟨kcx0, kcx1⟩
  obtain ⟨mcycy0, mcycy1⟩ := mul29 ⟨kcy0, kcy1⟩ ⟨kcy0, kcy1⟩
  obtain ⟨mdxdx0, mdxdx1⟩ := mul29 ⟨kdx0, kdx1⟩ ⟨kdx0, kdx1⟩
  obtain ⟨mdydy0, mdydy1⟩ := mul29 ⟨kdy0, kdy1⟩ ⟨kdy0, kdy1⟩
  obtain ⟨det, hhdet⟩ : ∃ x, bx * cy - ey * cx = x := ⟨_, rfl⟩
  have ndet : -1152921504606846976 ≤ det ∧ det ≤ 1152921504606846976 := by omega
  obtain ⟨ndet0, ndet1⟩ := ndet
  rw [hhdet] at HP HCR
  have HHdet := Lib.hid hhdet
  clear hhdet
  obtain ⟨pp, hhpp⟩ : ∃ x, bx * bx + ey * ey = x := ⟨_, rfl⟩
  have npp : -1152921504606846976 ≤ pp ∧ pp ≤ 1152921504606846976 := by omega
  obtain ⟨npp0, npp1⟩ := npp
  rw [hhpp] at HP
  have HHpp := Lib.hid hhpp
  clear hhpp
  obtain ⟨qq, hhqq⟩ : ∃ x, cx * cx + cy * cy = x := ⟨_, rfl⟩
  have nqq : -1152921504606846976 ≤ qq ∧ qq ≤ 1152921504606846976 := by omega
  obtain ⟨nqq0, nqq1⟩ := nqq
  rw [hhqq] at HP
  have HHqq := Lib.hid hhqq
  clear hhqq
  obtain ⟨mm, hhmm⟩ : ∃ x, dx * dx + dy * dy = x := ⟨_, rfl⟩
  have nmm : -1152921504606846976 ≤ mm ∧ mm ≤ 1152921504606846976 := by omega
  obtain ⟨nmm0, nmm1⟩ := nmm
  rw [hhmm] at HP
  have HHmm := Lib.hid hhmm
  clear hhmm
  rw [HCR.out] at hz
  obtain ⟨f2, hf2⟩ : ∃ x, pp * cy + -(qq * ey) = x := ⟨_, rfl⟩
  obtain ⟨r2, hr2⟩ : ∃ x, qq * bx + -(pp * cx) = x := ⟨_, rfl⟩
  rw [hf2, hr2] at HP
  have HF2 := Lib.hid hf2
  have HR2 := Lib.hid hr2
  have HFF : Hid (Fit 65536 f2.natAbs 9) := by rw [← hf2]; exact fit_addI (a := 8) (fit_mulI (fit4c (by omega) (by omega)) (fit4c (by omega) (by omega)) (by omega)) (by rw [Int.natAbs_neg]; exact fit_mulI (fit4c (by omega) (by omega)) (fit4c (by omega) (by omega)) (by omega)) (by omega)
  have HFR : Hid (Fit 65536 r2.natAbs 9) := by rw [← hr2]; exact fit_addI (a := 8) (fit_mulI (fit4c (by omega) (by omega)) (fit4c (by omega) (by omega)) (by omega)) (by rw [Int.natAbs_neg]; exact fit_mulI (fit4c (by omega) (by omega)) (fit4c (by omega) (by omega)) (by omega)) (by omega)
  obtain ⟨zz, hzz⟩ : ∃ x, mm * det + -(dx * f2 + dy * r2) = x := ⟨_, rfl⟩
  rw [hzz] at HP
  have HZZ := Lib.hid hzz
  clear hf2 hr2 hzz
  have HC : Hid (circI (a1, a2) (b1, b2) (c1, c2) (d1, d2) = -sgI zz) := by
    show _ = _
    unfold circI
    rw [HP.out, HCR.out, sgI_neg]
    have : sgI det = 1 := by unfold sgI; rw [if_neg (by omega), if_pos hz]
    rw [this]
    omega
  rw [HC.out]
  obtain ⟨sg, hsg⟩ : ∃ s, sgI zz = s := ⟨_, rfl⟩
  have hsb := sgI_in zz
  rw [hsg] at hsb ⊢
  obtain ⟨hs0, hs1⟩ := hsb
  have HSG := Lib.hid hsg
  clear hsg HP HC HCR
  have HDN : Hid (decide (det < 0) = false) := decide_eq_false (by omega)
  clear hz
  have hXe : Ext w ((((w.alloc (.cells #[.int .i64 a1, .int .i64 a2] 23)).alloc (.cells #[.int .i64 b1, .int .i64 b2] 23)).alloc (.cells #[.int .i64 c1, .int .i64 c2] 23)).alloc (.cells #[.int .i64 d1, .int .i64 d2] 23)) := (((((Ext.refl w).alloc _).alloc _).alloc _).alloc _)
  have kA : Blk ((((w.alloc (.cells #[.int .i64 a1, .int .i64 a2] 23)).alloc (.cells #[.int .i64 b1, .int .i64 b2] 23)).alloc (.cells #[.int .i64 c1, .int .i64 c2] 23)).alloc (.cells #[.int .i64 d1, .int .i64 d2] 23)) w.heap.size 23 #[.int .i64 a1, .int .i64 a2] := Blk.alloc (Blk.alloc (Blk.alloc (Blk.at_ (by simp)) _) _) _
  have kB : Blk ((((w.alloc (.cells #[.int .i64 a1, .int .i64 a2] 23)).alloc (.cells #[.int .i64 b1, .int .i64 b2] 23)).alloc (.cells #[.int .i64 c1, .int .i64 c2] 23)).alloc (.cells #[.int .i64 d1, .int .i64 d2] 23)) (w.heap.size + 1) 23 #[.int .i64 b1, .int .i64 b2] := Blk.alloc (Blk.alloc (Blk.at_ (by simp)) _) _
  have kC : Blk ((((w.alloc (.cells #[.int .i64 a1, .int .i64 a2] 23)).alloc (.cells #[.int .i64 b1, .int .i64 b2] 23)).alloc (.cells #[.int .i64 c1, .int .i64 c2] 23)).alloc (.cells #[.int .i64 d1, .int .i64 d2] 23)) (w.heap.size + 2) 23 #[.int .i64 c1, .int .i64 c2] := Blk.alloc (Blk.at_ (by simp)) _
  have kD : Blk ((((w.alloc (.cells #[.int .i64 a1, .int .i64 a2] 23)).alloc (.cells #[.int .i64 b1, .int .i64 b2] 23)).alloc (.cells #[.int .i64 c1, .int .i64 c2] 23)).alloc (.cells #[.int .i64 d1, .int .i64 d2] 23)) (w.heap.size + 3) 23 #[.int .i64 d1, .int .i64 d2] := Blk.at_ (by simp)
  go_enter Try.func47, Try.ntmps47
  go_upto_region 1 with (fail)
  generalize ((((w.alloc (.cells #[.int .i64 a1, .int .i64 a2] 23)).alloc (.cells #[.int .i64 b1, .int .i64 b2] 23)).alloc (.cells #[.int .i64 c1, .int .i64 c2] 23)).alloc (.cells #[.int .i64 d1, .int .i64 d2] 23)) = w1 at hXe kA kB kC kD ⊢
  have HX := Lib.hid hXe
  clear hXe
  have KA := Lib.hid kA
  clear kA
  have KB := Lib.hid kB
  clear kB
  have KC := Lib.hid kC
  clear kC
  have KD := Lib.hid kD
  clear kD
  have zz1 := KD.out.lt
  go_wp2_with fail
  refine circle_r1 w.heap.size (w.heap.size + 1) (w.heap.size + 2) a1 a2 b1 b2 c1 c2 d1 d2 bx ey cx cy w1 (KA.out.cell 0) (KA.out.cell 1) (KB.out.cell 0) (KB.out.cell 1) (KC.out.cell 0) (KC.out.cell 1) ha10 ha11 ha20 ha21 hb10 hb11 hb20 hb21 hc10 hc11 hc20 hc21 hd10 hd11 hd20 hd21 HHbx HHey HHcx HHcy _ _ (by simp) rfl rfl rfl ?_
  rintro xv0 xv1 xv2 xv3 xv4 xv5 xv6 xv7 xv8 xv9 xv10 xv11 xv12 xv13 xv14 xv15 xv16 xv17 xv18 xv19 xv20 xv21 xv22 xv23 w2 rfl rfl rfl rfl rfl rfl rfl rfl rfl rfl rfl rfl rfl rfl rfl rfl rfl rfl rfl rfl rfl rfl rfl rfl hXW
  simp only [rops, Try.f47, regOf, Option.bind_some, Nat.reduceBEq, if_true, if_false, Bool.false_eq_true, Option.getD_some, List.drop_succ_cons, List.drop_zero]
  simp only [Act.put, List.setIfInBounds_toArray, List.set_cons_succ, List.set_cons_zero]
  replace HX := Lib.hid (HX.out.trans hXW)
  replace KA := Lib.hid (KA.out.ext hXW)
  replace KB := Lib.hid (KB.out.ext hXW)
  replace KC := Lib.hid (KC.out.ext hXW)
  replace KD := Lib.hid (KD.out.ext hXW)
  clear hXW
  go_upto_region 2 with (fail)
  refine circle_r2 w.heap.size (w.heap.size + 3) a1 a2 b1 b2 c1 c2 d1 d2 dx dy w2 (KA.out.cell 0) (KA.out.cell 1) (KD.out.cell 0) (KD.out.cell 1) ha10 ha11 ha20 ha21 hb10 hb11 hb20 hb21 hc10 hc11 hc20 hc21 hd10 hd11 hd20 hd21 HHdx HHdy _ _ (by simp) rfl rfl ?_
  rintro xv0 xv1 xv2 xv3 xv4 xv5 xv6 xv7 xv8 xv9 xv10 xv11 w3 rfl rfl rfl rfl rfl rfl rfl rfl rfl rfl rfl rfl hXW
  simp only [rops, Try.f47, regOf, Option.bind_some, Nat.reduceBEq, if_true, if_false, Bool.false_eq_true, Option.getD_some, List.drop_succ_cons, List.drop_zero]
  simp only [Act.put, List.setIfInBounds_toArray, List.set_cons_succ, List.set_cons_zero]
  replace HX := Lib.hid (HX.out.trans hXW)
  replace KA := Lib.hid (KA.out.ext hXW)
  replace KB := Lib.hid (KB.out.ext hXW)
  replace KC := Lib.hid (KC.out.ext hXW)
  replace KD := Lib.hid (KD.out.ext hXW)
  clear hXW
  clear KA
  clear KB
  clear KC
  clear KD
  go_wp2_with fail
  refine (small_any (bx * cy - ey * cx) _ (by omega) (by omega)).mono ?_
  rw [HHdet.out]
  rintro e w4 ⟨v1, rfl, hv, hX⟩
  replace hX : Ext w3 w4 := by with_reducible exact hX
  replace HX := Lib.hid (HX.out.trans hX)
  clear hX
  obtain ⟨A1, l1, c1, rfl, hv1⟩ := hv
  have HZ1 : Hid (IntZ w4 (.agg #[.bool (decide (det < 0)), .slice A1 l1 c1]) det) := ⟨A1, l1, c1, rfl, hv1⟩
  clear hv1
  rw [HDN.out] at HZ1 ⊢
  go_upto_region 4 with (fail)
  have hXa : Ext w4 (w4.alloc (.cells #[.bool false, .slice A1 l1 c1] 40)) := (Ext.refl _).alloc _
  have kDET := Blk.new w4 40 #[.bool false, .slice A1 l1 c1]
  have zg := HX.out.size
  replace HX := Lib.hid (HX.out.trans hXa)
  replace HZ1 := Lib.hid (HZ1.out.ext hXa)
  generalize (w4.alloc (.cells #[.bool false, .slice A1 l1 c1] 40)) = w5 at HX HZ1 kDET ⊢
  have KDET := Lib.hid kDET
  clear kDET hXa
  go_wp2_with fail
  refine (small_any (bx * bx + ey * ey) _ (by omega) (by omega)).mono ?_
  rw [HHpp.out]
  rintro e w6 ⟨v2, rfl, hv, hX⟩
  replace hX : Ext w5 w6 := by with_reducible exact hX
  replace HX := Lib.hid (HX.out.trans hX)
  replace HZ1 := Lib.hid (HZ1.out.ext hX)
  replace KDET := Lib.hid (KDET.out.ext hX)
  clear hX
  obtain ⟨A2, l2, c2, rfl, hv2⟩ := hv
  have HZ2 : Hid (IntZ w6 (.agg #[.bool (decide (pp < 0)), .slice A2 l2 c2]) pp) := ⟨A2, l2, c2, rfl, hv2⟩
  clear hv2
  obtain ⟨s2, hs2⟩ : ∃ b, decide (pp < 0) = b := ⟨_, rfl⟩
  rw [hs2] at HZ2 ⊢
  clear hs2
  go_wp2_with fail
  refine (small_any (cx * cx + cy * cy) _ (by omega) (by omega)).mono ?_
  rw [HHqq.out]
  rintro e w7 ⟨v3, rfl, hv, hX⟩
  replace hX : Ext w6 w7 := by with_reducible exact hX
  replace HX := Lib.hid (HX.out.trans hX)
  replace HZ1 := Lib.hid (HZ1.out.ext hX)
  replace HZ2 := Lib.hid (HZ2.out.ext hX)
  replace KDET := Lib.hid (KDET.out.ext hX)
  clear hX
  obtain ⟨A3, l3, c3, rfl, hv3⟩ := hv
  have HZ3 : Hid (IntZ w7 (.agg #[.bool (decide (qq < 0)), .slice A3 l3 c3]) qq) := ⟨A3, l3, c3, rfl, hv3⟩
  clear hv3
  obtain ⟨s3, hs3⟩ : ∃ b, decide (qq < 0) = b := ⟨_, rfl⟩
  rw [hs3] at HZ3 ⊢
  clear hs3
  go_upto_region 5 with (fail)
  skip
  have hXa : Ext w7 ((w7.alloc (.cells #[.bool s2, .slice A2 l2 c2] 40)).alloc (.cells #[.bool s3, .slice A3 l3 c3] 40)) := ((Ext.refl _).alloc _).alloc _
  have kP : Blk ((w7.alloc (.cells #[.bool s2, .slice A2 l2 c2] 40)).alloc (.cells #[.bool s3, .slice A3 l3 c3] 40)) w7.heap.size 40 #[.bool s2, .slice A2 l2 c2] := (Blk.new _ _ _).alloc _
  have kQ : Blk ((w7.alloc (.cells #[.bool s2, .slice A2 l2 c2] 40)).alloc (.cells #[.bool s3, .slice A3 l3 c3] 40)) (w7.heap.size + 1) 40 #[.bool s3, .slice A3 l3 c3] := Blk.at_ (by simp)
  have zD := KDET.out.lt
  have zg := HX.out.size
  replace HX := Lib.hid (HX.out.trans hXa)
  replace HZ1 := Lib.hid (HZ1.out.ext hXa)
  replace HZ2 := Lib.hid (HZ2.out.ext hXa)
  replace HZ3 := Lib.hid (HZ3.out.ext hXa)
  replace KDET := Lib.hid (KDET.out.ext hXa)
  generalize ((w7.alloc (.cells #[.bool s2, .slice A2 l2 c2] 40)).alloc (.cells #[.bool s3, .slice A3 l3 c3] 40)) = w8 at HX HZ1 HZ2 HZ3 KDET kP kQ ⊢
  have KP := Lib.hid kP
  have KQ := Lib.hid kQ
  clear kP kQ hXa
  have hz5 := HX.out.size
  have da5 := KDET.out.lt
  have db5 := KP.out.lt
  have dc5 := KQ.out.lt
  refine circle_r5 w7.heap.size (w7.heap.size + 1) s2 A2 l2 c2 s3 A3 l3 c3 pp qq cy ey w8 (KP.out.cell 0) (KP.out.cell 1) (KQ.out.cell 0) (KQ.out.cell 1) HZ2.out HZ3.out (by omega) (by omega) (by omega) (by omega) (by omega) (by omega) (by omega) (by omega) _ _ (by simp) rfl rfl rfl rfl ?_
  rintro xv0 xv1 xv2 xv3 xv4 xv5 xv6 xv7 xv8 xv9 xv10 w9 rfl rfl _ _ rfl rfl _ _ _ hv ⟨gx2, rfl, hgx2, hBgx2⟩ hXW
  simp only [rops, Try.f47, regOf, Option.bind_some, Nat.reduceBEq, if_true, if_false, Bool.false_eq_true, Option.getD_some, List.drop_succ_cons, List.drop_zero]
  simp only [Act.put, List.setIfInBounds_toArray, List.set_cons_succ, List.set_cons_zero]
  replace HX := Lib.hid (HX.out.trans hXW)
  replace HZ1 := Lib.hid (HZ1.out.ext hXW)
  replace HZ2 := Lib.hid (HZ2.out.ext hXW)
  replace HZ3 := Lib.hid (HZ3.out.ext hXW)
  replace KDET := Lib.hid (KDET.out.ext hXW)
  replace KP := Lib.hid (KP.out.ext hXW)
  replace KQ := Lib.hid (KQ.out.ext hXW)
  clear hXW
  rw [HF2.out] at hv
  obtain ⟨A4, l4, c4, rfl, hv4⟩ := hv
  have HZ4 : Hid (IntZ w9 (.agg #[.bool (decide (f2 < 0)), .slice A4 l4 c4]) f2) := ⟨A4, l4, c4, rfl, hv4⟩
  clear hv4
  obtain ⟨s4, hs4⟩ : ∃ b, decide (f2 < 0) = b := ⟨_, rfl⟩
  rw [hs4] at HZ4 ⊢
  clear hs4
  have KX := Lib.hid hBgx2
  have ggx21 : w.heap.size ≤ gx2 := by omega
  have ggx22 := KDET.out.lt
  clear hBgx2
  have q1 := KP.out.lt
  have q2 := KQ.out.lt
  have cX0 : w9.cell? ⟨gx2, 0, none⟩ = some (.bool false) := KX.out.cell 0
  have fX0 : w9.frozen? ⟨gx2, 0, none⟩ = false := KX.out.free 0
  have cX1 : w9.cell? ⟨gx2, 1, none⟩ = some (.slice none 0 0) := KX.out.cell 1
  have fX1 : w9.frozen? ⟨gx2, 1, none⟩ = false := KX.out.free 1
  go_upto_region 6 with (fail)
  clear cX0 fX0 cX1 fX1
  have hXs : Ext w ((w9.setCell ⟨gx2, 0, none⟩ (.bool s4)).setCell ⟨gx2, 1, none⟩ (.slice A4 l4 c4)) := ((HX.out.setCell (show w.heap.size ≤ gx2 by omega) _).setCell (show w.heap.size ≤ gx2 by omega) _)
  have kDET : Blk ((w9.setCell ⟨gx2, 0, none⟩ (.bool s4)).setCell ⟨gx2, 1, none⟩ (.slice A4 l4 c4)) w4.heap.size 40 #[.bool false, .slice A1 l1 c1] := (Blk.far (Blk.far KDET.out (show w4.heap.size ≠ gx2 by omega) _) (show w4.heap.size ≠ gx2 by omega) _)
  have kP : Blk ((w9.setCell ⟨gx2, 0, none⟩ (.bool s4)).setCell ⟨gx2, 1, none⟩ (.slice A4 l4 c4)) w7.heap.size 40 #[.bool s2, .slice A2 l2 c2] := (Blk.far (Blk.far KP.out (show w7.heap.size ≠ gx2 by omega) _) (show w7.heap.size ≠ gx2 by omega) _)
  have kQ : Blk ((w9.setCell ⟨gx2, 0, none⟩ (.bool s4)).setCell ⟨gx2, 1, none⟩ (.slice A4 l4 c4)) (w7.heap.size + 1) 40 #[.bool s3, .slice A3 l3 c3] := (Blk.far (Blk.far KQ.out (show (w7.heap.size + 1) ≠ gx2 by omega) _) (show (w7.heap.size + 1) ≠ gx2 by omega) _)
  have kX : Blk ((w9.setCell ⟨gx2, 0, none⟩ (.bool s4)).setCell ⟨gx2, 1, none⟩ (.slice A4 l4 c4)) gx2 40 #[.bool s4, .slice A4 l4 c4] := (Blk.set (Blk.set KX.out 0 _) 1 _)
  have hHZ1 := IntZ.past HZ1.out (NoInts.two KX.out) (b := s4) (A := A4) (l := l4) (c := c4)
  have hHZ2 := IntZ.past HZ2.out (NoInts.two KX.out) (b := s4) (A := A4) (l := l4) (c := c4)
  have hHZ3 := IntZ.past HZ3.out (NoInts.two KX.out) (b := s4) (A := A4) (l := l4) (c := c4)
  have hHZ4 := IntZ.past HZ4.out (NoInts.two KX.out) (b := s4) (A := A4) (l := l4) (c := c4)
  generalize ((w9.setCell ⟨gx2, 0, none⟩ (.bool s4)).setCell ⟨gx2, 1, none⟩ (.slice A4 l4 c4)) = w10 at hXs kDET kP kQ kX hHZ1 hHZ2 hHZ3 hHZ4 ⊢
  clear HX KDET KP KQ KX HZ1 HZ2 HZ3 HZ4
  have HX := Lib.hid hXs
  clear hXs
  have KDET := Lib.hid kDET
  clear kDET
  have KP := Lib.hid kP
  clear kP
  have KQ := Lib.hid kQ
  clear kQ
  have KX := Lib.hid kX
  clear kX
  have HZ1 := Lib.hid hHZ1
  clear hHZ1
  have HZ2 := Lib.hid hHZ2
  clear hHZ2
  have HZ3 := Lib.hid hHZ3
  clear hHZ3
  have HZ4 := Lib.hid hHZ4
  clear hHZ4
  have hz6 := HX.out.size
  have da6 := KDET.out.lt
  have db6 := KP.out.lt
  have dc6 := KQ.out.lt
  have dd6 := KX.out.lt
  go_upto_region 6 with (fail)
  refine circle_r6 (w7.heap.size + 1) w7.heap.size s3 A3 l3 c3 s2 A2 l2 c2 qq pp bx cx w10 (KQ.out.cell 0) (KQ.out.cell 1) (KP.out.cell 0) (KP.out.cell 1) HZ3.out HZ2.out (by omega) (by omega) (by omega) (by omega) (by omega) (by omega) (by omega) (by omega) _ _ (by simp) rfl rfl rfl rfl ?_
  rintro xv0 xv1 xv2 xv3 xv4 xv5 xv6 xv7 xv8 xv9 xv10 w11 rfl rfl _ _ rfl rfl _ _ _ hv ⟨gy2, rfl, hgy2, hBgy2⟩ hXW
  simp only [rops, Try.f47, regOf, Option.bind_some, Nat.reduceBEq, if_true, if_false, Bool.false_eq_true, Option.getD_some, List.drop_succ_cons, List.drop_zero]
  simp only [Act.put, List.setIfInBounds_toArray, List.set_cons_succ, List.set_cons_zero]
  replace HX := Lib.hid (HX.out.trans hXW)
  replace HZ1 := Lib.hid (HZ1.out.ext hXW)
  replace HZ2 := Lib.hid (HZ2.out.ext hXW)
  replace HZ3 := Lib.hid (HZ3.out.ext hXW)
  replace HZ4 := Lib.hid (HZ4.out.ext hXW)
  replace KDET := Lib.hid (KDET.out.ext hXW)
  replace KP := Lib.hid (KP.out.ext hXW)
  replace KQ := Lib.hid (KQ.out.ext hXW)
  replace KX := Lib.hid (KX.out.ext hXW)
  clear hXW
  rw [HR2.out] at hv
  obtain ⟨A5, l5, c5, rfl, hv5⟩ := hv
  have HZ5 : Hid (IntZ w11 (.agg #[.bool (decide (r2 < 0)), .slice A5 l5 c5]) r2) := ⟨A5, l5, c5, rfl, hv5⟩
  clear hv5
  obtain ⟨s5, hs5⟩ : ∃ b, decide (r2 < 0) = b := ⟨_, rfl⟩
  rw [hs5] at HZ5 ⊢
  clear hs5
  have KY := Lib.hid hBgy2
  have ggy21 : w.heap.size ≤ gy2 := by omega
  have ggy22 := KDET.out.lt
  clear hBgy2
  have q1 := KP.out.lt
  have q2 := KQ.out.lt
  have q3 := KX.out.lt
  have cY0 : w11.cell? ⟨gy2, 0, none⟩ = some (.bool false) := KY.out.cell 0
  have fY0 : w11.frozen? ⟨gy2, 0, none⟩ = false := KY.out.free 0
  have cY1 : w11.cell? ⟨gy2, 1, none⟩ = some (.slice none 0 0) := KY.out.cell 1
  have fY1 : w11.frozen? ⟨gy2, 1, none⟩ = false := KY.out.free 1
  go_upto_region 7 with (fail)
  clear cY0 fY0 cY1 fY1
  have hXs : Ext w ((w11.setCell ⟨gy2, 0, none⟩ (.bool s5)).setCell ⟨gy2, 1, none⟩ (.slice A5 l5 c5)) := ((HX.out.setCell (show w.heap.size ≤ gy2 by omega) _).setCell (show w.heap.size ≤ gy2 by omega) _)
  have kDET : Blk ((w11.setCell ⟨gy2, 0, none⟩ (.bool s5)).setCell ⟨gy2, 1, none⟩ (.slice A5 l5 c5)) w4.heap.size 40 #[.bool false, .slice A1 l1 c1] := (Blk.far (Blk.far KDET.out (show w4.heap.size ≠ gy2 by omega) _) (show w4.heap.size ≠ gy2 by omega) _)
  have kP : Blk ((w11.setCell ⟨gy2, 0, none⟩ (.bool s5)).setCell ⟨gy2, 1, none⟩ (.slice A5 l5 c5)) w7.heap.size 40 #[.bool s2, .slice A2 l2 c2] := (Blk.far (Blk.far KP.out (show w7.heap.size ≠ gy2 by omega) _) (show w7.heap.size ≠ gy2 by omega) _)
  have kQ : Blk ((w11.setCell ⟨gy2, 0, none⟩ (.bool s5)).setCell ⟨gy2, 1, none⟩ (.slice A5 l5 c5)) (w7.heap.size + 1) 40 #[.bool s3, .slice A3 l3 c3] := (Blk.far (Blk.far KQ.out (show (w7.heap.size + 1) ≠ gy2 by omega) _) (show (w7.heap.size + 1) ≠ gy2 by omega) _)
  have kX : Blk ((w11.setCell ⟨gy2, 0, none⟩ (.bool s5)).setCell ⟨gy2, 1, none⟩ (.slice A5 l5 c5)) gx2 40 #[.bool s4, .slice A4 l4 c4] := (Blk.far (Blk.far KX.out (show gx2 ≠ gy2 by omega) _) (show gx2 ≠ gy2 by omega) _)
  have kY : Blk ((w11.setCell ⟨gy2, 0, none⟩ (.bool s5)).setCell ⟨gy2, 1, none⟩ (.slice A5 l5 c5)) gy2 40 #[.bool s5, .slice A5 l5 c5] := (Blk.set (Blk.set KY.out 0 _) 1 _)
  have hHZ1 := IntZ.past HZ1.out (NoInts.two KY.out) (b := s5) (A := A5) (l := l5) (c := c5)
  have hHZ2 := IntZ.past HZ2.out (NoInts.two KY.out) (b := s5) (A := A5) (l := l5) (c := c5)
  have hHZ3 := IntZ.past HZ3.out (NoInts.two KY.out) (b := s5) (A := A5) (l := l5) (c := c5)
  have hHZ4 := IntZ.past HZ4.out (NoInts.two KY.out) (b := s5) (A := A5) (l := l5) (c := c5)
  have hHZ5 := IntZ.past HZ5.out (NoInts.two KY.out) (b := s5) (A := A5) (l := l5) (c := c5)
  generalize ((w11.setCell ⟨gy2, 0, none⟩ (.bool s5)).setCell ⟨gy2, 1, none⟩ (.slice A5 l5 c5)) = w12 at hXs kDET kP kQ kX kY hHZ1 hHZ2 hHZ3 hHZ4 hHZ5 ⊢
  clear HX KDET KP KQ KX KY HZ1 HZ2 HZ3 HZ4 HZ5
  have HX := Lib.hid hXs
  clear hXs
  have KDET := Lib.hid kDET
  clear kDET
  have KP := Lib.hid kP
  clear kP
  have KQ := Lib.hid kQ
  clear kQ
  have KX := Lib.hid kX
  clear kX
  have KY := Lib.hid kY
  clear kY
  have HZ1 := Lib.hid hHZ1
  clear hHZ1
  have HZ2 := Lib.hid hHZ2
  clear hHZ2
  have HZ3 := Lib.hid hHZ3
  clear hHZ3
  have HZ4 := Lib.hid hHZ4
  clear hHZ4
  have HZ5 := Lib.hid hHZ5
  clear hHZ5
  have hz7 := HX.out.size
  have da7 := KDET.out.lt
  have db7 := KP.out.lt
  have dc7 := KQ.out.lt
  have dd7 := KX.out.lt
  have de7 := KY.out.lt
  go_upto_region 7 with (fail)
  refine circle_r7 w4.heap.size gx2 gy2 false A1 l1 c1 s4 A4 l4 c4 s5 A5 l5 c5 det f2 r2 dx dy mm w12 (KDET.out.cell 0) (KDET.out.cell 1) (KX.out.cell 0) (KX.out.cell 1) (KY.out.cell 0) (KY.out.cell 1) HZ1.out HZ4.out HZ5.out HFF.out HFR.out HHmm mdxdx0 mdxdx1 mdydy0 mdydy1 (by omega) (by omega) (by omega) (by omega) (by omega) (by omega) (by omega) (by omega) _ _ (by simp) rfl rfl rfl rfl rfl ?_
  rintro xv0 xv1 xv2 xv3 xv4 xv5 xv6 xv7 xv8 xv9 xv10 xv11 xv12 xv13 xv14 xv15 xv16 xv17 xv18 xv19 xv20 xv21 w13 rfl rfl rfl rfl rfl rfl rfl _ rfl _ rfl _ rfl _ rfl _ rfl _ _ _ hv ⟨gz, rfl, hgz, hBz⟩ hXW
  simp only [rops, Try.f47, regOf, Option.bind_some, Nat.reduceBEq, if_true, if_false, Bool.false_eq_true, Option.getD_some, List.drop_succ_cons, List.drop_zero]
  simp only [Act.put, List.setIfInBounds_toArray, List.set_cons_succ, List.set_cons_zero]
  replace HX := Lib.hid (HX.out.trans hXW)
  replace HZ1 := Lib.hid (HZ1.out.ext hXW)
  replace HZ2 := Lib.hid (HZ2.out.ext hXW)
  replace HZ3 := Lib.hid (HZ3.out.ext hXW)
  replace HZ4 := Lib.hid (HZ4.out.ext hXW)
  replace HZ5 := Lib.hid (HZ5.out.ext hXW)
  replace KDET := Lib.hid (KDET.out.ext hXW)
  replace KP := Lib.hid (KP.out.ext hXW)
  replace KQ := Lib.hid (KQ.out.ext hXW)
  replace KX := Lib.hid (KX.out.ext hXW)
  replace KY := Lib.hid (KY.out.ext hXW)
  clear hXW
  rw [HZZ.out] at hv
  clear KP
  clear KQ
  clear KX
  clear KY
  clear HZ2
  clear HZ3
  clear HZ4
  clear HZ5
  obtain ⟨A6, l6, c6, rfl, hv6⟩ := hv
  have HZ6 : Hid (IntZ w13 (.agg #[.bool (decide (zz < 0)), .slice A6 l6 c6]) zz) := ⟨A6, l6, c6, rfl, hv6⟩
  clear hv6
  obtain ⟨s6, hs6⟩ : ∃ b, decide (zz < 0) = b := ⟨_, rfl⟩
  rw [hs6] at HZ6 ⊢
  clear hs6
  have KZ := Lib.hid hBz
  have gz1 : w.heap.size ≤ gz := by omega
  clear hBz
  have q4 := KDET.out.lt
  have cZ0 : w13.cell? ⟨gz, 0, none⟩ = some (.bool false) := KZ.out.cell 0
  have fZ0 : w13.frozen? ⟨gz, 0, none⟩ = false := KZ.out.free 0
  have cZ1 : w13.cell? ⟨gz, 1, none⟩ = some (.slice none 0 0) := KZ.out.cell 1
  have fZ1 : w13.frozen? ⟨gz, 1, none⟩ = false := KZ.out.free 1
  go_upto_region 8 with (fail)
  clear cZ0 fZ0 cZ1 fZ1
  have hXs : Ext w ((w13.setCell ⟨gz, 0, none⟩ (.bool s6)).setCell ⟨gz, 1, none⟩ (.slice A6 l6 c6)) := ((HX.out.setCell (show w.heap.size ≤ gz by omega) _).setCell (show w.heap.size ≤ gz by omega) _)
  have kDET : Blk ((w13.setCell ⟨gz, 0, none⟩ (.bool s6)).setCell ⟨gz, 1, none⟩ (.slice A6 l6 c6)) w4.heap.size 40 #[.bool false, .slice A1 l1 c1] := (Blk.far (Blk.far KDET.out (show w4.heap.size ≠ gz by omega) _) (show w4.heap.size ≠ gz by omega) _)
  have kZ : Blk ((w13.setCell ⟨gz, 0, none⟩ (.bool s6)).setCell ⟨gz, 1, none⟩ (.slice A6 l6 c6)) gz 40 #[.bool s6, .slice A6 l6 c6] := (Blk.set (Blk.set KZ.out 0 _) 1 _)
  have hHZ1 := IntZ.past HZ1.out (NoInts.two KZ.out) (b := s6) (A := A6) (l := l6) (c := c6)
  have hHZ6 := IntZ.past HZ6.out (NoInts.two KZ.out) (b := s6) (A := A6) (l := l6) (c := c6)
  generalize ((w13.setCell ⟨gz, 0, none⟩ (.bool s6)).setCell ⟨gz, 1, none⟩ (.slice A6 l6 c6)) = w14 at hXs kDET kZ hHZ1 hHZ6 ⊢
  clear HX KDET KZ HZ1 HZ6
  have HX := Lib.hid hXs
  clear hXs
  have KDET := Lib.hid kDET
  clear kDET
  have KZ := Lib.hid kZ
  clear kZ
  have HZ1 := Lib.hid hHZ1
  clear hHZ1
  have HZ6 := Lib.hid hHZ6
  clear hHZ6
  have cZ0 : w14.cell? ⟨gz, 0, none⟩ = some (.bool s6) := KZ.out.cell 0
  have cZ1 : w14.cell? ⟨gz, 1, none⟩ = some (.slice A6 l6 c6) := KZ.out.cell 1
  go_wp2_with fail
  clear cZ0 cZ1
  refine (rsign_any _ zz _ HZ6.out).mono ?_
  rw [HSG.out]
  rintro e w15 ⟨rfl, hX⟩
  replace hX : Ext w14 w15 := by with_reducible exact hX
  replace HX := Lib.hid (HX.out.trans hX)
  replace HZ1 := Lib.hid (HZ1.out.ext hX)
  replace HZ6 := Lib.hid (HZ6.out.ext hX)
  replace KDET := Lib.hid (KDET.out.ext hX)
  replace KZ := Lib.hid (KZ.out.ext hX)
  clear hX
  have cDET0 : w15.cell? ⟨w4.heap.size, 0, none⟩ = some (.bool false) := KDET.out.cell 0
  have cDET1 : w15.cell? ⟨w4.heap.size, 1, none⟩ = some (.slice A1 l1 c1) := KDET.out.cell 1
  go_wp2
  go_ret
  exact ⟨rfl, HX.out⟩

theorem rcircle_any (a1 a2 b1 b2 c1 c2 d1 d2 : Int) (w : World) (oa : okP (a1, a2) = true) (ob : okP (b1, b2) = true) (oc : okP (c1, c2) = true) (od : okP (d1, d2) = true) (hz : crossI (a1, a2) (b1, b2) (c1, c2) ≠ 0) :
    Calls Try.prog 47 #[.agg #[.int .i64 a1, .int .i64 a2], .agg #[.int .i64 b1, .int .i64 b2], .agg #[.int .i64 c1, .int .i64 c2], .agg #[.int .i64 d1, .int .i64 d2]] w fun e w' => e = .returned (.int .i64 (circI (a1, a2) (b1, b2) (c1, c2) (d1, d2))) ∧ Ext w w' := by
  rcases Int.lt_or_gt_of_ne hz with h | h
  · exact rcircle_n a1 a2 b1 b2 c1 c2 d1 d2 w oa ob oc od h
  · exact rcircle_p a1 a2 b1 b2 c1 c2 d1 d2 w oa ob oc od h
end Go.Proofs.Yteoijnaljkagfaa
