/- Lemmas of the proof that follows (Carry5, part 11): walks of functions by contract, and plain lemmas. Conditions: none. -/
import Derived.Test.YtikhlcgnlbinfaaCarry5J
namespace Go.Proofs.Ytikhlcgnlbinfaa
open Go.RowKit

def fstM : List Mt := [⟨0, -1, 0, 0, 1, 0, 1⟩, ⟨0, -1, 0, 0, 1, 30, 2⟩]
theorem fst_sol : solP (3 * 1) fstM 2 = ((-20 : Int) : Rat) := by decide +kernel
theorem fst_mis : misfit (3 * 1) fstM (solP (3 * 1) fstM) = ((600 : Int) : Rat) := by decide +kernel
theorem fst_vp : VP ((1 : Nat) : Int) fstM := vpB_iff.1 (by decide +kernel)
theorem fitQ_small' {z : Int} (h0 : -9223372036854775808 ≤ z) (h1 : z ≤ 9223372036854775807) : FitQW ((z : Int) : Rat) := FitQW.of4 (fitQ_small h0 h1) (by omega)

set_option maxRecDepth 100000 in
set_option maxHeartbeats 2000000 in
theorem first_r3 (go : Nat) (su : Bool) (Au Bu : Option Addr) (lu cu mu ku : Nat) (w : World) (x0 : w.cell? ⟨go, 6, none⟩ = some (.bool su)) (x1 : w.cell? ⟨go, 6 + 1, none⟩ = some (.slice Au lu cu)) (x2 : w.cell? ⟨go, 6 + 2, none⟩ = some (.slice Bu mu ku)) (hx : RatC w (.agg #[.bool su, .slice Au lu cu, .slice Bu mu ku]) ((-20 : Int) : Rat)) (a : Act) (Q : Exit → Act → World → Prop) (hsize : 33 ≤ a.tmps.size)
    (s2 : a.tmps[2]? = some (.slice (some ⟨go, 0, none⟩) 1 1))
    (s3 : a.tmps[3]? = some (.int .i64 (0)))
    (hend : ∀ (xv0 xv1 xv2 xv3 xv4 xv5 xv6 xv7 xv8 xv9 xv10 xv11 xv12 xv13 xv14 xv15 : Value) (W : World), (xv0 = .int .i64 (0)) → (xv1 = .bool false) → (xv2 = .bool false) → (xv3 = .slice (some ⟨go, 0, none⟩) 1 1) → (xv4 = .int .i64 (1)) → (xv5 = .bool false) → (xv6 = .bool false) → (xv7 = .bool false) → (xv8 = .slice (some ⟨go, 0, none⟩) 1 1) → (xv9 = .pointer (some ⟨go, 0, none⟩)) → (xv10 = .pointer (some ⟨go, 6, none⟩)) → (xv11 = .agg #[.bool su, .slice Au lu cu, .slice Bu mu ku]) → (QZ W xv12 ((-20 : Int) : Rat)) → (xv13 = .bool true) → (xv14 = .bool false) → (xv15 = .bool false) → Ext w W → wpList Try.prog (rops Try.f39 3).toArray Q ((rops Try.f39 3).drop 16) ((((((((((((((((a.put (some 17) xv0).put (some 18) xv1).put (some 19) xv2).put (some 20) xv3).put (some 21) xv4).put (some 22) xv5).put (some 23) xv6).put (some 24) xv7).put (some 25) xv8).put (some 26) xv9).put (some 27) xv10).put (some 28) xv11).put (some 29) xv12).put (some 30) xv13).put (some 31) xv14).put (some 32) xv15) W) :
    (Code.region 3 (rops Try.f39 3).toArray true).wp Try.prog Q a w := by
  have hmono : ∀ (W W' : World) (j : Nat) (u : Value), Ext W W' → (fun (i : Nat) (v : Value) (W : World) => match i with
    | 0 => v = .int .i64 (0)
    | 1 => v = .bool false
    | 2 => v = .bool false
    | 3 => v = .slice (some ⟨go, 0, none⟩) 1 1
    | 4 => v = .int .i64 (1)
    | 5 => v = .bool false
    | 6 => v = .bool false
    | 7 => v = .bool false
    | 8 => v = .slice (some ⟨go, 0, none⟩) 1 1
    | 9 => v = .pointer (some ⟨go, 0, none⟩)
    | 10 => v = .pointer (some ⟨go, 6, none⟩)
    | 11 => v = .agg #[.bool su, .slice Au lu cu, .slice Bu mu ku]
    | 12 => QZ W v ((-20 : Int) : Rat)
    | 13 => v = .bool true
    | 14 => v = .bool false
    | 15 => v = .bool false
    | _ => True) j u W → (fun (i : Nat) (v : Value) (W : World) => match i with
    | 0 => v = .int .i64 (0)
    | 1 => v = .bool false
    | 2 => v = .bool false
    | 3 => v = .slice (some ⟨go, 0, none⟩) 1 1
    | 4 => v = .int .i64 (1)
    | 5 => v = .bool false
    | 6 => v = .bool false
    | 7 => v = .bool false
    | 8 => v = .slice (some ⟨go, 0, none⟩) 1 1
    | 9 => v = .pointer (some ⟨go, 0, none⟩)
    | 10 => v = .pointer (some ⟨go, 6, none⟩)
    | 11 => v = .agg #[.bool su, .slice Au lu cu, .slice Bu mu ku]
    | 12 => QZ W v ((-20 : Int) : Rat)
    | 13 => v = .bool true
    | 14 => v = .bool false
    | 15 => v = .bool false
    | _ => True) j u W' := by
    intro W W' j u hX h
    match j, h with
    | 0, h => exact h
    | 1, h => exact h
    | 2, h => exact h
    | 3, h => exact h
    | 4, h => exact h
    | 5, h => exact h
    | 6, h => exact h
    | 7, h => exact h
    | 8, h => exact h
    | 9, h => exact h
    | 10, h => exact h
    | 11, h => exact h
    | 12, h => exact QZ.ext h hX
    | 13, h => exact h
    | 14, h => exact h
    | 15, h => exact h
    | _ + 16, h => exact h
  have hsz : ∀ d, some d ∈ ([some 17, some 18, some 19, some 20, some 21, some 22, some 23, some 24, some 25, some 26, some 27, some 28, some 29, some 30, some 31, some 32] : List (Option Tmp)) → d < a.tmps.size := slots_lt (by decide) hsize
  refine wp_region_j 16 [some 17, some 18, some 19, some 20, some 21, some 22, some 23, some 24, some 25, some 26, some 27, some 28, some 29, some 30, some 31, some 32] [[], [0], [1], [2], [2, 3], [2, 4], [2, 5], [6], [7], [7, 8], [7, 9], [7, 10], [7], [7, 11, 12], [7, 13], [7, 14]] [[], [], [], [], [], [], [], [], [], [], [], [], [], [], [], []] (fun (i : Nat) (v : Value) (W : World) => match i with
    | 0 => v = .int .i64 (0)
    | 1 => v = .bool false
    | 2 => v = .bool false
    | 3 => v = .slice (some ⟨go, 0, none⟩) 1 1
    | 4 => v = .int .i64 (1)
    | 5 => v = .bool false
    | 6 => v = .bool false
    | 7 => v = .bool false
    | 8 => v = .slice (some ⟨go, 0, none⟩) 1 1
    | 9 => v = .pointer (some ⟨go, 0, none⟩)
    | 10 => v = .pointer (some ⟨go, 6, none⟩)
    | 11 => v = .agg #[.bool su, .slice Au lu cu, .slice Bu mu ku]
    | 12 => QZ W v ((-20 : Int) : Rat)
    | 13 => v = .bool true
    | 14 => v = .bool false
    | 15 => v = .bool false
    | _ => True) (fun _ W => Ext w W) (by kernel_rfl) (by kernel_rfl) hsz (fun _ _ _ _ h => h) ((Ext.refl w).drew) ?_ ?_
  · clear hend
    simp only [rops, Try.f39, regOf, Option.bind_some, Nat.reduceBEq, if_true, if_false, Bool.false_eq_true, Option.getD_some]
    simp only [List.take_succ_cons, List.take_zero]
    refine ⟨?_, ?_, ?_, ?_, ?_, ?_, ?_, ?_, ?_, ?_, ?_, ?_, ?_, ?_, ?_, ?_, trivial⟩
    · intro done us W hJ hdep haft hnot b hb hb' K hK Q'
      have e3 := (hb' 3 (by simp)).trans s3
      clear hb hb'
      go_simp
      exact hK _ _ rfl (fun _ _ _ h => h) hJ
    · intro done us W hJ hdep haft hnot b hb hb' K hK Q'
      simp only [List.getD_cons_succ, List.getD_cons_zero, List.mem_cons, List.not_mem_nil, or_false, forall_eq] at hdep
      have e17 := hb 0 17 rfl
      have d0 := hdep
      rw [d0.1] at e17
      clear hb hb' hdep d0
      go_simp
      exact hK _ _ rfl (fun _ _ _ h => h) hJ
    · intro done us W hJ hdep haft hnot b hb hb' K hK Q'
      simp only [List.getD_cons_succ, List.getD_cons_zero, List.mem_cons, List.not_mem_nil, or_false, forall_eq] at hdep
      have e18 := hb 1 18 rfl
      have d1 := hdep
      rw [d1.1] at e18
      clear hb hb' hdep d1
      go_simp
      exact hK _ _ rfl (fun _ _ _ h => h) hJ
    · intro done us W hJ hdep haft hnot b hb hb' K hK Q'
      simp only [List.getD_cons_succ, List.getD_cons_zero, List.mem_cons, List.not_mem_nil, or_false, forall_eq] at hdep
      have e2 := (hb' 2 (by simp)).trans s2
      have e19 := hb 2 19 rfl
      have d2 := hdep
      rw [d2.1] at e19
      clear hb hb' hdep d2
      go_simp
      exact hK _ _ rfl (fun _ _ _ h => h) hJ
    · intro done us W hJ hdep haft hnot b hb hb' K hK Q'
      simp only [List.getD_cons_succ, List.getD_cons_zero, List.mem_cons, List.not_mem_nil, or_false, forall_eq_or_imp, forall_eq] at hdep
      have e19 := hb 2 19 rfl
      have e20 := hb 3 20 rfl
      have d2 := hdep.1
      have d3 := hdep.2
      rw [d2.1] at e19
      rw [d3.1] at e20
      clear hb hb' hdep d2 d3
      go_simp
      exact hK _ _ rfl (fun _ _ _ h => h) hJ
    · intro done us W hJ hdep haft hnot b hb hb' K hK Q'
      simp only [List.getD_cons_succ, List.getD_cons_zero, List.mem_cons, List.not_mem_nil, or_false, forall_eq_or_imp, forall_eq] at hdep
      have e19 := hb 2 19 rfl
      have e21 := hb 4 21 rfl
      have d2 := hdep.1
      have d4 := hdep.2
      rw [d2.1] at e19
      rw [d4.1] at e21
      clear hb hb' hdep d2 d4
      go_simp
      exact hK _ _ rfl (fun _ _ _ h => h) hJ
    · intro done us W hJ hdep haft hnot b hb hb' K hK Q'
      simp only [List.getD_cons_succ, List.getD_cons_zero, List.mem_cons, List.not_mem_nil, or_false, forall_eq_or_imp, forall_eq] at hdep
      have e19 := hb 2 19 rfl
      have e22 := hb 5 22 rfl
      have d2 := hdep.1
      have d5 := hdep.2
      rw [d2.1] at e19
      rw [d5.1] at e22
      clear hb hb' hdep d2 d5
      go_simp
      exact hK _ _ rfl (fun _ _ _ h => h) hJ
    · intro done us W hJ hdep haft hnot b hb hb' K hK Q'
      simp only [List.getD_cons_succ, List.getD_cons_zero, List.mem_cons, List.not_mem_nil, or_false, forall_eq] at hdep
      have e23 := hb 6 23 rfl
      have d6 := hdep
      rw [d6.1] at e23
      clear hb hb' hdep d6
      go_simp
      exact hK _ _ rfl (fun _ _ _ h => h) hJ
    · intro done us W hJ hdep haft hnot b hb hb' K hK Q'
      simp only [List.getD_cons_succ, List.getD_cons_zero, List.mem_cons, List.not_mem_nil, or_false, forall_eq] at hdep
      have e2 := (hb' 2 (by simp)).trans s2
      have e24 := hb 7 24 rfl
      have d7 := hdep
      rw [d7.1] at e24
      clear hb hb' hdep d7
      go_simp
      exact hK _ _ rfl (fun _ _ _ h => h) hJ
    · intro done us W hJ hdep haft hnot b hb hb' K hK Q'
      simp only [List.getD_cons_succ, List.getD_cons_zero, List.mem_cons, List.not_mem_nil, or_false, forall_eq_or_imp, forall_eq] at hdep
      have e24 := hb 7 24 rfl
      have e25 := hb 8 25 rfl
      have d7 := hdep.1
      have d8 := hdep.2
      rw [d7.1] at e24
      rw [d8.1] at e25
      clear hb hb' hdep d7 d8
      go_simp
      exact hK _ _ rfl (fun _ _ _ h => h) hJ
    · intro done us W hJ hdep haft hnot b hb hb' K hK Q'
      simp only [List.getD_cons_succ, List.getD_cons_zero, List.mem_cons, List.not_mem_nil, or_false, forall_eq_or_imp, forall_eq] at hdep
      have e24 := hb 7 24 rfl
      have e26 := hb 9 26 rfl
      have d7 := hdep.1
      have d9 := hdep.2
      rw [d7.1] at e24
      rw [d9.1] at e26
      clear hb hb' hdep d7 d9
      go_simp
      exact hK _ _ rfl (fun _ _ _ h => h) hJ
    · intro done us W hJ hdep haft hnot b hb hb' K hK Q'
      simp only [List.getD_cons_succ, List.getD_cons_zero, List.mem_cons, List.not_mem_nil, or_false, forall_eq_or_imp, forall_eq] at hdep
      have e24 := hb 7 24 rfl
      have e27 := hb 10 27 rfl
      have d7 := hdep.1
      have d10 := hdep.2
      rw [d7.1] at e24
      rw [d10.1] at e27
      clear hb hb' hdep d7 d10
      have z0 := Ext.cell hJ x0
      have z1 := Ext.cell hJ x1
      have z2 := Ext.cell hJ x2
      go_simp
      exact hK _ _ rfl (fun _ _ _ h => h) hJ
    · intro done us W hJ hdep haft hnot b hb hb' K hK Q'
      simp only [List.getD_cons_succ, List.getD_cons_zero, List.mem_cons, List.not_mem_nil, or_false, forall_eq] at hdep
      have e24 := hb 7 24 rfl
      have d7 := hdep
      rw [d7.1] at e24
      clear hb hb' hdep d7
      go_simp
      refine (whole_any (-20) _ (by omega) (by omega)).mono ?_
      rintro e w' ⟨v, rfl, hv, hX⟩
      exact hK _ _ hv (fun j u _ h => hmono _ _ j u hX h) (Ext.trans hJ hX)
    · intro done us W hJ hdep haft hnot b hb hb' K hK Q'
      simp only [List.getD_cons_succ, List.getD_cons_zero, List.mem_cons, List.not_mem_nil, or_false, forall_eq_or_imp, forall_eq] at hdep
      have e24 := hb 7 24 rfl
      have e28 := hb 11 28 rfl
      have e29 := hb 12 29 rfl
      have d7 := hdep.1
      have d11 := hdep.2.1
      have d12 := hdep.2.2
      rw [d7.1] at e24
      rw [d11.1] at e28
      clear hb hb' hdep d7 d11
      go_simp
      refine (same_any (hx.ext hJ) d12.1 (fitQ_small' (by omega) (by omega))).mono ?_
      rintro e w' ⟨rfl, hX⟩
      exact hK _ _ rfl (fun j u _ h => hmono _ _ j u hX h) (Ext.trans hJ hX)
    · intro done us W hJ hdep haft hnot b hb hb' K hK Q'
      simp only [List.getD_cons_succ, List.getD_cons_zero, List.mem_cons, List.not_mem_nil, or_false, forall_eq_or_imp, forall_eq] at hdep
      have e24 := hb 7 24 rfl
      have e30 := hb 13 30 rfl
      have d7 := hdep.1
      have d13 := hdep.2
      rw [d7.1] at e24
      rw [d13.1] at e30
      clear hb hb' hdep d7 d13
      go_simp
      exact hK _ _ rfl (fun _ _ _ h => h) hJ
    · intro done us W hJ hdep haft hnot b hb hb' K hK Q'
      simp only [List.getD_cons_succ, List.getD_cons_zero, List.mem_cons, List.not_mem_nil, or_false, forall_eq_or_imp, forall_eq] at hdep
      have e24 := hb 7 24 rfl
      have e31 := hb 14 31 rfl
      have d7 := hdep.1
      have d14 := hdep.2
      rw [d7.1] at e24
      rw [d14.1] at e31
      clear hb hb' hdep d7 d14
      go_simp
      exact hK _ _ rfl (fun _ _ _ h => h) hJ
  · intro us W hV hJ
    exact hend (us 0) (us 1) (us 2) (us 3) (us 4) (us 5) (us 6) (us 7) (us 8) (us 9) (us 10) (us 11) (us 12) (us 13) (us 14) (us 15) W (hV 0 (by omega)) (hV 1 (by omega)) (hV 2 (by omega)) (hV 3 (by omega)) (hV 4 (by omega)) (hV 5 (by omega)) (hV 6 (by omega)) (hV 7 (by omega)) (hV 8 (by omega)) (hV 9 (by omega)) (hV 10 (by omega)) (hV 11 (by omega)) (hV 12 (by omega)) (hV 13 (by omega)) (hV 14 (by omega)) (hV 15 (by omega)) hJ
set_option maxRecDepth 100000 in
set_option maxHeartbeats 2000000 in
theorem first_r6 (gx : Nat) (su : Bool) (Au Bu : Option Addr) (lu cu mu ku : Nat) (w : World) (x0 : w.cell? ⟨gx, 0, none⟩ = some (.bool su)) (x1 : w.cell? ⟨gx, 1, none⟩ = some (.slice Au lu cu)) (x2 : w.cell? ⟨gx, 2, none⟩ = some (.slice Bu mu ku)) (hx : RatC w (.agg #[.bool su, .slice Au lu cu, .slice Bu mu ku]) ((600 : Int) : Rat)) (a : Act) (Q : Exit → Act → World → Prop) (hsize : 46 ≤ a.tmps.size)
    (s4 : a.tmps[4]? = some (.pointer (some ⟨gx, 0, none⟩)))
    (s5 : a.tmps[5]? = some (.int .i64 (0)))
    (hend : ∀ (xv0 xv1 xv2 xv3 xv4 xv5 xv6 xv7 : Value) (W : World), (xv0 = .int .i64 (0)) → (xv1 = .bool true) → (xv2 = .bool true) → (xv3 = .agg #[.bool su, .slice Au lu cu, .slice Bu mu ku]) → (QZ W xv4 ((600 : Int) : Rat)) → (xv5 = .bool true) → (xv6 = .bool true) → (xv7 = .bool true) → Ext w W → wpList Try.prog (rops Try.f39 6).toArray Q ((rops Try.f39 6).drop 8) ((((((((a.put (some 39) xv0).put (some 40) xv1).put (some 41) xv2).put (some 42) xv3).put (some 43) xv4).put (some 44) xv5).put (some 45) xv6).put (some 0) xv7) W) :
    (Code.region 6 (rops Try.f39 6).toArray true).wp Try.prog Q a w := by
  have hmono : ∀ (W W' : World) (j : Nat) (u : Value), Ext W W' → (fun (i : Nat) (v : Value) (W : World) => match i with
    | 0 => v = .int .i64 (0)
    | 1 => v = .bool true
    | 2 => v = .bool true
    | 3 => v = .agg #[.bool su, .slice Au lu cu, .slice Bu mu ku]
    | 4 => QZ W v ((600 : Int) : Rat)
    | 5 => v = .bool true
    | 6 => v = .bool true
    | 7 => v = .bool true
    | _ => True) j u W → (fun (i : Nat) (v : Value) (W : World) => match i with
    | 0 => v = .int .i64 (0)
    | 1 => v = .bool true
    | 2 => v = .bool true
    | 3 => v = .agg #[.bool su, .slice Au lu cu, .slice Bu mu ku]
    | 4 => QZ W v ((600 : Int) : Rat)
    | 5 => v = .bool true
    | 6 => v = .bool true
    | 7 => v = .bool true
    | _ => True) j u W' := by
    intro W W' j u hX h
    match j, h with
    | 0, h => exact h
    | 1, h => exact h
    | 2, h => exact h
    | 3, h => exact h
    | 4, h => exact QZ.ext h hX
    | 5, h => exact h
    | 6, h => exact h
    | 7, h => exact h
    | _ + 8, h => exact h
  have hsz : ∀ d, some d ∈ ([some 39, some 40, some 41, some 42, some 43, some 44, some 45, some 0] : List (Option Tmp)) → d < a.tmps.size := slots_lt (by decide) hsize
  refine wp_region_j 8 [some 39, some 40, some 41, some 42, some 43, some 44, some 45, some 0] [[], [0], [1], [2], [2], [2, 3, 4], [2, 5], [6]] [[], [], [], [], [], [], [], []] (fun (i : Nat) (v : Value) (W : World) => match i with
    | 0 => v = .int .i64 (0)
    | 1 => v = .bool true
    | 2 => v = .bool true
    | 3 => v = .agg #[.bool su, .slice Au lu cu, .slice Bu mu ku]
    | 4 => QZ W v ((600 : Int) : Rat)
    | 5 => v = .bool true
    | 6 => v = .bool true
    | 7 => v = .bool true
    | _ => True) (fun _ W => Ext w W) (by kernel_rfl) (by kernel_rfl) hsz (fun _ _ _ _ h => h) ((Ext.refl w).drew) ?_ ?_
  · clear hend
    simp only [rops, Try.f39, regOf, Option.bind_some, Nat.reduceBEq, if_true, if_false, Bool.false_eq_true, Option.getD_some]
    simp only [List.take_succ_cons, List.take_zero]
    refine ⟨?_, ?_, ?_, ?_, ?_, ?_, ?_, ?_, trivial⟩
    · intro done us W hJ hdep haft hnot b hb hb' K hK Q'
      have e5 := (hb' 5 (by simp)).trans s5
      clear hb hb'
      go_simp
      exact hK _ _ rfl (fun _ _ _ h => h) hJ
    · intro done us W hJ hdep haft hnot b hb hb' K hK Q'
      simp only [List.getD_cons_succ, List.getD_cons_zero, List.mem_cons, List.not_mem_nil, or_false, forall_eq] at hdep
      have e39 := hb 0 39 rfl
      have d0 := hdep
      rw [d0.1] at e39
      clear hb hb' hdep d0
      go_simp
      exact hK _ _ rfl (fun _ _ _ h => h) hJ
    · intro done us W hJ hdep haft hnot b hb hb' K hK Q'
      simp only [List.getD_cons_succ, List.getD_cons_zero, List.mem_cons, List.not_mem_nil, or_false, forall_eq] at hdep
      have e40 := hb 1 40 rfl
      have d1 := hdep
      rw [d1.1] at e40
      clear hb hb' hdep d1
      go_simp
      exact hK _ _ rfl (fun _ _ _ h => h) hJ
    · intro done us W hJ hdep haft hnot b hb hb' K hK Q'
      simp only [List.getD_cons_succ, List.getD_cons_zero, List.mem_cons, List.not_mem_nil, or_false, forall_eq] at hdep
      have e4 := (hb' 4 (by simp)).trans s4
      have e41 := hb 2 41 rfl
      have d2 := hdep
      rw [d2.1] at e41
      clear hb hb' hdep d2
      have z0 := Ext.cell hJ x0
      have z1 := Ext.cell hJ x1
      have z2 := Ext.cell hJ x2
      go_simp
      exact hK _ _ rfl (fun _ _ _ h => h) hJ
    · intro done us W hJ hdep haft hnot b hb hb' K hK Q'
      simp only [List.getD_cons_succ, List.getD_cons_zero, List.mem_cons, List.not_mem_nil, or_false, forall_eq] at hdep
      have e41 := hb 2 41 rfl
      have d2 := hdep
      rw [d2.1] at e41
      clear hb hb' hdep d2
      go_simp
      refine (whole_any 600 _ (by omega) (by omega)).mono ?_
      rintro e w' ⟨v, rfl, hv, hX⟩
      exact hK _ _ hv (fun j u _ h => hmono _ _ j u hX h) (Ext.trans hJ hX)
    · intro done us W hJ hdep haft hnot b hb hb' K hK Q'
      simp only [List.getD_cons_succ, List.getD_cons_zero, List.mem_cons, List.not_mem_nil, or_false, forall_eq_or_imp, forall_eq] at hdep
      have e41 := hb 2 41 rfl
      have e42 := hb 3 42 rfl
      have e43 := hb 4 43 rfl
      have d2 := hdep.1
      have d3 := hdep.2.1
      have d4 := hdep.2.2
      rw [d2.1] at e41
      rw [d3.1] at e42
      clear hb hb' hdep d2 d3
      go_simp
      refine (same_any (hx.ext hJ) d4.1 (fitQ_small' (by omega) (by omega))).mono ?_
      rintro e w' ⟨rfl, hX⟩
      exact hK _ _ rfl (fun j u _ h => hmono _ _ j u hX h) (Ext.trans hJ hX)
    · intro done us W hJ hdep haft hnot b hb hb' K hK Q'
      simp only [List.getD_cons_succ, List.getD_cons_zero, List.mem_cons, List.not_mem_nil, or_false, forall_eq_or_imp, forall_eq] at hdep
      have e41 := hb 2 41 rfl
      have e44 := hb 5 44 rfl
      have d2 := hdep.1
      have d5 := hdep.2
      rw [d2.1] at e41
      rw [d5.1] at e44
      clear hb hb' hdep d2 d5
      go_simp
      exact hK _ _ rfl (fun _ _ _ h => h) hJ
    · intro done us W hJ hdep haft hnot b hb hb' K hK Q'
      simp only [List.getD_cons_succ, List.getD_cons_zero, List.mem_cons, List.not_mem_nil, or_false, forall_eq] at hdep
      have e45 := hb 6 45 rfl
      have d6 := hdep
      rw [d6.1] at e45
      clear hb hb' hdep d6
      go_simp
      exact hK _ _ rfl (fun _ _ _ h => h) hJ
  · intro us W hV hJ
    exact hend (us 0) (us 1) (us 2) (us 3) (us 4) (us 5) (us 6) (us 7) W (hV 0 (by omega)) (hV 1 (by omega)) (hV 2 (by omega)) (hV 3 (by omega)) (hV 4 (by omega)) (hV 5 (by omega)) (hV 6 (by omega)) (hV 7 (by omega)) hJ
set_option maxRecDepth 100000 in
set_option maxHeartbeats 4000000 in
theorem first_any (w : World) : Calls Try.prog 39 #[] w (fun e w' => e = .returned (.bool true) ∧ Ext w w') := by
  have hXe : Ext w ((w.alloc (.cells #[.int .i64 0, .int .i64 (-1), .int .i64 0, .int .i64 0, .int .i64 1, .int .i64 0, .int .i64 1, .int .i64 0, .int .i64 (-1), .int .i64 0, .int .i64 0, .int .i64 1, .int .i64 30, .int .i64 2] 90)).alloc (.cells #[.int .i64 1, .slice (some ⟨w.heap.size, 0, none⟩) 2 2] 76)) := ((Ext.refl w).alloc _).alloc _
  have kP : Blk ((w.alloc (.cells #[.int .i64 0, .int .i64 (-1), .int .i64 0, .int .i64 0, .int .i64 1, .int .i64 0, .int .i64 1, .int .i64 0, .int .i64 (-1), .int .i64 0, .int .i64 0, .int .i64 1, .int .i64 30, .int .i64 2] 90)).alloc (.cells #[.int .i64 1, .slice (some ⟨w.heap.size, 0, none⟩) 2 2] 76)) (w.heap.size + 1) 76 #[.int .i64 1, .slice (some ⟨w.heap.size, 0, none⟩) 2 2] := Blk.at_ (by simp)
  have hat : At (w.alloc (.cells #[.int .i64 0, .int .i64 (-1), .int .i64 0, .int .i64 0, .int .i64 1, .int .i64 0, .int .i64 1, .int .i64 0, .int .i64 (-1), .int .i64 0, .int .i64 0, .int .i64 1, .int .i64 30, .int .i64 2] 90)) (some ⟨w.heap.size, 0, none⟩) (mtV fstM) := At.new w [.int .i64 0, .int .i64 (-1), .int .i64 0, .int .i64 0, .int .i64 1, .int .i64 0, .int .i64 1, .int .i64 0, .int .i64 (-1), .int .i64 0, .int .i64 0, .int .i64 1, .int .i64 30, .int .i64 2] 90
  have HM : Hid (MsAt (w.alloc (.cells #[.int .i64 0, .int .i64 (-1), .int .i64 0, .int .i64 0, .int .i64 1, .int .i64 0, .int .i64 1, .int .i64 0, .int .i64 (-1), .int .i64 0, .int .i64 0, .int .i64 1, .int .i64 30, .int .i64 2] 90)) (some ⟨w.heap.size, 0, none⟩) 2 fstM) := Lib.hid ⟨rfl, hat⟩
  have HM2 := Lib.hid (HM.out.ext ((Ext.refl _).alloc (.cells #[.int .i64 1, .slice (some ⟨w.heap.size, 0, none⟩) 2 2] 76)))
  clear hat HM
  go_enter Try.func39, Try.ntmps39
  go_upto_region 2 with (fail)
  generalize ((w.alloc (.cells #[.int .i64 0, .int .i64 (-1), .int .i64 0, .int .i64 0, .int .i64 1, .int .i64 0, .int .i64 1, .int .i64 0, .int .i64 (-1), .int .i64 0, .int .i64 0, .int .i64 1, .int .i64 30, .int .i64 2] 90)).alloc (.cells #[.int .i64 1, .slice (some ⟨w.heap.size, 0, none⟩) 2 2] 76)) = w1 at hXe kP HM2 ⊢
  generalize w.heap.size + 1 = gp at kP ⊢
  generalize w.heap.size = gm at kP HM2 ⊢
  have HX := Lib.hid hXe
  have HP := Lib.hid kP
  have p0 := kP.cell 0
  have p1 := kP.cell 1
  simp only [List.getElem?_toArray, List.getElem?_cons_zero, List.getElem?_cons_succ] at p0 p1
  clear hXe kP
  go_wp2_with fail
  refine (solveP_ok 1 (some ⟨gm, 0, none⟩) 2 2 fstM _ HM2.out fst_vp).mono ?_
  rintro e w2 ⟨go, rfl, _, hS, hX⟩
  clear p0 p1
  replace HX := Lib.hid (HX.out.trans hX)
  replace HP := Lib.hid (HP.out.ext hX)
  replace HM2 := Lib.hid (HM2.out.ext hX)
  have HS := Lib.hid hS
  clear hS hX
  obtain ⟨su, Au, lu, cu, Bu, mu, ku, x0, x1, x2, hx⟩ := HS.out 0 2 (by omega) (by omega)
  simp only [Nat.reduceMul, Nat.reduceAdd] at x0 x1 x2
  rw [show (3 * 0 + 2 : Nat) = 2 from rfl, show (3 : Nat) = 3 * 1 from rfl, fst_sol] at hx
  have HC := Lib.hid hx
  have hX0 := Lib.hid x0
  have hX1 := Lib.hid x1
  have hX2 := Lib.hid x2
  clear hx x0 x1 x2
  go_upto_region 3 with (fail)
  refine first_r3 go su Au Bu lu cu mu ku w2 hX0.out hX1.out hX2.out HC.out _ _ (by simp) rfl rfl ?_
  rintro xv0 xv1 xv2 xv3 xv4 xv5 xv6 xv7 xv8 xv9 xv10 xv11 xv12 xv13 xv14 xv15 W rfl rfl rfl rfl rfl rfl rfl rfl rfl rfl rfl rfl _ rfl rfl rfl hX
  simp only [rops, Try.f39, regOf, Option.bind_some, Nat.reduceBEq, if_true, if_false, Bool.false_eq_true, Option.getD_some, List.drop_succ_cons, List.drop_zero]
  simp only [Act.put, List.setIfInBounds_toArray, List.set_cons_succ, List.set_cons_zero]
  clear hX0 hX1 hX2 HC
  replace HX := Lib.hid (HX.out.trans hX)
  replace HP := Lib.hid (HP.out.ext hX)
  replace HM2 := Lib.hid (HM2.out.ext hX)
  replace HS := Lib.hid (HS.out.ext growsC hX)
  clear hX
  have p0 := HP.out.cell 0
  have p1 := HP.out.cell 1
  simp only [List.getElem?_toArray, List.getElem?_cons_zero, List.getElem?_cons_succ] at p0 p1
  have HF : Hid (FitQW (misfit (3 * 1) fstM (solP (3 * 1) fstM))) := Lib.hid (by rw [fst_mis]; exact fitQ_small' (by omega) (by omega))
  have HFS : Hid (∀ j, FitQW (solP (3 * 1) fstM j)) := Lib.hid (fun j => FitQW.of4 (solP_fit fst_vp.2.2.2 fst_vp.2.2.1 (by omega) j) (by omega))
  go_wp2_with fail
  refine (misfit_ok 1 (some ⟨gm, 0, none⟩) 2 2 fstM go 0 1 (solP (3 * 1) fstM) _ HM2.out fst_vp (HS.out.imp2 (fun j v _ h => h.good (HFS.out j))) HF.out).mono ?_
  rintro e w3 ⟨v3, rfl, hv, hX⟩
  rw [fst_mis] at hv
  obtain ⟨s4, A4, l4, c4, B4, m4, k4, rfl⟩ := RatC.open hv
  replace HX := Lib.hid (HX.out.trans hX)
  have HC := Lib.hid hv
  clear hv hX p0 p1
  go_upto_region 6 with (fail)
  have hXa : Ext w3 (w3.alloc (.cells #[.bool s4, .slice A4 l4 c4, .slice B4 m4 k4] 97)) := (Ext.refl _).alloc _
  have kB := Blk.new w3 97 #[.bool s4, .slice A4 l4 c4, .slice B4 m4 k4]
  replace HX := Lib.hid (HX.out.trans hXa)
  replace HC := Lib.hid (HC.out.ext hXa)
  clear hXa
  generalize w3.heap.size = gx at kB ⊢
  generalize w3.alloc (.cells #[.bool s4, .slice A4 l4 c4, .slice B4 m4 k4] 97) = w4 at kB HX HC ⊢
  refine first_r6 gx s4 A4 B4 l4 c4 m4 k4 w4 (kB.cell 0) (kB.cell 1) (kB.cell 2) HC.out _ _ (by simp) rfl rfl ?_
  rintro xv0 xv1 xv2 xv3 xv4 xv5 xv6 xv7 W rfl rfl rfl rfl _ rfl rfl rfl hX
  simp only [rops, Try.f39, regOf, Option.bind_some, Nat.reduceBEq, if_true, if_false, Bool.false_eq_true, Option.getD_some, List.drop_succ_cons, List.drop_zero]
  simp only [Act.put, List.setIfInBounds_toArray, List.set_cons_succ, List.set_cons_zero]
  have HX9 := Lib.hid (HX.out.trans hX)
  clear kB HC hX
  go_wp2
  go_ret
  exact ⟨rfl, HX9.out⟩

end Go.Proofs.Ytikhlcgnlbinfaa
namespace Go.Proofs.Ytikhlcgnlbinfaa
open Go.RowKit

def aggOf : Value → Array Value
  | .agg vs => vs
  | _ => #[]
theorem Blk.put3 {W : World} {g : Nat} {T : TypeId} {z0 z1 z2 x0 x1 x2 v : Value} (h : Blk W g T #[z0, z1, z2]) (hu : v = .agg #[x0, x1, x2]) : Blk (((W.setCell ⟨g, 0, none⟩ x0).setCell ⟨g, 1, none⟩ x1).setCell ⟨g, 2, none⟩ x2) g T (aggOf v) := by
  subst hu; exact ((h.set 0 _).set 1 _).set 2 _
/-- A number and no error. -/
def TupG (w : World) (v : Value) (q : Rat) : Prop := ∃ x, v = .tuple #[x, .int .i64 0] ∧ RatG w x q
theorem TupG.ext {w w' : World} {v : Value} {q : Rat} (h : TupG w v q) (he : Ext w w') : TupG w' v q := by
  obtain ⟨x, rfl, h⟩ := h
  exact ⟨x, rfl, h.ext he⟩
theorem RatG.keepsNI {w w' : World} {v : Value} {q : Rat} {L : List Nat} (h : RatG w v q) (hk : Keeps L w w') (hN : ∀ g ∈ L, NoInts w g) : RatG w' v q := by
  obtain ⟨neg, xs, ys, ⟨A, l, c, B, m, k, h1, h2, h3, h4, h5, h6⟩, h7, h8⟩ := h
  exact ⟨neg, xs, ys, ⟨A, l, c, B, m, k, h1, h2.keepsNI hk hN, h3, h4, h5.keepsNI hk hN, h6⟩, h7, h8⟩
theorem RatG.past {w : World} {v : Value} {q : Rat} {g : Nat} (h : RatG w v q) (hN : NoInts w g) {b : Bool} {A1 A2 : Option Addr} {l1 c1 l2 c2 : Nat} : RatG (((w.setCell ⟨g, 0, none⟩ (.bool b)).setCell ⟨g, 1, none⟩ (.slice A1 l1 c1)).setCell ⟨g, 2, none⟩ (.slice A2 l2 c2)) v q :=
  h.keepsNI ((((Keeps.refl [g] w).setCell (.inl (by simp)) _).setCell (.inl (by simp)) _).setCell (.inl (by simp)) _) (fun k hk => by simp at hk; subst hk; exact hN)
theorem TupG.past {w : World} {v : Value} {q : Rat} {g : Nat} (h : TupG w v q) (hN : NoInts w g) {b : Bool} {A1 A2 : Option Addr} {l1 c1 l2 c2 : Nat} : TupG (((w.setCell ⟨g, 0, none⟩ (.bool b)).setCell ⟨g, 1, none⟩ (.slice A1 l1 c1)).setCell ⟨g, 2, none⟩ (.slice A2 l2 c2)) v q := by
  obtain ⟨x, rfl, h⟩ := h
  exact ⟨x, rfl, h.past hN⟩

end Go.Proofs.Ytikhlcgnlbinfaa
namespace Go.Proofs.Ytikhlcgnlbinfaa
open Go.RowKit

theorem pick_aggO {α : Type} {P : World → Value → α → Prop} {w : World} {k : Nat} (hk : k < 3) {s0 s1 s2 : Bool} {A0 A1 A2 B0 B1 B2 : Option Addr} {l0 c0 m0 k0 l1 c1 m1 k1 l2 c2 m2 k2 : Nat} {q : Nat → α} (h0 : P w (.agg #[.bool s0, .slice A0 l0 c0, .slice B0 m0 k0]) (q 0)) (h1 : P w (.agg #[.bool s1, .slice A1 l1 c1, .slice B1 m1 k1]) (q 1)) (h2 : P w (.agg #[.bool s2, .slice A2 l2 c2, .slice B2 m2 k2]) (q 2)) :
    ∃ s A l c B m n, pick3 (Value.bool s0) (Value.bool s1) (Value.bool s2) k = .bool s ∧ pick3 (Value.slice A0 l0 c0) (Value.slice A1 l1 c1) (Value.slice A2 l2 c2) k = .slice A l c ∧ pick3 (Value.slice B0 m0 k0) (Value.slice B1 m1 k1) (Value.slice B2 m2 k2) k = .slice B m n ∧ P w (.agg #[.bool s, .slice A l c, .slice B m n]) (q k) := by
  match k, hk with
  | 0, _ => exact ⟨_, _, _, _, _, _, _, rfl, rfl, rfl, h0⟩
  | 1, _ => exact ⟨_, _, _, _, _, _, _, rfl, rfl, rfl, h1⟩
  | 2, _ => exact ⟨_, _, _, _, _, _, _, rfl, rfl, rfl, h2⟩
  | _ + 3, hk => omega
theorem pick_fn (f : Nat → Int) {k : Nat} (hk : k < 3) : pick3 (Value.int .i64 (f 0)) (.int .i64 (f 1)) (.int .i64 (f 2)) k = .int .i64 (f k) := by
  match k, hk with
  | 0, _ => rfl
  | 1, _ => rfl
  | 2, _ => rfl
theorem idx6S (x0 x1 x2 x3 x4 x5 : Value) {k : Nat} (hk : k < 3) (w : World) : (Instr.index 47 (.agg #[x0, x1, x2, x3, x4, x5]) (.int .i64 (k : Int))).run Try.prog w = .ok (.agg #[pick3 x0 x2 x4 k, pick3 x1 x3 x5 k]) w := by
  have i0 : ∀ w : World, (Instr.index 47 (.agg #[x0, x1, x2, x3, x4, x5]) (.int .i64 0)).run Try.prog w = .ok (.agg #[x0, x1]) w := fun _ => by kernel_rfl
  have i1 : ∀ w : World, (Instr.index 47 (.agg #[x0, x1, x2, x3, x4, x5]) (.int .i64 1)).run Try.prog w = .ok (.agg #[x2, x3]) w := fun _ => by kernel_rfl
  have i2 : ∀ w : World, (Instr.index 47 (.agg #[x0, x1, x2, x3, x4, x5]) (.int .i64 2)).run Try.prog w = .ok (.agg #[x4, x5]) w := fun _ => by kernel_rfl
  match k, hk with
  | 0, _ => exact i0 w
  | 1, _ => exact i1 w
  | 2, _ => exact i2 w
  | _ + 3, hk => omega
/-- A number that may be large. -/
def NumS (w : World) (v : Value) : Option Rat → Prop
  | none => RatL w v true
  | some q => RatG w v q
theorem NumS.ext {w w' : World} {v : Value} {o : Option Rat} (h : NumS w v o) (he : Ext w w') : NumS w' v o := by
  cases o with
  | none => exact RatL.ext h he
  | some q => exact RatG.ext h he
theorem NumS.big {w : World} {v : Value} {o : Option Rat} (h : NumS w v o) : RatL w v o.isNone := by
  cases o with
  | none => exact h
  | some q => exact RatG.small h
/-- Floor: what fits. -/
def flB (q : Rat) : Bool := decide (q.floor.natAbs ≤ 4611686018427387904)
def flV (q : Rat) : Int := if flB q then q.floor else 0
theorem floorX {w : World} {v : Value} {q : Rat} {L : Nat} (h : NumX w v q L) (hL : L ≤ 1099511627775) : Calls Try.prog 142 #[v] w fun e w' => e = .returned (.tuple #[.int .i64 (flV q), .bool (flB q)]) ∧ Ext w w' := by
  obtain ⟨s, n, d, h1, h2, h3, h4, h5⟩ := h
  subst h3
  have e : (ratV s n d).floor.natAbs = flN s n d := by
    rw [floor_ratV s n d h2]
    cases s <;> simp [sgn]
  by_cases hN : flN s n d ≤ 4611686018427387904
  · have hb : flB (ratV s n d) = true := by unfold flB; rw [e]; exact decide_eq_true hN
    rw [hb, flV, if_pos hb]
    exact floor_in v s n d L w h1 h2 h4 hL hN
  · have hb : flB (ratV s n d) = false := by unfold flB; rw [e]; exact decide_eq_false hN
    rw [hb, flV, if_neg (by rw [hb]; decide)]
    exact floor_out v s n d L w h1 h2 h4 hL (by omega)
def mvL (lo : Nat → Int) (q : Nat → Rat) (k : Nat) : Int := lo k + (q k).floor
def mvH (hi : Nat → Int) (q : Nat → Rat) (k : Nat) : Int := hi k - (-(q k)).floor
/-- The moved span is within the limits. -/
def mvOk (lo hi : Nat → Int) (q : Nat → Rat) (k : Nat) : Prop := -1152921504606846976 ≤ mvL lo q k ∧ mvH hi q k ≤ 1152921504606846976
theorem ceil_le_floor (q : Rat) : q.floor ≤ -(-q).floor := by
  have h1 := Rat.floor_le q
  have h2 := Rat.floor_le (-q)
  have h3 : ((q.floor : Int) : Rat) ≤ ((-(-q).floor : Int) : Rat) := by rw [Rat.intCast_neg]; grind
  exact Rat.intCast_le_intCast.1 h3
theorem ceil_lt_floor (q : Rat) : -(-q).floor ≤ q.floor + 1 := by
  have h1 := Rat.lt_floor_add_one q
  have h2 : ((-q.floor - 1 : Int) : Rat) ≤ -q := by
    rw [Rat.intCast_sub, Rat.intCast_neg]
    have : ((1 : Int) : Rat) = 1 := rfl
    grind
  have := Rat.le_floor_iff.2 h2
  omega
theorem mvOk_fl {lo hi : Nat → Int} {q : Nat → Rat} {k : Nat} (ho : okS (lo k) (hi k) = true) (h : mvOk lo hi q k) : flB (q k) = true ∧ flB (-(q k)) = true := by
  have hS : -1152921504606846976 ≤ lo k ∧ lo k ≤ hi k ∧ hi k ≤ 1152921504606846976 := by simpa [okS] using ho
  obtain ⟨h1, h2⟩ := h
  unfold mvL at h1
  unfold mvH at h2
  have h3 := ceil_le_floor (q k)
  have h4 := ceil_lt_floor (q k)
  unfold flB
  exact ⟨decide_eq_true (by omega), decide_eq_true (by omega)⟩
/-- The spans of a box in a local array. -/
def B6 (w : World) (g : Nat) (T : TypeId) (a b : Nat → Int) : Prop := Blk w g T #[.int .i64 (a 0), .int .i64 (b 0), .int .i64 (a 1), .int .i64 (b 1), .int .i64 (a 2), .int .i64 (b 2)]
theorem B6.cell {w : World} {g : Nat} {T : TypeId} {a b : Nat → Int} (h : B6 w g T a b) {k : Nat} (hk : k < 3) : w.cell? ⟨g, k * 2, none⟩ = some (.int .i64 (a k)) ∧ w.cell? ⟨g, k * 2 + 1, none⟩ = some (.int .i64 (b k)) := by
  unfold B6 at h
  match k, hk with
  | 0, _ => exact ⟨h.cell 0, h.cell 1⟩
  | 1, _ => exact ⟨h.cell 2, h.cell 3⟩
  | 2, _ => exact ⟨h.cell 4, h.cell 5⟩
theorem B6.put {w : World} {g : Nat} {T : TypeId} {a b : Nat → Int} (h : B6 w g T a b) {k : Nat} (hk : k < 3) (x y : Int) : B6 ((w.setCell ⟨g, k * 2, none⟩ (.int .i64 x)).setCell ⟨g, k * 2 + 1, none⟩ (.int .i64 y)) g T (fun i => if i = k then x else a i) (fun i => if i = k then y else b i) := by
  unfold B6 at h ⊢
  match k, hk with
  | 0, _ => exact (h.set 0 _).set 1 _
  | 1, _ => exact (h.set 2 _).set 3 _
  | 2, _ => exact (h.set 4 _).set 5 _
theorem B6.ext {w w' : World} {g : Nat} {T : TypeId} {a b : Nat → Int} (h : B6 w g T a b) (he : Ext w w') : B6 w' g T a b := Blk.ext h he
theorem B6.congr {w : World} {g : Nat} {T : TypeId} {a b a' b' : Nat → Int} (h : B6 w g T a b) (e : ∀ k, k < 3 → a k = a' k ∧ b k = b' k) : B6 w g T a' b' := by
  unfold B6 at h ⊢
  rw [← (e 0 (by omega)).1, ← (e 0 (by omega)).2, ← (e 1 (by omega)).1, ← (e 1 (by omega)).2, ← (e 2 (by omega)).1, ← (e 2 (by omega)).2]
  exact h
/-- What Move answers. -/
def mvBad (lo hi : Nat → Int) : Prop := ∃ k, k < 3 ∧ okS (lo k) (hi k) = false
open Classical in
noncomputable def mvA (lo hi : Nat → Int) (o : Nat → Option Rat) : (Nat → Int) × (Nat → Int) × Int :=
  if mvBad lo hi then (fun _ => 0, fun _ => 0, 2)
  else if ∃ k, k < 3 ∧ o k = none then (fun _ => 0, fun _ => 0, 51)
  else if ∃ k, k < 3 ∧ ¬ mvOk lo hi (fun k => (o k).getD 0) k then (fun _ => 0, fun _ => 0, 3)
  else (mvL lo (fun k => (o k).getD 0), mvH hi (fun k => (o k).getD 0), 0)
theorem mvA_bad {lo hi : Nat → Int} {o : Nat → Option Rat} (h : mvBad lo hi) : mvA lo hi o = (fun _ => 0, fun _ => 0, 2) := if_pos h
theorem mvA_big {lo hi : Nat → Int} {o : Nat → Option Rat} (h : ¬ mvBad lo hi) (h2 : ∃ k, k < 3 ∧ o k = none) : mvA lo hi o = (fun _ => 0, fun _ => 0, 51) := by unfold mvA; rw [if_neg h, if_pos h2]
theorem mvA_far {lo hi : Nat → Int} {o : Nat → Option Rat} (h : ¬ mvBad lo hi) (h2 : ¬ ∃ k, k < 3 ∧ o k = none) (h3 : ∃ k, k < 3 ∧ ¬ mvOk lo hi (fun k => (o k).getD 0) k) : mvA lo hi o = (fun _ => 0, fun _ => 0, 3) := by unfold mvA; rw [if_neg h, if_neg h2, if_pos h3]
theorem mvA_ok {lo hi : Nat → Int} {o : Nat → Option Rat} (h : ¬ mvBad lo hi) (h2 : ¬ ∃ k, k < 3 ∧ o k = none) (h3 : ¬ ∃ k, k < 3 ∧ ¬ mvOk lo hi (fun k => (o k).getD 0) k) : mvA lo hi o = (mvL lo (fun k => (o k).getD 0), mvH hi (fun k => (o k).getD 0), 0) := by unfold mvA; rw [if_neg h, if_neg h2, if_neg h3]
def boxV (a b : Nat → Int) : Value := .agg #[.int .i64 (a 0), .int .i64 (b 0), .int .i64 (a 1), .int .i64 (b 1), .int .i64 (a 2), .int .i64 (b 2)]

set_option maxRecDepth 100000 in
set_option maxHeartbeats 4000000 in
theorem move_r21 (gs ii : Nat) (xa xb f1 f2 : Int) (w : World) (ca : w.cell? ⟨gs, ii * 2, none⟩ = some (.int .i64 xa)) (cb : w.cell? ⟨gs, ii * 2 + 1, none⟩ = some (.int .i64 xb)) (hi3 : (ii : Int) < 3) (_hi4 : ii < 3) (hA : -1152921504606846976 ≤ xa ∧ xa ≤ 1152921504606846976) (hB : -1152921504606846976 ≤ xb ∧ xb ≤ 1152921504606846976) (h1 : -4611686018427387904 ≤ f1 ∧ f1 ≤ 4611686018427387904) (h2 : -4611686018427387904 ≤ f2 ∧ f2 ≤ 4611686018427387904) (a : Act) (Q : Exit → Act → World → Prop) (hsize : 78 ≤ a.tmps.size)
    (s6 : a.tmps[6]? = some (.pointer (some ⟨gs, 0, none⟩)))
    (s11 : a.tmps[11]? = some (.int .i64 (ii : Int)))
    (s13 : a.tmps[13]? = some (.int .i64 (f1)))
    (s15 : a.tmps[15]? = some (.int .i64 (f2)))
    (hend : ∀ (xv0 xv1 xv2 xv3 xv4 xv5 xv6 xv7 xv8 xv9 xv10 xv11 xv12 xv13 : Value) (W : World), (xv0 = .int .i64 (ii : Int)) → (xv1 = .pointer (some ⟨gs, ii * 2, none⟩)) → (xv2 = .pointer (some ⟨gs, ii * 2, none⟩)) → (xv3 = .int .i64 (xa)) → (xv4 = .int .i64 (f1)) → (xv5 = .int .i64 (xa + f1)) → (xv6 = .int .i64 (ii : Int)) → (xv7 = .pointer (some ⟨gs, ii * 2, none⟩)) → (xv8 = .pointer (some ⟨gs, ii * 2 + 1, none⟩)) → (xv9 = .int .i64 (xb)) → (xv10 = .int .i64 (f2)) → (xv11 = .int .i64 (xb - f2)) → (xv12 = .int .i64 (xa + f1)) → (xv13 = .int .i64 (xb - f2)) → Ext w W → wpList Try.prog (rops Try.f63 21).toArray Q ((rops Try.f63 21).drop 14) ((((((((((((((a.put (some 66) xv0).put (some 67) xv1).put (some 68) xv2).put (some 69) xv3).put (some 70) xv4).put (some 71) xv5).put (some 72) xv6).put (some 73) xv7).put (some 74) xv8).put (some 75) xv9).put (some 76) xv10).put (some 77) xv11).put (some 13) xv12).put (some 15) xv13) W) :
    (Code.region 21 (rops Try.f63 21).toArray true).wp Try.prog Q a w := by
  have hsz : ∀ d, some d ∈ ([some 66, some 67, some 68, some 69, some 70, some 71, some 72, some 73, some 74, some 75, some 76, some 77, some 13, some 15] : List (Option Tmp)) → d < a.tmps.size := slots_lt (by decide) hsize
  refine wp_region_g0 14 [some 66, some 67, some 68, some 69, some 70, some 71, some 72, some 73, some 74, some 75, some 76, some 77, some 13, some 15] [[], [0], [1], [2], [], [3, 4], [], [6], [7], [8], [], [9, 10], [5], [11]] [[], [], [], [], [], [], [], [], [], [], [], [], [], []] (fun (done : Nat → Prop) (us : Nat → Value) (W : World) => Ext w W ∧ (done 0 → us 0 = .int .i64 (ii : Int)) ∧ (done 1 → us 1 = .pointer (some ⟨gs, ii * 2, none⟩)) ∧ (done 2 → us 2 = .pointer (some ⟨gs, ii * 2, none⟩)) ∧ (done 3 → us 3 = .int .i64 (xa)) ∧ (done 4 → us 4 = .int .i64 (f1)) ∧ (done 5 → us 5 = .int .i64 (xa + f1)) ∧ (done 6 → us 6 = .int .i64 (ii : Int)) ∧ (done 7 → us 7 = .pointer (some ⟨gs, ii * 2, none⟩)) ∧ (done 8 → us 8 = .pointer (some ⟨gs, ii * 2 + 1, none⟩)) ∧ (done 9 → us 9 = .int .i64 (xb)) ∧ (done 10 → us 10 = .int .i64 (f2)) ∧ (done 11 → us 11 = .int .i64 (xb - f2)) ∧ (done 12 → us 12 = .int .i64 (xa + f1)) ∧ (done 13 → us 13 = .int .i64 (xb - f2)) ∧ (¬ done 12 → us 12 = .int .i64 (f1)) ∧ (¬ done 13 → us 13 = .int .i64 (f2)) ∧ (done 12 → done 4) ∧ (done 13 → done 10) ∧ (done 5 → done 4) ∧ (done 11 → done 10)) (by kernel_rfl) (by kernel_rfl) hsz (fun p q us W h => by have e : p = q := funext fun k => propext (h k); rw [e]; exact id) (fun us hus => ⟨(Ext.refl w).drew, fun h => h.elim, fun h => h.elim, fun h => h.elim, fun h => h.elim, fun h => h.elim, fun h => h.elim, fun h => h.elim, fun h => h.elim, fun h => h.elim, fun h => h.elim, fun h => h.elim, fun h => h.elim, fun h => h.elim, fun h => h.elim, fun _ => Option.some.inj ((hus 12 13 rfl).symm.trans s13), fun _ => Option.some.inj ((hus 13 15 rfl).symm.trans s15), fun h => h.elim, fun h => h.elim, fun h => h.elim, fun h => h.elim⟩) ?_ ?_
  · clear hend
    simp only [rops, Try.f63, regOf, Option.bind_some, Nat.reduceBEq, if_true, if_false, Bool.false_eq_true, Option.getD_some]
    simp only [List.take_succ_cons, List.take_zero]
    refine ⟨?_, ?_, ?_, ?_, ?_, ?_, ?_, ?_, ?_, ?_, ?_, ?_, ?_, ?_, trivial⟩
    · intro done us W hJ hdep haft hnot b hb hb' K hK Q'
      obtain ⟨hX0, cc0, cc1, cc2, cc3, cc4, cc5, cc6, cc7, cc8, cc9, cc10, cc11, cc12, cc13, uu12, uu13, rr12, rr13, ii5, ii11⟩ := hJ
      have e11 := (hb' 11 (by simp)).trans s11
      clear hb hb'
      have hfin := hK (.int .i64 (ii : Int)) _ ⟨hX0, fun _ => rfl, fun h => cc1 (h.resolve_right (by decide)), fun h => cc2 (h.resolve_right (by decide)), fun h => cc3 (h.resolve_right (by decide)), fun h => cc4 (h.resolve_right (by decide)), fun h => cc5 (h.resolve_right (by decide)), fun h => cc6 (h.resolve_right (by decide)), fun h => cc7 (h.resolve_right (by decide)), fun h => cc8 (h.resolve_right (by decide)), fun h => cc9 (h.resolve_right (by decide)), fun h => cc10 (h.resolve_right (by decide)), fun h => cc11 (h.resolve_right (by decide)), fun h => cc12 (h.resolve_right (by decide)), fun h => cc13 (h.resolve_right (by decide)), fun h => uu12 (fun d => h (.inl d)), fun h => uu13 (fun d => h (.inl d)), fun h => .inl (rr12 (h.resolve_right (by decide))), fun h => .inl (rr13 (h.resolve_right (by decide))), fun h => .inl (ii5 (h.resolve_right (by decide))), fun h => .inl (ii11 (h.resolve_right (by decide)))⟩
      clear hK cc0 cc1 cc2 cc3 cc4 cc5 cc6 cc7 cc8 cc9 cc10 cc11 cc12 cc13 uu12 uu13 rr12 rr13 ii5 ii11
      go_simp
      exact hfin
    · intro done us W hJ hdep haft hnot b hb hb' K hK Q'
      obtain ⟨hX0, cc0, cc1, cc2, cc3, cc4, cc5, cc6, cc7, cc8, cc9, cc10, cc11, cc12, cc13, uu12, uu13, rr12, rr13, ii5, ii11⟩ := hJ
      simp only [List.getD_cons_succ, List.getD_cons_zero, List.mem_cons, List.not_mem_nil, or_false, forall_eq] at hdep
      have e6 := (hb' 6 (by simp)).trans s6
      have e66 := hb 0 66 rfl
      rw [cc0 hdep] at e66
      clear hb hb'
      have hfin := hK (.pointer (some ⟨gs, ii * 2, none⟩)) _ ⟨hX0, fun h => cc0 (h.resolve_right (by decide)), fun _ => rfl, fun h => cc2 (h.resolve_right (by decide)), fun h => cc3 (h.resolve_right (by decide)), fun h => cc4 (h.resolve_right (by decide)), fun h => cc5 (h.resolve_right (by decide)), fun h => cc6 (h.resolve_right (by decide)), fun h => cc7 (h.resolve_right (by decide)), fun h => cc8 (h.resolve_right (by decide)), fun h => cc9 (h.resolve_right (by decide)), fun h => cc10 (h.resolve_right (by decide)), fun h => cc11 (h.resolve_right (by decide)), fun h => cc12 (h.resolve_right (by decide)), fun h => cc13 (h.resolve_right (by decide)), fun h => uu12 (fun d => h (.inl d)), fun h => uu13 (fun d => h (.inl d)), fun h => .inl (rr12 (h.resolve_right (by decide))), fun h => .inl (rr13 (h.resolve_right (by decide))), fun h => .inl (ii5 (h.resolve_right (by decide))), fun h => .inl (ii11 (h.resolve_right (by decide)))⟩
      clear hK cc0 cc1 cc2 cc3 cc4 cc5 cc6 cc7 cc8 cc9 cc10 cc11 cc12 cc13 uu12 uu13 rr12 rr13 ii5 ii11
      go_simp
      exact hfin
    · intro done us W hJ hdep haft hnot b hb hb' K hK Q'
      obtain ⟨hX0, cc0, cc1, cc2, cc3, cc4, cc5, cc6, cc7, cc8, cc9, cc10, cc11, cc12, cc13, uu12, uu13, rr12, rr13, ii5, ii11⟩ := hJ
      simp only [List.getD_cons_succ, List.getD_cons_zero, List.mem_cons, List.not_mem_nil, or_false, forall_eq] at hdep
      have e67 := hb 1 67 rfl
      rw [cc1 hdep] at e67
      clear hb hb'
      have hfin := hK (.pointer (some ⟨gs, ii * 2, none⟩)) _ ⟨hX0, fun h => cc0 (h.resolve_right (by decide)), fun h => cc1 (h.resolve_right (by decide)), fun _ => rfl, fun h => cc3 (h.resolve_right (by decide)), fun h => cc4 (h.resolve_right (by decide)), fun h => cc5 (h.resolve_right (by decide)), fun h => cc6 (h.resolve_right (by decide)), fun h => cc7 (h.resolve_right (by decide)), fun h => cc8 (h.resolve_right (by decide)), fun h => cc9 (h.resolve_right (by decide)), fun h => cc10 (h.resolve_right (by decide)), fun h => cc11 (h.resolve_right (by decide)), fun h => cc12 (h.resolve_right (by decide)), fun h => cc13 (h.resolve_right (by decide)), fun h => uu12 (fun d => h (.inl d)), fun h => uu13 (fun d => h (.inl d)), fun h => .inl (rr12 (h.resolve_right (by decide))), fun h => .inl (rr13 (h.resolve_right (by decide))), fun h => .inl (ii5 (h.resolve_right (by decide))), fun h => .inl (ii11 (h.resolve_right (by decide)))⟩
      clear hK cc0 cc1 cc2 cc3 cc4 cc5 cc6 cc7 cc8 cc9 cc10 cc11 cc12 cc13 uu12 uu13 rr12 rr13 ii5 ii11
      go_simp
      exact hfin
    · intro done us W hJ hdep haft hnot b hb hb' K hK Q'
      obtain ⟨hX0, cc0, cc1, cc2, cc3, cc4, cc5, cc6, cc7, cc8, cc9, cc10, cc11, cc12, cc13, uu12, uu13, rr12, rr13, ii5, ii11⟩ := hJ
      simp only [List.getD_cons_succ, List.getD_cons_zero, List.mem_cons, List.not_mem_nil, or_false, forall_eq] at hdep
      have e68 := hb 2 68 rfl
      rw [cc2 hdep] at e68
      clear hb hb'
      have q0 := Ext.cell hX0 ca
      have hfin := hK (.int .i64 (xa)) _ ⟨hX0, fun h => cc0 (h.resolve_right (by decide)), fun h => cc1 (h.resolve_right (by decide)), fun h => cc2 (h.resolve_right (by decide)), fun _ => rfl, fun h => cc4 (h.resolve_right (by decide)), fun h => cc5 (h.resolve_right (by decide)), fun h => cc6 (h.resolve_right (by decide)), fun h => cc7 (h.resolve_right (by decide)), fun h => cc8 (h.resolve_right (by decide)), fun h => cc9 (h.resolve_right (by decide)), fun h => cc10 (h.resolve_right (by decide)), fun h => cc11 (h.resolve_right (by decide)), fun h => cc12 (h.resolve_right (by decide)), fun h => cc13 (h.resolve_right (by decide)), fun h => uu12 (fun d => h (.inl d)), fun h => uu13 (fun d => h (.inl d)), fun h => .inl (rr12 (h.resolve_right (by decide))), fun h => .inl (rr13 (h.resolve_right (by decide))), fun h => .inl (ii5 (h.resolve_right (by decide))), fun h => .inl (ii11 (h.resolve_right (by decide)))⟩
      clear hK cc0 cc1 cc2 cc3 cc4 cc5 cc6 cc7 cc8 cc9 cc10 cc11 cc12 cc13 uu12 uu13 rr12 rr13 ii5 ii11
      go_simp
      exact hfin
    · intro done us W hJ hdep haft hnot b hb hb' K hK Q'
      obtain ⟨hX0, cc0, cc1, cc2, cc3, cc4, cc5, cc6, cc7, cc8, cc9, cc10, cc11, cc12, cc13, uu12, uu13, rr12, rr13, ii5, ii11⟩ := hJ
      have e13 := hb 12 13 rfl
      rw [uu12 (fun h => hnot (rr12 h))] at e13
      clear hb hb'
      have hfin := hK (.int .i64 (f1)) _ ⟨hX0, fun h => cc0 (h.resolve_right (by decide)), fun h => cc1 (h.resolve_right (by decide)), fun h => cc2 (h.resolve_right (by decide)), fun h => cc3 (h.resolve_right (by decide)), fun _ => rfl, fun h => cc5 (h.resolve_right (by decide)), fun h => cc6 (h.resolve_right (by decide)), fun h => cc7 (h.resolve_right (by decide)), fun h => cc8 (h.resolve_right (by decide)), fun h => cc9 (h.resolve_right (by decide)), fun h => cc10 (h.resolve_right (by decide)), fun h => cc11 (h.resolve_right (by decide)), fun h => cc12 (h.resolve_right (by decide)), fun h => cc13 (h.resolve_right (by decide)), fun h => uu12 (fun d => h (.inl d)), fun h => uu13 (fun d => h (.inl d)), fun h => .inl (rr12 (h.resolve_right (by decide))), fun h => .inl (rr13 (h.resolve_right (by decide))), fun h => .inl (ii5 (h.resolve_right (by decide))), fun h => .inl (ii11 (h.resolve_right (by decide)))⟩
      clear hK cc0 cc1 cc2 cc3 cc4 cc5 cc6 cc7 cc8 cc9 cc10 cc11 cc12 cc13 uu12 uu13 rr12 rr13 ii5 ii11
      go_simp
      exact hfin
    · intro done us W hJ hdep haft hnot b hb hb' K hK Q'
      obtain ⟨hX0, cc0, cc1, cc2, cc3, cc4, cc5, cc6, cc7, cc8, cc9, cc10, cc11, cc12, cc13, uu12, uu13, rr12, rr13, ii5, ii11⟩ := hJ
      simp only [List.getD_cons_succ, List.getD_cons_zero, List.mem_cons, List.not_mem_nil, or_false, forall_eq_or_imp, forall_eq] at hdep
      have e69 := hb 3 69 rfl
      rw [cc3 hdep.1] at e69
      have e70 := hb 4 70 rfl
      rw [cc4 hdep.2] at e70
      clear hb hb'
      have qw : IntKind.i64.wrap (xa + f1) = xa + f1 := IntWalk.i64_in _ (by omega)
      have hfin := hK (.int .i64 (xa + f1)) _ ⟨hX0, fun h => cc0 (h.resolve_right (by decide)), fun h => cc1 (h.resolve_right (by decide)), fun h => cc2 (h.resolve_right (by decide)), fun h => cc3 (h.resolve_right (by decide)), fun h => cc4 (h.resolve_right (by decide)), fun _ => rfl, fun h => cc6 (h.resolve_right (by decide)), fun h => cc7 (h.resolve_right (by decide)), fun h => cc8 (h.resolve_right (by decide)), fun h => cc9 (h.resolve_right (by decide)), fun h => cc10 (h.resolve_right (by decide)), fun h => cc11 (h.resolve_right (by decide)), fun h => cc12 (h.resolve_right (by decide)), fun h => cc13 (h.resolve_right (by decide)), fun h => uu12 (fun d => h (.inl d)), fun h => uu13 (fun d => h (.inl d)), fun h => .inl (rr12 (h.resolve_right (by decide))), fun h => .inl (rr13 (h.resolve_right (by decide))), fun _ => .inl hdep.2, fun h => .inl (ii11 (h.resolve_right (by decide)))⟩
      clear hK cc0 cc1 cc2 cc3 cc4 cc5 cc6 cc7 cc8 cc9 cc10 cc11 cc12 cc13 uu12 uu13 rr12 rr13 ii5 ii11
      go_simp
      exact hfin
    · intro done us W hJ hdep haft hnot b hb hb' K hK Q'
      obtain ⟨hX0, cc0, cc1, cc2, cc3, cc4, cc5, cc6, cc7, cc8, cc9, cc10, cc11, cc12, cc13, uu12, uu13, rr12, rr13, ii5, ii11⟩ := hJ
      have e11 := (hb' 11 (by simp)).trans s11
      clear hb hb'
      have hfin := hK (.int .i64 (ii : Int)) _ ⟨hX0, fun h => cc0 (h.resolve_right (by decide)), fun h => cc1 (h.resolve_right (by decide)), fun h => cc2 (h.resolve_right (by decide)), fun h => cc3 (h.resolve_right (by decide)), fun h => cc4 (h.resolve_right (by decide)), fun h => cc5 (h.resolve_right (by decide)), fun _ => rfl, fun h => cc7 (h.resolve_right (by decide)), fun h => cc8 (h.resolve_right (by decide)), fun h => cc9 (h.resolve_right (by decide)), fun h => cc10 (h.resolve_right (by decide)), fun h => cc11 (h.resolve_right (by decide)), fun h => cc12 (h.resolve_right (by decide)), fun h => cc13 (h.resolve_right (by decide)), fun h => uu12 (fun d => h (.inl d)), fun h => uu13 (fun d => h (.inl d)), fun h => .inl (rr12 (h.resolve_right (by decide))), fun h => .inl (rr13 (h.resolve_right (by decide))), fun h => .inl (ii5 (h.resolve_right (by decide))), fun h => .inl (ii11 (h.resolve_right (by decide)))⟩
      clear hK cc0 cc1 cc2 cc3 cc4 cc5 cc6 cc7 cc8 cc9 cc10 cc11 cc12 cc13 uu12 uu13 rr12 rr13 ii5 ii11
      go_simp
      exact hfin
    · intro done us W hJ hdep haft hnot b hb hb' K hK Q'
      obtain ⟨hX0, cc0, cc1, cc2, cc3, cc4, cc5, cc6, cc7, cc8, cc9, cc10, cc11, cc12, cc13, uu12, uu13, rr12, rr13, ii5, ii11⟩ := hJ
      simp only [List.getD_cons_succ, List.getD_cons_zero, List.mem_cons, List.not_mem_nil, or_false, forall_eq] at hdep
      have e6 := (hb' 6 (by simp)).trans s6
      have e72 := hb 6 72 rfl
      rw [cc6 hdep] at e72
      clear hb hb'
      have hfin := hK (.pointer (some ⟨gs, ii * 2, none⟩)) _ ⟨hX0, fun h => cc0 (h.resolve_right (by decide)), fun h => cc1 (h.resolve_right (by decide)), fun h => cc2 (h.resolve_right (by decide)), fun h => cc3 (h.resolve_right (by decide)), fun h => cc4 (h.resolve_right (by decide)), fun h => cc5 (h.resolve_right (by decide)), fun h => cc6 (h.resolve_right (by decide)), fun _ => rfl, fun h => cc8 (h.resolve_right (by decide)), fun h => cc9 (h.resolve_right (by decide)), fun h => cc10 (h.resolve_right (by decide)), fun h => cc11 (h.resolve_right (by decide)), fun h => cc12 (h.resolve_right (by decide)), fun h => cc13 (h.resolve_right (by decide)), fun h => uu12 (fun d => h (.inl d)), fun h => uu13 (fun d => h (.inl d)), fun h => .inl (rr12 (h.resolve_right (by decide))), fun h => .inl (rr13 (h.resolve_right (by decide))), fun h => .inl (ii5 (h.resolve_right (by decide))), fun h => .inl (ii11 (h.resolve_right (by decide)))⟩
      clear hK cc0 cc1 cc2 cc3 cc4 cc5 cc6 cc7 cc8 cc9 cc10 cc11 cc12 cc13 uu12 uu13 rr12 rr13 ii5 ii11
      go_simp
      exact hfin
    · intro done us W hJ hdep haft hnot b hb hb' K hK Q'
      obtain ⟨hX0, cc0, cc1, cc2, cc3, cc4, cc5, cc6, cc7, cc8, cc9, cc10, cc11, cc12, cc13, uu12, uu13, rr12, rr13, ii5, ii11⟩ := hJ
      simp only [List.getD_cons_succ, List.getD_cons_zero, List.mem_cons, List.not_mem_nil, or_false, forall_eq] at hdep
      have e73 := hb 7 73 rfl
      rw [cc7 hdep] at e73
      clear hb hb'
      have hfin := hK (.pointer (some ⟨gs, ii * 2 + 1, none⟩)) _ ⟨hX0, fun h => cc0 (h.resolve_right (by decide)), fun h => cc1 (h.resolve_right (by decide)), fun h => cc2 (h.resolve_right (by decide)), fun h => cc3 (h.resolve_right (by decide)), fun h => cc4 (h.resolve_right (by decide)), fun h => cc5 (h.resolve_right (by decide)), fun h => cc6 (h.resolve_right (by decide)), fun h => cc7 (h.resolve_right (by decide)), fun _ => rfl, fun h => cc9 (h.resolve_right (by decide)), fun h => cc10 (h.resolve_right (by decide)), fun h => cc11 (h.resolve_right (by decide)), fun h => cc12 (h.resolve_right (by decide)), fun h => cc13 (h.resolve_right (by decide)), fun h => uu12 (fun d => h (.inl d)), fun h => uu13 (fun d => h (.inl d)), fun h => .inl (rr12 (h.resolve_right (by decide))), fun h => .inl (rr13 (h.resolve_right (by decide))), fun h => .inl (ii5 (h.resolve_right (by decide))), fun h => .inl (ii11 (h.resolve_right (by decide)))⟩
      clear hK cc0 cc1 cc2 cc3 cc4 cc5 cc6 cc7 cc8 cc9 cc10 cc11 cc12 cc13 uu12 uu13 rr12 rr13 ii5 ii11
      go_simp
      exact hfin
    · intro done us W hJ hdep haft hnot b hb hb' K hK Q'
      obtain ⟨hX0, cc0, cc1, cc2, cc3, cc4, cc5, cc6, cc7, cc8, cc9, cc10, cc11, cc12, cc13, uu12, uu13, rr12, rr13, ii5, ii11⟩ := hJ
      simp only [List.getD_cons_succ, List.getD_cons_zero, List.mem_cons, List.not_mem_nil, or_false, forall_eq] at hdep
      have e74 := hb 8 74 rfl
      rw [cc8 hdep] at e74
      clear hb hb'
      have q0 := Ext.cell hX0 cb
      have hfin := hK (.int .i64 (xb)) _ ⟨hX0, fun h => cc0 (h.resolve_right (by decide)), fun h => cc1 (h.resolve_right (by decide)), fun h => cc2 (h.resolve_right (by decide)), fun h => cc3 (h.resolve_right (by decide)), fun h => cc4 (h.resolve_right (by decide)), fun h => cc5 (h.resolve_right (by decide)), fun h => cc6 (h.resolve_right (by decide)), fun h => cc7 (h.resolve_right (by decide)), fun h => cc8 (h.resolve_right (by decide)), fun _ => rfl, fun h => cc10 (h.resolve_right (by decide)), fun h => cc11 (h.resolve_right (by decide)), fun h => cc12 (h.resolve_right (by decide)), fun h => cc13 (h.resolve_right (by decide)), fun h => uu12 (fun d => h (.inl d)), fun h => uu13 (fun d => h (.inl d)), fun h => .inl (rr12 (h.resolve_right (by decide))), fun h => .inl (rr13 (h.resolve_right (by decide))), fun h => .inl (ii5 (h.resolve_right (by decide))), fun h => .inl (ii11 (h.resolve_right (by decide)))⟩
      clear hK cc0 cc1 cc2 cc3 cc4 cc5 cc6 cc7 cc8 cc9 cc10 cc11 cc12 cc13 uu12 uu13 rr12 rr13 ii5 ii11
      go_simp
      exact hfin
    · intro done us W hJ hdep haft hnot b hb hb' K hK Q'
      obtain ⟨hX0, cc0, cc1, cc2, cc3, cc4, cc5, cc6, cc7, cc8, cc9, cc10, cc11, cc12, cc13, uu12, uu13, rr12, rr13, ii5, ii11⟩ := hJ
      have e15 := hb 13 15 rfl
      rw [uu13 (fun h => hnot (rr13 h))] at e15
      clear hb hb'
      have hfin := hK (.int .i64 (f2)) _ ⟨hX0, fun h => cc0 (h.resolve_right (by decide)), fun h => cc1 (h.resolve_right (by decide)), fun h => cc2 (h.resolve_right (by decide)), fun h => cc3 (h.resolve_right (by decide)), fun h => cc4 (h.resolve_right (by decide)), fun h => cc5 (h.resolve_right (by decide)), fun h => cc6 (h.resolve_right (by decide)), fun h => cc7 (h.resolve_right (by decide)), fun h => cc8 (h.resolve_right (by decide)), fun h => cc9 (h.resolve_right (by decide)), fun _ => rfl, fun h => cc11 (h.resolve_right (by decide)), fun h => cc12 (h.resolve_right (by decide)), fun h => cc13 (h.resolve_right (by decide)), fun h => uu12 (fun d => h (.inl d)), fun h => uu13 (fun d => h (.inl d)), fun h => .inl (rr12 (h.resolve_right (by decide))), fun h => .inl (rr13 (h.resolve_right (by decide))), fun h => .inl (ii5 (h.resolve_right (by decide))), fun h => .inl (ii11 (h.resolve_right (by decide)))⟩
      clear hK cc0 cc1 cc2 cc3 cc4 cc5 cc6 cc7 cc8 cc9 cc10 cc11 cc12 cc13 uu12 uu13 rr12 rr13 ii5 ii11
      go_simp
      exact hfin
    · intro done us W hJ hdep haft hnot b hb hb' K hK Q'
      obtain ⟨hX0, cc0, cc1, cc2, cc3, cc4, cc5, cc6, cc7, cc8, cc9, cc10, cc11, cc12, cc13, uu12, uu13, rr12, rr13, ii5, ii11⟩ := hJ
      simp only [List.getD_cons_succ, List.getD_cons_zero, List.mem_cons, List.not_mem_nil, or_false, forall_eq_or_imp, forall_eq] at hdep
      have e75 := hb 9 75 rfl
      rw [cc9 hdep.1] at e75
      have e76 := hb 10 76 rfl
      rw [cc10 hdep.2] at e76
      clear hb hb'
      have qw : IntKind.i64.wrap (xb - f2) = xb - f2 := IntWalk.i64_in _ (by omega)
      have hfin := hK (.int .i64 (xb - f2)) _ ⟨hX0, fun h => cc0 (h.resolve_right (by decide)), fun h => cc1 (h.resolve_right (by decide)), fun h => cc2 (h.resolve_right (by decide)), fun h => cc3 (h.resolve_right (by decide)), fun h => cc4 (h.resolve_right (by decide)), fun h => cc5 (h.resolve_right (by decide)), fun h => cc6 (h.resolve_right (by decide)), fun h => cc7 (h.resolve_right (by decide)), fun h => cc8 (h.resolve_right (by decide)), fun h => cc9 (h.resolve_right (by decide)), fun h => cc10 (h.resolve_right (by decide)), fun _ => rfl, fun h => cc12 (h.resolve_right (by decide)), fun h => cc13 (h.resolve_right (by decide)), fun h => uu12 (fun d => h (.inl d)), fun h => uu13 (fun d => h (.inl d)), fun h => .inl (rr12 (h.resolve_right (by decide))), fun h => .inl (rr13 (h.resolve_right (by decide))), fun h => .inl (ii5 (h.resolve_right (by decide))), fun _ => .inl hdep.2⟩
      clear hK cc0 cc1 cc2 cc3 cc4 cc5 cc6 cc7 cc8 cc9 cc10 cc11 cc12 cc13 uu12 uu13 rr12 rr13 ii5 ii11
      go_simp
      exact hfin
    · intro done us W hJ hdep haft hnot b hb hb' K hK Q'
      obtain ⟨hX0, cc0, cc1, cc2, cc3, cc4, cc5, cc6, cc7, cc8, cc9, cc10, cc11, cc12, cc13, uu12, uu13, rr12, rr13, ii5, ii11⟩ := hJ
      simp only [List.getD_cons_succ, List.getD_cons_zero, List.mem_cons, List.not_mem_nil, or_false, forall_eq] at hdep
      have e71 := hb 5 71 rfl
      rw [cc5 hdep] at e71
      clear hb hb'
      have hfin := hK (.int .i64 (xa + f1)) _ ⟨hX0, fun h => cc0 (h.resolve_right (by decide)), fun h => cc1 (h.resolve_right (by decide)), fun h => cc2 (h.resolve_right (by decide)), fun h => cc3 (h.resolve_right (by decide)), fun h => cc4 (h.resolve_right (by decide)), fun h => cc5 (h.resolve_right (by decide)), fun h => cc6 (h.resolve_right (by decide)), fun h => cc7 (h.resolve_right (by decide)), fun h => cc8 (h.resolve_right (by decide)), fun h => cc9 (h.resolve_right (by decide)), fun h => cc10 (h.resolve_right (by decide)), fun h => cc11 (h.resolve_right (by decide)), fun _ => rfl, fun h => cc13 (h.resolve_right (by decide)), fun h => absurd (.inr rfl) h, fun h => uu13 (fun d => h (.inl d)), fun _ => .inl (ii5 hdep), fun h => .inl (rr13 (h.resolve_right (by decide))), fun h => .inl (ii5 (h.resolve_right (by decide))), fun h => .inl (ii11 (h.resolve_right (by decide)))⟩
      clear hK cc0 cc1 cc2 cc3 cc4 cc5 cc6 cc7 cc8 cc9 cc10 cc11 cc12 cc13 uu12 uu13 rr12 rr13 ii5 ii11
      go_simp
      exact hfin
    · intro done us W hJ hdep haft hnot b hb hb' K hK Q'
      obtain ⟨hX0, cc0, cc1, cc2, cc3, cc4, cc5, cc6, cc7, cc8, cc9, cc10, cc11, cc12, cc13, uu12, uu13, rr12, rr13, ii5, ii11⟩ := hJ
      simp only [List.getD_cons_succ, List.getD_cons_zero, List.mem_cons, List.not_mem_nil, or_false, forall_eq] at hdep
      have e77 := hb 11 77 rfl
      rw [cc11 hdep] at e77
      clear hb hb'
      have hfin := hK (.int .i64 (xb - f2)) _ ⟨hX0, fun h => cc0 (h.resolve_right (by decide)), fun h => cc1 (h.resolve_right (by decide)), fun h => cc2 (h.resolve_right (by decide)), fun h => cc3 (h.resolve_right (by decide)), fun h => cc4 (h.resolve_right (by decide)), fun h => cc5 (h.resolve_right (by decide)), fun h => cc6 (h.resolve_right (by decide)), fun h => cc7 (h.resolve_right (by decide)), fun h => cc8 (h.resolve_right (by decide)), fun h => cc9 (h.resolve_right (by decide)), fun h => cc10 (h.resolve_right (by decide)), fun h => cc11 (h.resolve_right (by decide)), fun h => cc12 (h.resolve_right (by decide)), fun _ => rfl, fun h => uu12 (fun d => h (.inl d)), fun h => absurd (.inr rfl) h, fun h => .inl (rr12 (h.resolve_right (by decide))), fun _ => .inl (ii11 hdep), fun h => .inl (ii5 (h.resolve_right (by decide))), fun h => .inl (ii11 (h.resolve_right (by decide)))⟩
      clear hK cc0 cc1 cc2 cc3 cc4 cc5 cc6 cc7 cc8 cc9 cc10 cc11 cc12 cc13 uu12 uu13 rr12 rr13 ii5 ii11
      go_simp
      exact hfin
  · intro us W hJ
    obtain ⟨hX0, cc0, cc1, cc2, cc3, cc4, cc5, cc6, cc7, cc8, cc9, cc10, cc11, cc12, cc13, uu12, uu13, rr12, rr13, ii5, ii11⟩ := hJ
    exact hend (us 0) (us 1) (us 2) (us 3) (us 4) (us 5) (us 6) (us 7) (us 8) (us 9) (us 10) (us 11) (us 12) (us 13) W (cc0 (show 0 < 14 by decide)) (cc1 (show 1 < 14 by decide)) (cc2 (show 2 < 14 by decide)) (cc3 (show 3 < 14 by decide)) (cc4 (show 4 < 14 by decide)) (cc5 (show 5 < 14 by decide)) (cc6 (show 6 < 14 by decide)) (cc7 (show 7 < 14 by decide)) (cc8 (show 8 < 14 by decide)) (cc9 (show 9 < 14 by decide)) (cc10 (show 10 < 14 by decide)) (cc11 (show 11 < 14 by decide)) (cc12 (show 12 < 14 by decide)) (cc13 (show 13 < 14 by decide)) hX0
set_option maxRecDepth 100000 in
set_option maxHeartbeats 16000000 in
theorem moveP_any (lo hi : Nat → Int) (o : Nat → Option Rat) (s0 : Bool) (A0 B0 : Option Addr) (l0 c0 m0 k0 : Nat) (s1 : Bool) (A1 B1 : Option Addr) (l1 c1 m1 k1 : Nat) (s2 : Bool) (A2 B2 : Option Addr) (l2 c2 m2 k2 : Nat) (w : World) (h0 : NumS w (.agg #[.bool s0, .slice A0 l0 c0, .slice B0 m0 k0]) (o 0)) (h1 : NumS w (.agg #[.bool s1, .slice A1 l1 c1, .slice B1 m1 k1]) (o 1)) (h2 : NumS w (.agg #[.bool s2, .slice A2 l2 c2, .slice B2 m2 k2]) (o 2)) :
    Calls Try.prog 63 #[.agg #[.int .i64 (lo 0), .int .i64 (hi 0), .int .i64 (lo 1), .int .i64 (hi 1), .int .i64 (lo 2), .int .i64 (hi 2)], .agg #[.bool s0, .slice A0 l0 c0, .slice B0 m0 k0, .bool s1, .slice A1 l1 c1, .slice B1 m1 k1, .bool s2, .slice A2 l2 c2, .slice B2 m2 k2]] w (fun e w' => e = .returned (.tuple #[boxV (mvA lo hi o).1 (mvA lo hi o).2.1, .int .i64 (mvA lo hi o).2.2]) ∧ Ext w w') := by
  have hXe : Ext w (((w.alloc (.cells #[.int .i64 (lo 0), .int .i64 (hi 0), .int .i64 (lo 1), .int .i64 (hi 1), .int .i64 (lo 2), .int .i64 (hi 2)] 54)).alloc (.cells #[.bool s0, .slice A0 l0 c0, .slice B0 m0 k0, .bool s1, .slice A1 l1 c1, .slice B1 m1 k1, .bool s2, .slice A2 l2 c2, .slice B2 m2 k2] 98)).alloc (.cells #[.int .i64 0, .int .i64 0, .int .i64 0, .int .i64 0, .int .i64 0, .int .i64 0] 54)) := (((Ext.refl w).alloc _).alloc _).alloc _
  have kB : Blk (((w.alloc (.cells #[.int .i64 (lo 0), .int .i64 (hi 0), .int .i64 (lo 1), .int .i64 (hi 1), .int .i64 (lo 2), .int .i64 (hi 2)] 54)).alloc (.cells #[.bool s0, .slice A0 l0 c0, .slice B0 m0 k0, .bool s1, .slice A1 l1 c1, .slice B1 m1 k1, .bool s2, .slice A2 l2 c2, .slice B2 m2 k2] 98)).alloc (.cells #[.int .i64 0, .int .i64 0, .int .i64 0, .int .i64 0, .int .i64 0, .int .i64 0] 54)) w.heap.size 54 #[.int .i64 (lo 0), .int .i64 (hi 0), .int .i64 (lo 1), .int .i64 (hi 1), .int .i64 (lo 2), .int .i64 (hi 2)] := Blk.alloc (Blk.alloc (Blk.new w _ _) _) _
  have kT : Blk (((w.alloc (.cells #[.int .i64 (lo 0), .int .i64 (hi 0), .int .i64 (lo 1), .int .i64 (hi 1), .int .i64 (lo 2), .int .i64 (hi 2)] 54)).alloc (.cells #[.bool s0, .slice A0 l0 c0, .slice B0 m0 k0, .bool s1, .slice A1 l1 c1, .slice B1 m1 k1, .bool s2, .slice A2 l2 c2, .slice B2 m2 k2] 98)).alloc (.cells #[.int .i64 0, .int .i64 0, .int .i64 0, .int .i64 0, .int .i64 0, .int .i64 0] 54)) (w.heap.size + 1) 98 #[.bool s0, .slice A0 l0 c0, .slice B0 m0 k0, .bool s1, .slice A1 l1 c1, .slice B1 m1 k1, .bool s2, .slice A2 l2 c2, .slice B2 m2 k2] := Blk.alloc (Blk.at_ (by simp)) _
  have kR : Blk (((w.alloc (.cells #[.int .i64 (lo 0), .int .i64 (hi 0), .int .i64 (lo 1), .int .i64 (hi 1), .int .i64 (lo 2), .int .i64 (hi 2)] 54)).alloc (.cells #[.bool s0, .slice A0 l0 c0, .slice B0 m0 k0, .bool s1, .slice A1 l1 c1, .slice B1 m1 k1, .bool s2, .slice A2 l2 c2, .slice B2 m2 k2] 98)).alloc (.cells #[.int .i64 0, .int .i64 0, .int .i64 0, .int .i64 0, .int .i64 0, .int .i64 0] 54)) (w.heap.size + 2) 54 #[.int .i64 0, .int .i64 0, .int .i64 0, .int .i64 0, .int .i64 0, .int .i64 0] := Blk.at_ (by simp)
  have H0 := Lib.hid h0
  have H1 := Lib.hid h1
  have H2 := Lib.hid h2
  clear h0 h1 h2
  go_enter Try.func63, Try.ntmps63
  go_upto_region 1 with (fail)
  generalize ((w.alloc (.cells #[.int .i64 (lo 0), .int .i64 (hi 0), .int .i64 (lo 1), .int .i64 (hi 1), .int .i64 (lo 2), .int .i64 (hi 2)] 54)).alloc (.cells #[.bool s0, .slice A0 l0 c0, .slice B0 m0 k0, .bool s1, .slice A1 l1 c1, .slice B1 m1 k1, .bool s2, .slice A2 l2 c2, .slice B2 m2 k2] 98)).alloc (.cells #[.int .i64 0, .int .i64 0, .int .i64 0, .int .i64 0, .int .i64 0, .int .i64 0] 54) = w1 at hXe kB kT kR ⊢
  have HX := Lib.hid hXe
  have HT := Lib.hid kT
  have HR := Lib.hid kR
  clear hXe kT kR
  have b0 := kB.cell 0
  have b1 := kB.cell 1
  have b2 := kB.cell 2
  have b3 := kB.cell 3
  have b4 := kB.cell 4
  have b5 := kB.cell 5
  simp only [List.getElem?_toArray, List.getElem?_cons_zero, List.getElem?_cons_succ] at b0 b1 b2 b3 b4 b5
  clear kB
  go_upto_region 2 with (fail)
  have hXa : Ext w1 (w1.alloc (.cells #[.int .i64 (lo 0), .int .i64 (hi 0), .int .i64 (lo 1), .int .i64 (hi 1), .int .i64 (lo 2), .int .i64 (hi 2)] 47)) := (Ext.refl _).alloc _
  have kS : B6 (w1.alloc (.cells #[.int .i64 (lo 0), .int .i64 (hi 0), .int .i64 (lo 1), .int .i64 (hi 1), .int .i64 (lo 2), .int .i64 (hi 2)] 47)) w1.heap.size 47 lo hi := Blk.new w1 _ _
  have hrl := HR.out.lt
  replace HX := Lib.hid (HX.out.trans hXa)
  replace HT := Lib.hid (HT.out.ext hXa)
  replace HR := Lib.hid (HR.out.ext hXa)
  clear hXa b0 b1 b2 b3 b4 b5
  generalize w1.heap.size = gs at kS hrl ⊢
  generalize w1.alloc (.cells #[.int .i64 (lo 0), .int .i64 (hi 0), .int .i64 (lo 1), .int .i64 (hi 1), .int .i64 (lo 2), .int .i64 (hi 2)] 47) = w2 at kS HX HT HR ⊢
  have HS := Lib.hid kS
  unfold B6 at kS
  have b0 := kS.cell 0
  have b1 := kS.cell 1
  have b2 := kS.cell 2
  have b3 := kS.cell 3
  have b4 := kS.cell 4
  have b5 := kS.cell 5
  simp only [List.getElem?_toArray, List.getElem?_cons_zero, List.getElem?_cons_succ] at b0 b1 b2 b3 b4 b5
  clear kS
  go_wp2_with fail
  clear b0 b1 b2 b3 b4 b5
  go_loopg [25] 3 (fun fu iv wr => ∃ k : Nat, fu = 3 - k ∧ k ≤ 3 ∧ iv = .int .i64 (k : Int) ∧ Hid (∀ j, j < k → okS (lo j) (hi j) = true) ∧ Hid (B6 wr gs 47 lo hi) ∧ Hid (Blk wr (w.heap.size + 1) 98 #[.bool s0, .slice A0 l0 c0, .slice B0 m0 k0, .bool s1, .slice A1 l1 c1, .slice B1 m1 k1, .bool s2, .slice A2 l2 c2, .slice B2 m2 k2]) ∧ Hid (Blk wr (w.heap.size + 2) 54 #[.int .i64 0, .int .i64 0, .int .i64 0, .int .i64 0, .int .i64 0, .int .i64 0]) ∧ Hid (Ext w wr))
  case atStart => exact ⟨0, rfl, by omega, rfl, Lib.hid (fun j hj => by omega), HS, HT, HR, HX⟩
  case round =>
    clear HS HT HR HX
    obtain ⟨k, rfl, hk, rfl, HOK, HS, HT, HR, HX⟩ := hrel
    by_cases hk3 : k < 3
    · have q1 : decide ((k : Int) < 3) = true := decide_eq_true (by omega)
      have q1b : decide (k < 3) = true := decide_eq_true hk3
      have ik := idx6S (.int .i64 (lo 0)) (.int .i64 (hi 0)) (.int .i64 (lo 1)) (.int .i64 (hi 1)) (.int .i64 (lo 2)) (.int .i64 (hi 2)) hk3
      rw [pick_fn lo hk3, pick_fn hi hk3] at ik
      go_upto_region 5 with (fail)
      have hXa : Ext wr (wr.alloc (.cells #[.int .i64 (lo k), .int .i64 (hi k)] 31)) := (Ext.refl _).alloc _
      have kB := Blk.new wr 31 #[.int .i64 (lo k), .int .i64 (hi k)]
      replace HX := Lib.hid (HX.out.trans hXa)
      replace HS := Lib.hid (HS.out.ext hXa)
      replace HT := Lib.hid (HT.out.ext hXa)
      replace HR := Lib.hid (HR.out.ext hXa)
      clear hXa ik
      generalize wr.heap.size = gx at kB ⊢
      generalize wr.alloc (.cells #[.int .i64 (lo k), .int .i64 (hi k)] 31) = w3 at kB HX HS HT HR ⊢
      have y0 := kB.cell 0
      have y1 := kB.cell 1
      simp only [List.getElem?_toArray, List.getElem?_cons_zero, List.getElem?_cons_succ] at y0 y1
      clear kB
      go_wp2_with fail
      refine (valid_any (lo k) (hi k) _).mono ?_
      obtain ⟨ob, hob⟩ : ∃ ob, okS (lo k) (hi k) = ob := ⟨_, rfl⟩
      rw [hob]
      have HOB := Lib.hid hob
      clear hob
      rintro e w4 ⟨rfl, hX⟩
      replace HX := Lib.hid (HX.out.trans hX)
      replace HS := Lib.hid (HS.out.ext hX)
      replace HT := Lib.hid (HT.out.ext hX)
      replace HR := Lib.hid (HR.out.ext hX)
      clear hX y0 y1
      by_cases hb : ob = true
      · subst hb
        go_wp2
        go_roundg (3 - (k + 1))
        case rel => exact ⟨k + 1, rfl, by omega, by go_num, Lib.hid (fun j hj => by by_cases e : j = k; (subst e; exact HOB.out); exact HOK.out j (by omega)), HS, HT, HR, HX⟩
        case measure => omega
      · obtain rfl : ob = false := by simpa using hb
        clear hb
        have HM : Hid (mvA lo hi o = (fun _ => 0, fun _ => 0, 2)) := Lib.hid (mvA_bad ⟨k, hk3, HOB.out⟩)
        have r0 := HR.out.cell 0
        have f0 := HR.out.free 0
        have r1 := HR.out.cell 1
        have f1 := HR.out.free 1
        have r2 := HR.out.cell 2
        have f2 := HR.out.free 2
        have r3 := HR.out.cell 3
        have f3 := HR.out.free 3
        have r4 := HR.out.cell 4
        have f4 := HR.out.free 4
        have r5 := HR.out.cell 5
        have f5 := HR.out.free 5
        simp only [List.getElem?_toArray, List.getElem?_cons_zero, List.getElem?_cons_succ] at r0 r1 r2 r3 r4 r5
        go_wp2
        refine bodyPost_ret (v := .tuple #[.agg #[.int .i64 0, .int .i64 0, .int .i64 0, .int .i64 0, .int .i64 0, .int .i64 0], .int .i64 2]) (by simp [results, Try.results63, go_sem, *]) rfl ?_
        exact ⟨by rw [HM.out]; rfl, ((((((HX.out.setCell (p := ⟨w.heap.size + 2, 0, none⟩) (by simp only; omega) _).setCell (p := ⟨w.heap.size + 2, 1, none⟩) (by simp only; omega) _).setCell (p := ⟨w.heap.size + 2, 2, none⟩) (by simp only; omega) _).setCell (p := ⟨w.heap.size + 2, 3, none⟩) (by simp only; omega) _).setCell (p := ⟨w.heap.size + 2, 4, none⟩) (by simp only; omega) _).setCell (p := ⟨w.heap.size + 2, 5, none⟩) (by simp only; omega) _)⟩
    · obtain rfl : k = 3 := by omega
      have q1 : decide (((3 : Nat) : Int) < 3) = false := by decide
      have HNB : Hid (¬ mvBad lo hi) := Lib.hid (fun ⟨k, hk, h⟩ => by rw [HOK.out k hk] at h; cases h)
      have kT := HT.out
      have t0 := kT.cell 0
      have t1 := kT.cell 1
      have t2 := kT.cell 2
      have t3 := kT.cell 3
      have t4 := kT.cell 4
      have t5 := kT.cell 5
      have t6 := kT.cell 6
      have t7 := kT.cell 7
      have t8 := kT.cell 8
      simp only [List.getElem?_toArray, List.getElem?_cons_zero, List.getElem?_cons_succ] at t0 t1 t2 t3 t4 t5 t6 t7 t8
      clear kT
      go_wp2_with fail
      clear t0 t1 t2 t3 t4 t5 t6 t7 t8
      go_loopg [34] 3 (fun fu iv wz => ∃ k : Nat, fu = 3 - k ∧ k ≤ 3 ∧ iv = .int .i64 (k : Int) ∧ Hid (∀ j, j < k → o j ≠ none) ∧ Hid (B6 wz gs 47 lo hi) ∧ Hid (Blk wz (w.heap.size + 1) 98 #[.bool s0, .slice A0 l0 c0, .slice B0 m0 k0, .bool s1, .slice A1 l1 c1, .slice B1 m1 k1, .bool s2, .slice A2 l2 c2, .slice B2 m2 k2]) ∧ Hid (Blk wz (w.heap.size + 2) 54 #[.int .i64 0, .int .i64 0, .int .i64 0, .int .i64 0, .int .i64 0, .int .i64 0]) ∧ Hid (Ext w wz))
      case atStart => exact ⟨0, rfl, by omega, rfl, Lib.hid (fun j hj => by omega), HS, HT, HR, HX⟩
      case round =>
        clear HS HT HR HX
        obtain ⟨k, rfl, hk, rfl, HNN, HS, HT, HR, HX⟩ := hrel
        by_cases hk3 : k < 3
        · have q2 : decide ((k : Int) < 3) = true := decide_eq_true (by omega)
          have q2b : decide (k < 3) = true := decide_eq_true hk3
          obtain ⟨s9, A9, l9, c9, B9, m9, k9, g1, g2, g3, hq⟩ := pick_aggO (P := NumS) (w := wr) (q := o) hk3 (H0.out.ext HX.out) (H1.out.ext HX.out) (H2.out.ext HX.out)
          have ik := idx9R (.bool s0) (.slice A0 l0 c0) (.slice B0 m0 k0) (.bool s1) (.slice A1 l1 c1) (.slice B1 m1 k1) (.bool s2) (.slice A2 l2 c2) (.slice B2 m2 k2) hk3
          rw [g1, g2, g3] at ik
          have HQ := Lib.hid hq
          clear hq g1 g2 g3
          go_upto_region 11 with (fail)
          have hXa : Ext wr (wr.alloc (.cells #[.bool s9, .slice A9 l9 c9, .slice B9 m9 k9] 97)) := (Ext.refl _).alloc _
          have kB := Blk.new wr 97 #[.bool s9, .slice A9 l9 c9, .slice B9 m9 k9]
          replace HX := Lib.hid (HX.out.trans hXa)
          replace HS := Lib.hid (HS.out.ext hXa)
          replace HT := Lib.hid (HT.out.ext hXa)
          replace HR := Lib.hid (HR.out.ext hXa)
          replace HQ := Lib.hid (HQ.out.ext hXa)
          clear hXa ik
          generalize wr.heap.size = gx at kB ⊢
          generalize wr.alloc (.cells #[.bool s9, .slice A9 l9 c9, .slice B9 m9 k9] 97) = w3 at kB HX HS HT HR HQ ⊢
          have y0 := kB.cell 0
          have y1 := kB.cell 1
          have y2 := kB.cell 2
          simp only [List.getElem?_toArray, List.getElem?_cons_zero, List.getElem?_cons_succ] at y0 y1 y2
          clear kB
          go_wp2_with fail
          refine (RatL.is HQ.out.big).mono ?_
          obtain ⟨ob, hob⟩ : ∃ ob, (o k).isNone = ob := ⟨_, rfl⟩
          rw [hob]
          have HOB := Lib.hid hob
          clear hob
          rintro e w4 ⟨rfl, hX⟩
          replace HX := Lib.hid (HX.out.trans hX)
          replace HS := Lib.hid (HS.out.ext hX)
          replace HT := Lib.hid (HT.out.ext hX)
          replace HR := Lib.hid (HR.out.ext hX)
          clear hX y0 y1 y2
          by_cases hb : ob = true
          · subst hb
            have HM : Hid (mvA lo hi o = (fun _ => 0, fun _ => 0, 51)) := Lib.hid (mvA_big HNB.out ⟨k, hk3, by simpa using HOB.out⟩)
            have r0 := HR.out.cell 0
            have f0 := HR.out.free 0
            have r1 := HR.out.cell 1
            have f1 := HR.out.free 1
            have r2 := HR.out.cell 2
            have f2 := HR.out.free 2
            have r3 := HR.out.cell 3
            have f3 := HR.out.free 3
            have r4 := HR.out.cell 4
            have f4 := HR.out.free 4
            have r5 := HR.out.cell 5
            have f5 := HR.out.free 5
            simp only [List.getElem?_toArray, List.getElem?_cons_zero, List.getElem?_cons_succ] at r0 r1 r2 r3 r4 r5
            go_wp2
            refine bodyPost_ret (v := .tuple #[.agg #[.int .i64 0, .int .i64 0, .int .i64 0, .int .i64 0, .int .i64 0, .int .i64 0], .int .i64 51]) (by simp [results, Try.results63, go_sem, *]) rfl ?_
            exact ⟨by rw [HM.out]; rfl, ((((((HX.out.setCell (p := ⟨w.heap.size + 2, 0, none⟩) (by simp only; omega) _).setCell (p := ⟨w.heap.size + 2, 1, none⟩) (by simp only; omega) _).setCell (p := ⟨w.heap.size + 2, 2, none⟩) (by simp only; omega) _).setCell (p := ⟨w.heap.size + 2, 3, none⟩) (by simp only; omega) _).setCell (p := ⟨w.heap.size + 2, 4, none⟩) (by simp only; omega) _).setCell (p := ⟨w.heap.size + 2, 5, none⟩) (by simp only; omega) _)⟩
          · obtain rfl : ob = false := by simpa using hb
            clear hb
            go_wp2
            go_roundg (3 - (k + 1))
            case rel => exact ⟨k + 1, rfl, by omega, by go_num, Lib.hid (fun j hj => by by_cases e : j = k; (subst e; intro h; have := HOB.out; rw [h] at this; cases this); exact HNN.out j (by omega)), HS, HT, HR, HX⟩
            case measure => omega
        · obtain rfl : k = 3 := by omega
          have q2 : decide (((3 : Nat) : Int) < 3) = false := by decide
          have HNO : Hid (¬ ∃ k, k < 3 ∧ o k = none) := Lib.hid (fun ⟨k, hk, h⟩ => HNN.out k hk h)
          obtain ⟨q, hq⟩ : ∃ q : Nat → Rat, q = fun k => (o k).getD 0 := ⟨_, rfl⟩
          have HQO : Hid (∀ k, k < 3 → o k = some (q k)) := Lib.hid (fun k hk => by
            rw [hq]
            cases ho : o k with
            | none => exact absurd ho (HNN.out k hk)
            | some x => simp [ho])
          have HQD := Lib.hid hq
          clear hq
          have kT := HT.out
          have t0 := kT.cell 0
          have t1 := kT.cell 1
          have t2 := kT.cell 2
          have t3 := kT.cell 3
          have t4 := kT.cell 4
          have t5 := kT.cell 5
          have t6 := kT.cell 6
          have t7 := kT.cell 7
          have t8 := kT.cell 8
          simp only [List.getElem?_toArray, List.getElem?_cons_zero, List.getElem?_cons_succ] at t0 t1 t2 t3 t4 t5 t6 t7 t8
          clear kT
          go_wp2_with fail
          clear t0 t1 t2 t3 t4 t5 t6 t7 t8
          go_loopg [42] 3 (fun fu iv wy => ∃ k : Nat, fu = 3 - k ∧ k ≤ 3 ∧ iv = .int .i64 (k : Int) ∧ Hid (∀ j, j < k → mvOk lo hi q j) ∧ Hid (B6 wy gs 47 (fun j => if j < k then mvL lo q j else lo j) (fun j => if j < k then mvH hi q j else hi j)) ∧ Hid (Blk wy (w.heap.size + 2) 54 #[.int .i64 0, .int .i64 0, .int .i64 0, .int .i64 0, .int .i64 0, .int .i64 0]) ∧ Hid (Ext w wy))
          case atStart => exact ⟨0, rfl, by omega, rfl, Lib.hid (fun j hj => by omega), Lib.hid (HS.out.congr (fun k _ => ⟨by rw [if_neg (by omega)], by rw [if_neg (by omega)]⟩)), HR, HX⟩
          case round =>
            clear HS HT HR HX
            obtain ⟨k, rfl, hk, rfl, HMO, HS, HR, HX⟩ := hrel
            by_cases hk3 : k < 3
            · have q3 : decide ((k : Int) < 3) = true := decide_eq_true (by omega)
              have q3b : decide (k < 3) = true := decide_eq_true hk3
              obtain ⟨s9, A9, l9, c9, B9, m9, k9, g1, g2, g3, hq⟩ := pick_aggO (P := NumS) (w := wr) (q := o) hk3 (H0.out.ext HX.out) (H1.out.ext HX.out) (H2.out.ext HX.out)
              have ik := idx9R (.bool s0) (.slice A0 l0 c0) (.slice B0 m0 k0) (.bool s1) (.slice A1 l1 c1) (.slice B1 m1 k1) (.bool s2) (.slice A2 l2 c2) (.slice B2 m2 k2) hk3
              rw [g1, g2, g3] at ik
              rw [HQO.out k hk3] at hq
              have HQ : Hid (RatG wr (.agg #[.bool s9, .slice A9 l9 c9, .slice B9 m9 k9]) (q k)) := Lib.hid hq
              clear hq g1 g2 g3
              go_upto_region 17 with (fail)
              have hXa : Ext wr (wr.alloc (.cells #[.bool s9, .slice A9 l9 c9, .slice B9 m9 k9] 97)) := (Ext.refl _).alloc _
              have kB := Blk.new wr 97 #[.bool s9, .slice A9 l9 c9, .slice B9 m9 k9]
              replace HX := Lib.hid (HX.out.trans hXa)
              replace HS := Lib.hid (HS.out.ext hXa)
              replace HR := Lib.hid (HR.out.ext hXa)
              replace HQ := Lib.hid (HQ.out.ext hXa)
              clear hXa ik
              generalize wr.heap.size = gx at kB ⊢
              generalize wr.alloc (.cells #[.bool s9, .slice A9 l9 c9, .slice B9 m9 k9] 97) = w3 at kB HX HS HR HQ ⊢
              have KB := Lib.hid kB
              clear kB
              have y0 := KB.out.cell 0
              have y1 := KB.out.cell 1
              have y2 := KB.out.cell 2
              simp only [List.getElem?_toArray, List.getElem?_cons_zero, List.getElem?_cons_succ] at y0 y1 y2
              go_wp2_with fail
              refine (ofG HQ.out).mono ?_
              rintro e w4 ⟨v4, rfl, hv, hX⟩
              replace HX := Lib.hid (HX.out.trans hX)
              replace HS := Lib.hid (HS.out.ext hX)
              replace HR := Lib.hid (HR.out.ext hX)
              replace HQ := Lib.hid (HQ.out.ext hX)
              replace KB := Lib.hid (KB.out.ext hX)
              have HN := Lib.hid hv
              obtain ⟨s4, A4, l4, c4, B4, m4, k4, rfl⟩ := NumX.open hv
              clear hX hv y0 y1 y2
              go_wp2_with fail
              refine (floorX HN.out (by omega)).mono ?_
              obtain ⟨b1, hb1⟩ : ∃ b1, flB (q k) = b1 := ⟨_, rfl⟩
              obtain ⟨f1, hf1⟩ : ∃ f1, flV (q k) = f1 := ⟨_, rfl⟩
              rw [hb1, hf1]
              have HB1 := Lib.hid hb1
              have HF1 := Lib.hid hf1
              clear hb1 hf1
              rintro e w5 ⟨rfl, hX⟩
              replace HX := Lib.hid (HX.out.trans hX)
              replace HS := Lib.hid (HS.out.ext hX)
              replace HR := Lib.hid (HR.out.ext hX)
              replace HQ := Lib.hid (HQ.out.ext hX)
              replace KB := Lib.hid (KB.out.ext hX)
              clear hX HN
              have y0 := KB.out.cell 0
              have y1 := KB.out.cell 1
              have y2 := KB.out.cell 2
              simp only [List.getElem?_toArray, List.getElem?_cons_zero, List.getElem?_cons_succ] at y0 y1 y2
              go_wp2_with fail
              refine (ofG HQ.out).mono ?_
              rintro e w6 ⟨v6, rfl, hv, hX⟩
              replace HX := Lib.hid (HX.out.trans hX)
              replace HS := Lib.hid (HS.out.ext hX)
              replace HR := Lib.hid (HR.out.ext hX)
              have HN := Lib.hid hv
              obtain ⟨s5, A5, l5, c5, B5, m5, k5, rfl⟩ := NumX.open hv
              clear hX hv y0 y1 y2 KB HQ
              go_wp2_with fail
              refine (negX HN.out).mono ?_
              rintro e w7 ⟨v7, rfl, hv, hX⟩
              replace HX := Lib.hid (HX.out.trans hX)
              replace HS := Lib.hid (HS.out.ext hX)
              replace HR := Lib.hid (HR.out.ext hX)
              replace HN := Lib.hid hv
              obtain ⟨s6, A6, l6, c6, B6, m6, k6, rfl⟩ := NumX.open hv
              clear hX hv
              go_wp2_with fail
              refine (floorX HN.out (by omega)).mono ?_
              obtain ⟨b2, hb2⟩ : ∃ b2, flB (-(q k)) = b2 := ⟨_, rfl⟩
              obtain ⟨f2, hf2⟩ : ∃ f2, flV (-(q k)) = f2 := ⟨_, rfl⟩
              rw [hb2, hf2]
              have HB2 := Lib.hid hb2
              have HF2 := Lib.hid hf2
              clear hb2 hf2
              rintro e w8 ⟨rfl, hX⟩
              replace HX := Lib.hid (HX.out.trans hX)
              replace HS := Lib.hid (HS.out.ext hX)
              replace HR := Lib.hid (HR.out.ext hX)
              clear hX HN
              have HOKK := Lib.hid (HOK.out k hk3)
              by_cases hbb : b1 = true ∧ b2 = true
              · obtain ⟨rfl, rfl⟩ := hbb
                have hS9 : -1152921504606846976 ≤ lo k ∧ lo k ≤ hi k ∧ hi k ≤ 1152921504606846976 := by have := HOKK.out; simpa [okS] using this
                obtain rfl : f1 = (q k).floor := by rw [← HF1.out, flV, if_pos HB1.out]
                obtain rfl : f2 = (-(q k)).floor := by rw [← HF2.out, flV, if_pos HB2.out]
                have hr1 : -4611686018427387904 ≤ (q k).floor ∧ (q k).floor ≤ 4611686018427387904 := by have := of_decide_eq_true HB1.out; omega
                have hr2 : -4611686018427387904 ≤ (-(q k)).floor ∧ (-(q k)).floor ≤ 4611686018427387904 := by have := of_decide_eq_true HB2.out; omega
                have hcell := HS.out.cell hk3
                simp only [Nat.lt_irrefl, if_false] at hcell
                have hL9 : lo k + (q k).floor = mvL lo q k := rfl
                have hH9 : hi k - (-(q k)).floor = mvH hi q k := rfl
                have HL9 := Lib.hid hL9
                have HH9 := Lib.hid hH9
                go_upto_region 21 with (fail)
                refine move_r21 gs k (lo k) (hi k) _ _ w8 hcell.1 hcell.2 (by omega) hk3 ⟨by omega, by omega⟩ ⟨by omega, by omega⟩ hr1 hr2 _ _ (by simp) rfl rfl rfl rfl ?_
                rintro xv0 xv1 xv2 xv3 xv4 xv5 xv6 xv7 xv8 xv9 xv10 xv11 xv12 xv13 W rfl rfl rfl rfl rfl rfl rfl rfl rfl rfl rfl rfl rfl rfl hX
                simp only [rops, Try.f63, regOf, Option.bind_some, Nat.reduceBEq, if_true, if_false, Bool.false_eq_true, Option.getD_some, List.drop_succ_cons, List.drop_zero]
                simp only [Act.put, List.setIfInBounds_toArray, List.set_cons_succ, List.set_cons_zero]
                rw [HL9.out, HH9.out]
                replace HX := Lib.hid (HX.out.trans hX)
                replace HS := Lib.hid (HS.out.ext hX)
                replace HR := Lib.hid (HR.out.ext hX)
                clear hX hcell hL9 hH9
                obtain ⟨ml, hml⟩ : ∃ ml, mvL lo q k = ml := ⟨_, rfl⟩
                obtain ⟨mh, hmh⟩ : ∃ mh, mvH hi q k = mh := ⟨_, rfl⟩
                rw [hml, hmh]
                have HML := Lib.hid hml
                have HMH := Lib.hid hmh
                clear hml hmh
                by_cases hl : ml < -1152921504606846976
                · have q4 : decide (ml < -1152921504606846976) = true := decide_eq_true hl
                  have HM : Hid (mvA lo hi o = (fun _ => 0, fun _ => 0, 3)) := Lib.hid (mvA_far HNB.out HNO.out ⟨k, hk3, fun h => by rw [← HQD.out] at h; have := h.1; rw [HML.out] at this; omega⟩)
                  clear hl hr1 hr2 hS9
                  have r0 := HR.out.cell 0
                  have f0 := HR.out.free 0
                  have r1 := HR.out.cell 1
                  have f1 := HR.out.free 1
                  have r2 := HR.out.cell 2
                  have f2 := HR.out.free 2
                  have r3 := HR.out.cell 3
                  have f3 := HR.out.free 3
                  have r4 := HR.out.cell 4
                  have f4 := HR.out.free 4
                  have r5 := HR.out.cell 5
                  have f5 := HR.out.free 5
                  simp only [List.getElem?_toArray, List.getElem?_cons_zero, List.getElem?_cons_succ] at r0 r1 r2 r3 r4 r5
                  go_wp2
                  refine bodyPost_ret (v := .tuple #[.agg #[.int .i64 0, .int .i64 0, .int .i64 0, .int .i64 0, .int .i64 0, .int .i64 0], .int .i64 3]) (by simp [results, Try.results63, go_sem, *]) rfl ?_
                  exact ⟨by rw [HM.out]; rfl, ((((((HX.out.setCell (p := ⟨w.heap.size + 2, 0, none⟩) (by simp only; omega) _).setCell (p := ⟨w.heap.size + 2, 1, none⟩) (by simp only; omega) _).setCell (p := ⟨w.heap.size + 2, 2, none⟩) (by simp only; omega) _).setCell (p := ⟨w.heap.size + 2, 3, none⟩) (by simp only; omega) _).setCell (p := ⟨w.heap.size + 2, 4, none⟩) (by simp only; omega) _).setCell (p := ⟨w.heap.size + 2, 5, none⟩) (by simp only; omega) _)⟩
                · have q4 : decide (ml < -1152921504606846976) = false := decide_eq_false hl
                  by_cases hh : 1152921504606846976 < mh
                  · have q5 : decide (1152921504606846976 < mh) = true := decide_eq_true hh
                    have HM : Hid (mvA lo hi o = (fun _ => 0, fun _ => 0, 3)) := Lib.hid (mvA_far HNB.out HNO.out ⟨k, hk3, fun h => by rw [← HQD.out] at h; have := h.2; rw [HMH.out] at this; omega⟩)
                    clear hl hh hr1 hr2 hS9
                    have r0 := HR.out.cell 0
                    have f0 := HR.out.free 0
                    have r1 := HR.out.cell 1
                    have f1 := HR.out.free 1
                    have r2 := HR.out.cell 2
                    have f2 := HR.out.free 2
                    have r3 := HR.out.cell 3
                    have f3 := HR.out.free 3
                    have r4 := HR.out.cell 4
                    have f4 := HR.out.free 4
                    have r5 := HR.out.cell 5
                    have f5 := HR.out.free 5
                    simp only [List.getElem?_toArray, List.getElem?_cons_zero, List.getElem?_cons_succ] at r0 r1 r2 r3 r4 r5
                    go_wp2
                    refine bodyPost_ret (v := .tuple #[.agg #[.int .i64 0, .int .i64 0, .int .i64 0, .int .i64 0, .int .i64 0, .int .i64 0], .int .i64 3]) (by simp [results, Try.results63, go_sem, *]) rfl ?_
                    exact ⟨by rw [HM.out]; rfl, ((((((HX.out.setCell (p := ⟨w.heap.size + 2, 0, none⟩) (by simp only; omega) _).setCell (p := ⟨w.heap.size + 2, 1, none⟩) (by simp only; omega) _).setCell (p := ⟨w.heap.size + 2, 2, none⟩) (by simp only; omega) _).setCell (p := ⟨w.heap.size + 2, 3, none⟩) (by simp only; omega) _).setCell (p := ⟨w.heap.size + 2, 4, none⟩) (by simp only; omega) _).setCell (p := ⟨w.heap.size + 2, 5, none⟩) (by simp only; omega) _)⟩
                  · have q5 : decide (1152921504606846976 < mh) = false := decide_eq_false hh
                    have HOKM : Hid (mvOk lo hi q k) := Lib.hid ⟨by rw [HML.out]; omega, by rw [HMH.out]; omega⟩
                    clear hl hh hr1 hr2 hS9
                    have hcell := HS.out.cell hk3
                    have hf0 : W.frozen? ⟨gs, k * 2, none⟩ = false := Blk.free HS.out _
                    have hf1 : W.frozen? ⟨gs, k * 2 + 1, none⟩ = false := Blk.free HS.out _
                    obtain ⟨hc0, hc1⟩ := hcell
                    have HPUT := Lib.hid (HS.out.put hk3 ml mh)
                    go_wp2
                    clear hc0 hc1 hf0 hf1
                    go_roundg (3 - (k + 1))
                    case rel =>
                      refine ⟨k + 1, rfl, by omega, by go_num, Lib.hid (fun j hj => by by_cases e : j = k; (subst e; exact HOKM.out); exact HMO.out j (by omega)), Lib.hid (HPUT.out.congr (fun j _ => ?_)), Lib.hid ((HR.out.far (by simp only; omega) _).far (by simp only; omega) _), Lib.hid ((HX.out.setCell (by simp only; omega) _).setCell (by simp only; omega) _)⟩
                      by_cases e : j = k
                      · rw [if_pos e, if_pos e, if_pos (by omega), if_pos (by omega), e]
                        exact ⟨HML.out.symm, HMH.out.symm⟩
                      · rw [if_neg e, if_neg e]
                        by_cases h2 : j < k
                        · rw [if_pos h2, if_pos h2, if_pos (by omega), if_pos (by omega)]
                          exact ⟨rfl, rfl⟩
                        · rw [if_neg h2, if_neg h2, if_neg (by omega), if_neg (by omega)]
                          exact ⟨rfl, rfl⟩
                    case measure => omega
              · have HM : Hid (mvA lo hi o = (fun _ => 0, fun _ => 0, 3)) := Lib.hid (mvA_far HNB.out HNO.out ⟨k, hk3, fun h => by
                  rw [← HQD.out] at h
                  have := mvOk_fl HOKK.out h
                  rw [HB1.out, HB2.out] at this
                  exact hbb this⟩)
                by_cases hb1 : b1 = true
                · subst hb1
                  obtain rfl : b2 = false := by cases b2; rfl; exact absurd ⟨rfl, rfl⟩ hbb
                  clear hbb
                  have r0 := HR.out.cell 0
                  have f0 := HR.out.free 0
                  have r1 := HR.out.cell 1
                  have f1 := HR.out.free 1
                  have r2 := HR.out.cell 2
                  have f2 := HR.out.free 2
                  have r3 := HR.out.cell 3
                  have f3 := HR.out.free 3
                  have r4 := HR.out.cell 4
                  have f4 := HR.out.free 4
                  have r5 := HR.out.cell 5
                  have f5 := HR.out.free 5
                  simp only [List.getElem?_toArray, List.getElem?_cons_zero, List.getElem?_cons_succ] at r0 r1 r2 r3 r4 r5
                  go_wp2
                  refine bodyPost_ret (v := .tuple #[.agg #[.int .i64 0, .int .i64 0, .int .i64 0, .int .i64 0, .int .i64 0, .int .i64 0], .int .i64 3]) (by simp [results, Try.results63, go_sem, *]) rfl ?_
                  exact ⟨by rw [HM.out]; rfl, ((((((HX.out.setCell (p := ⟨w.heap.size + 2, 0, none⟩) (by simp only; omega) _).setCell (p := ⟨w.heap.size + 2, 1, none⟩) (by simp only; omega) _).setCell (p := ⟨w.heap.size + 2, 2, none⟩) (by simp only; omega) _).setCell (p := ⟨w.heap.size + 2, 3, none⟩) (by simp only; omega) _).setCell (p := ⟨w.heap.size + 2, 4, none⟩) (by simp only; omega) _).setCell (p := ⟨w.heap.size + 2, 5, none⟩) (by simp only; omega) _)⟩
                · obtain rfl : b1 = false := by simpa using hb1
                  clear hbb hb1
                  have r0 := HR.out.cell 0
                  have f0 := HR.out.free 0
                  have r1 := HR.out.cell 1
                  have f1 := HR.out.free 1
                  have r2 := HR.out.cell 2
                  have f2 := HR.out.free 2
                  have r3 := HR.out.cell 3
                  have f3 := HR.out.free 3
                  have r4 := HR.out.cell 4
                  have f4 := HR.out.free 4
                  have r5 := HR.out.cell 5
                  have f5 := HR.out.free 5
                  simp only [List.getElem?_toArray, List.getElem?_cons_zero, List.getElem?_cons_succ] at r0 r1 r2 r3 r4 r5
                  go_wp2
                  refine bodyPost_ret (v := .tuple #[.agg #[.int .i64 0, .int .i64 0, .int .i64 0, .int .i64 0, .int .i64 0, .int .i64 0], .int .i64 3]) (by simp [results, Try.results63, go_sem, *]) rfl ?_
                  exact ⟨by rw [HM.out]; rfl, ((((((HX.out.setCell (p := ⟨w.heap.size + 2, 0, none⟩) (by simp only; omega) _).setCell (p := ⟨w.heap.size + 2, 1, none⟩) (by simp only; omega) _).setCell (p := ⟨w.heap.size + 2, 2, none⟩) (by simp only; omega) _).setCell (p := ⟨w.heap.size + 2, 3, none⟩) (by simp only; omega) _).setCell (p := ⟨w.heap.size + 2, 4, none⟩) (by simp only; omega) _).setCell (p := ⟨w.heap.size + 2, 5, none⟩) (by simp only; omega) _)⟩
              
            · obtain rfl : k = 3 := by omega
              have q3 : decide (((3 : Nat) : Int) < 3) = false := by decide
              have HM : Hid (mvA lo hi o = (mvL lo q, mvH hi q, 0)) := Lib.hid (by rw [HQD.out]; exact mvA_ok HNB.out HNO.out (fun ⟨k, hk, h⟩ => h (by have := HMO.out k hk; rw [HQD.out] at this; exact this)))
              replace HS := Lib.hid (HS.out.congr (a' := mvL lo q) (b' := mvH hi q) (fun k hk => ⟨by rw [if_pos hk], by rw [if_pos hk]⟩))
              have kS := HS.out
              unfold B6 at kS
              have b0 := kS.cell 0
              have b1 := kS.cell 1
              have b2 := kS.cell 2
              have b3 := kS.cell 3
              have b4 := kS.cell 4
              have b5 := kS.cell 5
              simp only [List.getElem?_toArray, List.getElem?_cons_zero, List.getElem?_cons_succ] at b0 b1 b2 b3 b4 b5
              clear kS
              have r0 := HR.out.cell 0
              have f0 := HR.out.free 0
              have r1 := HR.out.cell 1
              have f1 := HR.out.free 1
              have r2 := HR.out.cell 2
              have f2 := HR.out.free 2
              have r3 := HR.out.cell 3
              have f3 := HR.out.free 3
              have r4 := HR.out.cell 4
              have f4 := HR.out.free 4
              have r5 := HR.out.cell 5
              have f5 := HR.out.free 5
              simp only [List.getElem?_toArray, List.getElem?_cons_zero, List.getElem?_cons_succ] at r0 r1 r2 r3 r4 r5
              go_wp2
              refine bodyPost_ret (v := .tuple #[.agg #[.int .i64 (mvL lo q 0), .int .i64 (mvH hi q 0), .int .i64 (mvL lo q 1), .int .i64 (mvH hi q 1), .int .i64 (mvL lo q 2), .int .i64 (mvH hi q 2)], .int .i64 0]) (by simp [results, Try.results63, go_sem, *]) rfl ?_
              exact ⟨by rw [HM.out]; rfl, ((((((HX.out.setCell (p := ⟨w.heap.size + 2, 0, none⟩) (by simp only; omega) _).setCell (p := ⟨w.heap.size + 2, 1, none⟩) (by simp only; omega) _).setCell (p := ⟨w.heap.size + 2, 2, none⟩) (by simp only; omega) _).setCell (p := ⟨w.heap.size + 2, 3, none⟩) (by simp only; omega) _).setCell (p := ⟨w.heap.size + 2, 4, none⟩) (by simp only; omega) _).setCell (p := ⟨w.heap.size + 2, 5, none⟩) (by simp only; omega) _)⟩

end Go.Proofs.Ytikhlcgnlbinfaa
namespace Go.Proofs.Ytikhlcgnlbinfaa
open Go.RowKit

/-- A list of bools in memory. -/
def BoolR (base : Nat) (w : World) (v : Value) (n : Nat) (f : Nat → Bool) : Prop := w.ownsRow base 4 1 v n ((List.range n).map fun j => .bool (f j))
theorem BoolR.ext {base n : Nat} {w w' : World} {v : Value} {f : Nat → Bool} (h : BoolR base w v n f) (he : Ext w w') : BoolR base w' v n f := World.ownsRow.ext' h he
def TabI (base nn : Nat) (ms : List Mt) (v : Value) (w : World) : Prop := ∃ go ct vs, v = .agg #[.slice (some ⟨go, 0, none⟩) nn ct] ∧ TabG 3 (Tri fun w v q => NumX w v q 53) 217 226 base w go ct nn (nn + 1) vs (tabM ms nn)
theorem TabI.ext {base nn : Nat} {ms : List Mt} {v : Value} {w w' : World} (h : TabI base nn ms v w) (he : Ext w w') : TabI base nn ms v w' := by
  obtain ⟨go, ct, vs, h1, h2⟩ := h
  exact ⟨go, ct, vs, h1, h2.ext (kindNum 53) he⟩
def PivR (base nn : Nat) (ms : List Mt) (v : Value) (w : World) : Prop := ∃ gp, v = .slice (some ⟨gp, 0, none⟩) nn nn ∧ RowI base w gp nn nn (fun j => pivI ((redG nn (tabM ms nn) nn).piv[j]?))
theorem PivR.ext {base nn : Nat} {ms : List Mt} {v : Value} {w w' : World} (h : PivR base nn ms v w) (he : Ext w w') : PivR base nn ms v w' := by
  obtain ⟨gp, h1, h2⟩ := h
  exact ⟨gp, h1, h2.ext he⟩

end Go.Proofs.Ytikhlcgnlbinfaa
namespace Go.Proofs.Ytikhlcgnlbinfaa
open Go.RowKit

theorem kindG : KindK 3 (Tri RatG) := ⟨fun w cs x h => by obtain ⟨s, A, l, c, B, m, k, rfl, _⟩ := h; rfl, fun w w' L cs x h hk hN => by obtain ⟨s, A, l, c, B, m, k, e, h⟩ := h; exact ⟨s, A, l, c, B, m, k, e, h.keepsNI hk hN⟩, fun h => by omega⟩
/-- The nine cells of a shift. -/
def Cs3 (w : World) (cs : List Value) (q0 q1 q2 : Rat) : Prop := ∃ c0 c1 c2, cs = c0 ++ c1 ++ c2 ∧ Tri RatG w c0 q0 ∧ Tri RatG w c1 q1 ∧ Tri RatG w c2 q2
theorem Cs3.ext {w w' : World} {cs : List Value} {q0 q1 q2 : Rat} (h : Cs3 w cs q0 q1 q2) (he : Ext w w') : Cs3 w' cs q0 q1 q2 := by
  obtain ⟨c0, c1, c2, e, h0, h1, h2⟩ := h
  exact ⟨c0, c1, c2, e, kindG.ext h0 he, kindG.ext h1 he, kindG.ext h2 he⟩
theorem Cs3.keepsNI {w w' : World} {cs : List Value} {q0 q1 q2 : Rat} {L : List Nat} (h : Cs3 w cs q0 q1 q2) (hk : Keeps L w w') (hN : ∀ g ∈ L, NoInts w g) : Cs3 w' cs q0 q1 q2 := by
  obtain ⟨c0, c1, c2, e, h0, h1, h2⟩ := h
  exact ⟨c0, c1, c2, e, kindG.keep _ _ L _ _ h0 hk hN, kindG.keep _ _ L _ _ h1 hk hN, kindG.keep _ _ L _ _ h2 hk hN⟩
end Go.Proofs.Ytikhlcgnlbinfaa
