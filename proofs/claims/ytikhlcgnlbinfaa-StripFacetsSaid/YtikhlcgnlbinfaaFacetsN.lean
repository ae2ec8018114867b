/- Lemmas of the proof that follows (Facets, part 14): walks of functions by contract, and plain lemmas. Conditions: none. -/
import Derived.Test.YtikhlcgnlbinfaaFacetsM
namespace Go.Proofs.Ytikhlcgnlbinfaa
open Go.RowKit

def fstM : List Mt := [⟨0, -1, 0, 0, 1, 0, 1⟩, ⟨0, -1, 0, 0, 1, 30, 2⟩]
theorem fst_sol : solP (3 * 1) fstM 2 = ((-20 : Int) : Rat) := by decide +kernel
theorem fst_mis : misfit (3 * 1) fstM (solP (3 * 1) fstM) = ((600 : Int) : Rat) := by decide +kernel
theorem fst_vp : VP ((1 : Nat) : Int) fstM := vpB_iff.1 (by decide +kernel)
theorem fitQ_small' {z : Int} (h0 : -9223372036854775808 ≤ z) (h1 : z ≤ 9223372036854775807) : FitQW ((z : Int) : Rat) := FitQW.of4 (fitQ_small h0 h1) (by omega)

set_option maxRecDepth 100000 in
set_option maxHeartbeats 2000000 in
theorem first_r3 (go : Nat) (su : Bool) (Au Bu : Option Addr) (lu cu mu ku : Nat) (w : World) (x0 : w.cell? ⟨go, 6, none⟩ = some (.bool su)) (x1 : w.cell? ⟨go, 6 + 1, none⟩ = some (.slice Au lu cu)) (x2 : w.cell? ⟨go, 6 + 2, none⟩ = some (.slice Bu mu ku)) (hx : RatC w (.agg #[.bool su, .slice Au lu cu, .slice Bu mu ku]) ((-20 : Int) : Rat)) (a : Act) (Q : Exit → Act → World → Prop) (hsize : 33 ≤ a.tmps.size)
    (s2 : a.tmps[2]? = some (.slice (some ⟨go, 0, none⟩) 1 1))
    (s3 : a.tmps[3]? = some (.int .i64 (0)))
    (hend : ∀ (xv0 xv1 xv2 xv3 xv4 xv5 xv6 xv7 xv8 xv9 xv10 xv11 xv12 xv13 xv14 xv15 : Value) (W : World), (xv0 = .int .i64 (0)) → (xv1 = .bool false) → (xv2 = .bool false) → (xv3 = .slice (some ⟨go, 0, none⟩) 1 1) → (xv4 = .int .i64 (1)) → (xv5 = .bool false) → (xv6 = .bool false) → (xv7 = .bool false) → (xv8 = .slice (some ⟨go, 0, none⟩) 1 1) → (xv9 = .pointer (some ⟨go, 0, none⟩)) → (xv10 = .pointer (some ⟨go, 6, none⟩)) → (xv11 = .agg #[.bool su, .slice Au lu cu, .slice Bu mu ku]) → (QZ W xv12 ((-20 : Int) : Rat)) → (xv13 = .bool true) → (xv14 = .bool false) → (xv15 = .bool false) → Ext w W → wpList Try.prog (rops Try.f39 3).toArray Q ((rops Try.f39 3).drop 16) ((((((((((((((((a.put (some 17) xv0).put (some 18) xv1).put (some 19) xv2).put (some 20) xv3).put (some 21) xv4).put (some 22) xv5).put (some 23) xv6).put (some 24) xv7).put (some 25) xv8).put (some 26) xv9).put (some 27) xv10).put (some 28) xv11).put (some 29) xv12).put (some 30) xv13).put (some 31) xv14).put (some 32) xv15) W) :
    (Code.region 3 (rops Try.f39 3).toArray true).wp Try.prog Q a w := by
  have hmono : ∀ (W W' : World) (j : Nat) (u : Value), Ext W W' → (fun (i : Nat) (v : Value) (W : World) => match i with
    | 0 => v = .int .i64 (0)
    | 1 => v = .bool false
    | 2 => v = .bool false
    | 3 => v = .slice (some ⟨go, 0, none⟩) 1 1
    | 4 => v = .int .i64 (1)
    | 5 => v = .bool false
    | 6 => v = .bool false
    | 7 => v = .bool false
    | 8 => v = .slice (some ⟨go, 0, none⟩) 1 1
    | 9 => v = .pointer (some ⟨go, 0, none⟩)
    | 10 => v = .pointer (some ⟨go, 6, none⟩)
    | 11 => v = .agg #[.bool su, .slice Au lu cu, .slice Bu mu ku]
    | 12 => QZ W v ((-20 : Int) : Rat)
    | 13 => v = .bool true
    | 14 => v = .bool false
    | 15 => v = .bool false
    | _ => True) j u W → (fun (i : Nat) (v : Value) (W : World) => match i with
    | 0 => v = .int .i64 (0)
    | 1 => v = .bool false
    | 2 => v = .bool false
    | 3 => v = .slice (some ⟨go, 0, none⟩) 1 1
    | 4 => v = .int .i64 (1)
    | 5 => v = .bool false
    | 6 => v = .bool false
    | 7 => v = .bool false
    | 8 => v = .slice (some ⟨go, 0, none⟩) 1 1
    | 9 => v = .pointer (some ⟨go, 0, none⟩)
    | 10 => v = .pointer (some ⟨go, 6, none⟩)
    | 11 => v = .agg #[.bool su, .slice Au lu cu, .slice Bu mu ku]
    | 12 => QZ W v ((-20 : Int) : Rat)
    | 13 => v = .bool true
    | 14 => v = .bool false
    | 15 => v = .bool false
    | _ => True) j u W' := by
    intro W W' j u hX h
    match j, h with
    | 0, h => exact h
    | 1, h => exact h
    | 2, h => exact h
    | 3, h => exact h
    | 4, h => exact h
    | 5, h => exact h
    | 6, h => exact h
    | 7, h => exact h
    | 8, h => exact h
    | 9, h => exact h
    | 10, h => exact h
    | 11, h => exact h
    | 12, h => exact QZ.ext h hX
    | 13, h => exact h
    | 14, h => exact h
    | 15, h => exact h
    | _ + 16, h => exact h
  have hsz : ∀ d, some d ∈ ([some 17, some 18, some 19, some 20, some 21, some 22, some 23, some 24, some 25, some 26, some 27, some 28, some 29, some 30, some 31, some 32] : List (Option Tmp)) → d < a.tmps.size := slots_lt (by decide) hsize
  refine wp_region_j 16 [some 17, some 18, some 19, some 20, some 21, some 22, some 23, some 24, some 25, some 26, some 27, some 28, some 29, some 30, some 31, some 32] [[], [0], [1], [2], [2, 3], [2, 4], [2, 5], [6], [7], [7, 8], [7, 9], [7, 10], [7], [7, 11, 12], [7, 13], [7, 14]] [[], [], [], [], [], [], [], [], [], [], [], [], [], [], [], []] (fun (i : Nat) (v : Value) (W : World) => match i with
    | 0 => v = .int .i64 (0)
    | 1 => v = .bool false
    | 2 => v = .bool false
    | 3 => v = .slice (some ⟨go, 0, none⟩) 1 1
    | 4 => v = .int .i64 (1)
    | 5 => v = .bool false
    | 6 => v = .bool false
    | 7 => v = .bool false
    | 8 => v = .slice (some ⟨go, 0, none⟩) 1 1
    | 9 => v = .pointer (some ⟨go, 0, none⟩)
    | 10 => v = .pointer (some ⟨go, 6, none⟩)
    | 11 => v = .agg #[.bool su, .slice Au lu cu, .slice Bu mu ku]
    | 12 => QZ W v ((-20 : Int) : Rat)
    | 13 => v = .bool true
    | 14 => v = .bool false
    | 15 => v = .bool false
    | _ => True) (fun _ W => Ext w W) (by kernel_rfl) (by kernel_rfl) hsz (fun _ _ _ _ h => h) ((Ext.refl w).drew) ?_ ?_
  · clear hend
    simp only [rops, Try.f39, regOf, Option.bind_some, Nat.reduceBEq, if_true, if_false, Bool.false_eq_true, Option.getD_some]
    simp only [List.take_succ_cons, List.take_zero]
    refine ⟨?_, ?_, ?_, ?_, ?_, ?_, ?_, ?_, ?_, ?_, ?_, ?_, ?_, ?_, ?_, ?_, trivial⟩
    · intro done us W hJ hdep haft hnot b hb hb' K hK Q'
      have e3 := (hb' 3 (by simp)).trans s3
      clear hb hb'
      go_simp
      exact hK _ _ rfl (fun _ _ _ h => h) hJ
    · intro done us W hJ hdep haft hnot b hb hb' K hK Q'
      simp only [List.getD_cons_succ, List.getD_cons_zero, List.mem_cons, List.not_mem_nil, or_false, forall_eq] at hdep
      have e17 := hb 0 17 rfl
      have d0 := hdep
      rw [d0.1] at e17
      clear hb hb' hdep d0
      go_simp
      exact hK _ _ rfl (fun _ _ _ h => h) hJ
    · intro done us W hJ hdep haft hnot b hb hb' K hK Q'
      simp only [List.getD_cons_succ, List.getD_cons_zero, List.mem_cons, List.not_mem_nil, or_false, forall_eq] at hdep
      have e18 := hb 1 18 rfl
      have d1 := hdep
      rw [d1.1] at e18
      clear hb hb' hdep d1
      go_simp
      exact hK _ _ rfl (fun _ _ _ h => h) hJ
    · intro done us W hJ hdep haft hnot b hb hb' K hK Q'
      simp only [List.getD_cons_succ, List.getD_cons_zero, List.mem_cons, List.not_mem_nil, or_false, forall_eq] at hdep
      have e2 := (hb' 2 (by simp)).trans s2
      have e19 := hb 2 19 rfl
      have d2 := hdep
      rw [d2.1] at e19
      clear hb hb' hdep d2
      go_simp
      exact hK _ _ rfl (fun _ _ _ h => h) hJ
    · intro done us W hJ hdep haft hnot b hb hb' K hK Q'
      simp only [List.getD_cons_succ, List.getD_cons_zero, List.mem_cons, List.not_mem_nil, or_false, forall_eq_or_imp, forall_eq] at hdep
      have e19 := hb 2 19 rfl
      have e20 := hb 3 20 rfl
      have d2 := hdep.1
      have d3 := hdep.2
      rw [d2.1] at e19
      rw [d3.1] at e20
      clear hb hb' hdep d2 d3
      go_simp
      exact hK _ _ rfl (fun _ _ _ h => h) hJ
    · intro done us W hJ hdep haft hnot b hb hb' K hK Q'
      simp only [List.getD_cons_succ, List.getD_cons_zero, List.mem_cons, List.not_mem_nil, or_false, forall_eq_or_imp, forall_eq] at hdep
      have e19 := hb 2 19 rfl
      have e21 := hb 4 21 rfl
      have d2 := hdep.1
      have d4 := hdep.2
      rw [d2.1] at e19
      rw [d4.1] at e21
      clear hb hb' hdep d2 d4
      go_simp
      exact hK _ _ rfl (fun _ _ _ h => h) hJ
    · intro done us W hJ hdep haft hnot b hb hb' K hK Q'
      simp only [List.getD_cons_succ, List.getD_cons_zero, List.mem_cons, List.not_mem_nil, or_false, forall_eq_or_imp, forall_eq] at hdep
      have e19 := hb 2 19 rfl
      have e22 := hb 5 22 rfl
      have d2 := hdep.1
      have d5 := hdep.2
      rw [d2.1] at e19
      rw [d5.1] at e22
      clear hb hb' hdep d2 d5
      go_simp
      exact hK _ _ rfl (fun _ _ _ h => h) hJ
    · intro done us W hJ hdep haft hnot b hb hb' K hK Q'
      simp only [List.getD_cons_succ, List.getD_cons_zero, List.mem_cons, List.not_mem_nil, or_false, forall_eq] at hdep
      have e23 := hb 6 23 rfl
      have d6 := hdep
      rw [d6.1] at e23
      clear hb hb' hdep d6
      go_simp
      exact hK _ _ rfl (fun _ _ _ h => h) hJ
    · intro done us W hJ hdep haft hnot b hb hb' K hK Q'
      simp only [List.getD_cons_succ, List.getD_cons_zero, List.mem_cons, List.not_mem_nil, or_false, forall_eq] at hdep
      have e2 := (hb' 2 (by simp)).trans s2
      have e24 := hb 7 24 rfl
      have d7 := hdep
      rw [d7.1] at e24
      clear hb hb' hdep d7
      go_simp
      exact hK _ _ rfl (fun _ _ _ h => h) hJ
    · intro done us W hJ hdep haft hnot b hb hb' K hK Q'
      simp only [List.getD_cons_succ, List.getD_cons_zero, List.mem_cons, List.not_mem_nil, or_false, forall_eq_or_imp, forall_eq] at hdep
      have e24 := hb 7 24 rfl
      have e25 := hb 8 25 rfl
      have d7 := hdep.1
      have d8 := hdep.2
      rw [d7.1] at e24
      rw [d8.1] at e25
      clear hb hb' hdep d7 d8
      go_simp
      exact hK _ _ rfl (fun _ _ _ h => h) hJ
    · intro done us W hJ hdep haft hnot b hb hb' K hK Q'
      simp only [List.getD_cons_succ, List.getD_cons_zero, List.mem_cons, List.not_mem_nil, or_false, forall_eq_or_imp, forall_eq] at hdep
      have e24 := hb 7 24 rfl
      have e26 := hb 9 26 rfl
      have d7 := hdep.1
      have d9 := hdep.2
      rw [d7.1] at e24
      rw [d9.1] at e26
      clear hb hb' hdep d7 d9
      go_simp
      exact hK _ _ rfl (fun _ _ _ h => h) hJ
    · intro done us W hJ hdep haft hnot b hb hb' K hK Q'
      simp only [List.getD_cons_succ, List.getD_cons_zero, List.mem_cons, List.not_mem_nil, or_false, forall_eq_or_imp, forall_eq] at hdep
      have e24 := hb 7 24 rfl
      have e27 := hb 10 27 rfl
      have d7 := hdep.1
      have d10 := hdep.2
      rw [d7.1] at e24
      rw [d10.1] at e27
      clear hb hb' hdep d7 d10
      have z0 := Ext.cell hJ x0
      have z1 := Ext.cell hJ x1
      have z2 := Ext.cell hJ x2
      go_simp
      exact hK _ _ rfl (fun _ _ _ h => h) hJ
    · intro done us W hJ hdep haft hnot b hb hb' K hK Q'
      simp only [List.getD_cons_succ, List.getD_cons_zero, List.mem_cons, List.not_mem_nil, or_false, forall_eq] at hdep
      have e24 := hb 7 24 rfl
      have d7 := hdep
      rw [d7.1] at e24
      clear hb hb' hdep d7
      go_simp
      refine (whole_any (-20) _ (by omega) (by omega)).mono ?_
      rintro e w' ⟨v, rfl, hv, hX⟩
      exact hK _ _ hv (fun j u _ h => hmono _ _ j u hX h) (Ext.trans hJ hX)
    · intro done us W hJ hdep haft hnot b hb hb' K hK Q'
      simp only [List.getD_cons_succ, List.getD_cons_zero, List.mem_cons, List.not_mem_nil, or_false, forall_eq_or_imp, forall_eq] at hdep
      have e24 := hb 7 24 rfl
      have e28 := hb 11 28 rfl
      have e29 := hb 12 29 rfl
      have d7 := hdep.1
      have d11 := hdep.2.1
      have d12 := hdep.2.2
      rw [d7.1] at e24
      rw [d11.1] at e28
      clear hb hb' hdep d7 d11
      go_simp
      refine (same_any (hx.ext hJ) d12.1 (fitQ_small' (by omega) (by omega))).mono ?_
      rintro e w' ⟨rfl, hX⟩
      exact hK _ _ rfl (fun j u _ h => hmono _ _ j u hX h) (Ext.trans hJ hX)
    · intro done us W hJ hdep haft hnot b hb hb' K hK Q'
      simp only [List.getD_cons_succ, List.getD_cons_zero, List.mem_cons, List.not_mem_nil, or_false, forall_eq_or_imp, forall_eq] at hdep
      have e24 := hb 7 24 rfl
      have e30 := hb 13 30 rfl
      have d7 := hdep.1
      have d13 := hdep.2
      rw [d7.1] at e24
      rw [d13.1] at e30
      clear hb hb' hdep d7 d13
      go_simp
      exact hK _ _ rfl (fun _ _ _ h => h) hJ
    · intro done us W hJ hdep haft hnot b hb hb' K hK Q'
      simp only [List.getD_cons_succ, List.getD_cons_zero, List.mem_cons, List.not_mem_nil, or_false, forall_eq_or_imp, forall_eq] at hdep
      have e24 := hb 7 24 rfl
      have e31 := hb 14 31 rfl
      have d7 := hdep.1
      have d14 := hdep.2
      rw [d7.1] at e24
      rw [d14.1] at e31
      clear hb hb' hdep d7 d14
      go_simp
      exact hK _ _ rfl (fun _ _ _ h => h) hJ
  · intro us W hV hJ
    exact hend (us 0) (us 1) (us 2) (us 3) (us 4) (us 5) (us 6) (us 7) (us 8) (us 9) (us 10) (us 11) (us 12) (us 13) (us 14) (us 15) W (hV 0 (by omega)) (hV 1 (by omega)) (hV 2 (by omega)) (hV 3 (by omega)) (hV 4 (by omega)) (hV 5 (by omega)) (hV 6 (by omega)) (hV 7 (by omega)) (hV 8 (by omega)) (hV 9 (by omega)) (hV 10 (by omega)) (hV 11 (by omega)) (hV 12 (by omega)) (hV 13 (by omega)) (hV 14 (by omega)) (hV 15 (by omega)) hJ
set_option maxRecDepth 100000 in
set_option maxHeartbeats 2000000 in
theorem first_r6 (gx : Nat) (su : Bool) (Au Bu : Option Addr) (lu cu mu ku : Nat) (w : World) (x0 : w.cell? ⟨gx, 0, none⟩ = some (.bool su)) (x1 : w.cell? ⟨gx, 1, none⟩ = some (.slice Au lu cu)) (x2 : w.cell? ⟨gx, 2, none⟩ = some (.slice Bu mu ku)) (hx : RatC w (.agg #[.bool su, .slice Au lu cu, .slice Bu mu ku]) ((600 : Int) : Rat)) (a : Act) (Q : Exit → Act → World → Prop) (hsize : 46 ≤ a.tmps.size)
    (s4 : a.tmps[4]? = some (.pointer (some ⟨gx, 0, none⟩)))
    (s5 : a.tmps[5]? = some (.int .i64 (0)))
    (hend : ∀ (xv0 xv1 xv2 xv3 xv4 xv5 xv6 xv7 : Value) (W : World), (xv0 = .int .i64 (0)) → (xv1 = .bool true) → (xv2 = .bool true) → (xv3 = .agg #[.bool su, .slice Au lu cu, .slice Bu mu ku]) → (QZ W xv4 ((600 : Int) : Rat)) → (xv5 = .bool true) → (xv6 = .bool true) → (xv7 = .bool true) → Ext w W → wpList Try.prog (rops Try.f39 6).toArray Q ((rops Try.f39 6).drop 8) ((((((((a.put (some 39) xv0).put (some 40) xv1).put (some 41) xv2).put (some 42) xv3).put (some 43) xv4).put (some 44) xv5).put (some 45) xv6).put (some 0) xv7) W) :
    (Code.region 6 (rops Try.f39 6).toArray true).wp Try.prog Q a w := by
  have hmono : ∀ (W W' : World) (j : Nat) (u : Value), Ext W W' → (fun (i : Nat) (v : Value) (W : World) => match i with
    | 0 => v = .int .i64 (0)
    | 1 => v = .bool true
    | 2 => v = .bool true
    | 3 => v = .agg #[.bool su, .slice Au lu cu, .slice Bu mu ku]
    | 4 => QZ W v ((600 : Int) : Rat)
    | 5 => v = .bool true
    | 6 => v = .bool true
    | 7 => v = .bool true
    | _ => True) j u W → (fun (i : Nat) (v : Value) (W : World) => match i with
    | 0 => v = .int .i64 (0)
    | 1 => v = .bool true
    | 2 => v = .bool true
    | 3 => v = .agg #[.bool su, .slice Au lu cu, .slice Bu mu ku]
    | 4 => QZ W v ((600 : Int) : Rat)
    | 5 => v = .bool true
    | 6 => v = .bool true
    | 7 => v = .bool true
    | _ => True) j u W' := by
    intro W W' j u hX h
    match j, h with
    | 0, h => exact h
    | 1, h => exact h
    | 2, h => exact h
    | 3, h => exact h
    | 4, h => exact QZ.ext h hX
    | 5, h => exact h
    | 6, h => exact h
    | 7, h => exact h
    | _ + 8, h => exact h
  have hsz : ∀ d, some d ∈ ([some 39, some 40, some 41, some 42, some 43, some 44, some 45, some 0] : List (Option Tmp)) → d < a.tmps.size := slots_lt (by decide) hsize
  refine wp_region_j 8 [some 39, some 40, some 41, some 42, some 43, some 44, some 45, some 0] [[], [0], [1], [2], [2], [2, 3, 4], [2, 5], [6]] [[], [], [], [], [], [], [], []] (fun (i : Nat) (v : Value) (W : World) => match i with
    | 0 => v = .int .i64 (0)
    | 1 => v = .bool true
    | 2 => v = .bool true
    | 3 => v = .agg #[.bool su, .slice Au lu cu, .slice Bu mu ku]
    | 4 => QZ W v ((600 : Int) : Rat)
    | 5 => v = .bool true
    | 6 => v = .bool true
    | 7 => v = .bool true
    | _ => True) (fun _ W => Ext w W) (by kernel_rfl) (by kernel_rfl) hsz (fun _ _ _ _ h => h) ((Ext.refl w).drew) ?_ ?_
  · clear hend
    simp only [rops, Try.f39, regOf, Option.bind_some, Nat.reduceBEq, if_true, if_false, Bool.false_eq_true, Option.getD_some]
    simp only [List.take_succ_cons, List.take_zero]
    refine ⟨?_, ?_, ?_, ?_, ?_, ?_, ?_, ?_, trivial⟩
    · intro done us W hJ hdep haft hnot b hb hb' K hK Q'
      have e5 := (hb' 5 (by simp)).trans s5
      clear hb hb'
      go_simp
      exact hK _ _ rfl (fun _ _ _ h => h) hJ
    · intro done us W hJ hdep haft hnot b hb hb' K hK Q'
      simp only [List.getD_cons_succ, List.getD_cons_zero, List.mem_cons, List.not_mem_nil, or_false, forall_eq] at hdep
      have e39 := hb 0 39 rfl
      have d0 := hdep
      rw [d0.1] at e39
      clear hb hb' hdep d0
      go_simp
      exact hK _ _ rfl (fun _ _ _ h => h) hJ
    · intro done us W hJ hdep haft hnot b hb hb' K hK Q'
      simp only [List.getD_cons_succ, List.getD_cons_zero, List.mem_cons, List.not_mem_nil, or_false, forall_eq] at hdep
      have e40 := hb 1 40 rfl
      have d1 := hdep
      rw [d1.1] at e40
      clear hb hb' hdep d1
      go_simp
      exact hK _ _ rfl (fun _ _ _ h => h) hJ
    · intro done us W hJ hdep haft hnot b hb hb' K hK Q'
      simp only [List.getD_cons_succ, List.getD_cons_zero, List.mem_cons, List.not_mem_nil, or_false, forall_eq] at hdep
      have e4 := (hb' 4 (by simp)).trans s4
      have e41 := hb 2 41 rfl
      have d2 := hdep
      rw [d2.1] at e41
      clear hb hb' hdep d2
      have z0 := Ext.cell hJ x0
      have z1 := Ext.cell hJ x1
      have z2 := Ext.cell hJ x2
      go_simp
      exact hK _ _ rfl (fun _ _ _ h => h) hJ
    · intro done us W hJ hdep haft hnot b hb hb' K hK Q'
      simp only [List.getD_cons_succ, List.getD_cons_zero, List.mem_cons, List.not_mem_nil, or_false, forall_eq] at hdep
      have e41 := hb 2 41 rfl
      have d2 := hdep
      rw [d2.1] at e41
      clear hb hb' hdep d2
      go_simp
      refine (whole_any 600 _ (by omega) (by omega)).mono ?_
      rintro e w' ⟨v, rfl, hv, hX⟩
      exact hK _ _ hv (fun j u _ h => hmono _ _ j u hX h) (Ext.trans hJ hX)
    · intro done us W hJ hdep haft hnot b hb hb' K hK Q'
      simp only [List.getD_cons_succ, List.getD_cons_zero, List.mem_cons, List.not_mem_nil, or_false, forall_eq_or_imp, forall_eq] at hdep
      have e41 := hb 2 41 rfl
      have e42 := hb 3 42 rfl
      have e43 := hb 4 43 rfl
      have d2 := hdep.1
      have d3 := hdep.2.1
      have d4 := hdep.2.2
      rw [d2.1] at e41
      rw [d3.1] at e42
      clear hb hb' hdep d2 d3
      go_simp
      refine (same_any (hx.ext hJ) d4.1 (fitQ_small' (by omega) (by omega))).mono ?_
      rintro e w' ⟨rfl, hX⟩
      exact hK _ _ rfl (fun j u _ h => hmono _ _ j u hX h) (Ext.trans hJ hX)
    · intro done us W hJ hdep haft hnot b hb hb' K hK Q'
      simp only [List.getD_cons_succ, List.getD_cons_zero, List.mem_cons, List.not_mem_nil, or_false, forall_eq_or_imp, forall_eq] at hdep
      have e41 := hb 2 41 rfl
      have e44 := hb 5 44 rfl
      have d2 := hdep.1
      have d5 := hdep.2
      rw [d2.1] at e41
      rw [d5.1] at e44
      clear hb hb' hdep d2 d5
      go_simp
      exact hK _ _ rfl (fun _ _ _ h => h) hJ
    · intro done us W hJ hdep haft hnot b hb hb' K hK Q'
      simp only [List.getD_cons_succ, List.getD_cons_zero, List.mem_cons, List.not_mem_nil, or_false, forall_eq] at hdep
      have e45 := hb 6 45 rfl
      have d6 := hdep
      rw [d6.1] at e45
      clear hb hb' hdep d6
      go_simp
      exact hK _ _ rfl (fun _ _ _ h => h) hJ
  · intro us W hV hJ
    exact hend (us 0) (us 1) (us 2) (us 3) (us 4) (us 5) (us 6) (us 7) W (hV 0 (by omega)) (hV 1 (by omega)) (hV 2 (by omega)) (hV 3 (by omega)) (hV 4 (by omega)) (hV 5 (by omega)) (hV 6 (by omega)) (hV 7 (by omega)) hJ
set_option maxRecDepth 100000 in
set_option maxHeartbeats 4000000 in
theorem first_any (w : World) : Calls Try.prog 39 #[] w (fun e w' => e = .returned (.bool true) ∧ Ext w w') := by
  have hXe : Ext w ((w.alloc (.cells #[.int .i64 0, .int .i64 (-1), .int .i64 0, .int .i64 0, .int .i64 1, .int .i64 0, .int .i64 1, .int .i64 0, .int .i64 (-1), .int .i64 0, .int .i64 0, .int .i64 1, .int .i64 30, .int .i64 2] 90)).alloc (.cells #[.int .i64 1, .slice (some ⟨w.heap.size, 0, none⟩) 2 2] 76)) := ((Ext.refl w).alloc _).alloc _
  have kP : Blk ((w.alloc (.cells #[.int .i64 0, .int .i64 (-1), .int .i64 0, .int .i64 0, .int .i64 1, .int .i64 0, .int .i64 1, .int .i64 0, .int .i64 (-1), .int .i64 0, .int .i64 0, .int .i64 1, .int .i64 30, .int .i64 2] 90)).alloc (.cells #[.int .i64 1, .slice (some ⟨w.heap.size, 0, none⟩) 2 2] 76)) (w.heap.size + 1) 76 #[.int .i64 1, .slice (some ⟨w.heap.size, 0, none⟩) 2 2] := Blk.at_ (by simp)
  have hat : At (w.alloc (.cells #[.int .i64 0, .int .i64 (-1), .int .i64 0, .int .i64 0, .int .i64 1, .int .i64 0, .int .i64 1, .int .i64 0, .int .i64 (-1), .int .i64 0, .int .i64 0, .int .i64 1, .int .i64 30, .int .i64 2] 90)) (some ⟨w.heap.size, 0, none⟩) (mtV fstM) := At.new w [.int .i64 0, .int .i64 (-1), .int .i64 0, .int .i64 0, .int .i64 1, .int .i64 0, .int .i64 1, .int .i64 0, .int .i64 (-1), .int .i64 0, .int .i64 0, .int .i64 1, .int .i64 30, .int .i64 2] 90
  have HM : Hid (MsAt (w.alloc (.cells #[.int .i64 0, .int .i64 (-1), .int .i64 0, .int .i64 0, .int .i64 1, .int .i64 0, .int .i64 1, .int .i64 0, .int .i64 (-1), .int .i64 0, .int .i64 0, .int .i64 1, .int .i64 30, .int .i64 2] 90)) (some ⟨w.heap.size, 0, none⟩) 2 fstM) := Lib.hid ⟨rfl, hat⟩
  have HM2 := Lib.hid (HM.out.ext ((Ext.refl _).alloc (.cells #[.int .i64 1, .slice (some ⟨w.heap.size, 0, none⟩) 2 2] 76)))
  clear hat HM
  go_enter Try.func39, Try.ntmps39
  go_upto_region 2 with (fail)
  generalize ((w.alloc (.cells #[.int .i64 0, .int .i64 (-1), .int .i64 0, .int .i64 0, .int .i64 1, .int .i64 0, .int .i64 1, .int .i64 0, .int .i64 (-1), .int .i64 0, .int .i64 0, .int .i64 1, .int .i64 30, .int .i64 2] 90)).alloc (.cells #[.int .i64 1, .slice (some ⟨w.heap.size, 0, none⟩) 2 2] 76)) = w1 at hXe kP HM2 ⊢
  generalize w.heap.size + 1 = gp at kP ⊢
  generalize w.heap.size = gm at kP HM2 ⊢
  have HX := Lib.hid hXe
  have HP := Lib.hid kP
  have p0 := kP.cell 0
  have p1 := kP.cell 1
  simp only [List.getElem?_toArray, List.getElem?_cons_zero, List.getElem?_cons_succ] at p0 p1
  clear hXe kP
  go_wp2_with fail
  refine (solveP_ok 1 (some ⟨gm, 0, none⟩) 2 2 fstM _ HM2.out fst_vp).mono ?_
  rintro e w2 ⟨go, rfl, _, hS, hX⟩
  clear p0 p1
  replace HX := Lib.hid (HX.out.trans hX)
  replace HP := Lib.hid (HP.out.ext hX)
  replace HM2 := Lib.hid (HM2.out.ext hX)
  have HS := Lib.hid hS
  clear hS hX
  obtain ⟨su, Au, lu, cu, Bu, mu, ku, x0, x1, x2, hx⟩ := HS.out 0 2 (by omega) (by omega)
  simp only [Nat.reduceMul, Nat.reduceAdd] at x0 x1 x2
  rw [show (3 * 0 + 2 : Nat) = 2 from rfl, show (3 : Nat) = 3 * 1 from rfl, fst_sol] at hx
  have HC := Lib.hid hx
  have hX0 := Lib.hid x0
  have hX1 := Lib.hid x1
  have hX2 := Lib.hid x2
  clear hx x0 x1 x2
  go_upto_region 3 with (fail)
  refine first_r3 go su Au Bu lu cu mu ku w2 hX0.out hX1.out hX2.out HC.out _ _ (by simp) rfl rfl ?_
  rintro xv0 xv1 xv2 xv3 xv4 xv5 xv6 xv7 xv8 xv9 xv10 xv11 xv12 xv13 xv14 xv15 W rfl rfl rfl rfl rfl rfl rfl rfl rfl rfl rfl rfl _ rfl rfl rfl hX
  simp only [rops, Try.f39, regOf, Option.bind_some, Nat.reduceBEq, if_true, if_false, Bool.false_eq_true, Option.getD_some, List.drop_succ_cons, List.drop_zero]
  simp only [Act.put, List.setIfInBounds_toArray, List.set_cons_succ, List.set_cons_zero]
  clear hX0 hX1 hX2 HC
  replace HX := Lib.hid (HX.out.trans hX)
  replace HP := Lib.hid (HP.out.ext hX)
  replace HM2 := Lib.hid (HM2.out.ext hX)
  replace HS := Lib.hid (HS.out.ext growsC hX)
  clear hX
  have p0 := HP.out.cell 0
  have p1 := HP.out.cell 1
  simp only [List.getElem?_toArray, List.getElem?_cons_zero, List.getElem?_cons_succ] at p0 p1
  have HF : Hid (FitQW (misfit (3 * 1) fstM (solP (3 * 1) fstM))) := Lib.hid (by rw [fst_mis]; exact fitQ_small' (by omega) (by omega))
  have HFS : Hid (∀ j, FitQW (solP (3 * 1) fstM j)) := Lib.hid (fun j => FitQW.of4 (solP_fit fst_vp.2.2.2 fst_vp.2.2.1 (by omega) j) (by omega))
  go_wp2_with fail
  refine (misfit_ok 1 (some ⟨gm, 0, none⟩) 2 2 fstM go 0 1 (solP (3 * 1) fstM) _ HM2.out fst_vp (HS.out.imp2 (fun j v _ h => h.good (HFS.out j))) HF.out).mono ?_
  rintro e w3 ⟨v3, rfl, hv, hX⟩
  rw [fst_mis] at hv
  obtain ⟨s4, A4, l4, c4, B4, m4, k4, rfl⟩ := RatC.open hv
  replace HX := Lib.hid (HX.out.trans hX)
  have HC := Lib.hid hv
  clear hv hX p0 p1
  go_upto_region 6 with (fail)
  have hXa : Ext w3 (w3.alloc (.cells #[.bool s4, .slice A4 l4 c4, .slice B4 m4 k4] 97)) := (Ext.refl _).alloc _
  have kB := Blk.new w3 97 #[.bool s4, .slice A4 l4 c4, .slice B4 m4 k4]
  replace HX := Lib.hid (HX.out.trans hXa)
  replace HC := Lib.hid (HC.out.ext hXa)
  clear hXa
  generalize w3.heap.size = gx at kB ⊢
  generalize w3.alloc (.cells #[.bool s4, .slice A4 l4 c4, .slice B4 m4 k4] 97) = w4 at kB HX HC ⊢
  refine first_r6 gx s4 A4 B4 l4 c4 m4 k4 w4 (kB.cell 0) (kB.cell 1) (kB.cell 2) HC.out _ _ (by simp) rfl rfl ?_
  rintro xv0 xv1 xv2 xv3 xv4 xv5 xv6 xv7 W rfl rfl rfl rfl _ rfl rfl rfl hX
  simp only [rops, Try.f39, regOf, Option.bind_some, Nat.reduceBEq, if_true, if_false, Bool.false_eq_true, Option.getD_some, List.drop_succ_cons, List.drop_zero]
  simp only [Act.put, List.setIfInBounds_toArray, List.set_cons_succ, List.set_cons_zero]
  have HX9 := Lib.hid (HX.out.trans hX)
  clear kB HC hX
  go_wp2
  go_ret
  exact ⟨rfl, HX9.out⟩

end Go.Proofs.Ytikhlcgnlbinfaa
namespace Go.Proofs.Ytikhlcgnlbinfaa
open Go.RowKit

set_option maxRecDepth 100000 in
set_option maxHeartbeats 2000000 in
theorem facets_r1 (gv : Nat) (s o wt : Int) (pa pb pc pq : Nat → Int) (w : World) (y0 : w.cell? ⟨gv, 0, none⟩ = some (.int .i64 (s))) (y1 : w.cell? ⟨gv, 1, none⟩ = some (.int .i64 (o))) (y2 : w.cell? ⟨gv, 2, none⟩ = some (.int .i64 (wt))) (y3 : w.cell? ⟨gv, 3, none⟩ = some (.int .i64 (pa 0))) (y4 : w.cell? ⟨gv, 4, none⟩ = some (.int .i64 (pa 1))) (y5 : w.cell? ⟨gv, 5, none⟩ = some (.int .i64 (pa 2))) (y6 : w.cell? ⟨gv, 6, none⟩ = some (.int .i64 (pb 0))) (y7 : w.cell? ⟨gv, 7, none⟩ = some (.int .i64 (pb 1))) (y8 : w.cell? ⟨gv, 8, none⟩ = some (.int .i64 (pb 2))) (y9 : w.cell? ⟨gv, 9, none⟩ = some (.int .i64 (pc 0))) (y10 : w.cell? ⟨gv, 10, none⟩ = some (.int .i64 (pc 1))) (y11 : w.cell? ⟨gv, 11, none⟩ = some (.int .i64 (pc 2))) (y12 : w.cell? ⟨gv, 12, none⟩ = some (.int .i64 (pq 0))) (y13 : w.cell? ⟨gv, 13, none⟩ = some (.int .i64 (pq 1))) (y14 : w.cell? ⟨gv, 14, none⟩ = some (.int .i64 (pq 2))) (a : Act) (Q : Exit → Act → World → Prop) (hsize : 32 ≤ a.tmps.size)
    (s1 : a.tmps[1]? = some (.pointer (some ⟨gv, 0, none⟩)))
    (hend : ∀ (xv0 xv1 xv2 xv3 xv4 xv5 xv6 xv7 xv8 xv9 xv10 xv11 xv12 xv13 xv14 xv15 xv16 xv17 xv18 xv19 xv20 xv21 xv22 xv23 xv24 : Value) (W : World), (xv0 = .pointer (some ⟨gv, 0, none⟩)) → (xv1 = .int .i64 (s)) → (xv2 = .pointer (some ⟨gv, 1, none⟩)) → (xv3 = .int .i64 (o)) → (xv4 = .pointer (some ⟨gv, 3, none⟩)) → (xv5 = .agg #[.int .i64 (pa 0), .int .i64 (pa 1), .int .i64 (pa 2)]) → (xv6 = .pointer (some ⟨gv, 6, none⟩)) → (xv7 = .agg #[.int .i64 (pb 0), .int .i64 (pb 1), .int .i64 (pb 2)]) → (xv8 = .pointer (some ⟨gv, 9, none⟩)) → (xv9 = .agg #[.int .i64 (pc 0), .int .i64 (pc 1), .int .i64 (pc 2)]) → (xv10 = .pointer (some ⟨gv, 12, none⟩)) → (xv11 = .agg #[.int .i64 (pq 0), .int .i64 (pq 1), .int .i64 (pq 2)]) → (xv12 = .pointer (some ⟨gv, 2, none⟩)) → (xv13 = .int .i64 (wt)) → (xv18 = .int .i64 (s)) → (xv19 = .int .i64 (o)) → (xv24 = .int .i64 (wt)) → (∃ g, xv14 = .pointer (some ⟨g, 0, none⟩) ∧ w.heap.size ≤ g ∧ Blk W g 22 #[.int .i64 (pa 0), .int .i64 (pa 1), .int .i64 (pa 2)]) → (∃ g, xv15 = .pointer (some ⟨g, 0, none⟩) ∧ w.heap.size ≤ g ∧ Blk W g 22 #[.int .i64 (pb 0), .int .i64 (pb 1), .int .i64 (pb 2)]) → (∃ g, xv16 = .pointer (some ⟨g, 0, none⟩) ∧ w.heap.size ≤ g ∧ Blk W g 22 #[.int .i64 (pc 0), .int .i64 (pc 1), .int .i64 (pc 2)]) → (∃ g, xv17 = .pointer (some ⟨g, 0, none⟩) ∧ w.heap.size ≤ g ∧ Blk W g 22 #[.int .i64 (pq 0), .int .i64 (pq 1), .int .i64 (pq 2)]) → (xv14 ≠ xv15) → (xv14 ≠ xv16) → (xv14 ≠ xv17) → (xv15 ≠ xv16) → (xv15 ≠ xv17) → (xv16 ≠ xv17) → Ext w W → wpList Try.prog (rops Try.f13 1).toArray Q [] (((((((((((((((((((((((((a.put (some 18) xv0).put (some 19) xv1).put (some 20) xv2).put (some 21) xv3).put (some 22) xv4).put (some 23) xv5).put (some 24) xv6).put (some 25) xv7).put (some 26) xv8).put (some 27) xv9).put (some 28) xv10).put (some 29) xv11).put (some 30) xv12).put (some 31) xv13).put (some 5) xv14).put (some 6) xv15).put (some 7) xv16).put (some 8) xv17).put (some 3) xv18).put (some 4) xv19).put (none) xv20).put (none) xv21).put (none) xv22).put (none) xv23).put (some 9) xv24) W) :
    (Code.region 1 (rops Try.f13 1).toArray true).wp Try.prog Q a w := by
  have hsz : ∀ d, some d ∈ ([some 18, some 19, some 20, some 21, some 22, some 23, some 24, some 25, some 26, some 27, some 28, some 29, some 30, some 31, some 5, some 6, some 7, some 8, some 3, some 4, none, none, none, none, some 9] : List (Option Tmp)) → d < a.tmps.size := slots_lt (by decide) hsize
  refine wp_region_g 25 [some 18, some 19, some 20, some 21, some 22, some 23, some 24, some 25, some 26, some 27, some 28, some 29, some 30, some 31, some 5, some 6, some 7, some 8, some 3, some 4, none, none, none, none, some 9] [[], [0], [], [2], [], [4], [], [6], [], [8], [], [10], [], [12], [], [], [], [], [1], [3], [5, 14], [7, 15], [9, 16], [11, 17], [13]] [[], [], [], [], [], [], [], [], [], [], [], [], [], [], [20], [21], [22], [23], [], [], [], [], [], [], []] (fun (done : Nat → Prop) (us : Nat → Value) (W : World) => Ext w W ∧ (done 0 → us 0 = .pointer (some ⟨gv, 0, none⟩)) ∧ (done 1 → us 1 = .int .i64 (s)) ∧ (done 2 → us 2 = .pointer (some ⟨gv, 1, none⟩)) ∧ (done 3 → us 3 = .int .i64 (o)) ∧ (done 4 → us 4 = .pointer (some ⟨gv, 3, none⟩)) ∧ (done 5 → us 5 = .agg #[.int .i64 (pa 0), .int .i64 (pa 1), .int .i64 (pa 2)]) ∧ (done 6 → us 6 = .pointer (some ⟨gv, 6, none⟩)) ∧ (done 7 → us 7 = .agg #[.int .i64 (pb 0), .int .i64 (pb 1), .int .i64 (pb 2)]) ∧ (done 8 → us 8 = .pointer (some ⟨gv, 9, none⟩)) ∧ (done 9 → us 9 = .agg #[.int .i64 (pc 0), .int .i64 (pc 1), .int .i64 (pc 2)]) ∧ (done 10 → us 10 = .pointer (some ⟨gv, 12, none⟩)) ∧ (done 11 → us 11 = .agg #[.int .i64 (pq 0), .int .i64 (pq 1), .int .i64 (pq 2)]) ∧ (done 12 → us 12 = .pointer (some ⟨gv, 2, none⟩)) ∧ (done 13 → us 13 = .int .i64 (wt)) ∧ (done 18 → us 18 = .int .i64 (s)) ∧ (done 19 → us 19 = .int .i64 (o)) ∧ (done 24 → us 24 = .int .i64 (wt)) ∧ Loc w W 22 #[.int .i64 0, .int .i64 0, .int .i64 0] #[.int .i64 (pa 0), .int .i64 (pa 1), .int .i64 (pa 2)] (done 14) (done 20) (us 14) ∧ Loc w W 22 #[.int .i64 0, .int .i64 0, .int .i64 0] #[.int .i64 (pb 0), .int .i64 (pb 1), .int .i64 (pb 2)] (done 15) (done 21) (us 15) ∧ Loc w W 22 #[.int .i64 0, .int .i64 0, .int .i64 0] #[.int .i64 (pc 0), .int .i64 (pc 1), .int .i64 (pc 2)] (done 16) (done 22) (us 16) ∧ Loc w W 22 #[.int .i64 0, .int .i64 0, .int .i64 0] #[.int .i64 (pq 0), .int .i64 (pq 1), .int .i64 (pq 2)] (done 17) (done 23) (us 17) ∧ Far (done 14) (done 15) (us 14) (us 15) ∧ Far (done 14) (done 16) (us 14) (us 16) ∧ Far (done 14) (done 17) (us 14) (us 17) ∧ Far (done 15) (done 16) (us 15) (us 16) ∧ Far (done 15) (done 17) (us 15) (us 17) ∧ Far (done 16) (done 17) (us 16) (us 17)) (by kernel_rfl) (by kernel_rfl) hsz (fun p q us W h => by have e : p = q := funext fun k => propext (h k); rw [e]; exact id) (fun us => ⟨(Ext.refl w).drew, fun h => h.elim, fun h => h.elim, fun h => h.elim, fun h => h.elim, fun h => h.elim, fun h => h.elim, fun h => h.elim, fun h => h.elim, fun h => h.elim, fun h => h.elim, fun h => h.elim, fun h => h.elim, fun h => h.elim, fun h => h.elim, fun h => h.elim, fun h => h.elim, fun h => h.elim, Loc.unmade id, Loc.unmade id, Loc.unmade id, Loc.unmade id, fun h => h.elim, fun h => h.elim, fun h => h.elim, fun h => h.elim, fun h => h.elim, fun h => h.elim⟩) ?_ ?_
  · clear hend
    simp only [rops, Try.f13, regOf, Option.bind_some, Nat.reduceBEq, if_true, if_false, Bool.false_eq_true, Option.getD_some]
    simp only [List.take_succ_cons, List.take_zero]
    refine ⟨?_, ?_, ?_, ?_, ?_, ?_, ?_, ?_, ?_, ?_, ?_, ?_, ?_, ?_, ?_, ?_, ?_, ?_, ?_, ?_, ?_, ?_, ?_, ?_, ?_, trivial⟩
    · intro done us W hJ hdep haft hnot b hb hb' K hK Q'
      obtain ⟨hX0, cc0, cc1, cc2, cc3, cc4, cc5, cc6, cc7, cc8, cc9, cc10, cc11, cc12, cc13, cc18, cc19, cc24, ll14, ll15, ll16, ll17, f14_15, f14_16, f14_17, f15_16, f15_17, f16_17⟩ := hJ
      have e1 := (hb' 1 (by simp)).trans s1
      clear hb hb'
      have hfin := hK (.pointer (some ⟨gv, 0, none⟩)) _ ⟨hX0, fun _ => rfl, fun h => cc1 (h.resolve_right (by decide)), fun h => cc2 (h.resolve_right (by decide)), fun h => cc3 (h.resolve_right (by decide)), fun h => cc4 (h.resolve_right (by decide)), fun h => cc5 (h.resolve_right (by decide)), fun h => cc6 (h.resolve_right (by decide)), fun h => cc7 (h.resolve_right (by decide)), fun h => cc8 (h.resolve_right (by decide)), fun h => cc9 (h.resolve_right (by decide)), fun h => cc10 (h.resolve_right (by decide)), fun h => cc11 (h.resolve_right (by decide)), fun h => cc12 (h.resolve_right (by decide)), fun h => cc13 (h.resolve_right (by decide)), fun h => cc18 (h.resolve_right (by decide)), fun h => cc19 (h.resolve_right (by decide)), fun h => cc24 (h.resolve_right (by decide)), Loc.same ll14 ⟨fun h => h.resolve_right (by decide), .inl⟩ ⟨fun h => h.resolve_right (by decide), .inl⟩, Loc.same ll15 ⟨fun h => h.resolve_right (by decide), .inl⟩ ⟨fun h => h.resolve_right (by decide), .inl⟩, Loc.same ll16 ⟨fun h => h.resolve_right (by decide), .inl⟩ ⟨fun h => h.resolve_right (by decide), .inl⟩, Loc.same ll17 ⟨fun h => h.resolve_right (by decide), .inl⟩ ⟨fun h => h.resolve_right (by decide), .inl⟩, fun h h' => f14_15 (h.resolve_right (by decide)) (h'.resolve_right (by decide)), fun h h' => f14_16 (h.resolve_right (by decide)) (h'.resolve_right (by decide)), fun h h' => f14_17 (h.resolve_right (by decide)) (h'.resolve_right (by decide)), fun h h' => f15_16 (h.resolve_right (by decide)) (h'.resolve_right (by decide)), fun h h' => f15_17 (h.resolve_right (by decide)) (h'.resolve_right (by decide)), fun h h' => f16_17 (h.resolve_right (by decide)) (h'.resolve_right (by decide))⟩
      clear hK cc0 cc1 cc2 cc3 cc4 cc5 cc6 cc7 cc8 cc9 cc10 cc11 cc12 cc13 cc18 cc19 cc24 ll14 ll15 ll16 ll17 f14_15 f14_16 f14_17 f15_16 f15_17 f16_17
      go_simp
      exact hfin
    · intro done us W hJ hdep haft hnot b hb hb' K hK Q'
      obtain ⟨hX0, cc0, cc1, cc2, cc3, cc4, cc5, cc6, cc7, cc8, cc9, cc10, cc11, cc12, cc13, cc18, cc19, cc24, ll14, ll15, ll16, ll17, f14_15, f14_16, f14_17, f15_16, f15_17, f16_17⟩ := hJ
      simp only [List.getD_cons_succ, List.getD_cons_zero, List.mem_cons, List.not_mem_nil, or_false, forall_eq] at hdep
      have e18 := hb 0 18 rfl
      rw [cc0 hdep] at e18
      clear hb hb'
      have q0 := Ext.cell hX0 y0
      have hfin := hK (.int .i64 (s)) _ ⟨hX0, fun h => cc0 (h.resolve_right (by decide)), fun _ => rfl, fun h => cc2 (h.resolve_right (by decide)), fun h => cc3 (h.resolve_right (by decide)), fun h => cc4 (h.resolve_right (by decide)), fun h => cc5 (h.resolve_right (by decide)), fun h => cc6 (h.resolve_right (by decide)), fun h => cc7 (h.resolve_right (by decide)), fun h => cc8 (h.resolve_right (by decide)), fun h => cc9 (h.resolve_right (by decide)), fun h => cc10 (h.resolve_right (by decide)), fun h => cc11 (h.resolve_right (by decide)), fun h => cc12 (h.resolve_right (by decide)), fun h => cc13 (h.resolve_right (by decide)), fun h => cc18 (h.resolve_right (by decide)), fun h => cc19 (h.resolve_right (by decide)), fun h => cc24 (h.resolve_right (by decide)), Loc.same ll14 ⟨fun h => h.resolve_right (by decide), .inl⟩ ⟨fun h => h.resolve_right (by decide), .inl⟩, Loc.same ll15 ⟨fun h => h.resolve_right (by decide), .inl⟩ ⟨fun h => h.resolve_right (by decide), .inl⟩, Loc.same ll16 ⟨fun h => h.resolve_right (by decide), .inl⟩ ⟨fun h => h.resolve_right (by decide), .inl⟩, Loc.same ll17 ⟨fun h => h.resolve_right (by decide), .inl⟩ ⟨fun h => h.resolve_right (by decide), .inl⟩, fun h h' => f14_15 (h.resolve_right (by decide)) (h'.resolve_right (by decide)), fun h h' => f14_16 (h.resolve_right (by decide)) (h'.resolve_right (by decide)), fun h h' => f14_17 (h.resolve_right (by decide)) (h'.resolve_right (by decide)), fun h h' => f15_16 (h.resolve_right (by decide)) (h'.resolve_right (by decide)), fun h h' => f15_17 (h.resolve_right (by decide)) (h'.resolve_right (by decide)), fun h h' => f16_17 (h.resolve_right (by decide)) (h'.resolve_right (by decide))⟩
      clear hK cc0 cc1 cc2 cc3 cc4 cc5 cc6 cc7 cc8 cc9 cc10 cc11 cc12 cc13 cc18 cc19 cc24 ll14 ll15 ll16 ll17 f14_15 f14_16 f14_17 f15_16 f15_17 f16_17
      go_simp
      exact hfin
    · intro done us W hJ hdep haft hnot b hb hb' K hK Q'
      obtain ⟨hX0, cc0, cc1, cc2, cc3, cc4, cc5, cc6, cc7, cc8, cc9, cc10, cc11, cc12, cc13, cc18, cc19, cc24, ll14, ll15, ll16, ll17, f14_15, f14_16, f14_17, f15_16, f15_17, f16_17⟩ := hJ
      have e1 := (hb' 1 (by simp)).trans s1
      clear hb hb'
      have hfin := hK (.pointer (some ⟨gv, 1, none⟩)) _ ⟨hX0, fun h => cc0 (h.resolve_right (by decide)), fun h => cc1 (h.resolve_right (by decide)), fun _ => rfl, fun h => cc3 (h.resolve_right (by decide)), fun h => cc4 (h.resolve_right (by decide)), fun h => cc5 (h.resolve_right (by decide)), fun h => cc6 (h.resolve_right (by decide)), fun h => cc7 (h.resolve_right (by decide)), fun h => cc8 (h.resolve_right (by decide)), fun h => cc9 (h.resolve_right (by decide)), fun h => cc10 (h.resolve_right (by decide)), fun h => cc11 (h.resolve_right (by decide)), fun h => cc12 (h.resolve_right (by decide)), fun h => cc13 (h.resolve_right (by decide)), fun h => cc18 (h.resolve_right (by decide)), fun h => cc19 (h.resolve_right (by decide)), fun h => cc24 (h.resolve_right (by decide)), Loc.same ll14 ⟨fun h => h.resolve_right (by decide), .inl⟩ ⟨fun h => h.resolve_right (by decide), .inl⟩, Loc.same ll15 ⟨fun h => h.resolve_right (by decide), .inl⟩ ⟨fun h => h.resolve_right (by decide), .inl⟩, Loc.same ll16 ⟨fun h => h.resolve_right (by decide), .inl⟩ ⟨fun h => h.resolve_right (by decide), .inl⟩, Loc.same ll17 ⟨fun h => h.resolve_right (by decide), .inl⟩ ⟨fun h => h.resolve_right (by decide), .inl⟩, fun h h' => f14_15 (h.resolve_right (by decide)) (h'.resolve_right (by decide)), fun h h' => f14_16 (h.resolve_right (by decide)) (h'.resolve_right (by decide)), fun h h' => f14_17 (h.resolve_right (by decide)) (h'.resolve_right (by decide)), fun h h' => f15_16 (h.resolve_right (by decide)) (h'.resolve_right (by decide)), fun h h' => f15_17 (h.resolve_right (by decide)) (h'.resolve_right (by decide)), fun h h' => f16_17 (h.resolve_right (by decide)) (h'.resolve_right (by decide))⟩
      clear hK cc0 cc1 cc2 cc3 cc4 cc5 cc6 cc7 cc8 cc9 cc10 cc11 cc12 cc13 cc18 cc19 cc24 ll14 ll15 ll16 ll17 f14_15 f14_16 f14_17 f15_16 f15_17 f16_17
      go_simp
      exact hfin
    · intro done us W hJ hdep haft hnot b hb hb' K hK Q'
      obtain ⟨hX0, cc0, cc1, cc2, cc3, cc4, cc5, cc6, cc7, cc8, cc9, cc10, cc11, cc12, cc13, cc18, cc19, cc24, ll14, ll15, ll16, ll17, f14_15, f14_16, f14_17, f15_16, f15_17, f16_17⟩ := hJ
      simp only [List.getD_cons_succ, List.getD_cons_zero, List.mem_cons, List.not_mem_nil, or_false, forall_eq] at hdep
      have e20 := hb 2 20 rfl
      rw [cc2 hdep] at e20
      clear hb hb'
      have q0 := Ext.cell hX0 y1
      have hfin := hK (.int .i64 (o)) _ ⟨hX0, fun h => cc0 (h.resolve_right (by decide)), fun h => cc1 (h.resolve_right (by decide)), fun h => cc2 (h.resolve_right (by decide)), fun _ => rfl, fun h => cc4 (h.resolve_right (by decide)), fun h => cc5 (h.resolve_right (by decide)), fun h => cc6 (h.resolve_right (by decide)), fun h => cc7 (h.resolve_right (by decide)), fun h => cc8 (h.resolve_right (by decide)), fun h => cc9 (h.resolve_right (by decide)), fun h => cc10 (h.resolve_right (by decide)), fun h => cc11 (h.resolve_right (by decide)), fun h => cc12 (h.resolve_right (by decide)), fun h => cc13 (h.resolve_right (by decide)), fun h => cc18 (h.resolve_right (by decide)), fun h => cc19 (h.resolve_right (by decide)), fun h => cc24 (h.resolve_right (by decide)), Loc.same ll14 ⟨fun h => h.resolve_right (by decide), .inl⟩ ⟨fun h => h.resolve_right (by decide), .inl⟩, Loc.same ll15 ⟨fun h => h.resolve_right (by decide), .inl⟩ ⟨fun h => h.resolve_right (by decide), .inl⟩, Loc.same ll16 ⟨fun h => h.resolve_right (by decide), .inl⟩ ⟨fun h => h.resolve_right (by decide), .inl⟩, Loc.same ll17 ⟨fun h => h.resolve_right (by decide), .inl⟩ ⟨fun h => h.resolve_right (by decide), .inl⟩, fun h h' => f14_15 (h.resolve_right (by decide)) (h'.resolve_right (by decide)), fun h h' => f14_16 (h.resolve_right (by decide)) (h'.resolve_right (by decide)), fun h h' => f14_17 (h.resolve_right (by decide)) (h'.resolve_right (by decide)), fun h h' => f15_16 (h.resolve_right (by decide)) (h'.resolve_right (by decide)), fun h h' => f15_17 (h.resolve_right (by decide)) (h'.resolve_right (by decide)), fun h h' => f16_17 (h.resolve_right (by decide)) (h'.resolve_right (by decide))⟩
      clear hK cc0 cc1 cc2 cc3 cc4 cc5 cc6 cc7 cc8 cc9 cc10 cc11 cc12 cc13 cc18 cc19 cc24 ll14 ll15 ll16 ll17 f14_15 f14_16 f14_17 f15_16 f15_17 f16_17
      go_simp
      exact hfin
    · intro done us W hJ hdep haft hnot b hb hb' K hK Q'
      obtain ⟨hX0, cc0, cc1, cc2, cc3, cc4, cc5, cc6, cc7, cc8, cc9, cc10, cc11, cc12, cc13, cc18, cc19, cc24, ll14, ll15, ll16, ll17, f14_15, f14_16, f14_17, f15_16, f15_17, f16_17⟩ := hJ
      have e1 := (hb' 1 (by simp)).trans s1
      clear hb hb'
      have hfin := hK (.pointer (some ⟨gv, 3, none⟩)) _ ⟨hX0, fun h => cc0 (h.resolve_right (by decide)), fun h => cc1 (h.resolve_right (by decide)), fun h => cc2 (h.resolve_right (by decide)), fun h => cc3 (h.resolve_right (by decide)), fun _ => rfl, fun h => cc5 (h.resolve_right (by decide)), fun h => cc6 (h.resolve_right (by decide)), fun h => cc7 (h.resolve_right (by decide)), fun h => cc8 (h.resolve_right (by decide)), fun h => cc9 (h.resolve_right (by decide)), fun h => cc10 (h.resolve_right (by decide)), fun h => cc11 (h.resolve_right (by decide)), fun h => cc12 (h.resolve_right (by decide)), fun h => cc13 (h.resolve_right (by decide)), fun h => cc18 (h.resolve_right (by decide)), fun h => cc19 (h.resolve_right (by decide)), fun h => cc24 (h.resolve_right (by decide)), Loc.same ll14 ⟨fun h => h.resolve_right (by decide), .inl⟩ ⟨fun h => h.resolve_right (by decide), .inl⟩, Loc.same ll15 ⟨fun h => h.resolve_right (by decide), .inl⟩ ⟨fun h => h.resolve_right (by decide), .inl⟩, Loc.same ll16 ⟨fun h => h.resolve_right (by decide), .inl⟩ ⟨fun h => h.resolve_right (by decide), .inl⟩, Loc.same ll17 ⟨fun h => h.resolve_right (by decide), .inl⟩ ⟨fun h => h.resolve_right (by decide), .inl⟩, fun h h' => f14_15 (h.resolve_right (by decide)) (h'.resolve_right (by decide)), fun h h' => f14_16 (h.resolve_right (by decide)) (h'.resolve_right (by decide)), fun h h' => f14_17 (h.resolve_right (by decide)) (h'.resolve_right (by decide)), fun h h' => f15_16 (h.resolve_right (by decide)) (h'.resolve_right (by decide)), fun h h' => f15_17 (h.resolve_right (by decide)) (h'.resolve_right (by decide)), fun h h' => f16_17 (h.resolve_right (by decide)) (h'.resolve_right (by decide))⟩
      clear hK cc0 cc1 cc2 cc3 cc4 cc5 cc6 cc7 cc8 cc9 cc10 cc11 cc12 cc13 cc18 cc19 cc24 ll14 ll15 ll16 ll17 f14_15 f14_16 f14_17 f15_16 f15_17 f16_17
      go_simp
      exact hfin
    · intro done us W hJ hdep haft hnot b hb hb' K hK Q'
      obtain ⟨hX0, cc0, cc1, cc2, cc3, cc4, cc5, cc6, cc7, cc8, cc9, cc10, cc11, cc12, cc13, cc18, cc19, cc24, ll14, ll15, ll16, ll17, f14_15, f14_16, f14_17, f15_16, f15_17, f16_17⟩ := hJ
      simp only [List.getD_cons_succ, List.getD_cons_zero, List.mem_cons, List.not_mem_nil, or_false, forall_eq] at hdep
      have e22 := hb 4 22 rfl
      rw [cc4 hdep] at e22
      clear hb hb'
      have q0 := Ext.cell hX0 y3
      have q1 := Ext.cell hX0 y4
      have q2 := Ext.cell hX0 y5
      have hfin := hK (.agg #[.int .i64 (pa 0), .int .i64 (pa 1), .int .i64 (pa 2)]) _ ⟨hX0, fun h => cc0 (h.resolve_right (by decide)), fun h => cc1 (h.resolve_right (by decide)), fun h => cc2 (h.resolve_right (by decide)), fun h => cc3 (h.resolve_right (by decide)), fun h => cc4 (h.resolve_right (by decide)), fun _ => rfl, fun h => cc6 (h.resolve_right (by decide)), fun h => cc7 (h.resolve_right (by decide)), fun h => cc8 (h.resolve_right (by decide)), fun h => cc9 (h.resolve_right (by decide)), fun h => cc10 (h.resolve_right (by decide)), fun h => cc11 (h.resolve_right (by decide)), fun h => cc12 (h.resolve_right (by decide)), fun h => cc13 (h.resolve_right (by decide)), fun h => cc18 (h.resolve_right (by decide)), fun h => cc19 (h.resolve_right (by decide)), fun h => cc24 (h.resolve_right (by decide)), Loc.same ll14 ⟨fun h => h.resolve_right (by decide), .inl⟩ ⟨fun h => h.resolve_right (by decide), .inl⟩, Loc.same ll15 ⟨fun h => h.resolve_right (by decide), .inl⟩ ⟨fun h => h.resolve_right (by decide), .inl⟩, Loc.same ll16 ⟨fun h => h.resolve_right (by decide), .inl⟩ ⟨fun h => h.resolve_right (by decide), .inl⟩, Loc.same ll17 ⟨fun h => h.resolve_right (by decide), .inl⟩ ⟨fun h => h.resolve_right (by decide), .inl⟩, fun h h' => f14_15 (h.resolve_right (by decide)) (h'.resolve_right (by decide)), fun h h' => f14_16 (h.resolve_right (by decide)) (h'.resolve_right (by decide)), fun h h' => f14_17 (h.resolve_right (by decide)) (h'.resolve_right (by decide)), fun h h' => f15_16 (h.resolve_right (by decide)) (h'.resolve_right (by decide)), fun h h' => f15_17 (h.resolve_right (by decide)) (h'.resolve_right (by decide)), fun h h' => f16_17 (h.resolve_right (by decide)) (h'.resolve_right (by decide))⟩
      clear hK cc0 cc1 cc2 cc3 cc4 cc5 cc6 cc7 cc8 cc9 cc10 cc11 cc12 cc13 cc18 cc19 cc24 ll14 ll15 ll16 ll17 f14_15 f14_16 f14_17 f15_16 f15_17 f16_17
      go_simp
      exact hfin
    · intro done us W hJ hdep haft hnot b hb hb' K hK Q'
      obtain ⟨hX0, cc0, cc1, cc2, cc3, cc4, cc5, cc6, cc7, cc8, cc9, cc10, cc11, cc12, cc13, cc18, cc19, cc24, ll14, ll15, ll16, ll17, f14_15, f14_16, f14_17, f15_16, f15_17, f16_17⟩ := hJ
      have e1 := (hb' 1 (by simp)).trans s1
      clear hb hb'
      have hfin := hK (.pointer (some ⟨gv, 6, none⟩)) _ ⟨hX0, fun h => cc0 (h.resolve_right (by decide)), fun h => cc1 (h.resolve_right (by decide)), fun h => cc2 (h.resolve_right (by decide)), fun h => cc3 (h.resolve_right (by decide)), fun h => cc4 (h.resolve_right (by decide)), fun h => cc5 (h.resolve_right (by decide)), fun _ => rfl, fun h => cc7 (h.resolve_right (by decide)), fun h => cc8 (h.resolve_right (by decide)), fun h => cc9 (h.resolve_right (by decide)), fun h => cc10 (h.resolve_right (by decide)), fun h => cc11 (h.resolve_right (by decide)), fun h => cc12 (h.resolve_right (by decide)), fun h => cc13 (h.resolve_right (by decide)), fun h => cc18 (h.resolve_right (by decide)), fun h => cc19 (h.resolve_right (by decide)), fun h => cc24 (h.resolve_right (by decide)), Loc.same ll14 ⟨fun h => h.resolve_right (by decide), .inl⟩ ⟨fun h => h.resolve_right (by decide), .inl⟩, Loc.same ll15 ⟨fun h => h.resolve_right (by decide), .inl⟩ ⟨fun h => h.resolve_right (by decide), .inl⟩, Loc.same ll16 ⟨fun h => h.resolve_right (by decide), .inl⟩ ⟨fun h => h.resolve_right (by decide), .inl⟩, Loc.same ll17 ⟨fun h => h.resolve_right (by decide), .inl⟩ ⟨fun h => h.resolve_right (by decide), .inl⟩, fun h h' => f14_15 (h.resolve_right (by decide)) (h'.resolve_right (by decide)), fun h h' => f14_16 (h.resolve_right (by decide)) (h'.resolve_right (by decide)), fun h h' => f14_17 (h.resolve_right (by decide)) (h'.resolve_right (by decide)), fun h h' => f15_16 (h.resolve_right (by decide)) (h'.resolve_right (by decide)), fun h h' => f15_17 (h.resolve_right (by decide)) (h'.resolve_right (by decide)), fun h h' => f16_17 (h.resolve_right (by decide)) (h'.resolve_right (by decide))⟩
      clear hK cc0 cc1 cc2 cc3 cc4 cc5 cc6 cc7 cc8 cc9 cc10 cc11 cc12 cc13 cc18 cc19 cc24 ll14 ll15 ll16 ll17 f14_15 f14_16 f14_17 f15_16 f15_17 f16_17
      go_simp
      exact hfin
    · intro done us W hJ hdep haft hnot b hb hb' K hK Q'
      obtain ⟨hX0, cc0, cc1, cc2, cc3, cc4, cc5, cc6, cc7, cc8, cc9, cc10, cc11, cc12, cc13, cc18, cc19, cc24, ll14, ll15, ll16, ll17, f14_15, f14_16, f14_17, f15_16, f15_17, f16_17⟩ := hJ
      simp only [List.getD_cons_succ, List.getD_cons_zero, List.mem_cons, List.not_mem_nil, or_false, forall_eq] at hdep
      have e24 := hb 6 24 rfl
      rw [cc6 hdep] at e24
      clear hb hb'
      have q0 := Ext.cell hX0 y6
      have q1 := Ext.cell hX0 y7
      have q2 := Ext.cell hX0 y8
      have hfin := hK (.agg #[.int .i64 (pb 0), .int .i64 (pb 1), .int .i64 (pb 2)]) _ ⟨hX0, fun h => cc0 (h.resolve_right (by decide)), fun h => cc1 (h.resolve_right (by decide)), fun h => cc2 (h.resolve_right (by decide)), fun h => cc3 (h.resolve_right (by decide)), fun h => cc4 (h.resolve_right (by decide)), fun h => cc5 (h.resolve_right (by decide)), fun h => cc6 (h.resolve_right (by decide)), fun _ => rfl, fun h => cc8 (h.resolve_right (by decide)), fun h => cc9 (h.resolve_right (by decide)), fun h => cc10 (h.resolve_right (by decide)), fun h => cc11 (h.resolve_right (by decide)), fun h => cc12 (h.resolve_right (by decide)), fun h => cc13 (h.resolve_right (by decide)), fun h => cc18 (h.resolve_right (by decide)), fun h => cc19 (h.resolve_right (by decide)), fun h => cc24 (h.resolve_right (by decide)), Loc.same ll14 ⟨fun h => h.resolve_right (by decide), .inl⟩ ⟨fun h => h.resolve_right (by decide), .inl⟩, Loc.same ll15 ⟨fun h => h.resolve_right (by decide), .inl⟩ ⟨fun h => h.resolve_right (by decide), .inl⟩, Loc.same ll16 ⟨fun h => h.resolve_right (by decide), .inl⟩ ⟨fun h => h.resolve_right (by decide), .inl⟩, Loc.same ll17 ⟨fun h => h.resolve_right (by decide), .inl⟩ ⟨fun h => h.resolve_right (by decide), .inl⟩, fun h h' => f14_15 (h.resolve_right (by decide)) (h'.resolve_right (by decide)), fun h h' => f14_16 (h.resolve_right (by decide)) (h'.resolve_right (by decide)), fun h h' => f14_17 (h.resolve_right (by decide)) (h'.resolve_right (by decide)), fun h h' => f15_16 (h.resolve_right (by decide)) (h'.resolve_right (by decide)), fun h h' => f15_17 (h.resolve_right (by decide)) (h'.resolve_right (by decide)), fun h h' => f16_17 (h.resolve_right (by decide)) (h'.resolve_right (by decide))⟩
      clear hK cc0 cc1 cc2 cc3 cc4 cc5 cc6 cc7 cc8 cc9 cc10 cc11 cc12 cc13 cc18 cc19 cc24 ll14 ll15 ll16 ll17 f14_15 f14_16 f14_17 f15_16 f15_17 f16_17
      go_simp
      exact hfin
    · intro done us W hJ hdep haft hnot b hb hb' K hK Q'
      obtain ⟨hX0, cc0, cc1, cc2, cc3, cc4, cc5, cc6, cc7, cc8, cc9, cc10, cc11, cc12, cc13, cc18, cc19, cc24, ll14, ll15, ll16, ll17, f14_15, f14_16, f14_17, f15_16, f15_17, f16_17⟩ := hJ
      have e1 := (hb' 1 (by simp)).trans s1
      clear hb hb'
      have hfin := hK (.pointer (some ⟨gv, 9, none⟩)) _ ⟨hX0, fun h => cc0 (h.resolve_right (by decide)), fun h => cc1 (h.resolve_right (by decide)), fun h => cc2 (h.resolve_right (by decide)), fun h => cc3 (h.resolve_right (by decide)), fun h => cc4 (h.resolve_right (by decide)), fun h => cc5 (h.resolve_right (by decide)), fun h => cc6 (h.resolve_right (by decide)), fun h => cc7 (h.resolve_right (by decide)), fun _ => rfl, fun h => cc9 (h.resolve_right (by decide)), fun h => cc10 (h.resolve_right (by decide)), fun h => cc11 (h.resolve_right (by decide)), fun h => cc12 (h.resolve_right (by decide)), fun h => cc13 (h.resolve_right (by decide)), fun h => cc18 (h.resolve_right (by decide)), fun h => cc19 (h.resolve_right (by decide)), fun h => cc24 (h.resolve_right (by decide)), Loc.same ll14 ⟨fun h => h.resolve_right (by decide), .inl⟩ ⟨fun h => h.resolve_right (by decide), .inl⟩, Loc.same ll15 ⟨fun h => h.resolve_right (by decide), .inl⟩ ⟨fun h => h.resolve_right (by decide), .inl⟩, Loc.same ll16 ⟨fun h => h.resolve_right (by decide), .inl⟩ ⟨fun h => h.resolve_right (by decide), .inl⟩, Loc.same ll17 ⟨fun h => h.resolve_right (by decide), .inl⟩ ⟨fun h => h.resolve_right (by decide), .inl⟩, fun h h' => f14_15 (h.resolve_right (by decide)) (h'.resolve_right (by decide)), fun h h' => f14_16 (h.resolve_right (by decide)) (h'.resolve_right (by decide)), fun h h' => f14_17 (h.resolve_right (by decide)) (h'.resolve_right (by decide)), fun h h' => f15_16 (h.resolve_right (by decide)) (h'.resolve_right (by decide)), fun h h' => f15_17 (h.resolve_right (by decide)) (h'.resolve_right (by decide)), fun h h' => f16_17 (h.resolve_right (by decide)) (h'.resolve_right (by decide))⟩
      clear hK cc0 cc1 cc2 cc3 cc4 cc5 cc6 cc7 cc8 cc9 cc10 cc11 cc12 cc13 cc18 cc19 cc24 ll14 ll15 ll16 ll17 f14_15 f14_16 f14_17 f15_16 f15_17 f16_17
      go_simp
      exact hfin
    · intro done us W hJ hdep haft hnot b hb hb' K hK Q'
      obtain ⟨hX0, cc0, cc1, cc2, cc3, cc4, cc5, cc6, cc7, cc8, cc9, cc10, cc11, cc12, cc13, cc18, cc19, cc24, ll14, ll15, ll16, ll17, f14_15, f14_16, f14_17, f15_16, f15_17, f16_17⟩ := hJ
      simp only [List.getD_cons_succ, List.getD_cons_zero, List.mem_cons, List.not_mem_nil, or_false, forall_eq] at hdep
      have e26 := hb 8 26 rfl
      rw [cc8 hdep] at e26
      clear hb hb'
      have q0 := Ext.cell hX0 y9
      have q1 := Ext.cell hX0 y10
      have q2 := Ext.cell hX0 y11
      have hfin := hK (.agg #[.int .i64 (pc 0), .int .i64 (pc 1), .int .i64 (pc 2)]) _ ⟨hX0, fun h => cc0 (h.resolve_right (by decide)), fun h => cc1 (h.resolve_right (by decide)), fun h => cc2 (h.resolve_right (by decide)), fun h => cc3 (h.resolve_right (by decide)), fun h => cc4 (h.resolve_right (by decide)), fun h => cc5 (h.resolve_right (by decide)), fun h => cc6 (h.resolve_right (by decide)), fun h => cc7 (h.resolve_right (by decide)), fun h => cc8 (h.resolve_right (by decide)), fun _ => rfl, fun h => cc10 (h.resolve_right (by decide)), fun h => cc11 (h.resolve_right (by decide)), fun h => cc12 (h.resolve_right (by decide)), fun h => cc13 (h.resolve_right (by decide)), fun h => cc18 (h.resolve_right (by decide)), fun h => cc19 (h.resolve_right (by decide)), fun h => cc24 (h.resolve_right (by decide)), Loc.same ll14 ⟨fun h => h.resolve_right (by decide), .inl⟩ ⟨fun h => h.resolve_right (by decide), .inl⟩, Loc.same ll15 ⟨fun h => h.resolve_right (by decide), .inl⟩ ⟨fun h => h.resolve_right (by decide), .inl⟩, Loc.same ll16 ⟨fun h => h.resolve_right (by decide), .inl⟩ ⟨fun h => h.resolve_right (by decide), .inl⟩, Loc.same ll17 ⟨fun h => h.resolve_right (by decide), .inl⟩ ⟨fun h => h.resolve_right (by decide), .inl⟩, fun h h' => f14_15 (h.resolve_right (by decide)) (h'.resolve_right (by decide)), fun h h' => f14_16 (h.resolve_right (by decide)) (h'.resolve_right (by decide)), fun h h' => f14_17 (h.resolve_right (by decide)) (h'.resolve_right (by decide)), fun h h' => f15_16 (h.resolve_right (by decide)) (h'.resolve_right (by decide)), fun h h' => f15_17 (h.resolve_right (by decide)) (h'.resolve_right (by decide)), fun h h' => f16_17 (h.resolve_right (by decide)) (h'.resolve_right (by decide))⟩
      clear hK cc0 cc1 cc2 cc3 cc4 cc5 cc6 cc7 cc8 cc9 cc10 cc11 cc12 cc13 cc18 cc19 cc24 ll14 ll15 ll16 ll17 f14_15 f14_16 f14_17 f15_16 f15_17 f16_17
      go_simp
      exact hfin
    · intro done us W hJ hdep haft hnot b hb hb' K hK Q'
      obtain ⟨hX0, cc0, cc1, cc2, cc3, cc4, cc5, cc6, cc7, cc8, cc9, cc10, cc11, cc12, cc13, cc18, cc19, cc24, ll14, ll15, ll16, ll17, f14_15, f14_16, f14_17, f15_16, f15_17, f16_17⟩ := hJ
      have e1 := (hb' 1 (by simp)).trans s1
      clear hb hb'
      have hfin := hK (.pointer (some ⟨gv, 12, none⟩)) _ ⟨hX0, fun h => cc0 (h.resolve_right (by decide)), fun h => cc1 (h.resolve_right (by decide)), fun h => cc2 (h.resolve_right (by decide)), fun h => cc3 (h.resolve_right (by decide)), fun h => cc4 (h.resolve_right (by decide)), fun h => cc5 (h.resolve_right (by decide)), fun h => cc6 (h.resolve_right (by decide)), fun h => cc7 (h.resolve_right (by decide)), fun h => cc8 (h.resolve_right (by decide)), fun h => cc9 (h.resolve_right (by decide)), fun _ => rfl, fun h => cc11 (h.resolve_right (by decide)), fun h => cc12 (h.resolve_right (by decide)), fun h => cc13 (h.resolve_right (by decide)), fun h => cc18 (h.resolve_right (by decide)), fun h => cc19 (h.resolve_right (by decide)), fun h => cc24 (h.resolve_right (by decide)), Loc.same ll14 ⟨fun h => h.resolve_right (by decide), .inl⟩ ⟨fun h => h.resolve_right (by decide), .inl⟩, Loc.same ll15 ⟨fun h => h.resolve_right (by decide), .inl⟩ ⟨fun h => h.resolve_right (by decide), .inl⟩, Loc.same ll16 ⟨fun h => h.resolve_right (by decide), .inl⟩ ⟨fun h => h.resolve_right (by decide), .inl⟩, Loc.same ll17 ⟨fun h => h.resolve_right (by decide), .inl⟩ ⟨fun h => h.resolve_right (by decide), .inl⟩, fun h h' => f14_15 (h.resolve_right (by decide)) (h'.resolve_right (by decide)), fun h h' => f14_16 (h.resolve_right (by decide)) (h'.resolve_right (by decide)), fun h h' => f14_17 (h.resolve_right (by decide)) (h'.resolve_right (by decide)), fun h h' => f15_16 (h.resolve_right (by decide)) (h'.resolve_right (by decide)), fun h h' => f15_17 (h.resolve_right (by decide)) (h'.resolve_right (by decide)), fun h h' => f16_17 (h.resolve_right (by decide)) (h'.resolve_right (by decide))⟩
      clear hK cc0 cc1 cc2 cc3 cc4 cc5 cc6 cc7 cc8 cc9 cc10 cc11 cc12 cc13 cc18 cc19 cc24 ll14 ll15 ll16 ll17 f14_15 f14_16 f14_17 f15_16 f15_17 f16_17
      go_simp
      exact hfin
    · intro done us W hJ hdep haft hnot b hb hb' K hK Q'
      obtain ⟨hX0, cc0, cc1, cc2, cc3, cc4, cc5, cc6, cc7, cc8, cc9, cc10, cc11, cc12, cc13, cc18, cc19, cc24, ll14, ll15, ll16, ll17, f14_15, f14_16, f14_17, f15_16, f15_17, f16_17⟩ := hJ
      simp only [List.getD_cons_succ, List.getD_cons_zero, List.mem_cons, List.not_mem_nil, or_false, forall_eq] at hdep
      have e28 := hb 10 28 rfl
      rw [cc10 hdep] at e28
      clear hb hb'
      have q0 := Ext.cell hX0 y12
      have q1 := Ext.cell hX0 y13
      have q2 := Ext.cell hX0 y14
      have hfin := hK (.agg #[.int .i64 (pq 0), .int .i64 (pq 1), .int .i64 (pq 2)]) _ ⟨hX0, fun h => cc0 (h.resolve_right (by decide)), fun h => cc1 (h.resolve_right (by decide)), fun h => cc2 (h.resolve_right (by decide)), fun h => cc3 (h.resolve_right (by decide)), fun h => cc4 (h.resolve_right (by decide)), fun h => cc5 (h.resolve_right (by decide)), fun h => cc6 (h.resolve_right (by decide)), fun h => cc7 (h.resolve_right (by decide)), fun h => cc8 (h.resolve_right (by decide)), fun h => cc9 (h.resolve_right (by decide)), fun h => cc10 (h.resolve_right (by decide)), fun _ => rfl, fun h => cc12 (h.resolve_right (by decide)), fun h => cc13 (h.resolve_right (by decide)), fun h => cc18 (h.resolve_right (by decide)), fun h => cc19 (h.resolve_right (by decide)), fun h => cc24 (h.resolve_right (by decide)), Loc.same ll14 ⟨fun h => h.resolve_right (by decide), .inl⟩ ⟨fun h => h.resolve_right (by decide), .inl⟩, Loc.same ll15 ⟨fun h => h.resolve_right (by decide), .inl⟩ ⟨fun h => h.resolve_right (by decide), .inl⟩, Loc.same ll16 ⟨fun h => h.resolve_right (by decide), .inl⟩ ⟨fun h => h.resolve_right (by decide), .inl⟩, Loc.same ll17 ⟨fun h => h.resolve_right (by decide), .inl⟩ ⟨fun h => h.resolve_right (by decide), .inl⟩, fun h h' => f14_15 (h.resolve_right (by decide)) (h'.resolve_right (by decide)), fun h h' => f14_16 (h.resolve_right (by decide)) (h'.resolve_right (by decide)), fun h h' => f14_17 (h.resolve_right (by decide)) (h'.resolve_right (by decide)), fun h h' => f15_16 (h.resolve_right (by decide)) (h'.resolve_right (by decide)), fun h h' => f15_17 (h.resolve_right (by decide)) (h'.resolve_right (by decide)), fun h h' => f16_17 (h.resolve_right (by decide)) (h'.resolve_right (by decide))⟩
      clear hK cc0 cc1 cc2 cc3 cc4 cc5 cc6 cc7 cc8 cc9 cc10 cc11 cc12 cc13 cc18 cc19 cc24 ll14 ll15 ll16 ll17 f14_15 f14_16 f14_17 f15_16 f15_17 f16_17
      go_simp
      exact hfin
    · intro done us W hJ hdep haft hnot b hb hb' K hK Q'
      obtain ⟨hX0, cc0, cc1, cc2, cc3, cc4, cc5, cc6, cc7, cc8, cc9, cc10, cc11, cc12, cc13, cc18, cc19, cc24, ll14, ll15, ll16, ll17, f14_15, f14_16, f14_17, f15_16, f15_17, f16_17⟩ := hJ
      have e1 := (hb' 1 (by simp)).trans s1
      clear hb hb'
      have hfin := hK (.pointer (some ⟨gv, 2, none⟩)) _ ⟨hX0, fun h => cc0 (h.resolve_right (by decide)), fun h => cc1 (h.resolve_right (by decide)), fun h => cc2 (h.resolve_right (by decide)), fun h => cc3 (h.resolve_right (by decide)), fun h => cc4 (h.resolve_right (by decide)), fun h => cc5 (h.resolve_right (by decide)), fun h => cc6 (h.resolve_right (by decide)), fun h => cc7 (h.resolve_right (by decide)), fun h => cc8 (h.resolve_right (by decide)), fun h => cc9 (h.resolve_right (by decide)), fun h => cc10 (h.resolve_right (by decide)), fun h => cc11 (h.resolve_right (by decide)), fun _ => rfl, fun h => cc13 (h.resolve_right (by decide)), fun h => cc18 (h.resolve_right (by decide)), fun h => cc19 (h.resolve_right (by decide)), fun h => cc24 (h.resolve_right (by decide)), Loc.same ll14 ⟨fun h => h.resolve_right (by decide), .inl⟩ ⟨fun h => h.resolve_right (by decide), .inl⟩, Loc.same ll15 ⟨fun h => h.resolve_right (by decide), .inl⟩ ⟨fun h => h.resolve_right (by decide), .inl⟩, Loc.same ll16 ⟨fun h => h.resolve_right (by decide), .inl⟩ ⟨fun h => h.resolve_right (by decide), .inl⟩, Loc.same ll17 ⟨fun h => h.resolve_right (by decide), .inl⟩ ⟨fun h => h.resolve_right (by decide), .inl⟩, fun h h' => f14_15 (h.resolve_right (by decide)) (h'.resolve_right (by decide)), fun h h' => f14_16 (h.resolve_right (by decide)) (h'.resolve_right (by decide)), fun h h' => f14_17 (h.resolve_right (by decide)) (h'.resolve_right (by decide)), fun h h' => f15_16 (h.resolve_right (by decide)) (h'.resolve_right (by decide)), fun h h' => f15_17 (h.resolve_right (by decide)) (h'.resolve_right (by decide)), fun h h' => f16_17 (h.resolve_right (by decide)) (h'.resolve_right (by decide))⟩
      clear hK cc0 cc1 cc2 cc3 cc4 cc5 cc6 cc7 cc8 cc9 cc10 cc11 cc12 cc13 cc18 cc19 cc24 ll14 ll15 ll16 ll17 f14_15 f14_16 f14_17 f15_16 f15_17 f16_17
      go_simp
      exact hfin
    · intro done us W hJ hdep haft hnot b hb hb' K hK Q'
      obtain ⟨hX0, cc0, cc1, cc2, cc3, cc4, cc5, cc6, cc7, cc8, cc9, cc10, cc11, cc12, cc13, cc18, cc19, cc24, ll14, ll15, ll16, ll17, f14_15, f14_16, f14_17, f15_16, f15_17, f16_17⟩ := hJ
      simp only [List.getD_cons_succ, List.getD_cons_zero, List.mem_cons, List.not_mem_nil, or_false, forall_eq] at hdep
      have e30 := hb 12 30 rfl
      rw [cc12 hdep] at e30
      clear hb hb'
      have q0 := Ext.cell hX0 y2
      have hfin := hK (.int .i64 (wt)) _ ⟨hX0, fun h => cc0 (h.resolve_right (by decide)), fun h => cc1 (h.resolve_right (by decide)), fun h => cc2 (h.resolve_right (by decide)), fun h => cc3 (h.resolve_right (by decide)), fun h => cc4 (h.resolve_right (by decide)), fun h => cc5 (h.resolve_right (by decide)), fun h => cc6 (h.resolve_right (by decide)), fun h => cc7 (h.resolve_right (by decide)), fun h => cc8 (h.resolve_right (by decide)), fun h => cc9 (h.resolve_right (by decide)), fun h => cc10 (h.resolve_right (by decide)), fun h => cc11 (h.resolve_right (by decide)), fun h => cc12 (h.resolve_right (by decide)), fun _ => rfl, fun h => cc18 (h.resolve_right (by decide)), fun h => cc19 (h.resolve_right (by decide)), fun h => cc24 (h.resolve_right (by decide)), Loc.same ll14 ⟨fun h => h.resolve_right (by decide), .inl⟩ ⟨fun h => h.resolve_right (by decide), .inl⟩, Loc.same ll15 ⟨fun h => h.resolve_right (by decide), .inl⟩ ⟨fun h => h.resolve_right (by decide), .inl⟩, Loc.same ll16 ⟨fun h => h.resolve_right (by decide), .inl⟩ ⟨fun h => h.resolve_right (by decide), .inl⟩, Loc.same ll17 ⟨fun h => h.resolve_right (by decide), .inl⟩ ⟨fun h => h.resolve_right (by decide), .inl⟩, fun h h' => f14_15 (h.resolve_right (by decide)) (h'.resolve_right (by decide)), fun h h' => f14_16 (h.resolve_right (by decide)) (h'.resolve_right (by decide)), fun h h' => f14_17 (h.resolve_right (by decide)) (h'.resolve_right (by decide)), fun h h' => f15_16 (h.resolve_right (by decide)) (h'.resolve_right (by decide)), fun h h' => f15_17 (h.resolve_right (by decide)) (h'.resolve_right (by decide)), fun h h' => f16_17 (h.resolve_right (by decide)) (h'.resolve_right (by decide))⟩
      clear hK cc0 cc1 cc2 cc3 cc4 cc5 cc6 cc7 cc8 cc9 cc10 cc11 cc12 cc13 cc18 cc19 cc24 ll14 ll15 ll16 ll17 f14_15 f14_16 f14_17 f15_16 f15_17 f16_17
      go_simp
      exact hfin
    · intro done us W hJ hdep haft hnot b hb hb' K hK Q'
      obtain ⟨hX0, cc0, cc1, cc2, cc3, cc4, cc5, cc6, cc7, cc8, cc9, cc10, cc11, cc12, cc13, cc18, cc19, cc24, ll14, ll15, ll16, ll17, f14_15, f14_16, f14_17, f15_16, f15_17, f16_17⟩ := hJ
      simp only [List.getD_cons_succ, List.getD_cons_zero, List.mem_cons, List.not_mem_nil, or_false, forall_eq_or_imp, forall_eq] at haft
      clear hb hb'
      have hfin := hK _ _ ⟨hX0.alloc _, fun h => cc0 (h.resolve_right (by decide)), fun h => cc1 (h.resolve_right (by decide)), fun h => cc2 (h.resolve_right (by decide)), fun h => cc3 (h.resolve_right (by decide)), fun h => cc4 (h.resolve_right (by decide)), fun h => cc5 (h.resolve_right (by decide)), fun h => cc6 (h.resolve_right (by decide)), fun h => cc7 (h.resolve_right (by decide)), fun h => cc8 (h.resolve_right (by decide)), fun h => cc9 (h.resolve_right (by decide)), fun h => cc10 (h.resolve_right (by decide)), fun h => cc11 (h.resolve_right (by decide)), fun h => cc12 (h.resolve_right (by decide)), fun h => cc13 (h.resolve_right (by decide)), fun h => cc18 (h.resolve_right (by decide)), fun h => cc19 (h.resolve_right (by decide)), fun h => cc24 (h.resolve_right (by decide)), Loc.new w W hX0 (fun h => h.elim haft (by decide)) (Ext.refl _), Loc.same (ll15.ext ((Ext.refl _).alloc _)) ⟨fun h => h.resolve_right (by decide), .inl⟩ ⟨fun h => h.resolve_right (by decide), .inl⟩, Loc.same (ll16.ext ((Ext.refl _).alloc _)) ⟨fun h => h.resolve_right (by decide), .inl⟩ ⟨fun h => h.resolve_right (by decide), .inl⟩, Loc.same (ll17.ext ((Ext.refl _).alloc _)) ⟨fun h => h.resolve_right (by decide), .inl⟩ ⟨fun h => h.resolve_right (by decide), .inl⟩, fun _ h => Ne.symm (ll15.far_new (h.resolve_right (by decide))), fun _ h => Ne.symm (ll16.far_new (h.resolve_right (by decide))), fun _ h => Ne.symm (ll17.far_new (h.resolve_right (by decide))), fun h h' => f15_16 (h.resolve_right (by decide)) (h'.resolve_right (by decide)), fun h h' => f15_17 (h.resolve_right (by decide)) (h'.resolve_right (by decide)), fun h h' => f16_17 (h.resolve_right (by decide)) (h'.resolve_right (by decide))⟩
      clear hK hX0 cc0 cc1 cc2 cc3 cc4 cc5 cc6 cc7 cc8 cc9 cc10 cc11 cc12 cc13 cc18 cc19 cc24 ll14 ll15 ll16 ll17 f14_15 f14_16 f14_17 f15_16 f15_17 f16_17
      go_simp
      exact hfin
    · intro done us W hJ hdep haft hnot b hb hb' K hK Q'
      obtain ⟨hX0, cc0, cc1, cc2, cc3, cc4, cc5, cc6, cc7, cc8, cc9, cc10, cc11, cc12, cc13, cc18, cc19, cc24, ll14, ll15, ll16, ll17, f14_15, f14_16, f14_17, f15_16, f15_17, f16_17⟩ := hJ
      simp only [List.getD_cons_succ, List.getD_cons_zero, List.mem_cons, List.not_mem_nil, or_false, forall_eq_or_imp, forall_eq] at haft
      clear hb hb'
      have hfin := hK _ _ ⟨hX0.alloc _, fun h => cc0 (h.resolve_right (by decide)), fun h => cc1 (h.resolve_right (by decide)), fun h => cc2 (h.resolve_right (by decide)), fun h => cc3 (h.resolve_right (by decide)), fun h => cc4 (h.resolve_right (by decide)), fun h => cc5 (h.resolve_right (by decide)), fun h => cc6 (h.resolve_right (by decide)), fun h => cc7 (h.resolve_right (by decide)), fun h => cc8 (h.resolve_right (by decide)), fun h => cc9 (h.resolve_right (by decide)), fun h => cc10 (h.resolve_right (by decide)), fun h => cc11 (h.resolve_right (by decide)), fun h => cc12 (h.resolve_right (by decide)), fun h => cc13 (h.resolve_right (by decide)), fun h => cc18 (h.resolve_right (by decide)), fun h => cc19 (h.resolve_right (by decide)), fun h => cc24 (h.resolve_right (by decide)), Loc.same (ll14.ext ((Ext.refl _).alloc _)) ⟨fun h => h.resolve_right (by decide), .inl⟩ ⟨fun h => h.resolve_right (by decide), .inl⟩, Loc.new w W hX0 (fun h => h.elim haft (by decide)) (Ext.refl _), Loc.same (ll16.ext ((Ext.refl _).alloc _)) ⟨fun h => h.resolve_right (by decide), .inl⟩ ⟨fun h => h.resolve_right (by decide), .inl⟩, Loc.same (ll17.ext ((Ext.refl _).alloc _)) ⟨fun h => h.resolve_right (by decide), .inl⟩ ⟨fun h => h.resolve_right (by decide), .inl⟩, fun h _ => ll14.far_new (h.resolve_right (by decide)), fun h h' => f14_16 (h.resolve_right (by decide)) (h'.resolve_right (by decide)), fun h h' => f14_17 (h.resolve_right (by decide)) (h'.resolve_right (by decide)), fun _ h => Ne.symm (ll16.far_new (h.resolve_right (by decide))), fun _ h => Ne.symm (ll17.far_new (h.resolve_right (by decide))), fun h h' => f16_17 (h.resolve_right (by decide)) (h'.resolve_right (by decide))⟩
      clear hK hX0 cc0 cc1 cc2 cc3 cc4 cc5 cc6 cc7 cc8 cc9 cc10 cc11 cc12 cc13 cc18 cc19 cc24 ll14 ll15 ll16 ll17 f14_15 f14_16 f14_17 f15_16 f15_17 f16_17
      go_simp
      exact hfin
    · intro done us W hJ hdep haft hnot b hb hb' K hK Q'
      obtain ⟨hX0, cc0, cc1, cc2, cc3, cc4, cc5, cc6, cc7, cc8, cc9, cc10, cc11, cc12, cc13, cc18, cc19, cc24, ll14, ll15, ll16, ll17, f14_15, f14_16, f14_17, f15_16, f15_17, f16_17⟩ := hJ
      simp only [List.getD_cons_succ, List.getD_cons_zero, List.mem_cons, List.not_mem_nil, or_false, forall_eq_or_imp, forall_eq] at haft
      clear hb hb'
      have hfin := hK _ _ ⟨hX0.alloc _, fun h => cc0 (h.resolve_right (by decide)), fun h => cc1 (h.resolve_right (by decide)), fun h => cc2 (h.resolve_right (by decide)), fun h => cc3 (h.resolve_right (by decide)), fun h => cc4 (h.resolve_right (by decide)), fun h => cc5 (h.resolve_right (by decide)), fun h => cc6 (h.resolve_right (by decide)), fun h => cc7 (h.resolve_right (by decide)), fun h => cc8 (h.resolve_right (by decide)), fun h => cc9 (h.resolve_right (by decide)), fun h => cc10 (h.resolve_right (by decide)), fun h => cc11 (h.resolve_right (by decide)), fun h => cc12 (h.resolve_right (by decide)), fun h => cc13 (h.resolve_right (by decide)), fun h => cc18 (h.resolve_right (by decide)), fun h => cc19 (h.resolve_right (by decide)), fun h => cc24 (h.resolve_right (by decide)), Loc.same (ll14.ext ((Ext.refl _).alloc _)) ⟨fun h => h.resolve_right (by decide), .inl⟩ ⟨fun h => h.resolve_right (by decide), .inl⟩, Loc.same (ll15.ext ((Ext.refl _).alloc _)) ⟨fun h => h.resolve_right (by decide), .inl⟩ ⟨fun h => h.resolve_right (by decide), .inl⟩, Loc.new w W hX0 (fun h => h.elim haft (by decide)) (Ext.refl _), Loc.same (ll17.ext ((Ext.refl _).alloc _)) ⟨fun h => h.resolve_right (by decide), .inl⟩ ⟨fun h => h.resolve_right (by decide), .inl⟩, fun h h' => f14_15 (h.resolve_right (by decide)) (h'.resolve_right (by decide)), fun h _ => ll14.far_new (h.resolve_right (by decide)), fun h h' => f14_17 (h.resolve_right (by decide)) (h'.resolve_right (by decide)), fun h _ => ll15.far_new (h.resolve_right (by decide)), fun h h' => f15_17 (h.resolve_right (by decide)) (h'.resolve_right (by decide)), fun _ h => Ne.symm (ll17.far_new (h.resolve_right (by decide)))⟩
      clear hK hX0 cc0 cc1 cc2 cc3 cc4 cc5 cc6 cc7 cc8 cc9 cc10 cc11 cc12 cc13 cc18 cc19 cc24 ll14 ll15 ll16 ll17 f14_15 f14_16 f14_17 f15_16 f15_17 f16_17
      go_simp
      exact hfin
    · intro done us W hJ hdep haft hnot b hb hb' K hK Q'
      obtain ⟨hX0, cc0, cc1, cc2, cc3, cc4, cc5, cc6, cc7, cc8, cc9, cc10, cc11, cc12, cc13, cc18, cc19, cc24, ll14, ll15, ll16, ll17, f14_15, f14_16, f14_17, f15_16, f15_17, f16_17⟩ := hJ
      simp only [List.getD_cons_succ, List.getD_cons_zero, List.mem_cons, List.not_mem_nil, or_false, forall_eq_or_imp, forall_eq] at haft
      clear hb hb'
      have hfin := hK _ _ ⟨hX0.alloc _, fun h => cc0 (h.resolve_right (by decide)), fun h => cc1 (h.resolve_right (by decide)), fun h => cc2 (h.resolve_right (by decide)), fun h => cc3 (h.resolve_right (by decide)), fun h => cc4 (h.resolve_right (by decide)), fun h => cc5 (h.resolve_right (by decide)), fun h => cc6 (h.resolve_right (by decide)), fun h => cc7 (h.resolve_right (by decide)), fun h => cc8 (h.resolve_right (by decide)), fun h => cc9 (h.resolve_right (by decide)), fun h => cc10 (h.resolve_right (by decide)), fun h => cc11 (h.resolve_right (by decide)), fun h => cc12 (h.resolve_right (by decide)), fun h => cc13 (h.resolve_right (by decide)), fun h => cc18 (h.resolve_right (by decide)), fun h => cc19 (h.resolve_right (by decide)), fun h => cc24 (h.resolve_right (by decide)), Loc.same (ll14.ext ((Ext.refl _).alloc _)) ⟨fun h => h.resolve_right (by decide), .inl⟩ ⟨fun h => h.resolve_right (by decide), .inl⟩, Loc.same (ll15.ext ((Ext.refl _).alloc _)) ⟨fun h => h.resolve_right (by decide), .inl⟩ ⟨fun h => h.resolve_right (by decide), .inl⟩, Loc.same (ll16.ext ((Ext.refl _).alloc _)) ⟨fun h => h.resolve_right (by decide), .inl⟩ ⟨fun h => h.resolve_right (by decide), .inl⟩, Loc.new w W hX0 (fun h => h.elim haft (by decide)) (Ext.refl _), fun h h' => f14_15 (h.resolve_right (by decide)) (h'.resolve_right (by decide)), fun h h' => f14_16 (h.resolve_right (by decide)) (h'.resolve_right (by decide)), fun h _ => ll14.far_new (h.resolve_right (by decide)), fun h h' => f15_16 (h.resolve_right (by decide)) (h'.resolve_right (by decide)), fun h _ => ll15.far_new (h.resolve_right (by decide)), fun h _ => ll16.far_new (h.resolve_right (by decide))⟩
      clear hK hX0 cc0 cc1 cc2 cc3 cc4 cc5 cc6 cc7 cc8 cc9 cc10 cc11 cc12 cc13 cc18 cc19 cc24 ll14 ll15 ll16 ll17 f14_15 f14_16 f14_17 f15_16 f15_17 f16_17
      go_simp
      exact hfin
    · intro done us W hJ hdep haft hnot b hb hb' K hK Q'
      obtain ⟨hX0, cc0, cc1, cc2, cc3, cc4, cc5, cc6, cc7, cc8, cc9, cc10, cc11, cc12, cc13, cc18, cc19, cc24, ll14, ll15, ll16, ll17, f14_15, f14_16, f14_17, f15_16, f15_17, f16_17⟩ := hJ
      simp only [List.getD_cons_succ, List.getD_cons_zero, List.mem_cons, List.not_mem_nil, or_false, forall_eq] at hdep
      have e19 := hb 1 19 rfl
      rw [cc1 hdep] at e19
      clear hb hb'
      have hfin := hK (.int .i64 (s)) _ ⟨hX0, fun h => cc0 (h.resolve_right (by decide)), fun h => cc1 (h.resolve_right (by decide)), fun h => cc2 (h.resolve_right (by decide)), fun h => cc3 (h.resolve_right (by decide)), fun h => cc4 (h.resolve_right (by decide)), fun h => cc5 (h.resolve_right (by decide)), fun h => cc6 (h.resolve_right (by decide)), fun h => cc7 (h.resolve_right (by decide)), fun h => cc8 (h.resolve_right (by decide)), fun h => cc9 (h.resolve_right (by decide)), fun h => cc10 (h.resolve_right (by decide)), fun h => cc11 (h.resolve_right (by decide)), fun h => cc12 (h.resolve_right (by decide)), fun h => cc13 (h.resolve_right (by decide)), fun _ => rfl, fun h => cc19 (h.resolve_right (by decide)), fun h => cc24 (h.resolve_right (by decide)), Loc.same ll14 ⟨fun h => h.resolve_right (by decide), .inl⟩ ⟨fun h => h.resolve_right (by decide), .inl⟩, Loc.same ll15 ⟨fun h => h.resolve_right (by decide), .inl⟩ ⟨fun h => h.resolve_right (by decide), .inl⟩, Loc.same ll16 ⟨fun h => h.resolve_right (by decide), .inl⟩ ⟨fun h => h.resolve_right (by decide), .inl⟩, Loc.same ll17 ⟨fun h => h.resolve_right (by decide), .inl⟩ ⟨fun h => h.resolve_right (by decide), .inl⟩, fun h h' => f14_15 (h.resolve_right (by decide)) (h'.resolve_right (by decide)), fun h h' => f14_16 (h.resolve_right (by decide)) (h'.resolve_right (by decide)), fun h h' => f14_17 (h.resolve_right (by decide)) (h'.resolve_right (by decide)), fun h h' => f15_16 (h.resolve_right (by decide)) (h'.resolve_right (by decide)), fun h h' => f15_17 (h.resolve_right (by decide)) (h'.resolve_right (by decide)), fun h h' => f16_17 (h.resolve_right (by decide)) (h'.resolve_right (by decide))⟩
      clear hK cc0 cc1 cc2 cc3 cc4 cc5 cc6 cc7 cc8 cc9 cc10 cc11 cc12 cc13 cc18 cc19 cc24 ll14 ll15 ll16 ll17 f14_15 f14_16 f14_17 f15_16 f15_17 f16_17
      go_simp
      exact hfin
    · intro done us W hJ hdep haft hnot b hb hb' K hK Q'
      obtain ⟨hX0, cc0, cc1, cc2, cc3, cc4, cc5, cc6, cc7, cc8, cc9, cc10, cc11, cc12, cc13, cc18, cc19, cc24, ll14, ll15, ll16, ll17, f14_15, f14_16, f14_17, f15_16, f15_17, f16_17⟩ := hJ
      simp only [List.getD_cons_succ, List.getD_cons_zero, List.mem_cons, List.not_mem_nil, or_false, forall_eq] at hdep
      have e21 := hb 3 21 rfl
      rw [cc3 hdep] at e21
      clear hb hb'
      have hfin := hK (.int .i64 (o)) _ ⟨hX0, fun h => cc0 (h.resolve_right (by decide)), fun h => cc1 (h.resolve_right (by decide)), fun h => cc2 (h.resolve_right (by decide)), fun h => cc3 (h.resolve_right (by decide)), fun h => cc4 (h.resolve_right (by decide)), fun h => cc5 (h.resolve_right (by decide)), fun h => cc6 (h.resolve_right (by decide)), fun h => cc7 (h.resolve_right (by decide)), fun h => cc8 (h.resolve_right (by decide)), fun h => cc9 (h.resolve_right (by decide)), fun h => cc10 (h.resolve_right (by decide)), fun h => cc11 (h.resolve_right (by decide)), fun h => cc12 (h.resolve_right (by decide)), fun h => cc13 (h.resolve_right (by decide)), fun h => cc18 (h.resolve_right (by decide)), fun _ => rfl, fun h => cc24 (h.resolve_right (by decide)), Loc.same ll14 ⟨fun h => h.resolve_right (by decide), .inl⟩ ⟨fun h => h.resolve_right (by decide), .inl⟩, Loc.same ll15 ⟨fun h => h.resolve_right (by decide), .inl⟩ ⟨fun h => h.resolve_right (by decide), .inl⟩, Loc.same ll16 ⟨fun h => h.resolve_right (by decide), .inl⟩ ⟨fun h => h.resolve_right (by decide), .inl⟩, Loc.same ll17 ⟨fun h => h.resolve_right (by decide), .inl⟩ ⟨fun h => h.resolve_right (by decide), .inl⟩, fun h h' => f14_15 (h.resolve_right (by decide)) (h'.resolve_right (by decide)), fun h h' => f14_16 (h.resolve_right (by decide)) (h'.resolve_right (by decide)), fun h h' => f14_17 (h.resolve_right (by decide)) (h'.resolve_right (by decide)), fun h h' => f15_16 (h.resolve_right (by decide)) (h'.resolve_right (by decide)), fun h h' => f15_17 (h.resolve_right (by decide)) (h'.resolve_right (by decide)), fun h h' => f16_17 (h.resolve_right (by decide)) (h'.resolve_right (by decide))⟩
      clear hK cc0 cc1 cc2 cc3 cc4 cc5 cc6 cc7 cc8 cc9 cc10 cc11 cc12 cc13 cc18 cc19 cc24 ll14 ll15 ll16 ll17 f14_15 f14_16 f14_17 f15_16 f15_17 f16_17
      go_simp
      exact hfin
    · intro done us W hJ hdep haft hnot b hb hb' K hK Q'
      obtain ⟨hX0, cc0, cc1, cc2, cc3, cc4, cc5, cc6, cc7, cc8, cc9, cc10, cc11, cc12, cc13, cc18, cc19, cc24, ll14, ll15, ll16, ll17, f14_15, f14_16, f14_17, f15_16, f15_17, f16_17⟩ := hJ
      simp only [List.getD_cons_succ, List.getD_cons_zero, List.mem_cons, List.not_mem_nil, or_false, forall_eq_or_imp, forall_eq] at hdep
      have e5 := hb 14 5 rfl
      have e23 := hb 5 23 rfl
      rw [cc5 hdep.1] at e23
      obtain ⟨g, eg, hg, hB⟩ := ll14.stored hdep.2 hnot
      rw [eg] at e5
      have q0 : W.cell? ⟨g, 0, none⟩ = some (.int .i64 0) := hB.cell 0
      have z0 : W.frozen? ⟨g, 0, none⟩ = false := hB.free 0
      have q1 : W.cell? ⟨g, 1, none⟩ = some (.int .i64 0) := hB.cell 1
      have z1 : W.frozen? ⟨g, 1, none⟩ = false := hB.free 1
      have q2 : W.cell? ⟨g, 2, none⟩ = some (.int .i64 0) := hB.cell 2
      have z2 : W.frozen? ⟨g, 2, none⟩ = false := hB.free 2
      clear hb hb'
      have hfin := hK undef _ ⟨(((hX0.setCell hg _).setCell hg _).setCell hg _), fun h => cc0 (h.resolve_right (by decide)), fun h => cc1 (h.resolve_right (by decide)), fun h => cc2 (h.resolve_right (by decide)), fun h => cc3 (h.resolve_right (by decide)), fun h => cc4 (h.resolve_right (by decide)), fun h => cc5 (h.resolve_right (by decide)), fun h => cc6 (h.resolve_right (by decide)), fun h => cc7 (h.resolve_right (by decide)), fun h => cc8 (h.resolve_right (by decide)), fun h => cc9 (h.resolve_right (by decide)), fun h => cc10 (h.resolve_right (by decide)), fun h => cc11 (h.resolve_right (by decide)), fun h => cc12 (h.resolve_right (by decide)), fun h => cc13 (h.resolve_right (by decide)), fun h => cc18 (h.resolve_right (by decide)), fun h => cc19 (h.resolve_right (by decide)), fun h => cc24 (h.resolve_right (by decide)), ⟨fun _ => ⟨g, eg, hg, fun _ => (Blk.set (Blk.set (Blk.set hB 0 _) 1 _) 2 _), fun h => absurd (.inr rfl) h⟩⟩, Loc.same (Loc.keep (Loc.keep (Loc.keep ll15 (f := (fun h k => Ne.symm (f14_15 k h))) hdep.2 eg) (f := (fun h k => Ne.symm (f14_15 k h))) hdep.2 eg) (f := (fun h k => Ne.symm (f14_15 k h))) hdep.2 eg) ⟨fun h => h.resolve_right (by decide), .inl⟩ ⟨fun h => h.resolve_right (by decide), .inl⟩, Loc.same (Loc.keep (Loc.keep (Loc.keep ll16 (f := (fun h k => Ne.symm (f14_16 k h))) hdep.2 eg) (f := (fun h k => Ne.symm (f14_16 k h))) hdep.2 eg) (f := (fun h k => Ne.symm (f14_16 k h))) hdep.2 eg) ⟨fun h => h.resolve_right (by decide), .inl⟩ ⟨fun h => h.resolve_right (by decide), .inl⟩, Loc.same (Loc.keep (Loc.keep (Loc.keep ll17 (f := (fun h k => Ne.symm (f14_17 k h))) hdep.2 eg) (f := (fun h k => Ne.symm (f14_17 k h))) hdep.2 eg) (f := (fun h k => Ne.symm (f14_17 k h))) hdep.2 eg) ⟨fun h => h.resolve_right (by decide), .inl⟩ ⟨fun h => h.resolve_right (by decide), .inl⟩, fun h h' => f14_15 (h.resolve_right (by decide)) (h'.resolve_right (by decide)), fun h h' => f14_16 (h.resolve_right (by decide)) (h'.resolve_right (by decide)), fun h h' => f14_17 (h.resolve_right (by decide)) (h'.resolve_right (by decide)), fun h h' => f15_16 (h.resolve_right (by decide)) (h'.resolve_right (by decide)), fun h h' => f15_17 (h.resolve_right (by decide)) (h'.resolve_right (by decide)), fun h h' => f16_17 (h.resolve_right (by decide)) (h'.resolve_right (by decide))⟩
      clear hK hX0 cc0 cc1 cc2 cc3 cc4 cc5 cc6 cc7 cc8 cc9 cc10 cc11 cc12 cc13 cc18 cc19 cc24 ll14 ll15 ll16 ll17 f14_15 f14_16 f14_17 f15_16 f15_17 f16_17
      go_simp
      exact hfin
    · intro done us W hJ hdep haft hnot b hb hb' K hK Q'
      obtain ⟨hX0, cc0, cc1, cc2, cc3, cc4, cc5, cc6, cc7, cc8, cc9, cc10, cc11, cc12, cc13, cc18, cc19, cc24, ll14, ll15, ll16, ll17, f14_15, f14_16, f14_17, f15_16, f15_17, f16_17⟩ := hJ
      simp only [List.getD_cons_succ, List.getD_cons_zero, List.mem_cons, List.not_mem_nil, or_false, forall_eq_or_imp, forall_eq] at hdep
      have e6 := hb 15 6 rfl
      have e25 := hb 7 25 rfl
      rw [cc7 hdep.1] at e25
      obtain ⟨g, eg, hg, hB⟩ := ll15.stored hdep.2 hnot
      rw [eg] at e6
      have q0 : W.cell? ⟨g, 0, none⟩ = some (.int .i64 0) := hB.cell 0
      have z0 : W.frozen? ⟨g, 0, none⟩ = false := hB.free 0
      have q1 : W.cell? ⟨g, 1, none⟩ = some (.int .i64 0) := hB.cell 1
      have z1 : W.frozen? ⟨g, 1, none⟩ = false := hB.free 1
      have q2 : W.cell? ⟨g, 2, none⟩ = some (.int .i64 0) := hB.cell 2
      have z2 : W.frozen? ⟨g, 2, none⟩ = false := hB.free 2
      clear hb hb'
      have hfin := hK undef _ ⟨(((hX0.setCell hg _).setCell hg _).setCell hg _), fun h => cc0 (h.resolve_right (by decide)), fun h => cc1 (h.resolve_right (by decide)), fun h => cc2 (h.resolve_right (by decide)), fun h => cc3 (h.resolve_right (by decide)), fun h => cc4 (h.resolve_right (by decide)), fun h => cc5 (h.resolve_right (by decide)), fun h => cc6 (h.resolve_right (by decide)), fun h => cc7 (h.resolve_right (by decide)), fun h => cc8 (h.resolve_right (by decide)), fun h => cc9 (h.resolve_right (by decide)), fun h => cc10 (h.resolve_right (by decide)), fun h => cc11 (h.resolve_right (by decide)), fun h => cc12 (h.resolve_right (by decide)), fun h => cc13 (h.resolve_right (by decide)), fun h => cc18 (h.resolve_right (by decide)), fun h => cc19 (h.resolve_right (by decide)), fun h => cc24 (h.resolve_right (by decide)), Loc.same (Loc.keep (Loc.keep (Loc.keep ll14 (f := f14_15) hdep.2 eg) (f := f14_15) hdep.2 eg) (f := f14_15) hdep.2 eg) ⟨fun h => h.resolve_right (by decide), .inl⟩ ⟨fun h => h.resolve_right (by decide), .inl⟩, ⟨fun _ => ⟨g, eg, hg, fun _ => (Blk.set (Blk.set (Blk.set hB 0 _) 1 _) 2 _), fun h => absurd (.inr rfl) h⟩⟩, Loc.same (Loc.keep (Loc.keep (Loc.keep ll16 (f := (fun h k => Ne.symm (f15_16 k h))) hdep.2 eg) (f := (fun h k => Ne.symm (f15_16 k h))) hdep.2 eg) (f := (fun h k => Ne.symm (f15_16 k h))) hdep.2 eg) ⟨fun h => h.resolve_right (by decide), .inl⟩ ⟨fun h => h.resolve_right (by decide), .inl⟩, Loc.same (Loc.keep (Loc.keep (Loc.keep ll17 (f := (fun h k => Ne.symm (f15_17 k h))) hdep.2 eg) (f := (fun h k => Ne.symm (f15_17 k h))) hdep.2 eg) (f := (fun h k => Ne.symm (f15_17 k h))) hdep.2 eg) ⟨fun h => h.resolve_right (by decide), .inl⟩ ⟨fun h => h.resolve_right (by decide), .inl⟩, fun h h' => f14_15 (h.resolve_right (by decide)) (h'.resolve_right (by decide)), fun h h' => f14_16 (h.resolve_right (by decide)) (h'.resolve_right (by decide)), fun h h' => f14_17 (h.resolve_right (by decide)) (h'.resolve_right (by decide)), fun h h' => f15_16 (h.resolve_right (by decide)) (h'.resolve_right (by decide)), fun h h' => f15_17 (h.resolve_right (by decide)) (h'.resolve_right (by decide)), fun h h' => f16_17 (h.resolve_right (by decide)) (h'.resolve_right (by decide))⟩
      clear hK hX0 cc0 cc1 cc2 cc3 cc4 cc5 cc6 cc7 cc8 cc9 cc10 cc11 cc12 cc13 cc18 cc19 cc24 ll14 ll15 ll16 ll17 f14_15 f14_16 f14_17 f15_16 f15_17 f16_17
      go_simp
      exact hfin
    · intro done us W hJ hdep haft hnot b hb hb' K hK Q'
      obtain ⟨hX0, cc0, cc1, cc2, cc3, cc4, cc5, cc6, cc7, cc8, cc9, cc10, cc11, cc12, cc13, cc18, cc19, cc24, ll14, ll15, ll16, ll17, f14_15, f14_16, f14_17, f15_16, f15_17, f16_17⟩ := hJ
      simp only [List.getD_cons_succ, List.getD_cons_zero, List.mem_cons, List.not_mem_nil, or_false, forall_eq_or_imp, forall_eq] at hdep
      have e7 := hb 16 7 rfl
      have e27 := hb 9 27 rfl
      rw [cc9 hdep.1] at e27
      obtain ⟨g, eg, hg, hB⟩ := ll16.stored hdep.2 hnot
      rw [eg] at e7
      have q0 : W.cell? ⟨g, 0, none⟩ = some (.int .i64 0) := hB.cell 0
      have z0 : W.frozen? ⟨g, 0, none⟩ = false := hB.free 0
      have q1 : W.cell? ⟨g, 1, none⟩ = some (.int .i64 0) := hB.cell 1
      have z1 : W.frozen? ⟨g, 1, none⟩ = false := hB.free 1
      have q2 : W.cell? ⟨g, 2, none⟩ = some (.int .i64 0) := hB.cell 2
      have z2 : W.frozen? ⟨g, 2, none⟩ = false := hB.free 2
      clear hb hb'
      have hfin := hK undef _ ⟨(((hX0.setCell hg _).setCell hg _).setCell hg _), fun h => cc0 (h.resolve_right (by decide)), fun h => cc1 (h.resolve_right (by decide)), fun h => cc2 (h.resolve_right (by decide)), fun h => cc3 (h.resolve_right (by decide)), fun h => cc4 (h.resolve_right (by decide)), fun h => cc5 (h.resolve_right (by decide)), fun h => cc6 (h.resolve_right (by decide)), fun h => cc7 (h.resolve_right (by decide)), fun h => cc8 (h.resolve_right (by decide)), fun h => cc9 (h.resolve_right (by decide)), fun h => cc10 (h.resolve_right (by decide)), fun h => cc11 (h.resolve_right (by decide)), fun h => cc12 (h.resolve_right (by decide)), fun h => cc13 (h.resolve_right (by decide)), fun h => cc18 (h.resolve_right (by decide)), fun h => cc19 (h.resolve_right (by decide)), fun h => cc24 (h.resolve_right (by decide)), Loc.same (Loc.keep (Loc.keep (Loc.keep ll14 (f := f14_16) hdep.2 eg) (f := f14_16) hdep.2 eg) (f := f14_16) hdep.2 eg) ⟨fun h => h.resolve_right (by decide), .inl⟩ ⟨fun h => h.resolve_right (by decide), .inl⟩, Loc.same (Loc.keep (Loc.keep (Loc.keep ll15 (f := f15_16) hdep.2 eg) (f := f15_16) hdep.2 eg) (f := f15_16) hdep.2 eg) ⟨fun h => h.resolve_right (by decide), .inl⟩ ⟨fun h => h.resolve_right (by decide), .inl⟩, ⟨fun _ => ⟨g, eg, hg, fun _ => (Blk.set (Blk.set (Blk.set hB 0 _) 1 _) 2 _), fun h => absurd (.inr rfl) h⟩⟩, Loc.same (Loc.keep (Loc.keep (Loc.keep ll17 (f := (fun h k => Ne.symm (f16_17 k h))) hdep.2 eg) (f := (fun h k => Ne.symm (f16_17 k h))) hdep.2 eg) (f := (fun h k => Ne.symm (f16_17 k h))) hdep.2 eg) ⟨fun h => h.resolve_right (by decide), .inl⟩ ⟨fun h => h.resolve_right (by decide), .inl⟩, fun h h' => f14_15 (h.resolve_right (by decide)) (h'.resolve_right (by decide)), fun h h' => f14_16 (h.resolve_right (by decide)) (h'.resolve_right (by decide)), fun h h' => f14_17 (h.resolve_right (by decide)) (h'.resolve_right (by decide)), fun h h' => f15_16 (h.resolve_right (by decide)) (h'.resolve_right (by decide)), fun h h' => f15_17 (h.resolve_right (by decide)) (h'.resolve_right (by decide)), fun h h' => f16_17 (h.resolve_right (by decide)) (h'.resolve_right (by decide))⟩
      clear hK hX0 cc0 cc1 cc2 cc3 cc4 cc5 cc6 cc7 cc8 cc9 cc10 cc11 cc12 cc13 cc18 cc19 cc24 ll14 ll15 ll16 ll17 f14_15 f14_16 f14_17 f15_16 f15_17 f16_17
      go_simp
      exact hfin
    · intro done us W hJ hdep haft hnot b hb hb' K hK Q'
      obtain ⟨hX0, cc0, cc1, cc2, cc3, cc4, cc5, cc6, cc7, cc8, cc9, cc10, cc11, cc12, cc13, cc18, cc19, cc24, ll14, ll15, ll16, ll17, f14_15, f14_16, f14_17, f15_16, f15_17, f16_17⟩ := hJ
      simp only [List.getD_cons_succ, List.getD_cons_zero, List.mem_cons, List.not_mem_nil, or_false, forall_eq_or_imp, forall_eq] at hdep
      have e8 := hb 17 8 rfl
      have e29 := hb 11 29 rfl
      rw [cc11 hdep.1] at e29
      obtain ⟨g, eg, hg, hB⟩ := ll17.stored hdep.2 hnot
      rw [eg] at e8
      have q0 : W.cell? ⟨g, 0, none⟩ = some (.int .i64 0) := hB.cell 0
      have z0 : W.frozen? ⟨g, 0, none⟩ = false := hB.free 0
      have q1 : W.cell? ⟨g, 1, none⟩ = some (.int .i64 0) := hB.cell 1
      have z1 : W.frozen? ⟨g, 1, none⟩ = false := hB.free 1
      have q2 : W.cell? ⟨g, 2, none⟩ = some (.int .i64 0) := hB.cell 2
      have z2 : W.frozen? ⟨g, 2, none⟩ = false := hB.free 2
      clear hb hb'
      have hfin := hK undef _ ⟨(((hX0.setCell hg _).setCell hg _).setCell hg _), fun h => cc0 (h.resolve_right (by decide)), fun h => cc1 (h.resolve_right (by decide)), fun h => cc2 (h.resolve_right (by decide)), fun h => cc3 (h.resolve_right (by decide)), fun h => cc4 (h.resolve_right (by decide)), fun h => cc5 (h.resolve_right (by decide)), fun h => cc6 (h.resolve_right (by decide)), fun h => cc7 (h.resolve_right (by decide)), fun h => cc8 (h.resolve_right (by decide)), fun h => cc9 (h.resolve_right (by decide)), fun h => cc10 (h.resolve_right (by decide)), fun h => cc11 (h.resolve_right (by decide)), fun h => cc12 (h.resolve_right (by decide)), fun h => cc13 (h.resolve_right (by decide)), fun h => cc18 (h.resolve_right (by decide)), fun h => cc19 (h.resolve_right (by decide)), fun h => cc24 (h.resolve_right (by decide)), Loc.same (Loc.keep (Loc.keep (Loc.keep ll14 (f := f14_17) hdep.2 eg) (f := f14_17) hdep.2 eg) (f := f14_17) hdep.2 eg) ⟨fun h => h.resolve_right (by decide), .inl⟩ ⟨fun h => h.resolve_right (by decide), .inl⟩, Loc.same (Loc.keep (Loc.keep (Loc.keep ll15 (f := f15_17) hdep.2 eg) (f := f15_17) hdep.2 eg) (f := f15_17) hdep.2 eg) ⟨fun h => h.resolve_right (by decide), .inl⟩ ⟨fun h => h.resolve_right (by decide), .inl⟩, Loc.same (Loc.keep (Loc.keep (Loc.keep ll16 (f := f16_17) hdep.2 eg) (f := f16_17) hdep.2 eg) (f := f16_17) hdep.2 eg) ⟨fun h => h.resolve_right (by decide), .inl⟩ ⟨fun h => h.resolve_right (by decide), .inl⟩, ⟨fun _ => ⟨g, eg, hg, fun _ => (Blk.set (Blk.set (Blk.set hB 0 _) 1 _) 2 _), fun h => absurd (.inr rfl) h⟩⟩, fun h h' => f14_15 (h.resolve_right (by decide)) (h'.resolve_right (by decide)), fun h h' => f14_16 (h.resolve_right (by decide)) (h'.resolve_right (by decide)), fun h h' => f14_17 (h.resolve_right (by decide)) (h'.resolve_right (by decide)), fun h h' => f15_16 (h.resolve_right (by decide)) (h'.resolve_right (by decide)), fun h h' => f15_17 (h.resolve_right (by decide)) (h'.resolve_right (by decide)), fun h h' => f16_17 (h.resolve_right (by decide)) (h'.resolve_right (by decide))⟩
      clear hK hX0 cc0 cc1 cc2 cc3 cc4 cc5 cc6 cc7 cc8 cc9 cc10 cc11 cc12 cc13 cc18 cc19 cc24 ll14 ll15 ll16 ll17 f14_15 f14_16 f14_17 f15_16 f15_17 f16_17
      go_simp
      exact hfin
    · intro done us W hJ hdep haft hnot b hb hb' K hK Q'
      obtain ⟨hX0, cc0, cc1, cc2, cc3, cc4, cc5, cc6, cc7, cc8, cc9, cc10, cc11, cc12, cc13, cc18, cc19, cc24, ll14, ll15, ll16, ll17, f14_15, f14_16, f14_17, f15_16, f15_17, f16_17⟩ := hJ
      simp only [List.getD_cons_succ, List.getD_cons_zero, List.mem_cons, List.not_mem_nil, or_false, forall_eq] at hdep
      have e31 := hb 13 31 rfl
      rw [cc13 hdep] at e31
      clear hb hb'
      have hfin := hK (.int .i64 (wt)) _ ⟨hX0, fun h => cc0 (h.resolve_right (by decide)), fun h => cc1 (h.resolve_right (by decide)), fun h => cc2 (h.resolve_right (by decide)), fun h => cc3 (h.resolve_right (by decide)), fun h => cc4 (h.resolve_right (by decide)), fun h => cc5 (h.resolve_right (by decide)), fun h => cc6 (h.resolve_right (by decide)), fun h => cc7 (h.resolve_right (by decide)), fun h => cc8 (h.resolve_right (by decide)), fun h => cc9 (h.resolve_right (by decide)), fun h => cc10 (h.resolve_right (by decide)), fun h => cc11 (h.resolve_right (by decide)), fun h => cc12 (h.resolve_right (by decide)), fun h => cc13 (h.resolve_right (by decide)), fun h => cc18 (h.resolve_right (by decide)), fun h => cc19 (h.resolve_right (by decide)), fun _ => rfl, Loc.same ll14 ⟨fun h => h.resolve_right (by decide), .inl⟩ ⟨fun h => h.resolve_right (by decide), .inl⟩, Loc.same ll15 ⟨fun h => h.resolve_right (by decide), .inl⟩ ⟨fun h => h.resolve_right (by decide), .inl⟩, Loc.same ll16 ⟨fun h => h.resolve_right (by decide), .inl⟩ ⟨fun h => h.resolve_right (by decide), .inl⟩, Loc.same ll17 ⟨fun h => h.resolve_right (by decide), .inl⟩ ⟨fun h => h.resolve_right (by decide), .inl⟩, fun h h' => f14_15 (h.resolve_right (by decide)) (h'.resolve_right (by decide)), fun h h' => f14_16 (h.resolve_right (by decide)) (h'.resolve_right (by decide)), fun h h' => f14_17 (h.resolve_right (by decide)) (h'.resolve_right (by decide)), fun h h' => f15_16 (h.resolve_right (by decide)) (h'.resolve_right (by decide)), fun h h' => f15_17 (h.resolve_right (by decide)) (h'.resolve_right (by decide)), fun h h' => f16_17 (h.resolve_right (by decide)) (h'.resolve_right (by decide))⟩
      clear hK cc0 cc1 cc2 cc3 cc4 cc5 cc6 cc7 cc8 cc9 cc10 cc11 cc12 cc13 cc18 cc19 cc24 ll14 ll15 ll16 ll17 f14_15 f14_16 f14_17 f15_16 f15_17 f16_17
      go_simp
      exact hfin
  · intro us W hJ
    obtain ⟨hX0, cc0, cc1, cc2, cc3, cc4, cc5, cc6, cc7, cc8, cc9, cc10, cc11, cc12, cc13, cc18, cc19, cc24, ll14, ll15, ll16, ll17, f14_15, f14_16, f14_17, f15_16, f15_17, f16_17⟩ := hJ
    rw [show (rops Try.f13 1).drop 25 = [] by kernel_rfl]
    exact hend (us 0) (us 1) (us 2) (us 3) (us 4) (us 5) (us 6) (us 7) (us 8) (us 9) (us 10) (us 11) (us 12) (us 13) (us 14) (us 15) (us 16) (us 17) (us 18) (us 19) (us 20) (us 21) (us 22) (us 23) (us 24) W (cc0 (show 0 < 25 by decide)) (cc1 (show 1 < 25 by decide)) (cc2 (show 2 < 25 by decide)) (cc3 (show 3 < 25 by decide)) (cc4 (show 4 < 25 by decide)) (cc5 (show 5 < 25 by decide)) (cc6 (show 6 < 25 by decide)) (cc7 (show 7 < 25 by decide)) (cc8 (show 8 < 25 by decide)) (cc9 (show 9 < 25 by decide)) (cc10 (show 10 < 25 by decide)) (cc11 (show 11 < 25 by decide)) (cc12 (show 12 < 25 by decide)) (cc13 (show 13 < 25 by decide)) (cc18 (show 18 < 25 by decide)) (cc19 (show 19 < 25 by decide)) (cc24 (show 24 < 25 by decide)) (ll14.done (show 14 < 25 by decide) (show 20 < 25 by decide)) (ll15.done (show 15 < 25 by decide) (show 21 < 25 by decide)) (ll16.done (show 16 < 25 by decide) (show 22 < 25 by decide)) (ll17.done (show 17 < 25 by decide) (show 23 < 25 by decide)) (f14_15 (show 14 < 25 by decide) (show 15 < 25 by decide)) (f14_16 (show 14 < 25 by decide) (show 16 < 25 by decide)) (f14_17 (show 14 < 25 by decide) (show 17 < 25 by decide)) (f15_16 (show 15 < 25 by decide) (show 16 < 25 by decide)) (f15_17 (show 15 < 25 by decide) (show 17 < 25 by decide)) (f16_17 (show 16 < 25 by decide) (show 17 < 25 by decide)) hX0
set_option maxRecDepth 100000 in
set_option maxHeartbeats 16000000 in
theorem stripFacets_walk (s o wt : Int) (pa pb pc pq : Nat → Int) (w : World) :
    Calls Try.prog 13 #[.agg #[.int .i64 (s), .int .i64 (o), .int .i64 (wt), .int .i64 (pa 0), .int .i64 (pa 1), .int .i64 (pa 2), .int .i64 (pb 0), .int .i64 (pb 1), .int .i64 (pb 2), .int .i64 (pc 0), .int .i64 (pc 1), .int .i64 (pc 2), .int .i64 (pq 0), .int .i64 (pq 1), .int .i64 (pq 2)]] w (fun e w' => e = .returned (.bool true) ∧ Ext w w') := by
  have HX := Lib.hid ((Ext.refl w).alloc (.cells #[.int .i64 (s), .int .i64 (o), .int .i64 (wt), .int .i64 (pa 0), .int .i64 (pa 1), .int .i64 (pa 2), .int .i64 (pb 0), .int .i64 (pb 1), .int .i64 (pb 2), .int .i64 (pc 0), .int .i64 (pc 1), .int .i64 (pc 2), .int .i64 (pq 0), .int .i64 (pq 1), .int .i64 (pq 2)] 141))
  have HV := Lib.hid (Blk.new w 141 #[.int .i64 (s), .int .i64 (o), .int .i64 (wt), .int .i64 (pa 0), .int .i64 (pa 1), .int .i64 (pa 2), .int .i64 (pb 0), .int .i64 (pb 1), .int .i64 (pb 2), .int .i64 (pc 0), .int .i64 (pc 1), .int .i64 (pc 2), .int .i64 (pq 0), .int .i64 (pq 1), .int .i64 (pq 2)])
  go_enter Try.func13, Try.ntmps13
  go_upto_region 1 with (fail)
  generalize w.alloc (.cells #[.int .i64 (s), .int .i64 (o), .int .i64 (wt), .int .i64 (pa 0), .int .i64 (pa 1), .int .i64 (pa 2), .int .i64 (pb 0), .int .i64 (pb 1), .int .i64 (pb 2), .int .i64 (pc 0), .int .i64 (pc 1), .int .i64 (pc 2), .int .i64 (pq 0), .int .i64 (pq 1), .int .i64 (pq 2)] 141) = w1 at HX HV ⊢
  refine facets_r1 w.heap.size s o wt pa pb pc pq w1 (HV.out.cell 0) (HV.out.cell 1) (HV.out.cell 2) (HV.out.cell 3) (HV.out.cell 4) (HV.out.cell 5) (HV.out.cell 6) (HV.out.cell 7) (HV.out.cell 8) (HV.out.cell 9) (HV.out.cell 10) (HV.out.cell 11) (HV.out.cell 12) (HV.out.cell 13) (HV.out.cell 14) _ _ (by simp) rfl ?_
  rintro xv0 xv1 xv2 xv3 xv4 xv5 xv6 xv7 xv8 xv9 xv10 xv11 xv12 xv13 xv14 xv15 xv16 xv17 xv18 xv19 xv20 xv21 xv22 xv23 xv24 w2 rfl rfl rfl rfl rfl rfl rfl rfl rfl rfl rfl rfl rfl rfl rfl rfl rfl ⟨ga, rfl, hga, kA⟩ ⟨gb, rfl, hgb, kB⟩ ⟨gc, rfl, hgc, kC⟩ ⟨gq, rfl, hgq, kQ⟩ _ _ _ _ _ _ hX2
  simp only [rops, Try.f13, regOf, Option.bind_some, Nat.reduceBEq, if_true, if_false, Bool.false_eq_true, Option.getD_some, List.drop_succ_cons, List.drop_zero]
  simp only [Act.put, List.setIfInBounds_toArray, List.set_cons_succ, List.set_cons_zero]
  have HA : Hid (T3 w2 ga pa) := Lib.hid kA
  have HB : Hid (T3 w2 gb pb) := Lib.hid kB
  have HC : Hid (T3 w2 gc pc) := Lib.hid kC
  have HQ : Hid (T3 w2 gq pq) := Lib.hid kQ
  replace HX := Lib.hid (HX.out.trans hX2)
  clear kA kB kC kQ hga hgb hgc hgq hX2 HV
  obtain ⟨⟨n, ee⟩, hne⟩ : ∃ x, facA pa pb pc = x := ⟨_, rfl⟩
  have hF := facetP_any pa pb pc
  have hG := facetR_any pa pb pc
  rw [hne] at hF hG
  simp only at hF hG
  clear hne
  obtain ⟨⟨m, te⟩, hte⟩ : ∃ x, tieA pa pb pc pq s o wt = x := ⟨_, rfl⟩
  have hT := tieP_any pa pb pc pq s o wt
  have hU := tieR_any pa pb pc pq s o wt
  rw [hte] at hT hU
  simp only [tieV] at hT hU
  clear hte
  have x0 := HA.out.cell (k := 0) (by omega)
  have x1 := HA.out.cell (k := 1) (by omega)
  have x2 := HA.out.cell (k := 2) (by omega)
  have y0 := HB.out.cell (k := 0) (by omega)
  have y1 := HB.out.cell (k := 1) (by omega)
  have y2 := HB.out.cell (k := 2) (by omega)
  have z0 := HC.out.cell (k := 0) (by omega)
  have z1 := HC.out.cell (k := 1) (by omega)
  have z2 := HC.out.cell (k := 2) (by omega)
  go_wp2_with fail
  refine (hF _).mono ?_
  rintro e v1 ⟨rfl, hX2⟩
  replace HA := Lib.hid (HA.out.ext hX2)
  replace HB := Lib.hid (HB.out.ext hX2)
  replace HC := Lib.hid (HC.out.ext hX2)
  replace HQ := Lib.hid (HQ.out.ext hX2)
  replace HX := Lib.hid (HX.out.trans hX2)
  clear hX2
  go_upto_region 3 with (fail)
  have hX2 : Ext v1 (v1.alloc (.cells #[.int .i64 (n 0), .int .i64 (n 1), .int .i64 (n 2)] 22)) := (Ext.refl _).alloc _
  have H1 := Lib.hid (Blk.new v1 22 #[.int .i64 (n 0), .int .i64 (n 1), .int .i64 (n 2)])
  generalize v1.heap.size = gH1 at H1 ⊢
  generalize v1.alloc (.cells #[.int .i64 (n 0), .int .i64 (n 1), .int .i64 (n 2)] 22) = v1b at H1 hX2 ⊢
  replace HA := Lib.hid (HA.out.ext hX2)
  replace HB := Lib.hid (HB.out.ext hX2)
  replace HC := Lib.hid (HC.out.ext hX2)
  replace HQ := Lib.hid (HQ.out.ext hX2)
  replace HX := Lib.hid (HX.out.trans hX2)
  clear hX2
  clear hF x0 x1 x2 y0 y1 y2 z0 z1 z2
  have x0 := HA.out.cell (k := 0) (by omega)
  have x1 := HA.out.cell (k := 1) (by omega)
  have x2 := HA.out.cell (k := 2) (by omega)
  have y0 := HB.out.cell (k := 0) (by omega)
  have y1 := HB.out.cell (k := 1) (by omega)
  have y2 := HB.out.cell (k := 2) (by omega)
  have z0 := HC.out.cell (k := 0) (by omega)
  have z1 := HC.out.cell (k := 1) (by omega)
  have z2 := HC.out.cell (k := 2) (by omega)
  go_wp2_with fail
  refine (hG _).mono ?_
  rintro e v2 ⟨rfl, hX2⟩
  replace HA := Lib.hid (HA.out.ext hX2)
  replace HB := Lib.hid (HB.out.ext hX2)
  replace HC := Lib.hid (HC.out.ext hX2)
  replace HQ := Lib.hid (HQ.out.ext hX2)
  replace H1 := Lib.hid (H1.out.ext hX2)
  replace HX := Lib.hid (HX.out.trans hX2)
  clear hX2
  go_upto_region 4 with (fail)
  have hX2 : Ext v2 (v2.alloc (.cells #[.int .i64 (n 0), .int .i64 (n 1), .int .i64 (n 2)] 22)) := (Ext.refl _).alloc _
  have H2 := Lib.hid (Blk.new v2 22 #[.int .i64 (n 0), .int .i64 (n 1), .int .i64 (n 2)])
  generalize v2.heap.size = gH2 at H2 ⊢
  generalize v2.alloc (.cells #[.int .i64 (n 0), .int .i64 (n 1), .int .i64 (n 2)] 22) = v2b at H2 hX2 ⊢
  replace HA := Lib.hid (HA.out.ext hX2)
  replace HB := Lib.hid (HB.out.ext hX2)
  replace HC := Lib.hid (HC.out.ext hX2)
  replace HQ := Lib.hid (HQ.out.ext hX2)
  replace H1 := Lib.hid (H1.out.ext hX2)
  replace HX := Lib.hid (HX.out.trans hX2)
  clear hX2
  clear hG x0 x1 x2 y0 y1 y2 z0 z1 z2
  have x0 := HA.out.cell (k := 0) (by omega)
  have x1 := HA.out.cell (k := 1) (by omega)
  have x2 := HA.out.cell (k := 2) (by omega)
  have y0 := HB.out.cell (k := 0) (by omega)
  have y1 := HB.out.cell (k := 1) (by omega)
  have y2 := HB.out.cell (k := 2) (by omega)
  have z0 := HC.out.cell (k := 0) (by omega)
  have z1 := HC.out.cell (k := 1) (by omega)
  have z2 := HC.out.cell (k := 2) (by omega)
  have q0 := HQ.out.cell (k := 0) (by omega)
  have q1 := HQ.out.cell (k := 1) (by omega)
  have q2 := HQ.out.cell (k := 2) (by omega)
  go_wp2_with fail
  refine (hT _).mono ?_
  rintro e v3 ⟨rfl, hX2⟩
  replace HA := Lib.hid (HA.out.ext hX2)
  replace HB := Lib.hid (HB.out.ext hX2)
  replace HC := Lib.hid (HC.out.ext hX2)
  replace HQ := Lib.hid (HQ.out.ext hX2)
  replace H1 := Lib.hid (H1.out.ext hX2)
  replace H2 := Lib.hid (H2.out.ext hX2)
  replace HX := Lib.hid (HX.out.trans hX2)
  clear hX2
  go_upto_region 5 with (fail)
  have hX2 : Ext v3 (v3.alloc (.cells #[.int .i64 m.a, .int .i64 m.b, .int .i64 m.x, .int .i64 m.y, .int .i64 m.z, .int .i64 m.d, .int .i64 m.w] 90)) := (Ext.refl _).alloc _
  have H3 := Lib.hid (Blk.new v3 90 #[.int .i64 m.a, .int .i64 m.b, .int .i64 m.x, .int .i64 m.y, .int .i64 m.z, .int .i64 m.d, .int .i64 m.w])
  generalize v3.heap.size = gH3 at H3 ⊢
  generalize v3.alloc (.cells #[.int .i64 m.a, .int .i64 m.b, .int .i64 m.x, .int .i64 m.y, .int .i64 m.z, .int .i64 m.d, .int .i64 m.w] 90) = v3b at H3 hX2 ⊢
  replace HA := Lib.hid (HA.out.ext hX2)
  replace HB := Lib.hid (HB.out.ext hX2)
  replace HC := Lib.hid (HC.out.ext hX2)
  replace HQ := Lib.hid (HQ.out.ext hX2)
  replace H1 := Lib.hid (H1.out.ext hX2)
  replace H2 := Lib.hid (H2.out.ext hX2)
  replace HX := Lib.hid (HX.out.trans hX2)
  clear hX2
  clear hT x0 x1 x2 y0 y1 y2 z0 z1 z2 q0 q1 q2
  have x0 := HA.out.cell (k := 0) (by omega)
  have x1 := HA.out.cell (k := 1) (by omega)
  have x2 := HA.out.cell (k := 2) (by omega)
  have y0 := HB.out.cell (k := 0) (by omega)
  have y1 := HB.out.cell (k := 1) (by omega)
  have y2 := HB.out.cell (k := 2) (by omega)
  have z0 := HC.out.cell (k := 0) (by omega)
  have z1 := HC.out.cell (k := 1) (by omega)
  have z2 := HC.out.cell (k := 2) (by omega)
  have q0 := HQ.out.cell (k := 0) (by omega)
  have q1 := HQ.out.cell (k := 1) (by omega)
  have q2 := HQ.out.cell (k := 2) (by omega)
  go_wp2_with fail
  refine (hU _).mono ?_
  rintro e v4 ⟨rfl, hX2⟩
  replace HA := Lib.hid (HA.out.ext hX2)
  replace HB := Lib.hid (HB.out.ext hX2)
  replace HC := Lib.hid (HC.out.ext hX2)
  replace HQ := Lib.hid (HQ.out.ext hX2)
  replace H1 := Lib.hid (H1.out.ext hX2)
  replace H2 := Lib.hid (H2.out.ext hX2)
  replace H3 := Lib.hid (H3.out.ext hX2)
  replace HX := Lib.hid (HX.out.trans hX2)
  clear hX2
  go_upto_region 6 with (fail)
  have hX2 : Ext v4 (v4.alloc (.cells #[.int .i64 m.a, .int .i64 m.b, .int .i64 m.x, .int .i64 m.y, .int .i64 m.z, .int .i64 m.d, .int .i64 m.w] 90)) := (Ext.refl _).alloc _
  have H4 := Lib.hid (Blk.new v4 90 #[.int .i64 m.a, .int .i64 m.b, .int .i64 m.x, .int .i64 m.y, .int .i64 m.z, .int .i64 m.d, .int .i64 m.w])
  generalize v4.heap.size = gH4 at H4 ⊢
  generalize v4.alloc (.cells #[.int .i64 m.a, .int .i64 m.b, .int .i64 m.x, .int .i64 m.y, .int .i64 m.z, .int .i64 m.d, .int .i64 m.w] 90) = v4b at H4 hX2 ⊢
  replace HA := Lib.hid (HA.out.ext hX2)
  replace HB := Lib.hid (HB.out.ext hX2)
  replace HC := Lib.hid (HC.out.ext hX2)
  replace HQ := Lib.hid (HQ.out.ext hX2)
  replace H1 := Lib.hid (H1.out.ext hX2)
  replace H2 := Lib.hid (H2.out.ext hX2)
  replace H3 := Lib.hid (H3.out.ext hX2)
  replace HX := Lib.hid (HX.out.trans hX2)
  clear hX2
  clear hU x0 x1 x2 y0 y1 y2 z0 z1 z2 q0 q1 q2
  clear HA HB HC HQ
  have l10 := H1.out.cell 0
  have l11 := H1.out.cell 1
  have l12 := H1.out.cell 2
  simp only [List.getElem?_toArray, List.getElem?_cons_zero, List.getElem?_cons_succ] at l10 l11 l12
  have l20 := H2.out.cell 0
  have l21 := H2.out.cell 1
  have l22 := H2.out.cell 2
  simp only [List.getElem?_toArray, List.getElem?_cons_zero, List.getElem?_cons_succ] at l20 l21 l22
  have l30 := H3.out.cell 0
  have l31 := H3.out.cell 1
  have l32 := H3.out.cell 2
  have l33 := H3.out.cell 3
  have l34 := H3.out.cell 4
  have l35 := H3.out.cell 5
  have l36 := H3.out.cell 6
  simp only [List.getElem?_toArray, List.getElem?_cons_zero, List.getElem?_cons_succ] at l30 l31 l32 l33 l34 l35 l36
  have l40 := H4.out.cell 0
  have l41 := H4.out.cell 1
  have l42 := H4.out.cell 2
  have l43 := H4.out.cell 3
  have l44 := H4.out.cell 4
  have l45 := H4.out.cell 5
  have l46 := H4.out.cell 6
  simp only [List.getElem?_toArray, List.getElem?_cons_zero, List.getElem?_cons_succ] at l40 l41 l42 l43 l44 l45 l46
  have g6 : ∀ w, (Op.equalIn 10000 22 (.agg #[.int .i64 (n 0), .int .i64 (n 1), .int .i64 (n 2)]) (.agg #[.int .i64 (n 0), .int .i64 (n 1), .int .i64 (n 2)])).run Try.prog w = .ok true w := fun w => by rw [run_eq3 9998]; simp
  have g7 : ∀ w, (Op.equalIn 9999 22 (.agg #[.int .i64 m.x, .int .i64 m.y, .int .i64 m.z]) (.agg #[.int .i64 m.x, .int .i64 m.y, .int .i64 m.z])).run Try.prog w = .ok true w := fun w => by rw [run_eq3 9997]; simp
  go_wp2_with fail
  clear g6 g7 l10 l11 l12 l20 l21 l22 l30 l31 l32 l33 l34 l35 l36 l40 l41 l42 l43 l44 l45 l46 H1 H2 H3 H4
  refine (first_any _).mono ?_
  rintro e w19 ⟨rfl, hX⟩
  replace HX := Lib.hid (HX.out.trans hX)
  clear hX
  go_wp2
  go_ret
  exact ⟨rfl, HX.out⟩

end Go.Proofs.Ytikhlcgnlbinfaa
