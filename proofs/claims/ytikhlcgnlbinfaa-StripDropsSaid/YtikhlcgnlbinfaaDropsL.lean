/- Lemmas of the proof that follows (Drops, part 12): walks of functions by contract, and plain lemmas. Conditions: none. -/
import Derived.Test.YtikhlcgnlbinfaaDropsK
namespace Go.Proofs.Ytikhlcgnlbinfaa
open Go.RowKit

def fstM : List Mt := [⟨0, -1, 0, 0, 1, 0, 1⟩, ⟨0, -1, 0, 0, 1, 30, 2⟩]
theorem fst_sol : solP (3 * 1) fstM 2 = ((-20 : Int) : Rat) := by decide +kernel
theorem fst_mis : misfit (3 * 1) fstM (solP (3 * 1) fstM) = ((600 : Int) : Rat) := by decide +kernel
theorem fst_vp : VP ((1 : Nat) : Int) fstM := vpB_iff.1 (by decide +kernel)
theorem fitQ_small' {z : Int} (h0 : -9223372036854775808 ≤ z) (h1 : z ≤ 9223372036854775807) : FitQW ((z : Int) : Rat) := FitQW.of4 (fitQ_small h0 h1) (by omega)

set_option maxRecDepth 100000 in
set_option maxHeartbeats 2000000 in
theorem first_r3 (go : Nat) (su : Bool) (Au Bu : Option Addr) (lu cu mu ku : Nat) (w : World) (x0 : w.cell? ⟨go, 6, none⟩ = some (.bool su)) (x1 : w.cell? ⟨go, 6 + 1, none⟩ = some (.slice Au lu cu)) (x2 : w.cell? ⟨go, 6 + 2, none⟩ = some (.slice Bu mu ku)) (hx : RatC w (.agg #[.bool su, .slice Au lu cu, .slice Bu mu ku]) ((-20 : Int) : Rat)) (a : Act) (Q : Exit → Act → World → Prop) (hsize : 33 ≤ a.tmps.size)
    (s2 : a.tmps[2]? = some (.slice (some ⟨go, 0, none⟩) 1 1))
    (s3 : a.tmps[3]? = some (.int .i64 (0)))
    (hend : ∀ (xv0 xv1 xv2 xv3 xv4 xv5 xv6 xv7 xv8 xv9 xv10 xv11 xv12 xv13 xv14 xv15 : Value) (W : World), (xv0 = .int .i64 (0)) → (xv1 = .bool false) → (xv2 = .bool false) → (xv3 = .slice (some ⟨go, 0, none⟩) 1 1) → (xv4 = .int .i64 (1)) → (xv5 = .bool false) → (xv6 = .bool false) → (xv7 = .bool false) → (xv8 = .slice (some ⟨go, 0, none⟩) 1 1) → (xv9 = .pointer (some ⟨go, 0, none⟩)) → (xv10 = .pointer (some ⟨go, 6, none⟩)) → (xv11 = .agg #[.bool su, .slice Au lu cu, .slice Bu mu ku]) → (QZ W xv12 ((-20 : Int) : Rat)) → (xv13 = .bool true) → (xv14 = .bool false) → (xv15 = .bool false) → Ext w W → wpList Try.prog (rops Try.f39 3).toArray Q ((rops Try.f39 3).drop 16) ((((((((((((((((a.put (some 17) xv0).put (some 18) xv1).put (some 19) xv2).put (some 20) xv3).put (some 21) xv4).put (some 22) xv5).put (some 23) xv6).put (some 24) xv7).put (some 25) xv8).put (some 26) xv9).put (some 27) xv10).put (some 28) xv11).put (some 29) xv12).put (some 30) xv13).put (some 31) xv14).put (some 32) xv15) W) :
    (Code.region 3 (rops Try.f39 3).toArray true).wp Try.prog Q a w := by
  have hmono : ∀ (W W' : World) (j : Nat) (u : Value), Ext W W' → (fun (i : Nat) (v : Value) (W : World) => match i with
    | 0 => v = .int .i64 (0)
    | 1 => v = .bool false
    | 2 => v = .bool false
    | 3 => v = .slice (some ⟨go, 0, none⟩) 1 1
    | 4 => v = .int .i64 (1)
    | 5 => v = .bool false
    | 6 => v = .bool false
    | 7 => v = .bool false
    | 8 => v = .slice (some ⟨go, 0, none⟩) 1 1
    | 9 => v = .pointer (some ⟨go, 0, none⟩)
    | 10 => v = .pointer (some ⟨go, 6, none⟩)
    | 11 => v = .agg #[.bool su, .slice Au lu cu, .slice Bu mu ku]
    | 12 => QZ W v ((-20 : Int) : Rat)
    | 13 => v = .bool true
    | 14 => v = .bool false
    | 15 => v = .bool false
    | _ => True) j u W → (fun (i : Nat) (v : Value) (W : World) => match i with
    | 0 => v = .int .i64 (0)
    | 1 => v = .bool false
    | 2 => v = .bool false
    | 3 => v = .slice (some ⟨go, 0, none⟩) 1 1
    | 4 => v = .int .i64 (1)
    | 5 => v = .bool false
    | 6 => v = .bool false
    | 7 => v = .bool false
    | 8 => v = .slice (some ⟨go, 0, none⟩) 1 1
    | 9 => v = .pointer (some ⟨go, 0, none⟩)
    | 10 => v = .pointer (some ⟨go, 6, none⟩)
    | 11 => v = .agg #[.bool su, .slice Au lu cu, .slice Bu mu ku]
    | 12 => QZ W v ((-20 : Int) : Rat)
    | 13 => v = .bool true
    | 14 => v = .bool false
    | 15 => v = .bool false
    | _ => True) j u W' := by
    intro W W' j u hX h
    match j, h with
    | 0, h => exact h
    | 1, h => exact h
    | 2, h => exact h
    | 3, h => exact h
    | 4, h => exact h
    | 5, h => exact h
    | 6, h => exact h
    | 7, h => exact h
    | 8, h => exact h
    | 9, h => exact h
    | 10, h => exact h
    | 11, h => exact h
    | 12, h => exact QZ.ext h hX
    | 13, h => exact h
    | 14, h => exact h
    | 15, h => exact h
    | _ + 16, h => exact h
  have hsz : ∀ d, some d ∈ ([some 17, some 18, some 19, some 20, some 21, some 22, some 23, some 24, some 25, some 26, some 27, some 28, some 29, some 30, some 31, some 32] : List (Option Tmp)) → d < a.tmps.size := slots_lt (by decide) hsize
  refine wp_region_j 16 [some 17, some 18, some 19, some 20, some 21, some 22, some 23, some 24, some 25, some 26, some 27, some 28, some 29, some 30, some 31, some 32] [[], [0], [1], [2], [2, 3], [2, 4], [2, 5], [6], [7], [7, 8], [7, 9], [7, 10], [7], [7, 11, 12], [7, 13], [7, 14]] [[], [], [], [], [], [], [], [], [], [], [], [], [], [], [], []] (fun (i : Nat) (v : Value) (W : World) => match i with
    | 0 => v = .int .i64 (0)
    | 1 => v = .bool false
    | 2 => v = .bool false
    | 3 => v = .slice (some ⟨go, 0, none⟩) 1 1
    | 4 => v = .int .i64 (1)
    | 5 => v = .bool false
    | 6 => v = .bool false
    | 7 => v = .bool false
    | 8 => v = .slice (some ⟨go, 0, none⟩) 1 1
    | 9 => v = .pointer (some ⟨go, 0, none⟩)
    | 10 => v = .pointer (some ⟨go, 6, none⟩)
    | 11 => v = .agg #[.bool su, .slice Au lu cu, .slice Bu mu ku]
    | 12 => QZ W v ((-20 : Int) : Rat)
    | 13 => v = .bool true
    | 14 => v = .bool false
    | 15 => v = .bool false
    | _ => True) (fun _ W => Ext w W) (by kernel_rfl) (by kernel_rfl) hsz (fun _ _ _ _ h => h) ((Ext.refl w).drew) ?_ ?_
  · clear hend
    simp only [rops, Try.f39, regOf, Option.bind_some, Nat.reduceBEq, if_true, if_false, Bool.false_eq_true, Option.getD_some]
    simp only [List.take_succ_cons, List.take_zero]
    refine ⟨?_, ?_, ?_, ?_, ?_, ?_, ?_, ?_, ?_, ?_, ?_, ?_, ?_, ?_, ?_, ?_, trivial⟩
    · intro done us W hJ hdep haft hnot b hb hb' K hK Q'
      have e3 := (hb' 3 (by simp)).trans s3
      clear hb hb'
      go_simp
      exact hK _ _ rfl (fun _ _ _ h => h) hJ
    · intro done us W hJ hdep haft hnot b hb hb' K hK Q'
      simp only [List.getD_cons_succ, List.getD_cons_zero, List.mem_cons, List.not_mem_nil, or_false, forall_eq] at hdep
      have e17 := hb 0 17 rfl
      have d0 := hdep
      rw [d0.1] at e17
      clear hb hb' hdep d0
      go_simp
      exact hK _ _ rfl (fun _ _ _ h => h) hJ
    · intro done us W hJ hdep haft hnot b hb hb' K hK Q'
      simp only [List.getD_cons_succ, List.getD_cons_zero, List.mem_cons, List.not_mem_nil, or_false, forall_eq] at hdep
      have e18 := hb 1 18 rfl
      have d1 := hdep
      rw [d1.1] at e18
      clear hb hb' hdep d1
      go_simp
      exact hK _ _ rfl (fun _ _ _ h => h) hJ
    · intro done us W hJ hdep haft hnot b hb hb' K hK Q'
      simp only [List.getD_cons_succ, List.getD_cons_zero, List.mem_cons, List.not_mem_nil, or_false, forall_eq] at hdep
      have e2 := (hb' 2 (by simp)).trans s2
      have e19 := hb 2 19 rfl
      have d2 := hdep
      rw [d2.1] at e19
      clear hb hb' hdep d2
      go_simp
      exact hK _ _ rfl (fun _ _ _ h => h) hJ
    · intro done us W hJ hdep haft hnot b hb hb' K hK Q'
      simp only [List.getD_cons_succ, List.getD_cons_zero, List.mem_cons, List.not_mem_nil, or_false, forall_eq_or_imp, forall_eq] at hdep
      have e19 := hb 2 19 rfl
      have e20 := hb 3 20 rfl
      have d2 := hdep.1
      have d3 := hdep.2
      rw [d2.1] at e19
      rw [d3.1] at e20
      clear hb hb' hdep d2 d3
      go_simp
      exact hK _ _ rfl (fun _ _ _ h => h) hJ
    · intro done us W hJ hdep haft hnot b hb hb' K hK Q'
      simp only [List.getD_cons_succ, List.getD_cons_zero, List.mem_cons, List.not_mem_nil, or_false, forall_eq_or_imp, forall_eq] at hdep
      have e19 := hb 2 19 rfl
      have e21 := hb 4 21 rfl
      have d2 := hdep.1
      have d4 := hdep.2
      rw [d2.1] at e19
      rw [d4.1] at e21
      clear hb hb' hdep d2 d4
      go_simp
      exact hK _ _ rfl (fun _ _ _ h => h) hJ
    · intro done us W hJ hdep haft hnot b hb hb' K hK Q'
      simp only [List.getD_cons_succ, List.getD_cons_zero, List.mem_cons, List.not_mem_nil, or_false, forall_eq_or_imp, forall_eq] at hdep
      have e19 := hb 2 19 rfl
      have e22 := hb 5 22 rfl
      have d2 := hdep.1
      have d5 := hdep.2
      rw [d2.1] at e19
      rw [d5.1] at e22
      clear hb hb' hdep d2 d5
      go_simp
      exact hK _ _ rfl (fun _ _ _ h => h) hJ
    · intro done us W hJ hdep haft hnot b hb hb' K hK Q'
      simp only [List.getD_cons_succ, List.getD_cons_zero, List.mem_cons, List.not_mem_nil, or_false, forall_eq] at hdep
      have e23 := hb 6 23 rfl
      have d6 := hdep
      rw [d6.1] at e23
      clear hb hb' hdep d6
      go_simp
      exact hK _ _ rfl (fun _ _ _ h => h) hJ
    · intro done us W hJ hdep haft hnot b hb hb' K hK Q'
      simp only [List.getD_cons_succ, List.getD_cons_zero, List.mem_cons, List.not_mem_nil, or_false, forall_eq] at hdep
      have e2 := (hb' 2 (by simp)).trans s2
      have e24 := hb 7 24 rfl
      have d7 := hdep
      rw [d7.1] at e24
      clear hb hb' hdep d7
      go_simp
      exact hK _ _ rfl (fun _ _ _ h => h) hJ
    · intro done us W hJ hdep haft hnot b hb hb' K hK Q'
      simp only [List.getD_cons_succ, List.getD_cons_zero, List.mem_cons, List.not_mem_nil, or_false, forall_eq_or_imp, forall_eq] at hdep
      have e24 := hb 7 24 rfl
      have e25 := hb 8 25 rfl
      have d7 := hdep.1
      have d8 := hdep.2
      rw [d7.1] at e24
      rw [d8.1] at e25
      clear hb hb' hdep d7 d8
      go_simp
      exact hK _ _ rfl (fun _ _ _ h => h) hJ
    · intro done us W hJ hdep haft hnot b hb hb' K hK Q'
      simp only [List.getD_cons_succ, List.getD_cons_zero, List.mem_cons, List.not_mem_nil, or_false, forall_eq_or_imp, forall_eq] at hdep
      have e24 := hb 7 24 rfl
      have e26 := hb 9 26 rfl
      have d7 := hdep.1
      have d9 := hdep.2
      rw [d7.1] at e24
      rw [d9.1] at e26
      clear hb hb' hdep d7 d9
      go_simp
      exact hK _ _ rfl (fun _ _ _ h => h) hJ
    · intro done us W hJ hdep haft hnot b hb hb' K hK Q'
      simp only [List.getD_cons_succ, List.getD_cons_zero, List.mem_cons, List.not_mem_nil, or_false, forall_eq_or_imp, forall_eq] at hdep
      have e24 := hb 7 24 rfl
      have e27 := hb 10 27 rfl
      have d7 := hdep.1
      have d10 := hdep.2
      rw [d7.1] at e24
      rw [d10.1] at e27
      clear hb hb' hdep d7 d10
      have z0 := Ext.cell hJ x0
      have z1 := Ext.cell hJ x1
      have z2 := Ext.cell hJ x2
      go_simp
      exact hK _ _ rfl (fun _ _ _ h => h) hJ
    · intro done us W hJ hdep haft hnot b hb hb' K hK Q'
      simp only [List.getD_cons_succ, List.getD_cons_zero, List.mem_cons, List.not_mem_nil, or_false, forall_eq] at hdep
      have e24 := hb 7 24 rfl
      have d7 := hdep
      rw [d7.1] at e24
      clear hb hb' hdep d7
      go_simp
      refine (whole_any (-20) _ (by omega) (by omega)).mono ?_
      rintro e w' ⟨v, rfl, hv, hX⟩
      exact hK _ _ hv (fun j u _ h => hmono _ _ j u hX h) (Ext.trans hJ hX)
    · intro done us W hJ hdep haft hnot b hb hb' K hK Q'
      simp only [List.getD_cons_succ, List.getD_cons_zero, List.mem_cons, List.not_mem_nil, or_false, forall_eq_or_imp, forall_eq] at hdep
      have e24 := hb 7 24 rfl
      have e28 := hb 11 28 rfl
      have e29 := hb 12 29 rfl
      have d7 := hdep.1
      have d11 := hdep.2.1
      have d12 := hdep.2.2
      rw [d7.1] at e24
      rw [d11.1] at e28
      clear hb hb' hdep d7 d11
      go_simp
      refine (same_any (hx.ext hJ) d12.1 (fitQ_small' (by omega) (by omega))).mono ?_
      rintro e w' ⟨rfl, hX⟩
      exact hK _ _ rfl (fun j u _ h => hmono _ _ j u hX h) (Ext.trans hJ hX)
    · intro done us W hJ hdep haft hnot b hb hb' K hK Q'
      simp only [List.getD_cons_succ, List.getD_cons_zero, List.mem_cons, List.not_mem_nil, or_false, forall_eq_or_imp, forall_eq] at hdep
      have e24 := hb 7 24 rfl
      have e30 := hb 13 30 rfl
      have d7 := hdep.1
      have d13 := hdep.2
      rw [d7.1] at e24
      rw [d13.1] at e30
      clear hb hb' hdep d7 d13
      go_simp
      exact hK _ _ rfl (fun _ _ _ h => h) hJ
    · intro done us W hJ hdep haft hnot b hb hb' K hK Q'
      simp only [List.getD_cons_succ, List.getD_cons_zero, List.mem_cons, List.not_mem_nil, or_false, forall_eq_or_imp, forall_eq] at hdep
      have e24 := hb 7 24 rfl
      have e31 := hb 14 31 rfl
      have d7 := hdep.1
      have d14 := hdep.2
      rw [d7.1] at e24
      rw [d14.1] at e31
      clear hb hb' hdep d7 d14
      go_simp
      exact hK _ _ rfl (fun _ _ _ h => h) hJ
  · intro us W hV hJ
    exact hend (us 0) (us 1) (us 2) (us 3) (us 4) (us 5) (us 6) (us 7) (us 8) (us 9) (us 10) (us 11) (us 12) (us 13) (us 14) (us 15) W (hV 0 (by omega)) (hV 1 (by omega)) (hV 2 (by omega)) (hV 3 (by omega)) (hV 4 (by omega)) (hV 5 (by omega)) (hV 6 (by omega)) (hV 7 (by omega)) (hV 8 (by omega)) (hV 9 (by omega)) (hV 10 (by omega)) (hV 11 (by omega)) (hV 12 (by omega)) (hV 13 (by omega)) (hV 14 (by omega)) (hV 15 (by omega)) hJ
set_option maxRecDepth 100000 in
set_option maxHeartbeats 2000000 in
theorem first_r6 (gx : Nat) (su : Bool) (Au Bu : Option Addr) (lu cu mu ku : Nat) (w : World) (x0 : w.cell? ⟨gx, 0, none⟩ = some (.bool su)) (x1 : w.cell? ⟨gx, 1, none⟩ = some (.slice Au lu cu)) (x2 : w.cell? ⟨gx, 2, none⟩ = some (.slice Bu mu ku)) (hx : RatC w (.agg #[.bool su, .slice Au lu cu, .slice Bu mu ku]) ((600 : Int) : Rat)) (a : Act) (Q : Exit → Act → World → Prop) (hsize : 46 ≤ a.tmps.size)
    (s4 : a.tmps[4]? = some (.pointer (some ⟨gx, 0, none⟩)))
    (s5 : a.tmps[5]? = some (.int .i64 (0)))
    (hend : ∀ (xv0 xv1 xv2 xv3 xv4 xv5 xv6 xv7 : Value) (W : World), (xv0 = .int .i64 (0)) → (xv1 = .bool true) → (xv2 = .bool true) → (xv3 = .agg #[.bool su, .slice Au lu cu, .slice Bu mu ku]) → (QZ W xv4 ((600 : Int) : Rat)) → (xv5 = .bool true) → (xv6 = .bool true) → (xv7 = .bool true) → Ext w W → wpList Try.prog (rops Try.f39 6).toArray Q ((rops Try.f39 6).drop 8) ((((((((a.put (some 39) xv0).put (some 40) xv1).put (some 41) xv2).put (some 42) xv3).put (some 43) xv4).put (some 44) xv5).put (some 45) xv6).put (some 0) xv7) W) :
    (Code.region 6 (rops Try.f39 6).toArray true).wp Try.prog Q a w := by
  have hmono : ∀ (W W' : World) (j : Nat) (u : Value), Ext W W' → (fun (i : Nat) (v : Value) (W : World) => match i with
    | 0 => v = .int .i64 (0)
    | 1 => v = .bool true
    | 2 => v = .bool true
    | 3 => v = .agg #[.bool su, .slice Au lu cu, .slice Bu mu ku]
    | 4 => QZ W v ((600 : Int) : Rat)
    | 5 => v = .bool true
    | 6 => v = .bool true
    | 7 => v = .bool true
    | _ => True) j u W → (fun (i : Nat) (v : Value) (W : World) => match i with
    | 0 => v = .int .i64 (0)
    | 1 => v = .bool true
    | 2 => v = .bool true
    | 3 => v = .agg #[.bool su, .slice Au lu cu, .slice Bu mu ku]
    | 4 => QZ W v ((600 : Int) : Rat)
    | 5 => v = .bool true
    | 6 => v = .bool true
    | 7 => v = .bool true
    | _ => True) j u W' := by
    intro W W' j u hX h
    match j, h with
    | 0, h => exact h
    | 1, h => exact h
    | 2, h => exact h
    | 3, h => exact h
    | 4, h => exact QZ.ext h hX
    | 5, h => exact h
    | 6, h => exact h
    | 7, h => exact h
    | _ + 8, h => exact h
  have hsz : ∀ d, some d ∈ ([some 39, some 40, some 41, some 42, some 43, some 44, some 45, some 0] : List (Option Tmp)) → d < a.tmps.size := slots_lt (by decide) hsize
  refine wp_region_j 8 [some 39, some 40, some 41, some 42, some 43, some 44, some 45, some 0] [[], [0], [1], [2], [2], [2, 3, 4], [2, 5], [6]] [[], [], [], [], [], [], [], []] (fun (i : Nat) (v : Value) (W : World) => match i with
    | 0 => v = .int .i64 (0)
    | 1 => v = .bool true
    | 2 => v = .bool true
    | 3 => v = .agg #[.bool su, .slice Au lu cu, .slice Bu mu ku]
    | 4 => QZ W v ((600 : Int) : Rat)
    | 5 => v = .bool true
    | 6 => v = .bool true
    | 7 => v = .bool true
    | _ => True) (fun _ W => Ext w W) (by kernel_rfl) (by kernel_rfl) hsz (fun _ _ _ _ h => h) ((Ext.refl w).drew) ?_ ?_
  · clear hend
    simp only [rops, Try.f39, regOf, Option.bind_some, Nat.reduceBEq, if_true, if_false, Bool.false_eq_true, Option.getD_some]
    simp only [List.take_succ_cons, List.take_zero]
    refine ⟨?_, ?_, ?_, ?_, ?_, ?_, ?_, ?_, trivial⟩
    · intro done us W hJ hdep haft hnot b hb hb' K hK Q'
      have e5 := (hb' 5 (by simp)).trans s5
      clear hb hb'
      go_simp
      exact hK _ _ rfl (fun _ _ _ h => h) hJ
    · intro done us W hJ hdep haft hnot b hb hb' K hK Q'
      simp only [List.getD_cons_succ, List.getD_cons_zero, List.mem_cons, List.not_mem_nil, or_false, forall_eq] at hdep
      have e39 := hb 0 39 rfl
      have d0 := hdep
      rw [d0.1] at e39
      clear hb hb' hdep d0
      go_simp
      exact hK _ _ rfl (fun _ _ _ h => h) hJ
    · intro done us W hJ hdep haft hnot b hb hb' K hK Q'
      simp only [List.getD_cons_succ, List.getD_cons_zero, List.mem_cons, List.not_mem_nil, or_false, forall_eq] at hdep
      have e40 := hb 1 40 rfl
      have d1 := hdep
      rw [d1.1] at e40
      clear hb hb' hdep d1
      go_simp
      exact hK _ _ rfl (fun _ _ _ h => h) hJ
    · intro done us W hJ hdep haft hnot b hb hb' K hK Q'
      simp only [List.getD_cons_succ, List.getD_cons_zero, List.mem_cons, List.not_mem_nil, or_false, forall_eq] at hdep
      have e4 := (hb' 4 (by simp)).trans s4
      have e41 := hb 2 41 rfl
      have d2 := hdep
      rw [d2.1] at e41
      clear hb hb' hdep d2
      have z0 := Ext.cell hJ x0
      have z1 := Ext.cell hJ x1
      have z2 := Ext.cell hJ x2
      go_simp
      exact hK _ _ rfl (fun _ _ _ h => h) hJ
    · intro done us W hJ hdep haft hnot b hb hb' K hK Q'
      simp only [List.getD_cons_succ, List.getD_cons_zero, List.mem_cons, List.not_mem_nil, or_false, forall_eq] at hdep
      have e41 := hb 2 41 rfl
      have d2 := hdep
      rw [d2.1] at e41
      clear hb hb' hdep d2
      go_simp
      refine (whole_any 600 _ (by omega) (by omega)).mono ?_
      rintro e w' ⟨v, rfl, hv, hX⟩
      exact hK _ _ hv (fun j u _ h => hmono _ _ j u hX h) (Ext.trans hJ hX)
    · intro done us W hJ hdep haft hnot b hb hb' K hK Q'
      simp only [List.getD_cons_succ, List.getD_cons_zero, List.mem_cons, List.not_mem_nil, or_false, forall_eq_or_imp, forall_eq] at hdep
      have e41 := hb 2 41 rfl
      have e42 := hb 3 42 rfl
      have e43 := hb 4 43 rfl
      have d2 := hdep.1
      have d3 := hdep.2.1
      have d4 := hdep.2.2
      rw [d2.1] at e41
      rw [d3.1] at e42
      clear hb hb' hdep d2 d3
      go_simp
      refine (same_any (hx.ext hJ) d4.1 (fitQ_small' (by omega) (by omega))).mono ?_
      rintro e w' ⟨rfl, hX⟩
      exact hK _ _ rfl (fun j u _ h => hmono _ _ j u hX h) (Ext.trans hJ hX)
    · intro done us W hJ hdep haft hnot b hb hb' K hK Q'
      simp only [List.getD_cons_succ, List.getD_cons_zero, List.mem_cons, List.not_mem_nil, or_false, forall_eq_or_imp, forall_eq] at hdep
      have e41 := hb 2 41 rfl
      have e44 := hb 5 44 rfl
      have d2 := hdep.1
      have d5 := hdep.2
      rw [d2.1] at e41
      rw [d5.1] at e44
      clear hb hb' hdep d2 d5
      go_simp
      exact hK _ _ rfl (fun _ _ _ h => h) hJ
    · intro done us W hJ hdep haft hnot b hb hb' K hK Q'
      simp only [List.getD_cons_succ, List.getD_cons_zero, List.mem_cons, List.not_mem_nil, or_false, forall_eq] at hdep
      have e45 := hb 6 45 rfl
      have d6 := hdep
      rw [d6.1] at e45
      clear hb hb' hdep d6
      go_simp
      exact hK _ _ rfl (fun _ _ _ h => h) hJ
  · intro us W hV hJ
    exact hend (us 0) (us 1) (us 2) (us 3) (us 4) (us 5) (us 6) (us 7) W (hV 0 (by omega)) (hV 1 (by omega)) (hV 2 (by omega)) (hV 3 (by omega)) (hV 4 (by omega)) (hV 5 (by omega)) (hV 6 (by omega)) (hV 7 (by omega)) hJ
set_option maxRecDepth 100000 in
set_option maxHeartbeats 4000000 in
theorem first_any (w : World) : Calls Try.prog 39 #[] w (fun e w' => e = .returned (.bool true) ∧ Ext w w') := by
  have hXe : Ext w ((w.alloc (.cells #[.int .i64 0, .int .i64 (-1), .int .i64 0, .int .i64 0, .int .i64 1, .int .i64 0, .int .i64 1, .int .i64 0, .int .i64 (-1), .int .i64 0, .int .i64 0, .int .i64 1, .int .i64 30, .int .i64 2] 90)).alloc (.cells #[.int .i64 1, .slice (some ⟨w.heap.size, 0, none⟩) 2 2] 76)) := ((Ext.refl w).alloc _).alloc _
  have kP : Blk ((w.alloc (.cells #[.int .i64 0, .int .i64 (-1), .int .i64 0, .int .i64 0, .int .i64 1, .int .i64 0, .int .i64 1, .int .i64 0, .int .i64 (-1), .int .i64 0, .int .i64 0, .int .i64 1, .int .i64 30, .int .i64 2] 90)).alloc (.cells #[.int .i64 1, .slice (some ⟨w.heap.size, 0, none⟩) 2 2] 76)) (w.heap.size + 1) 76 #[.int .i64 1, .slice (some ⟨w.heap.size, 0, none⟩) 2 2] := Blk.at_ (by simp)
  have hat : At (w.alloc (.cells #[.int .i64 0, .int .i64 (-1), .int .i64 0, .int .i64 0, .int .i64 1, .int .i64 0, .int .i64 1, .int .i64 0, .int .i64 (-1), .int .i64 0, .int .i64 0, .int .i64 1, .int .i64 30, .int .i64 2] 90)) (some ⟨w.heap.size, 0, none⟩) (mtV fstM) := At.new w [.int .i64 0, .int .i64 (-1), .int .i64 0, .int .i64 0, .int .i64 1, .int .i64 0, .int .i64 1, .int .i64 0, .int .i64 (-1), .int .i64 0, .int .i64 0, .int .i64 1, .int .i64 30, .int .i64 2] 90
  have HM : Hid (MsAt (w.alloc (.cells #[.int .i64 0, .int .i64 (-1), .int .i64 0, .int .i64 0, .int .i64 1, .int .i64 0, .int .i64 1, .int .i64 0, .int .i64 (-1), .int .i64 0, .int .i64 0, .int .i64 1, .int .i64 30, .int .i64 2] 90)) (some ⟨w.heap.size, 0, none⟩) 2 fstM) := Lib.hid ⟨rfl, hat⟩
  have HM2 := Lib.hid (HM.out.ext ((Ext.refl _).alloc (.cells #[.int .i64 1, .slice (some ⟨w.heap.size, 0, none⟩) 2 2] 76)))
  clear hat HM
  go_enter Try.func39, Try.ntmps39
  go_upto_region 2 with (fail)
  generalize ((w.alloc (.cells #[.int .i64 0, .int .i64 (-1), .int .i64 0, .int .i64 0, .int .i64 1, .int .i64 0, .int .i64 1, .int .i64 0, .int .i64 (-1), .int .i64 0, .int .i64 0, .int .i64 1, .int .i64 30, .int .i64 2] 90)).alloc (.cells #[.int .i64 1, .slice (some ⟨w.heap.size, 0, none⟩) 2 2] 76)) = w1 at hXe kP HM2 ⊢
  generalize w.heap.size + 1 = gp at kP ⊢
  generalize w.heap.size = gm at kP HM2 ⊢
  have HX := Lib.hid hXe
  have HP := Lib.hid kP
  have p0 := kP.cell 0
  have p1 := kP.cell 1
  simp only [List.getElem?_toArray, List.getElem?_cons_zero, List.getElem?_cons_succ] at p0 p1
  clear hXe kP
  go_wp2_with fail
  refine (solveP_ok 1 (some ⟨gm, 0, none⟩) 2 2 fstM _ HM2.out fst_vp).mono ?_
  rintro e w2 ⟨go, rfl, _, hS, hX⟩
  clear p0 p1
  replace HX := Lib.hid (HX.out.trans hX)
  replace HP := Lib.hid (HP.out.ext hX)
  replace HM2 := Lib.hid (HM2.out.ext hX)
  have HS := Lib.hid hS
  clear hS hX
  obtain ⟨su, Au, lu, cu, Bu, mu, ku, x0, x1, x2, hx⟩ := HS.out 0 2 (by omega) (by omega)
  simp only [Nat.reduceMul, Nat.reduceAdd] at x0 x1 x2
  rw [show (3 * 0 + 2 : Nat) = 2 from rfl, show (3 : Nat) = 3 * 1 from rfl, fst_sol] at hx
  have HC := Lib.hid hx
  have hX0 := Lib.hid x0
  have hX1 := Lib.hid x1
  have hX2 := Lib.hid x2
  clear hx x0 x1 x2
  go_upto_region 3 with (fail)
  refine first_r3 go su Au Bu lu cu mu ku w2 hX0.out hX1.out hX2.out HC.out _ _ (by simp) rfl rfl ?_
  rintro xv0 xv1 xv2 xv3 xv4 xv5 xv6 xv7 xv8 xv9 xv10 xv11 xv12 xv13 xv14 xv15 W rfl rfl rfl rfl rfl rfl rfl rfl rfl rfl rfl rfl _ rfl rfl rfl hX
  simp only [rops, Try.f39, regOf, Option.bind_some, Nat.reduceBEq, if_true, if_false, Bool.false_eq_true, Option.getD_some, List.drop_succ_cons, List.drop_zero]
  simp only [Act.put, List.setIfInBounds_toArray, List.set_cons_succ, List.set_cons_zero]
  clear hX0 hX1 hX2 HC
  replace HX := Lib.hid (HX.out.trans hX)
  replace HP := Lib.hid (HP.out.ext hX)
  replace HM2 := Lib.hid (HM2.out.ext hX)
  replace HS := Lib.hid (HS.out.ext growsC hX)
  clear hX
  have p0 := HP.out.cell 0
  have p1 := HP.out.cell 1
  simp only [List.getElem?_toArray, List.getElem?_cons_zero, List.getElem?_cons_succ] at p0 p1
  have HF : Hid (FitQW (misfit (3 * 1) fstM (solP (3 * 1) fstM))) := Lib.hid (by rw [fst_mis]; exact fitQ_small' (by omega) (by omega))
  have HFS : Hid (∀ j, FitQW (solP (3 * 1) fstM j)) := Lib.hid (fun j => FitQW.of4 (solP_fit fst_vp.2.2.2 fst_vp.2.2.1 (by omega) j) (by omega))
  go_wp2_with fail
  refine (misfit_ok 1 (some ⟨gm, 0, none⟩) 2 2 fstM go 0 1 (solP (3 * 1) fstM) _ HM2.out fst_vp (HS.out.imp2 (fun j v _ h => h.good (HFS.out j))) HF.out).mono ?_
  rintro e w3 ⟨v3, rfl, hv, hX⟩
  rw [fst_mis] at hv
  obtain ⟨s4, A4, l4, c4, B4, m4, k4, rfl⟩ := RatC.open hv
  replace HX := Lib.hid (HX.out.trans hX)
  have HC := Lib.hid hv
  clear hv hX p0 p1
  go_upto_region 6 with (fail)
  have hXa : Ext w3 (w3.alloc (.cells #[.bool s4, .slice A4 l4 c4, .slice B4 m4 k4] 97)) := (Ext.refl _).alloc _
  have kB := Blk.new w3 97 #[.bool s4, .slice A4 l4 c4, .slice B4 m4 k4]
  replace HX := Lib.hid (HX.out.trans hXa)
  replace HC := Lib.hid (HC.out.ext hXa)
  clear hXa
  generalize w3.heap.size = gx at kB ⊢
  generalize w3.alloc (.cells #[.bool s4, .slice A4 l4 c4, .slice B4 m4 k4] 97) = w4 at kB HX HC ⊢
  refine first_r6 gx s4 A4 B4 l4 c4 m4 k4 w4 (kB.cell 0) (kB.cell 1) (kB.cell 2) HC.out _ _ (by simp) rfl rfl ?_
  rintro xv0 xv1 xv2 xv3 xv4 xv5 xv6 xv7 W rfl rfl rfl rfl _ rfl rfl rfl hX
  simp only [rops, Try.f39, regOf, Option.bind_some, Nat.reduceBEq, if_true, if_false, Bool.false_eq_true, Option.getD_some, List.drop_succ_cons, List.drop_zero]
  simp only [Act.put, List.setIfInBounds_toArray, List.set_cons_succ, List.set_cons_zero]
  have HX9 := Lib.hid (HX.out.trans hX)
  clear kB HC hX
  go_wp2
  go_ret
  exact ⟨rfl, HX9.out⟩

end Go.Proofs.Ytikhlcgnlbinfaa
namespace Go.Proofs.Ytikhlcgnlbinfaa
open Go.RowKit

set_option maxRecDepth 100000 in
set_option maxHeartbeats 2000000 in
theorem drops_r14 (gp gq ha oa hb ob nl ca cb kk : Nat) (ma mb mx my mz md mw : Int) (w : World) (pa : w.cell? ⟨gp, 1, none⟩ = some (.slice (some ⟨ha, oa, none⟩) nl ca)) (pb : w.cell? ⟨gq, 1, none⟩ = some (.slice (some ⟨hb, ob, none⟩) nl cb)) (v0 : w.cell? ⟨ha, oa + kk * 7, none⟩ = some (.int .i64 (ma))) (v1 : w.cell? ⟨ha, oa + kk * 7 + 1, none⟩ = some (.int .i64 (mb))) (v2 : w.cell? ⟨ha, oa + kk * 7 + 2, none⟩ = some (.int .i64 (mx))) (v3 : w.cell? ⟨ha, oa + kk * 7 + 3, none⟩ = some (.int .i64 (my))) (v4 : w.cell? ⟨ha, oa + kk * 7 + 4, none⟩ = some (.int .i64 (mz))) (v5 : w.cell? ⟨ha, oa + kk * 7 + 5, none⟩ = some (.int .i64 (md))) (v6 : w.cell? ⟨ha, oa + kk * 7 + 6, none⟩ = some (.int .i64 (mw))) (y0 : w.cell? ⟨hb, ob + kk * 7, none⟩ = some (.int .i64 (ma))) (y1 : w.cell? ⟨hb, ob + kk * 7 + 1, none⟩ = some (.int .i64 (mb))) (y2 : w.cell? ⟨hb, ob + kk * 7 + 2, none⟩ = some (.int .i64 (mx))) (y3 : w.cell? ⟨hb, ob + kk * 7 + 3, none⟩ = some (.int .i64 (my))) (y4 : w.cell? ⟨hb, ob + kk * 7 + 4, none⟩ = some (.int .i64 (mz))) (y5 : w.cell? ⟨hb, ob + kk * 7 + 5, none⟩ = some (.int .i64 (md))) (y6 : w.cell? ⟨hb, ob + kk * 7 + 6, none⟩ = some (.int .i64 (mw))) (hkn : kk < nl) (a : Act) (Q : Exit → Act → World → Prop) (hsize : 105 ≤ a.tmps.size)
    (s5 : a.tmps[5]? = some (.pointer (some ⟨gp, 0, none⟩)))
    (s7 : a.tmps[7]? = some (.pointer (some ⟨gq, 0, none⟩)))
    (s9 : a.tmps[9]? = some (.int .i64 (kk : Int)))
    (hend : ∀ (xv0 xv1 xv2 xv3 xv4 xv5 xv6 xv7 xv8 xv9 xv10 : Value) (W : World), (xv0 = .pointer (some ⟨gp, 1, none⟩)) → (xv1 = .slice (some ⟨ha, oa, none⟩) nl ca) → (xv2 = .int .i64 (kk : Int)) → (xv3 = .pointer (some ⟨ha, oa + kk * 7, none⟩)) → (xv4 = .agg #[.int .i64 (ma), .int .i64 (mb), .int .i64 (mx), .int .i64 (my), .int .i64 (mz), .int .i64 (md), .int .i64 (mw)]) → (xv5 = .pointer (some ⟨gq, 1, none⟩)) → (xv6 = .slice (some ⟨hb, ob, none⟩) nl cb) → (xv7 = .int .i64 (kk : Int)) → (xv8 = .pointer (some ⟨hb, ob + kk * 7, none⟩)) → (xv9 = .agg #[.int .i64 (ma), .int .i64 (mb), .int .i64 (mx), .int .i64 (my), .int .i64 (mz), .int .i64 (md), .int .i64 (mw)]) → (xv10 = .bool false) → Ext w W → wpList Try.prog (rops Try.f6 14).toArray Q ((rops Try.f6 14).drop 11) (((((((((((a.put (some 94) xv0).put (some 95) xv1).put (some 96) xv2).put (some 97) xv3).put (some 98) xv4).put (some 99) xv5).put (some 100) xv6).put (some 101) xv7).put (some 102) xv8).put (some 103) xv9).put (some 104) xv10) W) :
    (Code.region 14 (rops Try.f6 14).toArray true).wp Try.prog Q a w := by
  have hmono : ∀ (W W' : World) (j : Nat) (u : Value), Ext W W' → (fun (i : Nat) (v : Value) (W : World) => match i with
    | 0 => v = .pointer (some ⟨gp, 1, none⟩)
    | 1 => v = .slice (some ⟨ha, oa, none⟩) nl ca
    | 2 => v = .int .i64 (kk : Int)
    | 3 => v = .pointer (some ⟨ha, oa + kk * 7, none⟩)
    | 4 => v = .agg #[.int .i64 (ma), .int .i64 (mb), .int .i64 (mx), .int .i64 (my), .int .i64 (mz), .int .i64 (md), .int .i64 (mw)]
    | 5 => v = .pointer (some ⟨gq, 1, none⟩)
    | 6 => v = .slice (some ⟨hb, ob, none⟩) nl cb
    | 7 => v = .int .i64 (kk : Int)
    | 8 => v = .pointer (some ⟨hb, ob + kk * 7, none⟩)
    | 9 => v = .agg #[.int .i64 (ma), .int .i64 (mb), .int .i64 (mx), .int .i64 (my), .int .i64 (mz), .int .i64 (md), .int .i64 (mw)]
    | 10 => v = .bool false
    | _ => True) j u W → (fun (i : Nat) (v : Value) (W : World) => match i with
    | 0 => v = .pointer (some ⟨gp, 1, none⟩)
    | 1 => v = .slice (some ⟨ha, oa, none⟩) nl ca
    | 2 => v = .int .i64 (kk : Int)
    | 3 => v = .pointer (some ⟨ha, oa + kk * 7, none⟩)
    | 4 => v = .agg #[.int .i64 (ma), .int .i64 (mb), .int .i64 (mx), .int .i64 (my), .int .i64 (mz), .int .i64 (md), .int .i64 (mw)]
    | 5 => v = .pointer (some ⟨gq, 1, none⟩)
    | 6 => v = .slice (some ⟨hb, ob, none⟩) nl cb
    | 7 => v = .int .i64 (kk : Int)
    | 8 => v = .pointer (some ⟨hb, ob + kk * 7, none⟩)
    | 9 => v = .agg #[.int .i64 (ma), .int .i64 (mb), .int .i64 (mx), .int .i64 (my), .int .i64 (mz), .int .i64 (md), .int .i64 (mw)]
    | 10 => v = .bool false
    | _ => True) j u W' := by
    intro W W' j u hX h
    match j, h with
    | 0, h => exact h
    | 1, h => exact h
    | 2, h => exact h
    | 3, h => exact h
    | 4, h => exact h
    | 5, h => exact h
    | 6, h => exact h
    | 7, h => exact h
    | 8, h => exact h
    | 9, h => exact h
    | 10, h => exact h
    | _ + 11, h => exact h
  have hsz : ∀ d, some d ∈ ([some 94, some 95, some 96, some 97, some 98, some 99, some 100, some 101, some 102, some 103, some 104] : List (Option Tmp)) → d < a.tmps.size := slots_lt (by decide) hsize
  refine wp_region_j 11 [some 94, some 95, some 96, some 97, some 98, some 99, some 100, some 101, some 102, some 103, some 104] [[], [0], [], [1, 2], [3], [], [5], [], [6, 7], [8], [4, 9]] [[], [], [], [], [], [], [], [], [], [], []] (fun (i : Nat) (v : Value) (W : World) => match i with
    | 0 => v = .pointer (some ⟨gp, 1, none⟩)
    | 1 => v = .slice (some ⟨ha, oa, none⟩) nl ca
    | 2 => v = .int .i64 (kk : Int)
    | 3 => v = .pointer (some ⟨ha, oa + kk * 7, none⟩)
    | 4 => v = .agg #[.int .i64 (ma), .int .i64 (mb), .int .i64 (mx), .int .i64 (my), .int .i64 (mz), .int .i64 (md), .int .i64 (mw)]
    | 5 => v = .pointer (some ⟨gq, 1, none⟩)
    | 6 => v = .slice (some ⟨hb, ob, none⟩) nl cb
    | 7 => v = .int .i64 (kk : Int)
    | 8 => v = .pointer (some ⟨hb, ob + kk * 7, none⟩)
    | 9 => v = .agg #[.int .i64 (ma), .int .i64 (mb), .int .i64 (mx), .int .i64 (my), .int .i64 (mz), .int .i64 (md), .int .i64 (mw)]
    | 10 => v = .bool false
    | _ => True) (fun _ W => Ext w W) (by kernel_rfl) (by kernel_rfl) hsz (fun _ _ _ _ h => h) ((Ext.refl w).drew) ?_ ?_
  · clear hend
    simp only [rops, Try.f6, regOf, Option.bind_some, Nat.reduceBEq, if_true, if_false, Bool.false_eq_true, Option.getD_some]
    simp only [List.take_succ_cons, List.take_zero]
    refine ⟨?_, ?_, ?_, ?_, ?_, ?_, ?_, ?_, ?_, ?_, ?_, trivial⟩
    · intro done us W hJ hdep haft hnot b hb hb' K hK Q'
      have e5 := (hb' 5 (by simp)).trans s5
      clear hb hb'
      go_simp
      exact hK _ _ rfl (fun _ _ _ h => h) hJ
    · intro done us W hJ hdep haft hnot b hb hb' K hK Q'
      simp only [List.getD_cons_succ, List.getD_cons_zero, List.mem_cons, List.not_mem_nil, or_false, forall_eq] at hdep
      have e94 := hb 0 94 rfl
      have d0 := hdep
      rw [d0.1] at e94
      clear hb hb' hdep d0
      have q := Ext.cell hJ pa
      go_simp
      exact hK _ _ rfl (fun _ _ _ h => h) hJ
    · intro done us W hJ hdep haft hnot b hb hb' K hK Q'
      have e9 := (hb' 9 (by simp)).trans s9
      clear hb hb'
      go_simp
      exact hK _ _ rfl (fun _ _ _ h => h) hJ
    · intro done us W hJ hdep haft hnot b hb hb' K hK Q'
      simp only [List.getD_cons_succ, List.getD_cons_zero, List.mem_cons, List.not_mem_nil, or_false, forall_eq_or_imp, forall_eq] at hdep
      have e95 := hb 1 95 rfl
      have e96 := hb 2 96 rfl
      have d1 := hdep.1
      have d2 := hdep.2
      rw [d1.1] at e95
      rw [d2.1] at e96
      clear hb hb' hdep d1 d2
      go_simp
      exact hK _ _ rfl (fun _ _ _ h => h) hJ
    · intro done us W hJ hdep haft hnot b hb hb' K hK Q'
      simp only [List.getD_cons_succ, List.getD_cons_zero, List.mem_cons, List.not_mem_nil, or_false, forall_eq] at hdep
      have e97 := hb 3 97 rfl
      have d3 := hdep
      rw [d3.1] at e97
      clear hb hb' hdep d3
      have z0 := Ext.cell hJ v0
      have z1 := Ext.cell hJ v1
      have z2 := Ext.cell hJ v2
      have z3 := Ext.cell hJ v3
      have z4 := Ext.cell hJ v4
      have z5 := Ext.cell hJ v5
      have z6 := Ext.cell hJ v6
      go_simp
      exact hK _ _ rfl (fun _ _ _ h => h) hJ
    · intro done us W hJ hdep haft hnot b hb hb' K hK Q'
      have e7 := (hb' 7 (by simp)).trans s7
      clear hb hb'
      go_simp
      exact hK _ _ rfl (fun _ _ _ h => h) hJ
    · intro done us W hJ hdep haft hnot b hb hb' K hK Q'
      simp only [List.getD_cons_succ, List.getD_cons_zero, List.mem_cons, List.not_mem_nil, or_false, forall_eq] at hdep
      have e99 := hb 5 99 rfl
      have d5 := hdep
      rw [d5.1] at e99
      clear hb hb' hdep d5
      have q := Ext.cell hJ pb
      go_simp
      exact hK _ _ rfl (fun _ _ _ h => h) hJ
    · intro done us W hJ hdep haft hnot b hb hb' K hK Q'
      have e9 := (hb' 9 (by simp)).trans s9
      clear hb hb'
      go_simp
      exact hK _ _ rfl (fun _ _ _ h => h) hJ
    · intro done us W hJ hdep haft hnot b hb hb' K hK Q'
      simp only [List.getD_cons_succ, List.getD_cons_zero, List.mem_cons, List.not_mem_nil, or_false, forall_eq_or_imp, forall_eq] at hdep
      have e100 := hb 6 100 rfl
      have e101 := hb 7 101 rfl
      have d6 := hdep.1
      have d7 := hdep.2
      rw [d6.1] at e100
      rw [d7.1] at e101
      clear hb hb' hdep d6 d7
      go_simp
      exact hK _ _ rfl (fun _ _ _ h => h) hJ
    · intro done us W hJ hdep haft hnot b hb hb' K hK Q'
      simp only [List.getD_cons_succ, List.getD_cons_zero, List.mem_cons, List.not_mem_nil, or_false, forall_eq] at hdep
      have e102 := hb 8 102 rfl
      have d8 := hdep
      rw [d8.1] at e102
      clear hb hb' hdep d8
      have z0 := Ext.cell hJ y0
      have z1 := Ext.cell hJ y1
      have z2 := Ext.cell hJ y2
      have z3 := Ext.cell hJ y3
      have z4 := Ext.cell hJ y4
      have z5 := Ext.cell hJ y5
      have z6 := Ext.cell hJ y6
      go_simp
      exact hK _ _ rfl (fun _ _ _ h => h) hJ
    · intro done us W hJ hdep haft hnot b hb hb' K hK Q'
      simp only [List.getD_cons_succ, List.getD_cons_zero, List.mem_cons, List.not_mem_nil, or_false, forall_eq_or_imp, forall_eq] at hdep
      have e98 := hb 4 98 rfl
      have e103 := hb 9 103 rfl
      have d4 := hdep.1
      have d9 := hdep.2
      rw [d4.1] at e98
      rw [d9.1] at e103
      clear hb hb' hdep d4 d9
      have g6 : ∀ w, (Op.equalIn 9999 22 (.agg #[.int .i64 mx, .int .i64 my, .int .i64 mz]) (.agg #[.int .i64 mx, .int .i64 my, .int .i64 mz])).run Try.prog w = .ok true w := fun w => by rw [run_eq3 9997]; simp
      go_simp
      exact hK _ _ rfl (fun _ _ _ h => h) hJ
  · intro us W hV hJ
    exact hend (us 0) (us 1) (us 2) (us 3) (us 4) (us 5) (us 6) (us 7) (us 8) (us 9) (us 10) W (hV 0 (by omega)) (hV 1 (by omega)) (hV 2 (by omega)) (hV 3 (by omega)) (hV 4 (by omega)) (hV 5 (by omega)) (hV 6 (by omega)) (hV 7 (by omega)) (hV 8 (by omega)) (hV 9 (by omega)) (hV 10 (by omega)) hJ
set_option maxRecDepth 100000 in
set_option maxHeartbeats 8000000 in
theorem drops_n (S : Int) (A : Option Addr) (n c : Nat) (ms : List Mt) (Ad : Option Addr) (nd cd : Nat) (ds : List Int) (w : World) (h : MsAt w A n ms) (hn : ds.length = nd) (hI : Ints .i64 w Ad nd ds) (hn2 : 200 < n) :
    Calls Try.prog 6 #[.agg #[.int .i64 S, .slice A n c], .slice Ad nd cd] w (fun e w' => e = .returned (.bool true) ∧ Ext w w') := by
  have H := Lib.hid h
  have HI := Lib.hid hI
  have HLD := Lib.hid hn
  have HX := Lib.hid ((Ext.refl w).alloc (.cells #[.int .i64 S, .slice A n c] 76))
  have HP := Lib.hid (Blk.new w 76 #[.int .i64 S, .slice A n c])
  clear h hI hn
  have q1 : decide (200 < n) = true := decide_eq_true hn2
  have q1b : decide ((200 : Int) < (n : Int)) = true := decide_eq_true (by omega)
  go_enter Try.func6, Try.ntmps6
  go_upto_region 1 with (fail)
  generalize w.alloc (.cells #[.int .i64 S, .slice A n c] 76) = w1 at HX HP ⊢
  have p0 := HP.out.cell 0
  have p1 := HP.out.cell 1
  simp only [List.getElem?_toArray, List.getElem?_cons_zero, List.getElem?_cons_succ] at p0 p1
  go_wp2_with fail
  refine (first_any _).mono ?_
  rintro e w19 ⟨rfl, hX⟩
  replace HX := Lib.hid (HX.out.trans hX)
  clear hX
  go_wp2
  go_ret
  exact ⟨rfl, HX.out⟩

set_option maxRecDepth 100000 in
set_option maxHeartbeats 8000000 in
theorem drops_d (S : Int) (A : Option Addr) (n c : Nat) (ms : List Mt) (Ad : Option Addr) (nd cd : Nat) (ds : List Int) (w : World) (h : MsAt w A n ms) (hn : ds.length = nd) (hI : Ints .i64 w Ad nd ds) (hn2 : ¬ 200 < n) (hd2 : 200 < nd) :
    Calls Try.prog 6 #[.agg #[.int .i64 S, .slice A n c], .slice Ad nd cd] w (fun e w' => e = .returned (.bool true) ∧ Ext w w') := by
  have H := Lib.hid h
  have HI := Lib.hid hI
  have HLD := Lib.hid hn
  have HX := Lib.hid ((Ext.refl w).alloc (.cells #[.int .i64 S, .slice A n c] 76))
  have HP := Lib.hid (Blk.new w 76 #[.int .i64 S, .slice A n c])
  clear h hI hn
  have q1 : decide (200 < n) = false := decide_eq_false hn2
  have q1b : decide ((200 : Int) < (n : Int)) = false := decide_eq_false (by omega)
  have q2 : decide (200 < nd) = true := decide_eq_true hd2
  have q2b : decide ((200 : Int) < (nd : Int)) = true := decide_eq_true (by omega)
  go_enter Try.func6, Try.ntmps6
  go_upto_region 1 with (fail)
  generalize w.alloc (.cells #[.int .i64 S, .slice A n c] 76) = w1 at HX HP ⊢
  have p0 := HP.out.cell 0
  have p1 := HP.out.cell 1
  simp only [List.getElem?_toArray, List.getElem?_cons_zero, List.getElem?_cons_succ] at p0 p1
  go_wp2_with fail
  refine (first_any _).mono ?_
  rintro e w19 ⟨rfl, hX⟩
  replace HX := Lib.hid (HX.out.trans hX)
  clear hX
  go_wp2
  go_ret
  exact ⟨rfl, HX.out⟩

set_option maxRecDepth 100000 in
set_option maxHeartbeats 8000000 in
theorem drops_no (S : Int) (A : Option Addr) (n c : Nat) (ms : List Mt) (Ad : Option Addr) (nd cd : Nat) (ds : List Int) (w : World) (h : MsAt w A n ms) (hn : ds.length = nd) (hI : Ints .i64 w Ad nd ds) (hn2 : ¬ 200 < n) (hd2 : ¬ 200 < nd) (hv : ¬ VP S ms) :
    Calls Try.prog 6 #[.agg #[.int .i64 S, .slice A n c], .slice Ad nd cd] w (fun e w' => e = .returned (.bool true) ∧ Ext w w') := by
  have H := Lib.hid h
  have HI := Lib.hid hI
  have HLD := Lib.hid hn
  have HX := Lib.hid ((Ext.refl w).alloc (.cells #[.int .i64 S, .slice A n c] 76))
  have HP := Lib.hid (Blk.new w 76 #[.int .i64 S, .slice A n c])
  clear h hI hn
  have q1 : decide (200 < n) = false := decide_eq_false hn2
  have q1b : decide ((200 : Int) < (n : Int)) = false := decide_eq_false (by omega)
  have q2 : decide (200 < nd) = false := decide_eq_false hd2
  have q2b : decide ((200 : Int) < (nd : Int)) = false := decide_eq_false (by omega)
  have HV := Lib.hid hv
  clear hv
  go_enter Try.func6, Try.ntmps6
  go_upto_region 1 with (fail)
  generalize w.alloc (.cells #[.int .i64 S, .slice A n c] 76) = w1 at HX HP ⊢
  have p0 := HP.out.cell 0
  have p1 := HP.out.cell 1
  simp only [List.getElem?_toArray, List.getElem?_cons_zero, List.getElem?_cons_succ] at p0 p1
  go_wp2_with fail
  clear q1 q1b q2 q2b
  refine (without_no S A n c ms Ad nd cd _ (H.out.ext HX.out) HV.out).mono ?_
  rintro e w3 ⟨rfl, hX⟩
  replace HX := Lib.hid (HX.out.trans hX)
  replace HP := Lib.hid (HP.out.ext hX)
  clear hX p0 p1
  go_upto_region 4 with (fail)
  have hXa : Ext w3 (w3.alloc (.cells #[.int .i64 0, .slice none 0 0] 76)) := (Ext.refl _).alloc _
  have kB := Blk.new w3 76 #[.int .i64 0, .slice none 0 0]
  replace HX := Lib.hid (HX.out.trans hXa)
  replace HP := Lib.hid (HP.out.ext hXa)
  clear hXa
  generalize w3.heap.size = ga at kB ⊢
  generalize w3.alloc (.cells #[.int .i64 0, .slice none 0 0] 76) = w4 at kB HX HP ⊢
  have KA := Lib.hid kB
  clear kB
  have p0 := HP.out.cell 0
  have p1 := HP.out.cell 1
  simp only [List.getElem?_toArray, List.getElem?_cons_zero, List.getElem?_cons_succ] at p0 p1
  go_wp2_with fail
  refine (valid5R_any S A n c ms _ (H.out.ext HX.out)).mono ?_
  rw [vpB_no HV.out]
  rintro e w5 ⟨rfl, hX⟩
  replace HX := Lib.hid (HX.out.trans hX)
  replace HP := Lib.hid (HP.out.ext hX)
  replace KA := Lib.hid (KA.out.ext hX)
  clear hX p0 p1
  have y0 := KA.out.cell 0
  have y1 := KA.out.cell 1
  simp only [List.getElem?_toArray, List.getElem?_cons_zero, List.getElem?_cons_succ] at y0 y1
  go_wp2_with fail
  refine (first_any _).mono ?_
  rintro e w19 ⟨rfl, hX⟩
  replace HX := Lib.hid (HX.out.trans hX)
  clear hX
  go_wp2
  go_ret
  exact ⟨rfl, HX.out⟩

set_option maxRecDepth 100000 in
set_option maxHeartbeats 8000000 in
theorem drops_bad (S : Nat) (A : Option Addr) (n c : Nat) (ms : List Mt) (Ad : Option Addr) (nd cd : Nat) (ds : List Int) (w : World) (h : MsAt w A n ms) (hn : ds.length = nd) (hI : Ints .i64 w Ad nd ds) (hn2 : ¬ 200 < n) (hd2 : ¬ 200 < nd) (hv : VP (S : Int) ms) (hb : ¬ DropOk n ds) :
    Calls Try.prog 6 #[.agg #[.int .i64 (S : Int), .slice A n c], .slice Ad nd cd] w (fun e w' => e = .returned (.bool true) ∧ Ext w w') := by
  have H := Lib.hid h
  have HI := Lib.hid hI
  have HLD := Lib.hid hn
  have HX := Lib.hid ((Ext.refl w).alloc (.cells #[.int .i64 (S : Int), .slice A n c] 76))
  have HP := Lib.hid (Blk.new w 76 #[.int .i64 (S : Int), .slice A n c])
  clear h hI hn
  have q1 : decide (200 < n) = false := decide_eq_false hn2
  have q1b : decide ((200 : Int) < (n : Int)) = false := decide_eq_false (by omega)
  have q2 : decide (200 < nd) = false := decide_eq_false hd2
  have q2b : decide ((200 : Int) < (nd : Int)) = false := decide_eq_false (by omega)
  have HV := Lib.hid hv
  have HB := Lib.hid hb
  clear hv hb
  go_enter Try.func6, Try.ntmps6
  go_upto_region 1 with (fail)
  generalize w.alloc (.cells #[.int .i64 (S : Int), .slice A n c] 76) = w1 at HX HP ⊢
  have p0 := HP.out.cell 0
  have p1 := HP.out.cell 1
  simp only [List.getElem?_toArray, List.getElem?_cons_zero, List.getElem?_cons_succ] at p0 p1
  go_wp2_with fail
  clear q1 q1b q2 q2b
  refine (without_bad S A n c ms Ad nd cd ds _ (H.out.ext HX.out) HV.out HLD.out (HI.out.ext HX.out) (by omega) HB.out).mono ?_
  rintro e w3 ⟨rfl, hX⟩
  replace HX := Lib.hid (HX.out.trans hX)
  replace HP := Lib.hid (HP.out.ext hX)
  clear hX p0 p1
  go_upto_region 4 with (fail)
  have hXa : Ext w3 (w3.alloc (.cells #[.int .i64 0, .slice none 0 0] 76)) := (Ext.refl _).alloc _
  have kB := Blk.new w3 76 #[.int .i64 0, .slice none 0 0]
  replace HX := Lib.hid (HX.out.trans hXa)
  replace HP := Lib.hid (HP.out.ext hXa)
  clear hXa
  generalize w3.heap.size = ga at kB ⊢
  generalize w3.alloc (.cells #[.int .i64 0, .slice none 0 0] 76) = w4 at kB HX HP ⊢
  have KA := Lib.hid kB
  clear kB
  have p0 := HP.out.cell 0
  have p1 := HP.out.cell 1
  simp only [List.getElem?_toArray, List.getElem?_cons_zero, List.getElem?_cons_succ] at p0 p1
  go_wp2_with fail
  refine (valid5R_any (S : Int) A n c ms _ (H.out.ext HX.out)).mono ?_
  rw [vpB_iff.2 HV.out]
  rintro e w5 ⟨rfl, hX⟩
  replace HX := Lib.hid (HX.out.trans hX)
  replace HP := Lib.hid (HP.out.ext hX)
  replace KA := Lib.hid (KA.out.ext hX)
  clear hX p0 p1
  have p0 := HP.out.cell 0
  have p1 := HP.out.cell 1
  simp only [List.getElem?_toArray, List.getElem?_cons_zero, List.getElem?_cons_succ] at p0 p1
  go_wp2_with fail
  refine (withoutR_any (S : Int) A n c ms Ad nd cd ds _ (H.out.ext HX.out) HLD.out (HI.out.ext HX.out) (by omega) (by omega)).mono ?_
  rintro e w6 ⟨_, hno, hX⟩
  obtain rfl := hno HB.out
  replace HX := Lib.hid (HX.out.trans hX)
  replace HP := Lib.hid (HP.out.ext hX)
  replace KA := Lib.hid (KA.out.ext hX)
  clear hX p0 p1 hno
  go_upto_region 7 with (fail)
  have hXa : Ext w6 (w6.alloc (.cells #[.int .i64 0, .slice none 0 0] 76)) := (Ext.refl _).alloc _
  have kB := Blk.new w6 76 #[.int .i64 0, .slice none 0 0]
  replace HX := Lib.hid (HX.out.trans hXa)
  replace HP := Lib.hid (HP.out.ext hXa)
  replace KA := Lib.hid (KA.out.ext hXa)
  clear hXa
  generalize w6.heap.size = gb at kB ⊢
  generalize w6.alloc (.cells #[.int .i64 0, .slice none 0 0] 76) = w7 at kB HX HP KA ⊢
  have KB := Lib.hid kB
  clear kB
  have y0 := KA.out.cell 0
  have y1 := KA.out.cell 1
  simp only [List.getElem?_toArray, List.getElem?_cons_zero, List.getElem?_cons_succ] at y0 y1
  go_wp2_with fail
  refine (first_any _).mono ?_
  rintro e w19 ⟨rfl, hX⟩
  replace HX := Lib.hid (HX.out.trans hX)
  clear hX
  go_wp2
  go_ret
  exact ⟨rfl, HX.out⟩

set_option maxRecDepth 100000 in
set_option maxHeartbeats 8000000 in
theorem drops_ok (S : Nat) (A : Option Addr) (n c : Nat) (ms : List Mt) (Ad : Option Addr) (nd cd : Nat) (ds : List Int) (w : World) (h : MsAt w A n ms) (hn : ds.length = nd) (hI : Ints .i64 w Ad nd ds) (hn2 : ¬ 200 < n) (hd2 : ¬ 200 < nd) (hv : VP (S : Int) ms) (hb : DropOk n ds) :
    Calls Try.prog 6 #[.agg #[.int .i64 (S : Int), .slice A n c], .slice Ad nd cd] w (fun e w' => e = .returned (.bool true) ∧ Ext w w') := by
  have H := Lib.hid h
  have HI := Lib.hid hI
  have HLD := Lib.hid hn
  have HX := Lib.hid ((Ext.refl w).alloc (.cells #[.int .i64 (S : Int), .slice A n c] 76))
  have HP := Lib.hid (Blk.new w 76 #[.int .i64 (S : Int), .slice A n c])
  clear h hI hn
  have q1 : decide (200 < n) = false := decide_eq_false hn2
  have q1b : decide ((200 : Int) < (n : Int)) = false := decide_eq_false (by omega)
  have q2 : decide (200 < nd) = false := decide_eq_false hd2
  have q2b : decide ((200 : Int) < (nd : Int)) = false := decide_eq_false (by omega)
  have HV := Lib.hid hv
  have HB := Lib.hid hb
  clear hv hb
  go_enter Try.func6, Try.ntmps6
  go_upto_region 1 with (fail)
  generalize w.alloc (.cells #[.int .i64 (S : Int), .slice A n c] 76) = w1 at HX HP ⊢
  have p0 := HP.out.cell 0
  have p1 := HP.out.cell 1
  simp only [List.getElem?_toArray, List.getElem?_cons_zero, List.getElem?_cons_succ] at p0 p1
  go_wp2_with fail
  clear q1 q1b q2 q2b
  refine (without_ok S A n c ms Ad nd cd ds _ (H.out.ext HX.out) HV.out HLD.out (HI.out.ext HX.out) (by omega) HB.out).mono ?_
  rintro e w3 ⟨va, rfl, hW, hX⟩
  obtain ⟨nl, hnl⟩ : ∃ nl, (wout ms ds).length = nl := ⟨_, rfl⟩
  rw [hnl] at hW
  have hnl2 : nl ≤ 200 := by have := wout_le ms ds; have := H.out.1; omega
  have HNL := Lib.hid hnl
  clear hnl
  obtain ⟨Aa, ca, rfl⟩ := own_slice hW
  have HMA : Hid (MsAt w3 Aa nl (wout ms ds)) := Lib.hid (MsAt.of_own hW HNL.out)
  replace HX := Lib.hid (HX.out.trans hX)
  replace HP := Lib.hid (HP.out.ext hX)
  clear hX p0 p1 hW
  go_upto_region 4 with (fail)
  have hXa : Ext w3 (w3.alloc (.cells #[.int .i64 (S : Int), .slice Aa nl ca] 76)) := (Ext.refl _).alloc _
  have kB := Blk.new w3 76 #[.int .i64 (S : Int), .slice Aa nl ca]
  replace HX := Lib.hid (HX.out.trans hXa)
  replace HP := Lib.hid (HP.out.ext hXa)
  replace HMA := Lib.hid (HMA.out.ext hXa)
  clear hXa
  generalize w3.heap.size = ga at kB ⊢
  generalize w3.alloc (.cells #[.int .i64 (S : Int), .slice Aa nl ca] 76) = w4 at kB HX HP HMA ⊢
  have KA := Lib.hid kB
  clear kB
  have p0 := HP.out.cell 0
  have p1 := HP.out.cell 1
  simp only [List.getElem?_toArray, List.getElem?_cons_zero, List.getElem?_cons_succ] at p0 p1
  go_wp2_with fail
  refine (valid5R_any (S : Int) A n c ms _ (H.out.ext HX.out)).mono ?_
  rw [vpB_iff.2 HV.out]
  rintro e w5 ⟨rfl, hX⟩
  replace HX := Lib.hid (HX.out.trans hX)
  replace HP := Lib.hid (HP.out.ext hX)
  replace KA := Lib.hid (KA.out.ext hX)
  replace HMA := Lib.hid (HMA.out.ext hX)
  clear hX p0 p1
  have p0 := HP.out.cell 0
  have p1 := HP.out.cell 1
  simp only [List.getElem?_toArray, List.getElem?_cons_zero, List.getElem?_cons_succ] at p0 p1
  go_wp2_with fail
  refine (withoutR_any (S : Int) A n c ms Ad nd cd ds _ (H.out.ext HX.out) HLD.out (HI.out.ext HX.out) (by omega) (by omega)).mono ?_
  rintro e w6 ⟨hyes, _, hX⟩
  obtain ⟨vb, rfl, hW⟩ := hyes HB.out
  rw [HNL.out] at hW
  obtain ⟨Ab, cb, rfl⟩ := own_slice hW
  have HMB : Hid (MsAt w6 Ab nl (wout ms ds)) := Lib.hid (MsAt.of_own hW HNL.out)
  replace HX := Lib.hid (HX.out.trans hX)
  replace HP := Lib.hid (HP.out.ext hX)
  replace KA := Lib.hid (KA.out.ext hX)
  replace HMA := Lib.hid (HMA.out.ext hX)
  clear hX p0 p1 hyes hW
  go_upto_region 7 with (fail)
  have hXa : Ext w6 (w6.alloc (.cells #[.int .i64 (S : Int), .slice Ab nl cb] 76)) := (Ext.refl _).alloc _
  have kB := Blk.new w6 76 #[.int .i64 (S : Int), .slice Ab nl cb]
  replace HX := Lib.hid (HX.out.trans hXa)
  replace HP := Lib.hid (HP.out.ext hXa)
  replace KA := Lib.hid (KA.out.ext hXa)
  replace HMA := Lib.hid (HMA.out.ext hXa)
  replace HMB := Lib.hid (HMB.out.ext hXa)
  clear hXa
  generalize w6.heap.size = gb at kB ⊢
  generalize w6.alloc (.cells #[.int .i64 (S : Int), .slice Ab nl cb] 76) = w7 at kB HX HP KA HMA HMB ⊢
  have KB := Lib.hid kB
  clear kB
  have y0 := KA.out.cell 0
  have y1 := KA.out.cell 1
  simp only [List.getElem?_toArray, List.getElem?_cons_zero, List.getElem?_cons_succ] at y0 y1
  have z0 := KB.out.cell 0
  have z1 := KB.out.cell 1
  simp only [List.getElem?_toArray, List.getElem?_cons_zero, List.getElem?_cons_succ] at z0 z1
  go_upto_region 11 with (fail)
  clear y0 y1 z0 z1
  go_wp2_with fail
  go_loopg [9] nl (fun fu iv wr => ∃ k : Nat, fu = nl - k ∧ k ≤ nl ∧ iv = .int .i64 (k : Int) ∧ Hid (Ext w7 wr))
  case atStart => exact ⟨0, by omega, by omega, rfl, Lib.hid (Ext.refl _)⟩
  case round =>
    obtain ⟨k, rfl, hk, rfl, HXL⟩ := hrel
    have kb := KB.out.ext HXL.out
    have z0 := kb.cell 0
    have z1 := kb.cell 1
    simp only [List.getElem?_toArray, List.getElem?_cons_zero, List.getElem?_cons_succ] at z0 z1
    by_cases hkn : k < nl
    · have q1 : decide (k < nl) = true := decide_eq_true hkn
      obtain ⟨ha, oa, ⟨a, b, x, y, z, d, ww⟩, hA1, hm1, _, x0, x1, x2, x3, x4, x5, x6⟩ := (HMA.out.ext HXL.out).get hkn
      obtain ⟨hb, ob, m2, hA2, hm2, _, y0, y1, y2, y3, y4, y5, y6⟩ := (HMB.out.ext HXL.out).get hkn
      obtain rfl : m2 = ⟨a, b, x, y, z, d, ww⟩ := by have := hm2.symm.trans hm1; injection this
      simp only at x0 x1 x2 x3 x4 x5 x6 y0 y1 y2 y3 y4 y5 y6
      subst hA1 hA2
      go_upto_region 14 with (fail)
      refine drops_r14 ga gb ha oa hb ob nl ca cb k a b x y z d ww wr ((KA.out.ext HXL.out).cell 1) (kb.cell 1) x0 x1 x2 x3 x4 x5 x6 y0 y1 y2 y3 y4 y5 y6 hkn _ _ (by simp) rfl rfl rfl ?_
      rintro xv0 xv1 xv2 xv3 xv4 xv5 xv6 xv7 xv8 xv9 xv10 W rfl rfl rfl rfl rfl rfl rfl rfl rfl rfl rfl hX
      simp only [rops, Try.f6, regOf, Option.bind_some, Nat.reduceBEq, if_true, if_false, Bool.false_eq_true, Option.getD_some, List.drop_succ_cons, List.drop_zero]
      simp only [Act.put, List.setIfInBounds_toArray, List.set_cons_succ, List.set_cons_zero]
      replace HXL := Lib.hid (HXL.out.trans hX)
      clear hX x0 x1 x2 x3 x4 x5 x6 y0 y1 y2 y3 y4 y5 y6 hm1 hm2 z0 z1 kb
      go_wp2
      go_roundg (nl - (k + 1))
      case rel => exact ⟨k + 1, rfl, by omega, by go_num, HXL⟩
      case measure => omega
    · obtain rfl : nl = k := by omega
      have q1 : decide (nl < nl) = false := by simp
      replace HX := Lib.hid (HX.out.trans HXL.out)
      clear kb
      go_wp2_with fail
      refine (first_any _).mono ?_
      rintro e w19 ⟨rfl, hX⟩
      replace HX := Lib.hid (HX.out.trans hX)
      clear hX
      go_wp2
      go_ret
      exact ⟨rfl, HX.out⟩

theorem stripDrops_walk (S : Int) (A : Option Addr) (n c : Nat) (ms : List Mt) (Ad : Option Addr) (nd cd : Nat) (ds : List Int) (w : World) (h : MsAt w A n ms) (hn : ds.length = nd) (hI : Ints .i64 w Ad nd ds) :
    Calls Try.prog 6 #[.agg #[.int .i64 S, .slice A n c], .slice Ad nd cd] w (fun e w' => e = .returned (.bool true) ∧ Ext w w') := by
  by_cases hn2 : 200 < n
  · exact drops_n S A n c ms Ad nd cd ds w h hn hI hn2
  · by_cases hd2 : 200 < nd
    · exact drops_d S A n c ms Ad nd cd ds w h hn hI hn2 hd2
    · by_cases hv : VP S ms
      · obtain ⟨s, rfl⟩ : ∃ s : Nat, S = s := ⟨S.toNat, by have := hv.1; omega⟩
        by_cases hb : DropOk n ds
        · exact drops_ok s A n c ms Ad nd cd ds w h hn hI hn2 hd2 hv hb
        · exact drops_bad s A n c ms Ad nd cd ds w h hn hI hn2 hd2 hv hb
      · exact drops_no S A n c ms Ad nd cd ds w h hn hI hn2 hd2 hv
end Go.Proofs.Ytikhlcgnlbinfaa
