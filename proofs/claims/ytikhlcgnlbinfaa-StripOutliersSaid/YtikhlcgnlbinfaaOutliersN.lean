/- Lemmas of the proof that follows (Outliers, part 14): walks of functions by contract, and plain lemmas. Conditions: none. -/
import Derived.Test.YtikhlcgnlbinfaaOutliersM
namespace Go.Proofs.Ytikhlcgnlbinfaa
open Go.RowKit

theorem worst_fit {S : Int} {ms : List Mt} (hm : ∀ m ∈ ms, VM S m) {n : Nat} (hn : n ≤ 24) {u : Nat → Rat} (ht : Tame n u) : FitQW (worstP n u ms).2 := by
  cases h : (worstP n u ms).1 with
  | none =>
    have := (worstP_none n u ms).1 h
    subst this
    show FitQW 0
    exact FitQW.of4 (fitQ_zero 3) (by omega)
  | some a =>
    rcases ms with _ | ⟨m0, l⟩
    · cases h
    · obtain ⟨a', h1, h2, h3⟩ := wAt_some n u (m0 :: l) l.length
      show FitQW (wAt n u (m0 :: l) (l.length + 1)).2
      rw [h3]
      exact wsq_fit (hm _ (mtAt_mem (by simp; omega))) hn ht
theorem worst_zero {n : Nat} {u : Nat → Rat} {ms : List Mt} (h : (worstP n u ms).1 = none) : (worstP n u ms).2 = 0 := by
  have := (worstP_none n u ms).1 h
  subst this
  rfl
theorem end_sgn {n : Nat} {ms : List Mt} {li : Int} {ds : List Int} (h0 : 0 ≤ li) : adjEnd n ms li ds ↔ sgnQ ((adjW n ms ds).2 - ((li : Int) : Rat)) ≤ 0 := by
  rw [sgn_le]
  constructor
  · rintro (h | h)
    · have : (adjW n ms ds).2 = 0 := worst_zero h
      rw [this]
      exact Rat.intCast_nonneg.2 h0
    · exact h
  · exact .inr
theorem worst_none_len {n : Nat} {ms : List Mt} {ds : List Int} : (adjW n ms ds).1 = none ↔ (wout ms ds).length = 0 := by
  unfold adjW
  rw [worstP_none]
  exact List.length_eq_zero_iff.symm

set_option maxRecDepth 100000 in
set_option maxHeartbeats 2000000 in
theorem outl_r15 (ga gb S ss kk : Nat) (su : Bool) (Au Bu : Option Addr) (lu cu mu ku : Nat) (se : Bool) (Ae Be : Option Addr) (le ce me ke : Nat) (q : Rat) (w : World) (x0 : w.cell? ⟨ga, ss * 9 + kk * 3, none⟩ = some (.bool su)) (x1 : w.cell? ⟨ga, ss * 9 + kk * 3 + 1, none⟩ = some (.slice Au lu cu)) (x2 : w.cell? ⟨ga, ss * 9 + kk * 3 + 2, none⟩ = some (.slice Bu mu ku)) (y0 : w.cell? ⟨gb, ss * 9 + kk * 3, none⟩ = some (.bool se)) (y1 : w.cell? ⟨gb, ss * 9 + kk * 3 + 1, none⟩ = some (.slice Ae le ce)) (y2 : w.cell? ⟨gb, ss * 9 + kk * 3 + 2, none⟩ = some (.slice Be me ke)) (hx : RatG w (.agg #[.bool su, .slice Au lu cu, .slice Bu mu ku]) q) (hy : RatG w (.agg #[.bool se, .slice Ae le ce, .slice Be me ke]) q) (hs1 : ss < S) (hk3 : (kk : Int) < 3) (_hk4 : kk < 3) (a : Act) (Q : Exit → Act → World → Prop) (hsize : 124 ≤ a.tmps.size)
    (s5 : a.tmps[5]? = some (.slice (some ⟨ga, 0, none⟩) S S))
    (s10 : a.tmps[10]? = some (.slice (some ⟨gb, 0, none⟩) S S))
    (s15 : a.tmps[15]? = some (.int .i64 (ss : Int)))
    (s16 : a.tmps[16]? = some (.int .i64 (kk : Int)))
    (hend : ∀ (xv0 xv1 xv2 xv3 xv4 xv5 xv6 xv7 xv8 xv9 xv10 xv11 xv12 xv13 : Value) (W : World), (xv0 = .slice (some ⟨ga, 0, none⟩) S S) → (xv1 = .int .i64 (ss : Int)) → (xv2 = .int .i64 (kk : Int)) → (xv3 = .pointer (some ⟨ga, ss * 9, none⟩)) → (xv4 = .pointer (some ⟨ga, ss * 9 + kk * 3, none⟩)) → (xv5 = .agg #[.bool su, .slice Au lu cu, .slice Bu mu ku]) → (xv6 = .slice (some ⟨gb, 0, none⟩) S S) → (xv7 = .int .i64 (ss : Int)) → (xv8 = .int .i64 (kk : Int)) → (xv9 = .pointer (some ⟨gb, ss * 9, none⟩)) → (xv10 = .pointer (some ⟨gb, ss * 9 + kk * 3, none⟩)) → (xv11 = .agg #[.bool se, .slice Ae le ce, .slice Be me ke]) → (xv12 = .bool true) → (xv13 = .bool false) → Ext w W → wpList Try.prog (rops Try.f18 15).toArray Q ((rops Try.f18 15).drop 14) ((((((((((((((a.put (some 110) xv0).put (some 111) xv1).put (some 112) xv2).put (some 113) xv3).put (some 114) xv4).put (some 115) xv5).put (some 116) xv6).put (some 117) xv7).put (some 118) xv8).put (some 119) xv9).put (some 120) xv10).put (some 121) xv11).put (some 122) xv12).put (some 123) xv13) W) :
    (Code.region 15 (rops Try.f18 15).toArray true).wp Try.prog Q a w := by
  have hmono : ∀ (W W' : World) (j : Nat) (u : Value), Ext W W' → (fun (i : Nat) (v : Value) (W : World) => match i with
    | 0 => v = .slice (some ⟨ga, 0, none⟩) S S
    | 1 => v = .int .i64 (ss : Int)
    | 2 => v = .int .i64 (kk : Int)
    | 3 => v = .pointer (some ⟨ga, ss * 9, none⟩)
    | 4 => v = .pointer (some ⟨ga, ss * 9 + kk * 3, none⟩)
    | 5 => v = .agg #[.bool su, .slice Au lu cu, .slice Bu mu ku]
    | 6 => v = .slice (some ⟨gb, 0, none⟩) S S
    | 7 => v = .int .i64 (ss : Int)
    | 8 => v = .int .i64 (kk : Int)
    | 9 => v = .pointer (some ⟨gb, ss * 9, none⟩)
    | 10 => v = .pointer (some ⟨gb, ss * 9 + kk * 3, none⟩)
    | 11 => v = .agg #[.bool se, .slice Ae le ce, .slice Be me ke]
    | 12 => v = .bool true
    | 13 => v = .bool false
    | _ => True) j u W → (fun (i : Nat) (v : Value) (W : World) => match i with
    | 0 => v = .slice (some ⟨ga, 0, none⟩) S S
    | 1 => v = .int .i64 (ss : Int)
    | 2 => v = .int .i64 (kk : Int)
    | 3 => v = .pointer (some ⟨ga, ss * 9, none⟩)
    | 4 => v = .pointer (some ⟨ga, ss * 9 + kk * 3, none⟩)
    | 5 => v = .agg #[.bool su, .slice Au lu cu, .slice Bu mu ku]
    | 6 => v = .slice (some ⟨gb, 0, none⟩) S S
    | 7 => v = .int .i64 (ss : Int)
    | 8 => v = .int .i64 (kk : Int)
    | 9 => v = .pointer (some ⟨gb, ss * 9, none⟩)
    | 10 => v = .pointer (some ⟨gb, ss * 9 + kk * 3, none⟩)
    | 11 => v = .agg #[.bool se, .slice Ae le ce, .slice Be me ke]
    | 12 => v = .bool true
    | 13 => v = .bool false
    | _ => True) j u W' := by
    intro W W' j u hX h
    match j, h with
    | 0, h => exact h
    | 1, h => exact h
    | 2, h => exact h
    | 3, h => exact h
    | 4, h => exact h
    | 5, h => exact h
    | 6, h => exact h
    | 7, h => exact h
    | 8, h => exact h
    | 9, h => exact h
    | 10, h => exact h
    | 11, h => exact h
    | 12, h => exact h
    | 13, h => exact h
    | _ + 14, h => exact h
  have hsz : ∀ d, some d ∈ ([some 110, some 111, some 112, some 113, some 114, some 115, some 116, some 117, some 118, some 119, some 120, some 121, some 122, some 123] : List (Option Tmp)) → d < a.tmps.size := slots_lt (by decide) hsize
  refine wp_region_j 14 [some 110, some 111, some 112, some 113, some 114, some 115, some 116, some 117, some 118, some 119, some 120, some 121, some 122, some 123] [[], [], [], [0, 1], [2, 3], [4], [], [], [], [6, 7], [8, 9], [10], [5, 11], [12]] [[], [], [], [], [], [], [], [], [], [], [], [], [], []] (fun (i : Nat) (v : Value) (W : World) => match i with
    | 0 => v = .slice (some ⟨ga, 0, none⟩) S S
    | 1 => v = .int .i64 (ss : Int)
    | 2 => v = .int .i64 (kk : Int)
    | 3 => v = .pointer (some ⟨ga, ss * 9, none⟩)
    | 4 => v = .pointer (some ⟨ga, ss * 9 + kk * 3, none⟩)
    | 5 => v = .agg #[.bool su, .slice Au lu cu, .slice Bu mu ku]
    | 6 => v = .slice (some ⟨gb, 0, none⟩) S S
    | 7 => v = .int .i64 (ss : Int)
    | 8 => v = .int .i64 (kk : Int)
    | 9 => v = .pointer (some ⟨gb, ss * 9, none⟩)
    | 10 => v = .pointer (some ⟨gb, ss * 9 + kk * 3, none⟩)
    | 11 => v = .agg #[.bool se, .slice Ae le ce, .slice Be me ke]
    | 12 => v = .bool true
    | 13 => v = .bool false
    | _ => True) (fun _ W => Ext w W) (by kernel_rfl) (by kernel_rfl) hsz (fun _ _ _ _ h => h) ((Ext.refl w).drew) ?_ ?_
  · clear hend
    simp only [rops, Try.f18, regOf, Option.bind_some, Nat.reduceBEq, if_true, if_false, Bool.false_eq_true, Option.getD_some]
    simp only [List.take_succ_cons, List.take_zero]
    refine ⟨?_, ?_, ?_, ?_, ?_, ?_, ?_, ?_, ?_, ?_, ?_, ?_, ?_, ?_, trivial⟩
    · intro done us W hJ hdep haft hnot b hb hb' K hK Q'
      have e5 := (hb' 5 (by simp)).trans s5
      clear hb hb'
      go_simp
      exact hK _ _ rfl (fun _ _ _ h => h) hJ
    · intro done us W hJ hdep haft hnot b hb hb' K hK Q'
      have e15 := (hb' 15 (by simp)).trans s15
      clear hb hb'
      go_simp
      exact hK _ _ rfl (fun _ _ _ h => h) hJ
    · intro done us W hJ hdep haft hnot b hb hb' K hK Q'
      have e16 := (hb' 16 (by simp)).trans s16
      clear hb hb'
      go_simp
      exact hK _ _ rfl (fun _ _ _ h => h) hJ
    · intro done us W hJ hdep haft hnot b hb hb' K hK Q'
      simp only [List.getD_cons_succ, List.getD_cons_zero, List.mem_cons, List.not_mem_nil, or_false, forall_eq_or_imp, forall_eq] at hdep
      have e110 := hb 0 110 rfl
      have e111 := hb 1 111 rfl
      have d0 := hdep.1
      have d1 := hdep.2
      rw [d0.1] at e110
      rw [d1.1] at e111
      clear hb hb' hdep d0 d1
      go_simp
      exact hK _ _ rfl (fun _ _ _ h => h) hJ
    · intro done us W hJ hdep haft hnot b hb hb' K hK Q'
      simp only [List.getD_cons_succ, List.getD_cons_zero, List.mem_cons, List.not_mem_nil, or_false, forall_eq_or_imp, forall_eq] at hdep
      have e112 := hb 2 112 rfl
      have e113 := hb 3 113 rfl
      have d2 := hdep.1
      have d3 := hdep.2
      rw [d2.1] at e112
      rw [d3.1] at e113
      clear hb hb' hdep d2 d3
      go_simp
      exact hK _ _ rfl (fun _ _ _ h => h) hJ
    · intro done us W hJ hdep haft hnot b hb hb' K hK Q'
      simp only [List.getD_cons_succ, List.getD_cons_zero, List.mem_cons, List.not_mem_nil, or_false, forall_eq] at hdep
      have e114 := hb 4 114 rfl
      have d4 := hdep
      rw [d4.1] at e114
      clear hb hb' hdep d4
      have z0 := Ext.cell hJ x0
      have z1 := Ext.cell hJ x1
      have z2 := Ext.cell hJ x2
      go_simp
      exact hK _ _ rfl (fun _ _ _ h => h) hJ
    · intro done us W hJ hdep haft hnot b hb hb' K hK Q'
      have e10 := (hb' 10 (by simp)).trans s10
      clear hb hb'
      go_simp
      exact hK _ _ rfl (fun _ _ _ h => h) hJ
    · intro done us W hJ hdep haft hnot b hb hb' K hK Q'
      have e15 := (hb' 15 (by simp)).trans s15
      clear hb hb'
      go_simp
      exact hK _ _ rfl (fun _ _ _ h => h) hJ
    · intro done us W hJ hdep haft hnot b hb hb' K hK Q'
      have e16 := (hb' 16 (by simp)).trans s16
      clear hb hb'
      go_simp
      exact hK _ _ rfl (fun _ _ _ h => h) hJ
    · intro done us W hJ hdep haft hnot b hb hb' K hK Q'
      simp only [List.getD_cons_succ, List.getD_cons_zero, List.mem_cons, List.not_mem_nil, or_false, forall_eq_or_imp, forall_eq] at hdep
      have e116 := hb 6 116 rfl
      have e117 := hb 7 117 rfl
      have d6 := hdep.1
      have d7 := hdep.2
      rw [d6.1] at e116
      rw [d7.1] at e117
      clear hb hb' hdep d6 d7
      go_simp
      exact hK _ _ rfl (fun _ _ _ h => h) hJ
    · intro done us W hJ hdep haft hnot b hb hb' K hK Q'
      simp only [List.getD_cons_succ, List.getD_cons_zero, List.mem_cons, List.not_mem_nil, or_false, forall_eq_or_imp, forall_eq] at hdep
      have e118 := hb 8 118 rfl
      have e119 := hb 9 119 rfl
      have d8 := hdep.1
      have d9 := hdep.2
      rw [d8.1] at e118
      rw [d9.1] at e119
      clear hb hb' hdep d8 d9
      go_simp
      exact hK _ _ rfl (fun _ _ _ h => h) hJ
    · intro done us W hJ hdep haft hnot b hb hb' K hK Q'
      simp only [List.getD_cons_succ, List.getD_cons_zero, List.mem_cons, List.not_mem_nil, or_false, forall_eq] at hdep
      have e120 := hb 10 120 rfl
      have d10 := hdep
      rw [d10.1] at e120
      clear hb hb' hdep d10
      have z0 := Ext.cell hJ y0
      have z1 := Ext.cell hJ y1
      have z2 := Ext.cell hJ y2
      go_simp
      exact hK _ _ rfl (fun _ _ _ h => h) hJ
    · intro done us W hJ hdep haft hnot b hb hb' K hK Q'
      simp only [List.getD_cons_succ, List.getD_cons_zero, List.mem_cons, List.not_mem_nil, or_false, forall_eq_or_imp, forall_eq] at hdep
      have e115 := hb 5 115 rfl
      have e121 := hb 11 121 rfl
      have d5 := hdep.1
      have d11 := hdep.2
      rw [d5.1] at e115
      rw [d11.1] at e121
      clear hb hb' hdep d5 d11
      go_simp
      refine (sameG_any (hx.ext hJ) (hy.ext hJ)).mono ?_
      rw [decide_eq_true rfl]
      rintro e w' ⟨rfl, hX⟩
      exact hK _ _ rfl (fun j u _ h => hmono _ _ j u hX h) (Ext.trans hJ hX)
    · intro done us W hJ hdep haft hnot b hb hb' K hK Q'
      simp only [List.getD_cons_succ, List.getD_cons_zero, List.mem_cons, List.not_mem_nil, or_false, forall_eq] at hdep
      have e122 := hb 12 122 rfl
      have d12 := hdep
      rw [d12.1] at e122
      clear hb hb' hdep d12
      go_simp
      exact hK _ _ rfl (fun _ _ _ h => h) hJ
  · intro us W hV hJ
    exact hend (us 0) (us 1) (us 2) (us 3) (us 4) (us 5) (us 6) (us 7) (us 8) (us 9) (us 10) (us 11) (us 12) (us 13) W (hV 0 (by omega)) (hV 1 (by omega)) (hV 2 (by omega)) (hV 3 (by omega)) (hV 4 (by omega)) (hV 5 (by omega)) (hV 6 (by omega)) (hV 7 (by omega)) (hV 8 (by omega)) (hV 9 (by omega)) (hV 10 (by omega)) (hV 11 (by omega)) (hV 12 (by omega)) (hV 13 (by omega)) hJ
set_option maxRecDepth 100000 in
set_option maxHeartbeats 2000000 in
theorem outl_r17 (gw : Nat) (li : Int) (q : Rat) (su : Bool) (Au Bu : Option Addr) (lu cu mu ku : Nat) (w : World) (x0 : w.cell? ⟨gw, 0, none⟩ = some (.bool su)) (x1 : w.cell? ⟨gw, 1, none⟩ = some (.slice Au lu cu)) (x2 : w.cell? ⟨gw, 2, none⟩ = some (.slice Bu mu ku)) (hx : RatG w (.agg #[.bool su, .slice Au lu cu, .slice Bu mu ku]) q) (hl : 0 ≤ li ∧ li ≤ 4294967295) (a : Act) (Q : Exit → Act → World → Prop) (hsize : 132 ≤ a.tmps.size)
    (s1 : a.tmps[1]? = some (.int .u32 li))
    (s13 : a.tmps[13]? = some (.pointer (some ⟨gw, 0, none⟩)))
    (hend : ∀ (xv0 xv1 xv2 xv3 xv4 xv5 xv6 xv7 xv8 xv9 : Value) (W : World), (xv0 = .agg #[.bool su, .slice Au lu cu, .slice Bu mu ku]) → (xv1 = .int .u32 li) → (xv2 = .int .i64 li) → (RatG W xv3 ((li : Int) : Rat)) → (xv4 = .tuple #[.int .i64 (sgnQ (q - ((li : Int) : Rat))), .int .i64 0]) → (xv5 = .tuple #[.int .i64 (sgnQ (q - ((li : Int) : Rat))), .int .i64 0]) → (xv6 = .int .i64 (sgnQ (q - ((li : Int) : Rat)))) → (xv7 = .int .i64 (0)) → (xv8 = .int .i64 (sgnQ (q - ((li : Int) : Rat)))) → (xv9 = .int .i64 (0)) → Ext w W → wpList Try.prog (rops Try.f18 17).toArray Q ((rops Try.f18 17).drop 10) ((((((((((a.put (some 125) xv0).put (some 126) xv1).put (some 127) xv2).put (some 128) xv3).put (some 129) xv4).put (some 124) xv5).put (some 130) xv6).put (some 131) xv7).put (some 17) xv8).put (some 18) xv9) W) :
    (Code.region 17 (rops Try.f18 17).toArray true).wp Try.prog Q a w := by
  have hmono : ∀ (W W' : World) (j : Nat) (u : Value), Ext W W' → (fun (i : Nat) (v : Value) (W : World) => match i with
    | 0 => v = .agg #[.bool su, .slice Au lu cu, .slice Bu mu ku]
    | 1 => v = .int .u32 li
    | 2 => v = .int .i64 li
    | 3 => RatG W v ((li : Int) : Rat)
    | 4 => v = .tuple #[.int .i64 (sgnQ (q - ((li : Int) : Rat))), .int .i64 0]
    | 5 => v = .tuple #[.int .i64 (sgnQ (q - ((li : Int) : Rat))), .int .i64 0]
    | 6 => v = .int .i64 (sgnQ (q - ((li : Int) : Rat)))
    | 7 => v = .int .i64 (0)
    | 8 => v = .int .i64 (sgnQ (q - ((li : Int) : Rat)))
    | 9 => v = .int .i64 (0)
    | _ => True) j u W → (fun (i : Nat) (v : Value) (W : World) => match i with
    | 0 => v = .agg #[.bool su, .slice Au lu cu, .slice Bu mu ku]
    | 1 => v = .int .u32 li
    | 2 => v = .int .i64 li
    | 3 => RatG W v ((li : Int) : Rat)
    | 4 => v = .tuple #[.int .i64 (sgnQ (q - ((li : Int) : Rat))), .int .i64 0]
    | 5 => v = .tuple #[.int .i64 (sgnQ (q - ((li : Int) : Rat))), .int .i64 0]
    | 6 => v = .int .i64 (sgnQ (q - ((li : Int) : Rat)))
    | 7 => v = .int .i64 (0)
    | 8 => v = .int .i64 (sgnQ (q - ((li : Int) : Rat)))
    | 9 => v = .int .i64 (0)
    | _ => True) j u W' := by
    intro W W' j u hX h
    match j, h with
    | 0, h => exact h
    | 1, h => exact h
    | 2, h => exact h
    | 3, h => exact RatG.ext h hX
    | 4, h => exact h
    | 5, h => exact h
    | 6, h => exact h
    | 7, h => exact h
    | 8, h => exact h
    | 9, h => exact h
    | _ + 10, h => exact h
  have hsz : ∀ d, some d ∈ ([some 125, some 126, some 127, some 128, some 129, some 124, some 130, some 131, some 17, some 18] : List (Option Tmp)) → d < a.tmps.size := slots_lt (by decide) hsize
  refine wp_region_j 10 [some 125, some 126, some 127, some 128, some 129, some 124, some 130, some 131, some 17, some 18] [[], [], [1], [2], [0, 3], [4], [5], [5], [6], [7]] [[], [], [], [], [], [], [], [], [], []] (fun (i : Nat) (v : Value) (W : World) => match i with
    | 0 => v = .agg #[.bool su, .slice Au lu cu, .slice Bu mu ku]
    | 1 => v = .int .u32 li
    | 2 => v = .int .i64 li
    | 3 => RatG W v ((li : Int) : Rat)
    | 4 => v = .tuple #[.int .i64 (sgnQ (q - ((li : Int) : Rat))), .int .i64 0]
    | 5 => v = .tuple #[.int .i64 (sgnQ (q - ((li : Int) : Rat))), .int .i64 0]
    | 6 => v = .int .i64 (sgnQ (q - ((li : Int) : Rat)))
    | 7 => v = .int .i64 (0)
    | 8 => v = .int .i64 (sgnQ (q - ((li : Int) : Rat)))
    | 9 => v = .int .i64 (0)
    | _ => True) (fun _ W => Ext w W) (by kernel_rfl) (by kernel_rfl) hsz (fun _ _ _ _ h => h) ((Ext.refl w).drew) ?_ ?_
  · clear hend
    simp only [rops, Try.f18, regOf, Option.bind_some, Nat.reduceBEq, if_true, if_false, Bool.false_eq_true, Option.getD_some]
    simp only [List.take_succ_cons, List.take_zero]
    refine ⟨?_, ?_, ?_, ?_, ?_, ?_, ?_, ?_, ?_, ?_, trivial⟩
    · intro done us W hJ hdep haft hnot b hb hb' K hK Q'
      have e13 := (hb' 13 (by simp)).trans s13
      clear hb hb'
      have z0 := Ext.cell hJ x0
      have z1 := Ext.cell hJ x1
      have z2 := Ext.cell hJ x2
      go_simp
      exact hK _ _ rfl (fun _ _ _ h => h) hJ
    · intro done us W hJ hdep haft hnot b hb hb' K hK Q'
      have e1 := (hb' 1 (by simp)).trans s1
      clear hb hb'
      go_simp
      exact hK _ _ rfl (fun _ _ _ h => h) hJ
    · intro done us W hJ hdep haft hnot b hb hb' K hK Q'
      simp only [List.getD_cons_succ, List.getD_cons_zero, List.mem_cons, List.not_mem_nil, or_false, forall_eq] at hdep
      have e126 := hb 1 126 rfl
      have d1 := hdep
      rw [d1.1] at e126
      clear hb hb' hdep d1
      have qw : IntKind.i64.wrap li = li := IntWalk.i64_in _ (by omega)
      go_simp
      exact hK _ _ rfl (fun _ _ _ h => h) hJ
    · intro done us W hJ hdep haft hnot b hb hb' K hK Q'
      simp only [List.getD_cons_succ, List.getD_cons_zero, List.mem_cons, List.not_mem_nil, or_false, forall_eq] at hdep
      have e127 := hb 2 127 rfl
      have d2 := hdep
      rw [d2.1] at e127
      clear hb hb' hdep d2
      go_simp
      refine (fromIntG li W (by omega) (by omega)).mono ?_
      rintro e w' ⟨v, rfl, hv, hX⟩
      exact hK _ _ hv (fun j u _ h => hmono _ _ j u hX h) (Ext.trans hJ hX)
    · intro done us W hJ hdep haft hnot b hb hb' K hK Q'
      simp only [List.getD_cons_succ, List.getD_cons_zero, List.mem_cons, List.not_mem_nil, or_false, forall_eq_or_imp, forall_eq] at hdep
      have e125 := hb 0 125 rfl
      have e128 := hb 3 128 rfl
      have d0 := hdep.1
      have d3 := hdep.2
      rw [d0.1] at e125
      clear hb hb' hdep d0
      go_simp
      refine (cmpG (hx.ext hJ) d3.1).mono ?_
      unfold RetE
      rintro e w' ⟨rfl, hX⟩
      exact hK _ _ rfl (fun j u _ h => hmono _ _ j u hX h) (Ext.trans hJ hX)
    · intro done us W hJ hdep haft hnot b hb hb' K hK Q'
      simp only [List.getD_cons_succ, List.getD_cons_zero, List.mem_cons, List.not_mem_nil, or_false, forall_eq] at hdep
      have e129 := hb 4 129 rfl
      have d4 := hdep
      rw [d4.1] at e129
      clear hb hb' hdep d4
      go_simp
      exact hK _ _ rfl (fun _ _ _ h => h) hJ
    · intro done us W hJ hdep haft hnot b hb hb' K hK Q'
      simp only [List.getD_cons_succ, List.getD_cons_zero, List.mem_cons, List.not_mem_nil, or_false, forall_eq] at hdep
      have e124 := hb 5 124 rfl
      have d5 := hdep
      rw [d5.1] at e124
      clear hb hb' hdep d5
      go_simp
      exact hK _ _ rfl (fun _ _ _ h => h) hJ
    · intro done us W hJ hdep haft hnot b hb hb' K hK Q'
      simp only [List.getD_cons_succ, List.getD_cons_zero, List.mem_cons, List.not_mem_nil, or_false, forall_eq] at hdep
      have e124 := hb 5 124 rfl
      have d5 := hdep
      rw [d5.1] at e124
      clear hb hb' hdep d5
      go_simp
      exact hK _ _ rfl (fun _ _ _ h => h) hJ
    · intro done us W hJ hdep haft hnot b hb hb' K hK Q'
      simp only [List.getD_cons_succ, List.getD_cons_zero, List.mem_cons, List.not_mem_nil, or_false, forall_eq] at hdep
      have e130 := hb 6 130 rfl
      have d6 := hdep
      rw [d6.1] at e130
      clear hb hb' hdep d6
      go_simp
      exact hK _ _ rfl (fun _ _ _ h => h) hJ
    · intro done us W hJ hdep haft hnot b hb hb' K hK Q'
      simp only [List.getD_cons_succ, List.getD_cons_zero, List.mem_cons, List.not_mem_nil, or_false, forall_eq] at hdep
      have e131 := hb 7 131 rfl
      have d7 := hdep
      rw [d7.1] at e131
      clear hb hb' hdep d7
      go_simp
      exact hK _ _ rfl (fun _ _ _ h => h) hJ
  · intro us W hV hJ
    exact hend (us 0) (us 1) (us 2) (us 3) (us 4) (us 5) (us 6) (us 7) (us 8) (us 9) W (hV 0 (by omega)) (hV 1 (by omega)) (hV 2 (by omega)) (hV 3 (by omega)) (hV 4 (by omega)) (hV 5 (by omega)) (hV 6 (by omega)) (hV 7 (by omega)) (hV 8 (by omega)) (hV 9 (by omega)) hJ
set_option maxRecDepth 100000 in
set_option maxHeartbeats 2000000 in
theorem outl_r22 (gw : Nat) (li : Int) (q : Rat) (su : Bool) (Au Bu : Option Addr) (lu cu mu ku : Nat) (w : World) (x0 : w.cell? ⟨gw, 0, none⟩ = some (.bool su)) (x1 : w.cell? ⟨gw, 1, none⟩ = some (.slice Au lu cu)) (x2 : w.cell? ⟨gw, 2, none⟩ = some (.slice Bu mu ku)) (hx : RatG w (.agg #[.bool su, .slice Au lu cu, .slice Bu mu ku]) q) (hl : 0 ≤ li ∧ li ≤ 4294967295) (a : Act) (Q : Exit → Act → World → Prop) (hsize : 167 ≤ a.tmps.size)
    (s1 : a.tmps[1]? = some (.int .u32 li))
    (s22 : a.tmps[22]? = some (.pointer (some ⟨gw, 0, none⟩)))
    (hend : ∀ (xv0 xv1 xv2 xv3 xv4 xv5 xv6 xv7 xv8 xv9 : Value) (W : World), (xv0 = .agg #[.bool su, .slice Au lu cu, .slice Bu mu ku]) → (xv1 = .int .u32 li) → (xv2 = .int .i64 li) → (RatG W xv3 ((li : Int) : Rat)) → (xv4 = .tuple #[.int .i64 (sgnQ (q - ((li : Int) : Rat))), .int .i64 0]) → (xv5 = .tuple #[.int .i64 (sgnQ (q - ((li : Int) : Rat))), .int .i64 0]) → (xv6 = .int .i64 (sgnQ (q - ((li : Int) : Rat)))) → (xv7 = .int .i64 (0)) → (xv8 = .int .i64 (sgnQ (q - ((li : Int) : Rat)))) → (xv9 = .int .i64 (0)) → Ext w W → wpList Try.prog (rops Try.f18 22).toArray Q ((rops Try.f18 22).drop 10) ((((((((((a.put (some 160) xv0).put (some 161) xv1).put (some 162) xv2).put (some 163) xv3).put (some 164) xv4).put (some 159) xv5).put (some 165) xv6).put (some 166) xv7).put (some 17) xv8).put (some 18) xv9) W) :
    (Code.region 22 (rops Try.f18 22).toArray true).wp Try.prog Q a w := by
  have hmono : ∀ (W W' : World) (j : Nat) (u : Value), Ext W W' → (fun (i : Nat) (v : Value) (W : World) => match i with
    | 0 => v = .agg #[.bool su, .slice Au lu cu, .slice Bu mu ku]
    | 1 => v = .int .u32 li
    | 2 => v = .int .i64 li
    | 3 => RatG W v ((li : Int) : Rat)
    | 4 => v = .tuple #[.int .i64 (sgnQ (q - ((li : Int) : Rat))), .int .i64 0]
    | 5 => v = .tuple #[.int .i64 (sgnQ (q - ((li : Int) : Rat))), .int .i64 0]
    | 6 => v = .int .i64 (sgnQ (q - ((li : Int) : Rat)))
    | 7 => v = .int .i64 (0)
    | 8 => v = .int .i64 (sgnQ (q - ((li : Int) : Rat)))
    | 9 => v = .int .i64 (0)
    | _ => True) j u W → (fun (i : Nat) (v : Value) (W : World) => match i with
    | 0 => v = .agg #[.bool su, .slice Au lu cu, .slice Bu mu ku]
    | 1 => v = .int .u32 li
    | 2 => v = .int .i64 li
    | 3 => RatG W v ((li : Int) : Rat)
    | 4 => v = .tuple #[.int .i64 (sgnQ (q - ((li : Int) : Rat))), .int .i64 0]
    | 5 => v = .tuple #[.int .i64 (sgnQ (q - ((li : Int) : Rat))), .int .i64 0]
    | 6 => v = .int .i64 (sgnQ (q - ((li : Int) : Rat)))
    | 7 => v = .int .i64 (0)
    | 8 => v = .int .i64 (sgnQ (q - ((li : Int) : Rat)))
    | 9 => v = .int .i64 (0)
    | _ => True) j u W' := by
    intro W W' j u hX h
    match j, h with
    | 0, h => exact h
    | 1, h => exact h
    | 2, h => exact h
    | 3, h => exact RatG.ext h hX
    | 4, h => exact h
    | 5, h => exact h
    | 6, h => exact h
    | 7, h => exact h
    | 8, h => exact h
    | 9, h => exact h
    | _ + 10, h => exact h
  have hsz : ∀ d, some d ∈ ([some 160, some 161, some 162, some 163, some 164, some 159, some 165, some 166, some 17, some 18] : List (Option Tmp)) → d < a.tmps.size := slots_lt (by decide) hsize
  refine wp_region_j 10 [some 160, some 161, some 162, some 163, some 164, some 159, some 165, some 166, some 17, some 18] [[], [], [1], [2], [0, 3], [4], [5], [5], [6], [7]] [[], [], [], [], [], [], [], [], [], []] (fun (i : Nat) (v : Value) (W : World) => match i with
    | 0 => v = .agg #[.bool su, .slice Au lu cu, .slice Bu mu ku]
    | 1 => v = .int .u32 li
    | 2 => v = .int .i64 li
    | 3 => RatG W v ((li : Int) : Rat)
    | 4 => v = .tuple #[.int .i64 (sgnQ (q - ((li : Int) : Rat))), .int .i64 0]
    | 5 => v = .tuple #[.int .i64 (sgnQ (q - ((li : Int) : Rat))), .int .i64 0]
    | 6 => v = .int .i64 (sgnQ (q - ((li : Int) : Rat)))
    | 7 => v = .int .i64 (0)
    | 8 => v = .int .i64 (sgnQ (q - ((li : Int) : Rat)))
    | 9 => v = .int .i64 (0)
    | _ => True) (fun _ W => Ext w W) (by kernel_rfl) (by kernel_rfl) hsz (fun _ _ _ _ h => h) ((Ext.refl w).drew) ?_ ?_
  · clear hend
    simp only [rops, Try.f18, regOf, Option.bind_some, Nat.reduceBEq, if_true, if_false, Bool.false_eq_true, Option.getD_some]
    simp only [List.take_succ_cons, List.take_zero]
    refine ⟨?_, ?_, ?_, ?_, ?_, ?_, ?_, ?_, ?_, ?_, trivial⟩
    · intro done us W hJ hdep haft hnot b hb hb' K hK Q'
      have e22 := (hb' 22 (by simp)).trans s22
      clear hb hb'
      have z0 := Ext.cell hJ x0
      have z1 := Ext.cell hJ x1
      have z2 := Ext.cell hJ x2
      go_simp
      exact hK _ _ rfl (fun _ _ _ h => h) hJ
    · intro done us W hJ hdep haft hnot b hb hb' K hK Q'
      have e1 := (hb' 1 (by simp)).trans s1
      clear hb hb'
      go_simp
      exact hK _ _ rfl (fun _ _ _ h => h) hJ
    · intro done us W hJ hdep haft hnot b hb hb' K hK Q'
      simp only [List.getD_cons_succ, List.getD_cons_zero, List.mem_cons, List.not_mem_nil, or_false, forall_eq] at hdep
      have e161 := hb 1 161 rfl
      have d1 := hdep
      rw [d1.1] at e161
      clear hb hb' hdep d1
      have qw : IntKind.i64.wrap li = li := IntWalk.i64_in _ (by omega)
      go_simp
      exact hK _ _ rfl (fun _ _ _ h => h) hJ
    · intro done us W hJ hdep haft hnot b hb hb' K hK Q'
      simp only [List.getD_cons_succ, List.getD_cons_zero, List.mem_cons, List.not_mem_nil, or_false, forall_eq] at hdep
      have e162 := hb 2 162 rfl
      have d2 := hdep
      rw [d2.1] at e162
      clear hb hb' hdep d2
      go_simp
      refine (fromIntG li W (by omega) (by omega)).mono ?_
      rintro e w' ⟨v, rfl, hv, hX⟩
      exact hK _ _ hv (fun j u _ h => hmono _ _ j u hX h) (Ext.trans hJ hX)
    · intro done us W hJ hdep haft hnot b hb hb' K hK Q'
      simp only [List.getD_cons_succ, List.getD_cons_zero, List.mem_cons, List.not_mem_nil, or_false, forall_eq_or_imp, forall_eq] at hdep
      have e160 := hb 0 160 rfl
      have e163 := hb 3 163 rfl
      have d0 := hdep.1
      have d3 := hdep.2
      rw [d0.1] at e160
      clear hb hb' hdep d0
      go_simp
      refine (cmpG (hx.ext hJ) d3.1).mono ?_
      unfold RetE
      rintro e w' ⟨rfl, hX⟩
      exact hK _ _ rfl (fun j u _ h => hmono _ _ j u hX h) (Ext.trans hJ hX)
    · intro done us W hJ hdep haft hnot b hb hb' K hK Q'
      simp only [List.getD_cons_succ, List.getD_cons_zero, List.mem_cons, List.not_mem_nil, or_false, forall_eq] at hdep
      have e164 := hb 4 164 rfl
      have d4 := hdep
      rw [d4.1] at e164
      clear hb hb' hdep d4
      go_simp
      exact hK _ _ rfl (fun _ _ _ h => h) hJ
    · intro done us W hJ hdep haft hnot b hb hb' K hK Q'
      simp only [List.getD_cons_succ, List.getD_cons_zero, List.mem_cons, List.not_mem_nil, or_false, forall_eq] at hdep
      have e159 := hb 5 159 rfl
      have d5 := hdep
      rw [d5.1] at e159
      clear hb hb' hdep d5
      go_simp
      exact hK _ _ rfl (fun _ _ _ h => h) hJ
    · intro done us W hJ hdep haft hnot b hb hb' K hK Q'
      simp only [List.getD_cons_succ, List.getD_cons_zero, List.mem_cons, List.not_mem_nil, or_false, forall_eq] at hdep
      have e159 := hb 5 159 rfl
      have d5 := hdep
      rw [d5.1] at e159
      clear hb hb' hdep d5
      go_simp
      exact hK _ _ rfl (fun _ _ _ h => h) hJ
    · intro done us W hJ hdep haft hnot b hb hb' K hK Q'
      simp only [List.getD_cons_succ, List.getD_cons_zero, List.mem_cons, List.not_mem_nil, or_false, forall_eq] at hdep
      have e165 := hb 6 165 rfl
      have d6 := hdep
      rw [d6.1] at e165
      clear hb hb' hdep d6
      go_simp
      exact hK _ _ rfl (fun _ _ _ h => h) hJ
    · intro done us W hJ hdep haft hnot b hb hb' K hK Q'
      simp only [List.getD_cons_succ, List.getD_cons_zero, List.mem_cons, List.not_mem_nil, or_false, forall_eq] at hdep
      have e166 := hb 7 166 rfl
      have d7 := hdep
      rw [d7.1] at e166
      clear hb hb' hdep d7
      go_simp
      exact hK _ _ rfl (fun _ _ _ h => h) hJ
  · intro us W hV hJ
    exact hend (us 0) (us 1) (us 2) (us 3) (us 4) (us 5) (us 6) (us 7) (us 8) (us 9) W (hV 0 (by omega)) (hV 1 (by omega)) (hV 2 (by omega)) (hV 3 (by omega)) (hV 4 (by omega)) (hV 5 (by omega)) (hV 6 (by omega)) (hV 7 (by omega)) (hV 8 (by omega)) (hV 9 (by omega)) hJ
set_option maxRecDepth 100000 in
set_option maxHeartbeats 4000000 in
theorem outl_no (S : Int) (A : Option Addr) (n c : Nat) (ms : List Mt) (li : Int) (w : World) (h : MsAt w A n ms) (hsm : smB S ms = false) :
    Calls Try.prog 18 #[.agg #[.int .i64 S, .slice A n c], .int .u32 li] w (fun e w' => e = .returned (.bool true) ∧ Ext w w') := by
  have H := Lib.hid h
  have HSM := Lib.hid hsm
  have HX := Lib.hid ((Ext.refl w).alloc (.cells #[.int .i64 S, .slice A n c] 76))
  have HP := Lib.hid (Blk.new w 76 #[.int .i64 S, .slice A n c])
  clear h hsm
  go_enter Try.func18, Try.ntmps18
  go_upto_region 1 with (fail)
  generalize w.alloc (.cells #[.int .i64 S, .slice A n c] 76) = w1 at HX HP ⊢
  have p0 := HP.out.cell 0
  have p1 := HP.out.cell 1
  simp only [List.getElem?_toArray, List.getElem?_cons_zero, List.getElem?_cons_succ] at p0 p1
  go_wp2_with fail
  refine (small_any5 S A n c ms _ (H.out.ext HX.out)).mono ?_
  rw [HSM.out]
  rintro e w2 ⟨rfl, hX⟩
  replace HX := Lib.hid (HX.out.trans hX)
  replace HP := Lib.hid (HP.out.ext hX)
  clear hX p0 p1
  go_wp2_with fail
  refine (first_any _).mono ?_
  rintro e w19 ⟨rfl, hX⟩
  replace HX := Lib.hid (HX.out.trans hX)
  clear hX
  go_wp2
  go_ret
  exact ⟨rfl, HX.out⟩
set_option maxRecDepth 100000 in
set_option maxHeartbeats 4000000 in
theorem outl_big (S : Int) (A : Option Addr) (n c : Nat) (ms : List Mt) (li : Int) (w : World) (h : MsAt w A n ms) (hsm : smB S ms = true) (hn7 : 7 < n) :
    Calls Try.prog 18 #[.agg #[.int .i64 S, .slice A n c], .int .u32 li] w (fun e w' => e = .returned (.bool true) ∧ Ext w w') := by
  have q1 : decide (7 < n) = true := decide_eq_true hn7
  have q2 : decide ((7 : Int) < (n : Int)) = true := decide_eq_true (by omega)
  clear hn7
  have H := Lib.hid h
  have HSM := Lib.hid hsm
  have HX := Lib.hid ((Ext.refl w).alloc (.cells #[.int .i64 S, .slice A n c] 76))
  have HP := Lib.hid (Blk.new w 76 #[.int .i64 S, .slice A n c])
  clear h hsm
  go_enter Try.func18, Try.ntmps18
  go_upto_region 1 with (fail)
  generalize w.alloc (.cells #[.int .i64 S, .slice A n c] 76) = w1 at HX HP ⊢
  have p0 := HP.out.cell 0
  have p1 := HP.out.cell 1
  simp only [List.getElem?_toArray, List.getElem?_cons_zero, List.getElem?_cons_succ] at p0 p1
  go_wp2_with fail
  refine (small_any5 S A n c ms _ (H.out.ext HX.out)).mono ?_
  rw [HSM.out]
  rintro e w2 ⟨rfl, hX⟩
  replace HX := Lib.hid (HX.out.trans hX)
  replace HP := Lib.hid (HP.out.ext hX)
  clear hX p0 p1
  have p0 := HP.out.cell 0
  have p1 := HP.out.cell 1
  simp only [List.getElem?_toArray, List.getElem?_cons_zero, List.getElem?_cons_succ] at p0 p1
  go_wp2_with fail
  refine (first_any _).mono ?_
  rintro e w19 ⟨rfl, hX⟩
  replace HX := Lib.hid (HX.out.trans hX)
  clear hX
  go_wp2
  go_ret
  exact ⟨rfl, HX.out⟩

set_option maxRecDepth 100000 in
set_option maxHeartbeats 16000000 in
theorem outl_walk (S : Nat) (A : Option Addr) (n c : Nat) (ms : List Mt) (li : Int) (w : World) (h : MsAt w A n ms) (hv : VP (S : Int) ms) (hl : 0 ≤ li ∧ li ≤ 4294967295) (hn7 : n ≤ 7) (hsm : smB (S : Int) ms = true) :
    Calls Try.prog 18 #[.agg #[.int .i64 (S : Int), .slice A n c], .int .u32 li] w (fun e w' => e = .returned (.bool true) ∧ Ext w w') := by
  have HV := Lib.hid hv
  have HML := Lib.hid h.1
  have hS1 : 1 ≤ S := by have := hv.1; omega
  have hS3 : S ≤ 3 := by have := (smB_iff.1 hsm).1.2; omega
  have q1 : decide (7 < n) = false := decide_eq_false (by omega)
  have q2 : decide ((7 : Int) < (n : Int)) = false := decide_eq_false (by omega)
  have hlw : IntKind.i64.wrap li = li := IntWalk.i64_in _ (by omega)
  clear hv
  have H := Lib.hid h
  have HSM := Lib.hid hsm
  have HX := Lib.hid ((Ext.refl w).alloc (.cells #[.int .i64 (S : Int), .slice A n c] 76))
  have HP := Lib.hid (Blk.new w 76 #[.int .i64 (S : Int), .slice A n c])
  clear h hsm
  go_enter Try.func18, Try.ntmps18
  go_upto_region 1 with (fail)
  generalize w.alloc (.cells #[.int .i64 (S : Int), .slice A n c] 76) = w1 at HX HP ⊢
  have p0 := HP.out.cell 0
  have p1 := HP.out.cell 1
  simp only [List.getElem?_toArray, List.getElem?_cons_zero, List.getElem?_cons_succ] at p0 p1
  go_wp2_with fail
  refine (small_any5 (S : Int) A n c ms _ (H.out.ext HX.out)).mono ?_
  rw [HSM.out]
  rintro e w2 ⟨rfl, hX⟩
  replace HX := Lib.hid (HX.out.trans hX)
  replace HP := Lib.hid (HP.out.ext hX)
  clear hX p0 p1
  have p0 := HP.out.cell 0
  have p1 := HP.out.cell 1
  simp only [List.getElem?_toArray, List.getElem?_cons_zero, List.getElem?_cons_succ] at p0 p1
  go_wp2_with fail
  clear q1 q2
  refine (adjust_ok S A n c ms li _ (H.out.ext HX.out) HV.out (by omega)).mono ?_
  rintro e w3 ⟨r, ga, rv, hNE, hEN, rfl, hT, hD, hX⟩
  obtain ⟨Ar, cr, rfl⟩ := own_slice hD
  have HCN : Hid ((wout ms (adjD (3 * S) ms r)).length + r = n) := Lib.hid (by have := adj_count r hNE; rw [wout_len]; have := HML.out; omega)
  have HDL : Hid ((adjD (3 * S) ms r).length = r) := Lib.hid (adjD_len hNE)
  have HDO : Hid (DropOk n (adjD (3 * S) ms r)) := Lib.hid (by have := adjD_ok (3 * S) ms r; rw [HML.out] at this; exact this)
  have HB1 : Hid (sgnQ ((adjW (3 * S) ms (adjD (3 * S) ms r)).2 - ((li : Int) : Rat)) ≤ 0) := Lib.hid ((end_sgn hl.1).1 hEN)
  have HB2 : Hid (decide (sgnQ ((adjW (3 * S) ms []).2 - ((li : Int) : Rat)) ≤ 0) = decide (r = 0)) := Lib.hid (by
    by_cases e : r = 0
    · subst e
      rw [decide_eq_true rfl]
      exact decide_eq_true ((end_sgn hl.1).1 hEN)
    · rw [decide_eq_false e]
      exact decide_eq_false (fun h => hNE 0 (by omega) ((end_sgn hl.1).2 h)))
  have HDI0 : Hid (∀ x ∈ (adjD (3 * S) ms r), -9223372036854775808 ≤ x ∧ x ≤ 9223372036854775807) := Lib.hid (fun x hx => by have := HDO.out.1 x hx; omega)
  obtain ⟨ds, hds⟩ : ∃ ds, (adjD (3 * S) ms r) = ds := ⟨_, rfl⟩
  rw [hds] at hT hD HCN HDL HDO HB1 HDI0
  replace HX := Lib.hid (HX.out.trans hX)
  replace HP := Lib.hid (HP.out.ext hX)
  have HVW := Lib.hid (wout_vp HV.out ds)
  have HFO : Hid (∀ j, FitQW ((solP (3 * S) (wout ms ds)) j)) := Lib.hid (fun j => FitQW.of4 (solP_fit HVW.out.2.2.2 HVW.out.2.2.1 (by omega) j) (by omega))
  have HFP : Hid (∀ j, FitQW ((solP (3 * S) ms) j)) := Lib.hid (fun j => FitQW.of4 (solP_fit HV.out.2.2.2 HV.out.2.2.1 (by omega) j) (by omega))
  have HT : Hid (ShP RatG w3 ga 0 S (solP (3 * S) (wout ms ds))) := Lib.hid (hT.imp2 (fun j x _ h => h.good (HFO.out j)))
  have HD := Lib.hid hD
  have HWF : Hid (FitQW (worstP (3 * S) (solP (3 * S) (wout ms ds)) (wout ms ds)).2) := Lib.hid (worst_fit HVW.out.2.2.2 (by omega) (solP_tame HVW.out.2.2.2 HVW.out.2.2.1 (by omega)))
  have HWP : Hid (FitQW (worstP (3 * S) (solP (3 * S) ms) ms).2) := Lib.hid (worst_fit HV.out.2.2.2 (by omega) (solP_tame HV.out.2.2.2 HV.out.2.2.1 (by omega)))
  obtain ⟨nl, hnl⟩ : ∃ nl, (wout ms ds).length = nl := ⟨_, rfl⟩
  have HNL := Lib.hid hnl
  have hnr : nl + r = n := by have := HCN.out; rw [hnl] at this; exact this
  have qlw : IntKind.i64.wrap ((nl : Int) + (r : Int)) = (n : Int) := by rw [IntWalk.i64_in _ (by omega)]; omega
  clear hX p0 p1 hT hD hNE hEN hds hnl hlw
  have p0 := HP.out.cell 0
  have p1 := HP.out.cell 1
  simp only [List.getElem?_toArray, List.getElem?_cons_zero, List.getElem?_cons_succ] at p0 p1
  go_wp2_with fail
  refine (without_ok S A n c ms Ar r cr ds _ (H.out.ext HX.out) HV.out HDL.out (Ints.of_ownI HD.out HDI0.out) (by omega) HDO.out).mono ?_
  rintro e w4 ⟨vq, rfl, hW, hX⟩
  rw [HNL.out] at hW
  obtain ⟨Aw, cw, rfl⟩ := own_slice hW
  replace HX := Lib.hid (HX.out.trans hX)
  replace HP := Lib.hid (HP.out.ext hX)
  replace HT := Lib.hid (HT.out.ext growsG hX)
  have HMW : Hid (MsAt w4 Aw nl (wout ms ds)) := Lib.hid (MsAt.of_own hW HNL.out)
  clear hX p0 p1 hW HD
  go_upto_region 5 with (fail)
  have hXa : Ext w4 (w4.alloc (.cells #[.int .i64 (S : Int), .slice Aw nl cw] 76)) := (Ext.refl _).alloc _
  have kB := Blk.new w4 76 #[.int .i64 (S : Int), .slice Aw nl cw]
  replace HX := Lib.hid (HX.out.trans hXa)
  replace HP := Lib.hid (HP.out.ext hXa)
  replace HT := Lib.hid (HT.out.ext growsG hXa)
  replace HMW := Lib.hid (HMW.out.ext hXa)
  clear hXa
  generalize w4.heap.size = gq at kB ⊢
  generalize w4.alloc (.cells #[.int .i64 (S : Int), .slice Aw nl cw] 76) = w5 at kB HX HP HT HMW ⊢
  have KQ := Lib.hid kB
  clear kB
  have n0 := KQ.out.cell 0
  have n1 := KQ.out.cell 1
  simp only [List.getElem?_toArray, List.getElem?_cons_zero, List.getElem?_cons_succ] at n0 n1
  go_wp2_with fail
  refine (solveP_ok S Aw nl cw (wout ms ds) _ HMW.out HVW.out).mono ?_
  rintro e w6 ⟨gb, rfl, _, hS, hX⟩
  replace HX := Lib.hid (HX.out.trans hX)
  replace HP := Lib.hid (HP.out.ext hX)
  replace HT := Lib.hid (HT.out.ext growsG hX)
  replace HMW := Lib.hid (HMW.out.ext hX)
  replace KQ := Lib.hid (KQ.out.ext hX)
  have HSB : Hid (ShP RatG w6 gb 0 S (solP (3 * S) (wout ms ds))) := Lib.hid (hS.imp2 (fun j x _ h => h.good (HFO.out j)))
  clear hS hX n0 n1
  have n0 := KQ.out.cell 0
  have n1 := KQ.out.cell 1
  simp only [List.getElem?_toArray, List.getElem?_cons_zero, List.getElem?_cons_succ] at n0 n1
  go_wp2_with fail
  refine (worstP_ok S Aw nl cw (wout ms ds) gb 0 S (solP (3 * S) (wout ms ds)) _ HMW.out HVW.out HSB.out HWF.out).mono ?_
  obtain ⟨ai, hai⟩ : ∃ ai, atI (worstP (3 * S) (solP (3 * S) (wout ms ds)) (wout ms ds)).1 = ai := ⟨_, rfl⟩
  rw [hai]
  obtain ⟨bb, hbb⟩ : ∃ bb, (ai == -1) = bb := ⟨_, rfl⟩
  have hb2 : decide (nl = 0) = bb := by
    rw [← hbb, ← hai, ← HNL.out]
    have := worst_none_len (n := 3 * S) (ms := ms) (ds := ds)
    unfold adjW at this
    cases ho : (worstP (3 * S) (solP (3 * S) (wout ms ds)) (wout ms ds)).1 with
    | none => rw [decide_eq_true (this.1 ho)]; rfl
    | some a =>
      rw [decide_eq_false (fun h => by rw [this.2 h] at ho; cases ho)]
      have : (a : Int) ≠ -1 := by omega
      exact (beq_eq_false_iff_ne.2 this).symm
  have hb3 : ((nl : Int) == 0) = bb := by rw [← hb2]; by_cases e : nl = 0; (rw [e]; rfl); (rw [decide_eq_false e]; exact beq_eq_false_iff_ne.2 (by omega))
  have hb4 : (nl == 0) = bb := by rw [← hb2]; by_cases e : nl = 0; (rw [e]; rfl); (rw [decide_eq_false e]; exact beq_eq_false_iff_ne.2 e)
  clear hai
  have HBB := Lib.hid hbb
  have HB3 := Lib.hid (And.intro hb2 (And.intro hb3 hb4))
  clear hbb hb2 hb3 hb4
  rintro e w7 ⟨v7, rfl, hv, hX⟩
  obtain ⟨s1, A1, l1, c1, B1, m1, k1, rfl⟩ := RatC.open hv
  replace HX := Lib.hid (HX.out.trans hX)
  replace HP := Lib.hid (HP.out.ext hX)
  replace HT := Lib.hid (HT.out.ext growsG hX)
  replace HSB := Lib.hid (HSB.out.ext growsG hX)
  replace KQ := Lib.hid (KQ.out.ext hX)
  have HWV := Lib.hid (hv.good HWF.out)
  clear hX n0 n1 hv HMW
  go_upto_region 7 with (fail)
  have hXa : Ext w7 (w7.alloc (.cells #[.bool s1, .slice A1 l1 c1, .slice B1 m1 k1] 97)) := (Ext.refl _).alloc _
  have kB := Blk.new w7 97 #[.bool s1, .slice A1 l1 c1, .slice B1 m1 k1]
  replace HX := Lib.hid (HX.out.trans hXa)
  replace HP := Lib.hid (HP.out.ext hXa)
  replace HT := Lib.hid (HT.out.ext growsG hXa)
  replace HSB := Lib.hid (HSB.out.ext growsG hXa)
  replace KQ := Lib.hid (KQ.out.ext hXa)
  replace HWV := Lib.hid (HWV.out.ext hXa)
  clear hXa
  generalize w7.heap.size = gw at kB ⊢
  generalize w7.alloc (.cells #[.bool s1, .slice A1 l1 c1, .slice B1 m1 k1] 97) = w8 at kB HX HP HT HSB KQ HWV ⊢
  have KW := Lib.hid kB
  clear kB
  have p0 := HP.out.cell 0
  have p1 := HP.out.cell 1
  simp only [List.getElem?_toArray, List.getElem?_cons_zero, List.getElem?_cons_succ] at p0 p1
  have n0 := KQ.out.cell 0
  have n1 := KQ.out.cell 1
  simp only [List.getElem?_toArray, List.getElem?_cons_zero, List.getElem?_cons_succ] at n0 n1
  go_wp2_with fail
  clear p0 p1 n0 n1 qlw
  go_loopg [15] S (fun fu iv wr => ∃ s : Nat, fu = S - s ∧ s ≤ S ∧ iv = .int .i64 (s : Int) ∧ Hid (Ext w8 wr))
  case atStart => exact ⟨0, by omega, by omega, rfl, Lib.hid (Ext.refl _)⟩
  case round =>
    obtain ⟨s, rfl, hs, rfl, HXL⟩ := hrel
    have pl := HP.out.ext HXL.out
    have p0 := pl.cell 0
    simp only [List.getElem?_toArray, List.getElem?_cons_zero] at p0
    clear pl
    by_cases hsS : s < S
    · have q1 : decide (s < S) = true := decide_eq_true hsS
      go_wp2_with fail
      clear p0
      go_loopg [16] 3 (fun fu iv wx => ∃ k : Nat, fu = 3 - k ∧ k ≤ 3 ∧ iv = .int .i64 (k : Int) ∧ Hid (Ext w8 wx))
      case atStart => exact ⟨0, rfl, by omega, rfl, HXL⟩
      case round =>
        clear HXL
        obtain ⟨k, rfl, hk, rfl, HXL⟩ := hrel
        by_cases hk3 : k < 3
        · have q2 : decide ((k : Int) < 3) = true := decide_eq_true (by omega)
          have hk3z : (k : Int) < 3 := by omega
          obtain ⟨su, Au, lu, cu, Bu, mu, ku, x0, x1, x2, hx⟩ := (HT.out.ext growsG HXL.out) s k hsS hk3
          simp only [Nat.zero_add] at x0 x1 x2
          have HXA := Lib.hid hx
          clear hx
          obtain ⟨se, Ae, le, ce, Be, me, ke, y0, y1, y2, hx⟩ := (HSB.out.ext growsG HXL.out) s k hsS hk3
          simp only [Nat.zero_add] at y0 y1 y2
          have HXB := Lib.hid hx
          clear hx
          go_upto_region 15 with (fail)
          refine outl_r15 ga gb S s k su Au Bu lu cu mu ku se Ae Be le ce me ke _ wr x0 x1 x2 y0 y1 y2 HXA.out HXB.out hsS hk3z hk3 _ _ (by simp) rfl rfl rfl rfl ?_
          rintro xv0 xv1 xv2 xv3 xv4 xv5 xv6 xv7 xv8 xv9 xv10 xv11 xv12 xv13 W rfl rfl rfl rfl rfl rfl rfl rfl rfl rfl rfl rfl rfl rfl hX
          simp only [rops, Try.f18, regOf, Option.bind_some, Nat.reduceBEq, if_true, if_false, Bool.false_eq_true, Option.getD_some, List.drop_succ_cons, List.drop_zero]
          simp only [Act.put, List.setIfInBounds_toArray, List.set_cons_succ, List.set_cons_zero]
          replace HXL := Lib.hid (HXL.out.trans hX)
          clear hX x0 x1 x2 y0 y1 y2
          go_wp2
          go_roundg (3 - (k + 1))
          case rel => exact ⟨k + 1, rfl, by omega, by go_num, HXL⟩
          case measure => omega
        · obtain rfl : k = 3 := by omega
          have q2 : decide (((3 : Nat) : Int) < 3) = false := by decide
          go_wp2
          go_roundg (S - (s + 1))
          case rel => exact ⟨s + 1, rfl, by omega, by go_num, HXL⟩
          case measure => omega
    · obtain rfl : S = s := by omega
      have q1 : decide (S < S) = false := by simp
      replace HX := Lib.hid (HX.out.trans HXL.out)
      replace HP := Lib.hid (HP.out.ext HXL.out)
      replace KQ := Lib.hid (KQ.out.ext HXL.out)
      replace KW := Lib.hid (KW.out.ext HXL.out)
      replace HWV := Lib.hid (HWV.out.ext HXL.out)
      clear HXL HT HSB
      go_upto_region 17 with (fail)
      clear p0
      refine outl_r17 gw li _ s1 A1 B1 l1 c1 m1 k1 wr (KW.out.cell 0) (KW.out.cell 1) (KW.out.cell 2) HWV.out hl _ _ (by simp) rfl rfl ?_
      have HBS := HB1
      unfold adjW at HBS
      obtain ⟨sg, hsg⟩ : ∃ sg, sgnQ ((worstP (3 * S) (solP (3 * S) (wout ms ds)) (wout ms ds)).2 - ((li : Int) : Rat)) = sg := ⟨_, rfl⟩
      rw [hsg] at HBS ⊢
      clear hsg
      rintro xv0 xv1 xv2 xv3 xv4 xv5 xv6 xv7 xv8 xv9 W rfl rfl rfl _ rfl rfl rfl rfl rfl rfl hX
      simp only [rops, Try.f18, regOf, Option.bind_some, Nat.reduceBEq, if_true, if_false, Bool.false_eq_true, Option.getD_some, List.drop_succ_cons, List.drop_zero]
      simp only [Act.put, List.setIfInBounds_toArray, List.set_cons_succ, List.set_cons_zero]
      replace HX := Lib.hid (HX.out.trans hX)
      replace HP := Lib.hid (HP.out.ext hX)
      replace KQ := Lib.hid (KQ.out.ext hX)
      clear hX
      have q3 : decide (0 < sg) = false := decide_eq_false (by have := HBS.out; omega)
      obtain ⟨hb2, hb3, hb4⟩ := HB3.out
      have hbb := HBB.out
      have n0 := KQ.out.cell 0
      have n1 := KQ.out.cell 1
      simp only [List.getElem?_toArray, List.getElem?_cons_zero, List.getElem?_cons_succ] at n0 n1
      have p0 := HP.out.cell 0
      have p1 := HP.out.cell 1
      simp only [List.getElem?_toArray, List.getElem?_cons_zero, List.getElem?_cons_succ] at p0 p1
      go_upto_region 20 with (fail)
      clear q3 hb2 hb3 hb4 hbb n0 n1 KW HWV HB1 HBS KQ
      go_wp2_with fail
      refine (solveP_ok S A n c ms _ (H.out.ext HX.out) HV.out).mono ?_
      rintro e w10 ⟨gc, rfl, _, hS, hX⟩
      replace HX := Lib.hid (HX.out.trans hX)
      replace HP := Lib.hid (HP.out.ext hX)
      have HSP : Hid (ShP RatG w10 gc 0 S (solP (3 * S) ms)) := Lib.hid (hS.imp2 (fun j x _ h => h.good (HFP.out j)))
      clear hS hX p0 p1
      have p0 := HP.out.cell 0
      have p1 := HP.out.cell 1
      simp only [List.getElem?_toArray, List.getElem?_cons_zero, List.getElem?_cons_succ] at p0 p1
      go_wp2_with fail
      refine (worstP_ok S A n c ms gc 0 S (solP (3 * S) ms) _ (H.out.ext HX.out) HV.out HSP.out HWP.out).mono ?_
      rintro e w11 ⟨v11, rfl, hv, hX⟩
      obtain ⟨s2, A2, l2, c2, B2, m2, k2, rfl⟩ := RatC.open hv
      replace HX := Lib.hid (HX.out.trans hX)
      replace HP := Lib.hid (HP.out.ext hX)
      have HWV := Lib.hid (hv.good HWP.out)
      clear hX p0 p1 hv HSP
      go_upto_region 22 with (fail)
      have hXa : Ext w11 (w11.alloc (.cells #[.bool s2, .slice A2 l2 c2, .slice B2 m2 k2] 97)) := (Ext.refl _).alloc _
      have kB := Blk.new w11 97 #[.bool s2, .slice A2 l2 c2, .slice B2 m2 k2]
      replace HX := Lib.hid (HX.out.trans hXa)
      replace HP := Lib.hid (HP.out.ext hXa)
      replace HWV := Lib.hid (HWV.out.ext hXa)
      clear hXa
      generalize w11.heap.size = gy at kB ⊢
      generalize w11.alloc (.cells #[.bool s2, .slice A2 l2 c2, .slice B2 m2 k2] 97) = w12 at kB HX HP HWV ⊢
      have KW := Lib.hid kB
      clear kB
      refine outl_r22 gy li _ s2 A2 B2 l2 c2 m2 k2 w12 (KW.out.cell 0) (KW.out.cell 1) (KW.out.cell 2) HWV.out hl _ _ (by simp) rfl rfl ?_
      have HBS := HB2
      unfold adjW at HBS
      rw [wout_nil] at HBS
      obtain ⟨sg2, hsg⟩ : ∃ sg2, sgnQ ((worstP (3 * S) (solP (3 * S) ms) ms).2 - ((li : Int) : Rat)) = sg2 := ⟨_, rfl⟩
      rw [hsg] at HBS ⊢
      clear hsg
      rintro xv0 xv1 xv2 xv3 xv4 xv5 xv6 xv7 xv8 xv9 W rfl rfl rfl _ rfl rfl rfl rfl rfl rfl hX
      simp only [rops, Try.f18, regOf, Option.bind_some, Nat.reduceBEq, if_true, if_false, Bool.false_eq_true, Option.getD_some, List.drop_succ_cons, List.drop_zero]
      simp only [Act.put, List.setIfInBounds_toArray, List.set_cons_succ, List.set_cons_zero]
      replace HX := Lib.hid (HX.out.trans hX)
      replace HP := Lib.hid (HP.out.ext hX)
      clear hX
      obtain ⟨br, hbr⟩ : ∃ br, decide (r = 0) = br := ⟨_, rfl⟩
      have q4 : decide (sg2 ≤ 0) = br := HBS.out.trans hbr
      have q5 : ((r : Int) == 0) = br := by rw [← hbr]; by_cases e : r = 0; (rw [e]; rfl); (rw [decide_eq_false e]; exact beq_eq_false_iff_ne.2 (by omega))
      have q6 : (r == 0) = br := by rw [← hbr]; by_cases e : r = 0; (rw [e]; rfl); (rw [decide_eq_false e]; exact beq_eq_false_iff_ne.2 e)
      go_wp2_with fail
      refine (first_any _).mono ?_
      rintro e w19 ⟨rfl, hX⟩
      replace HX := Lib.hid (HX.out.trans hX)
      clear hX
      go_wp2
      go_ret
      exact ⟨rfl, HX.out⟩
      

theorem stripOutliers_walk (S : Int) (A : Option Addr) (n c : Nat) (ms : List Mt) (li : Int) (w : World) (h : MsAt w A n ms) (h0 : 0 ≤ li) (h1 : li ≤ 4294967295) :
    Calls Try.prog 18 #[.agg #[.int .i64 S, .slice A n c], .int .u32 li] w (fun e w' => e = .returned (.bool true) ∧ Ext w w') := by
  by_cases hs : smB S ms = true
  · by_cases h7 : 7 < n
    · exact outl_big S A n c ms li w h hs h7
    · obtain ⟨⟨h1, h2⟩, hv⟩ := smB_iff.1 hs
      obtain ⟨s, rfl⟩ : ∃ s : Nat, S = s := ⟨S.toNat, by have := hv.1; omega⟩
      exact outl_walk s A n c ms li w h hv ⟨h0, by omega⟩ (by omega) hs
  · exact outl_no S A n c ms li w h (by simpa using hs)
end Go.Proofs.Ytikhlcgnlbinfaa
