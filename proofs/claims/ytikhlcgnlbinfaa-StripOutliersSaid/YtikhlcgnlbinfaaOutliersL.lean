/- Lemmas of the proof that follows (Outliers, part 12): walks of functions by contract, and plain lemmas. Conditions: none. -/
import Derived.Test.YtikhlcgnlbinfaaOutliersK
namespace Go.Proofs.Ytikhlcgnlbinfaa
open Go.RowKit

def atI : Option Nat → Int
  | none => -1
  | some a => (a : Int)
theorem wAt_none {n : Nat} {u : Nat → Rat} {ms : List Mt} {k : Nat} (h : (wAt n u ms k).1 = none) : wAt n u ms (k + 1) = (some k, wsq n u (mtAt ms k)) := by
  show wStep n u ms k (wAt n u ms k) = _
  unfold wStep
  rw [h]
theorem wAt_take {n : Nat} {u : Nat → Rat} {ms : List Mt} {k a : Nat} (h : (wAt n u ms k).1 = some a) (ht : (wAt n u ms k).2 < wsq n u (mtAt ms k) ∨ wsq n u (mtAt ms k) = (wAt n u ms k).2 ∧ erl (mtAt ms k) (mtAt ms a) = true) : wAt n u ms (k + 1) = (some k, wsq n u (mtAt ms k)) := by
  show wStep n u ms k (wAt n u ms k) = _
  unfold wStep
  rw [h]
  exact if_pos ht
theorem wAt_skip {n : Nat} {u : Nat → Rat} {ms : List Mt} {k a : Nat} (h : (wAt n u ms k).1 = some a) (ht : ¬ ((wAt n u ms k).2 < wsq n u (mtAt ms k) ∨ wsq n u (mtAt ms k) = (wAt n u ms k).2 ∧ erl (mtAt ms k) (mtAt ms a) = true)) : wAt n u ms (k + 1) = wAt n u ms k := by
  show wStep n u ms k (wAt n u ms k) = _
  unfold wStep
  rw [h]
  exact if_neg ht
theorem mtAt_some' {ms : List Mt} {i : Nat} {m : Mt} (h : ms[i]? = some m) : mtAt ms i = m := by unfold mtAt; rw [h]; rfl

set_option maxRecDepth 100000 in
set_option maxHeartbeats 2000000 in
theorem wor_r7a (gm gp : Nat) (sg : Int) (w : World)  (a : Act) (Q : Exit → Act → World → Prop) (hsize : 47 ≤ a.tmps.size)
    (s3 : a.tmps[3]? = some (.pointer (some ⟨gp, 0, none⟩)))
    (s6 : a.tmps[6]? = some (.int .i64 (-1)))
    (s9 : a.tmps[9]? = some (.pointer (some ⟨gm, 0, none⟩)))
    (s11 : a.tmps[11]? = some (.int .i64 (sg)))
    (hend : ∀ (xv0 xv1 xv2 xv3 xv4 xv5 xv6 xv7 xv8 xv9 xv10 xv11 xv12 xv13 xv14 xv15 xv16 xv17 xv18 xv19 : Value) (W : World), (xv0 = .int .i64 (-1)) → (xv1 = .bool true) → (xv2 = .bool true) → (xv3 = undef) → (xv4 = undef) → (xv5 = .bool true) → (xv6 = .bool true) → (xv7 = undef) → (xv8 = undef) → (xv9 = undef) → (xv10 = undef) → (xv11 = undef) → (xv12 = undef) → (xv13 = undef) → (xv14 = undef) → (xv15 = undef) → (xv16 = undef) → (xv17 = undef) → (xv18 = undef) → (xv19 = .bool true) → Ext w W → wpList Try.prog (rops Try.f152 7).toArray Q ((rops Try.f152 7).drop 20) ((((((((((((((((((((a.put (some 27) xv0).put (some 28) xv1).put (some 29) xv2).put (some 30) xv3).put (some 31) xv4).put (some 32) xv5).put (some 33) xv6).put (some 34) xv7).put (some 35) xv8).put (some 36) xv9).put (some 37) xv10).put (some 38) xv11).put (some 39) xv12).put (some 40) xv13).put (some 41) xv14).put (some 42) xv15).put (some 43) xv16).put (some 44) xv17).put (some 45) xv18).put (some 46) xv19) W) :
    (Code.region 7 (rops Try.f152 7).toArray true).wp Try.prog Q a w := by
  have hmono : ∀ (W W' : World) (j : Nat) (u : Value), Ext W W' → (fun (i : Nat) (v : Value) (W : World) => match i with
    | 0 => v = .int .i64 (-1)
    | 1 => v = .bool true
    | 2 => v = .bool true
    | 3 => v = undef
    | 4 => v = undef
    | 5 => v = .bool true
    | 6 => v = .bool true
    | 7 => v = undef
    | 8 => v = undef
    | 9 => v = undef
    | 10 => v = undef
    | 11 => v = undef
    | 12 => v = undef
    | 13 => v = undef
    | 14 => v = undef
    | 15 => v = undef
    | 16 => v = undef
    | 17 => v = undef
    | 18 => v = undef
    | 19 => v = .bool true
    | _ => True) j u W → (fun (i : Nat) (v : Value) (W : World) => match i with
    | 0 => v = .int .i64 (-1)
    | 1 => v = .bool true
    | 2 => v = .bool true
    | 3 => v = undef
    | 4 => v = undef
    | 5 => v = .bool true
    | 6 => v = .bool true
    | 7 => v = undef
    | 8 => v = undef
    | 9 => v = undef
    | 10 => v = undef
    | 11 => v = undef
    | 12 => v = undef
    | 13 => v = undef
    | 14 => v = undef
    | 15 => v = undef
    | 16 => v = undef
    | 17 => v = undef
    | 18 => v = undef
    | 19 => v = .bool true
    | _ => True) j u W' := by
    intro W W' j u hX h
    match j, h with
    | 0, h => exact h
    | 1, h => exact h
    | 2, h => exact h
    | 3, h => exact h
    | 4, h => exact h
    | 5, h => exact h
    | 6, h => exact h
    | 7, h => exact h
    | 8, h => exact h
    | 9, h => exact h
    | 10, h => exact h
    | 11, h => exact h
    | 12, h => exact h
    | 13, h => exact h
    | 14, h => exact h
    | 15, h => exact h
    | 16, h => exact h
    | 17, h => exact h
    | 18, h => exact h
    | 19, h => exact h
    | _ + 20, h => exact h
  have hsz : ∀ d, some d ∈ ([some 27, some 28, some 29, some 30, some 31, some 32, some 33, some 34, some 35, some 36, some 37, some 38, some 39, some 40, some 41, some 42, some 43, some 44, some 45, some 46] : List (Option Tmp)) → d < a.tmps.size := slots_lt (by decide) hsize
  refine wp_region_j 20 [some 27, some 28, some 29, some 30, some 31, some 32, some 33, some 34, some 35, some 36, some 37, some 38, some 39, some 40, some 41, some 42, some 43, some 44, some 45, some 46] [[], [0], [1], [2], [2, 3], [2, 4], [5], [6], [6, 7], [6, 8], [9], [9], [9, 11], [9], [9, 12, 13], [9, 14], [9, 10, 15], [9, 16], [6, 9, 17], [6, 18]] [[], [], [], [], [], [], [], [], [], [], [], [], [], [], [], [], [], [], [], []] (fun (i : Nat) (v : Value) (W : World) => match i with
    | 0 => v = .int .i64 (-1)
    | 1 => v = .bool true
    | 2 => v = .bool true
    | 3 => v = undef
    | 4 => v = undef
    | 5 => v = .bool true
    | 6 => v = .bool true
    | 7 => v = undef
    | 8 => v = undef
    | 9 => v = undef
    | 10 => v = undef
    | 11 => v = undef
    | 12 => v = undef
    | 13 => v = undef
    | 14 => v = undef
    | 15 => v = undef
    | 16 => v = undef
    | 17 => v = undef
    | 18 => v = undef
    | 19 => v = .bool true
    | _ => True) (fun _ W => Ext w W) (by kernel_rfl) (by kernel_rfl) hsz (fun _ _ _ _ h => h) ((Ext.refl w).drew) ?_ ?_
  · clear hend
    simp only [rops, Try.f152, regOf, Option.bind_some, Nat.reduceBEq, if_true, if_false, Bool.false_eq_true, Option.getD_some]
    simp only [List.take_succ_cons, List.take_zero]
    refine ⟨?_, ?_, ?_, ?_, ?_, ?_, ?_, ?_, ?_, ?_, ?_, ?_, ?_, ?_, ?_, ?_, ?_, ?_, ?_, ?_, trivial⟩
    · intro done us W hJ hdep haft hnot b hb hb' K hK Q'
      have e6 := (hb' 6 (by simp)).trans s6
      clear hb hb'
      go_simp
      exact hK _ _ rfl (fun _ _ _ h => h) hJ
    · intro done us W hJ hdep haft hnot b hb hb' K hK Q'
      simp only [List.getD_cons_succ, List.getD_cons_zero, List.mem_cons, List.not_mem_nil, or_false, forall_eq] at hdep
      have e27 := hb 0 27 rfl
      have d0 := hdep
      rw [d0.1] at e27
      clear hb hb' hdep d0
      go_simp
      exact hK _ _ rfl (fun _ _ _ h => h) hJ
    · intro done us W hJ hdep haft hnot b hb hb' K hK Q'
      simp only [List.getD_cons_succ, List.getD_cons_zero, List.mem_cons, List.not_mem_nil, or_false, forall_eq] at hdep
      have e28 := hb 1 28 rfl
      have d1 := hdep
      rw [d1.1] at e28
      clear hb hb' hdep d1
      go_simp
      exact hK _ _ rfl (fun _ _ _ h => h) hJ
    · intro done us W hJ hdep haft hnot b hb hb' K hK Q'
      simp only [List.getD_cons_succ, List.getD_cons_zero, List.mem_cons, List.not_mem_nil, or_false, forall_eq] at hdep
      have e11 := (hb' 11 (by simp)).trans s11
      have e29 := hb 2 29 rfl
      have d2 := hdep
      rw [d2.1] at e29
      clear hb hb' hdep d2
      go_simp
      exact hK _ _ rfl (fun _ _ _ h => h) hJ
    · intro done us W hJ hdep haft hnot b hb hb' K hK Q'
      simp only [List.getD_cons_succ, List.getD_cons_zero, List.mem_cons, List.not_mem_nil, or_false, forall_eq_or_imp, forall_eq] at hdep
      have e29 := hb 2 29 rfl
      have e30 := hb 3 30 rfl
      have d2 := hdep.1
      have d3 := hdep.2
      rw [d2.1] at e29
      rw [d3.1] at e30
      clear hb hb' hdep d2 d3
      go_simp
      exact hK _ _ rfl (fun _ _ _ h => h) hJ
    · intro done us W hJ hdep haft hnot b hb hb' K hK Q'
      simp only [List.getD_cons_succ, List.getD_cons_zero, List.mem_cons, List.not_mem_nil, or_false, forall_eq_or_imp, forall_eq] at hdep
      have e29 := hb 2 29 rfl
      have e31 := hb 4 31 rfl
      have d2 := hdep.1
      have d4 := hdep.2
      rw [d2.1] at e29
      rw [d4.1] at e31
      clear hb hb' hdep d2 d4
      go_simp
      exact hK _ _ rfl (fun _ _ _ h => h) hJ
    · intro done us W hJ hdep haft hnot b hb hb' K hK Q'
      simp only [List.getD_cons_succ, List.getD_cons_zero, List.mem_cons, List.not_mem_nil, or_false, forall_eq] at hdep
      have e32 := hb 5 32 rfl
      have d5 := hdep
      rw [d5.1] at e32
      clear hb hb' hdep d5
      go_simp
      exact hK _ _ rfl (fun _ _ _ h => h) hJ
    · intro done us W hJ hdep haft hnot b hb hb' K hK Q'
      simp only [List.getD_cons_succ, List.getD_cons_zero, List.mem_cons, List.not_mem_nil, or_false, forall_eq] at hdep
      have e11 := (hb' 11 (by simp)).trans s11
      have e33 := hb 6 33 rfl
      have d6 := hdep
      rw [d6.1] at e33
      clear hb hb' hdep d6
      go_simp
      exact hK _ _ rfl (fun _ _ _ h => h) hJ
    · intro done us W hJ hdep haft hnot b hb hb' K hK Q'
      simp only [List.getD_cons_succ, List.getD_cons_zero, List.mem_cons, List.not_mem_nil, or_false, forall_eq_or_imp, forall_eq] at hdep
      have e33 := hb 6 33 rfl
      have e34 := hb 7 34 rfl
      have d6 := hdep.1
      have d7 := hdep.2
      rw [d6.1] at e33
      rw [d7.1] at e34
      clear hb hb' hdep d6 d7
      go_simp
      exact hK _ _ rfl (fun _ _ _ h => h) hJ
    · intro done us W hJ hdep haft hnot b hb hb' K hK Q'
      simp only [List.getD_cons_succ, List.getD_cons_zero, List.mem_cons, List.not_mem_nil, or_false, forall_eq_or_imp, forall_eq] at hdep
      have e33 := hb 6 33 rfl
      have e35 := hb 8 35 rfl
      have d6 := hdep.1
      have d8 := hdep.2
      rw [d6.1] at e33
      rw [d8.1] at e35
      clear hb hb' hdep d6 d8
      go_simp
      exact hK _ _ rfl (fun _ _ _ h => h) hJ
    · intro done us W hJ hdep haft hnot b hb hb' K hK Q'
      simp only [List.getD_cons_succ, List.getD_cons_zero, List.mem_cons, List.not_mem_nil, or_false, forall_eq] at hdep
      have e9 := (hb' 9 (by simp)).trans s9
      have e36 := hb 9 36 rfl
      have d9 := hdep
      rw [d9.1] at e36
      clear hb hb' hdep d9
      go_simp
      exact hK _ _ rfl (fun _ _ _ h => h) hJ
    · intro done us W hJ hdep haft hnot b hb hb' K hK Q'
      simp only [List.getD_cons_succ, List.getD_cons_zero, List.mem_cons, List.not_mem_nil, or_false, forall_eq] at hdep
      have e3 := (hb' 3 (by simp)).trans s3
      have e36 := hb 9 36 rfl
      have d9 := hdep
      rw [d9.1] at e36
      clear hb hb' hdep d9
      go_simp
      exact hK _ _ rfl (fun _ _ _ h => h) hJ
    · intro done us W hJ hdep haft hnot b hb hb' K hK Q'
      simp only [List.getD_cons_succ, List.getD_cons_zero, List.mem_cons, List.not_mem_nil, or_false, forall_eq_or_imp, forall_eq] at hdep
      have e36 := hb 9 36 rfl
      have e38 := hb 11 38 rfl
      have d9 := hdep.1
      have d11 := hdep.2
      rw [d9.1] at e36
      rw [d11.1] at e38
      clear hb hb' hdep d9 d11
      go_simp
      exact hK _ _ rfl (fun _ _ _ h => h) hJ
    · intro done us W hJ hdep haft hnot b hb hb' K hK Q'
      simp only [List.getD_cons_succ, List.getD_cons_zero, List.mem_cons, List.not_mem_nil, or_false, forall_eq] at hdep
      have e6 := (hb' 6 (by simp)).trans s6
      have e36 := hb 9 36 rfl
      have d9 := hdep
      rw [d9.1] at e36
      clear hb hb' hdep d9
      go_simp
      exact hK _ _ rfl (fun _ _ _ h => h) hJ
    · intro done us W hJ hdep haft hnot b hb hb' K hK Q'
      simp only [List.getD_cons_succ, List.getD_cons_zero, List.mem_cons, List.not_mem_nil, or_false, forall_eq_or_imp, forall_eq] at hdep
      have e36 := hb 9 36 rfl
      have e39 := hb 12 39 rfl
      have e40 := hb 13 40 rfl
      have d9 := hdep.1
      have d12 := hdep.2.1
      have d13 := hdep.2.2
      rw [d9.1] at e36
      rw [d12.1] at e39
      rw [d13.1] at e40
      clear hb hb' hdep d9 d12 d13
      go_simp
      exact hK _ _ rfl (fun _ _ _ h => h) hJ
    · intro done us W hJ hdep haft hnot b hb hb' K hK Q'
      simp only [List.getD_cons_succ, List.getD_cons_zero, List.mem_cons, List.not_mem_nil, or_false, forall_eq_or_imp, forall_eq] at hdep
      have e36 := hb 9 36 rfl
      have e41 := hb 14 41 rfl
      have d9 := hdep.1
      have d14 := hdep.2
      rw [d9.1] at e36
      rw [d14.1] at e41
      clear hb hb' hdep d9 d14
      go_simp
      exact hK _ _ rfl (fun _ _ _ h => h) hJ
    · intro done us W hJ hdep haft hnot b hb hb' K hK Q'
      simp only [List.getD_cons_succ, List.getD_cons_zero, List.mem_cons, List.not_mem_nil, or_false, forall_eq_or_imp, forall_eq] at hdep
      have e36 := hb 9 36 rfl
      have e37 := hb 10 37 rfl
      have e42 := hb 15 42 rfl
      have d9 := hdep.1
      have d10 := hdep.2.1
      have d15 := hdep.2.2
      rw [d9.1] at e36
      rw [d10.1] at e37
      rw [d15.1] at e42
      clear hb hb' hdep d9 d10 d15
      go_simp
      exact hK _ _ rfl (fun _ _ _ h => h) hJ
    · intro done us W hJ hdep haft hnot b hb hb' K hK Q'
      simp only [List.getD_cons_succ, List.getD_cons_zero, List.mem_cons, List.not_mem_nil, or_false, forall_eq_or_imp, forall_eq] at hdep
      have e36 := hb 9 36 rfl
      have e43 := hb 16 43 rfl
      have d9 := hdep.1
      have d16 := hdep.2
      rw [d9.1] at e36
      rw [d16.1] at e43
      clear hb hb' hdep d9 d16
      go_simp
      exact hK _ _ rfl (fun _ _ _ h => h) hJ
    · intro done us W hJ hdep haft hnot b hb hb' K hK Q'
      simp only [List.getD_cons_succ, List.getD_cons_zero, List.mem_cons, List.not_mem_nil, or_false, forall_eq_or_imp, forall_eq] at hdep
      have e33 := hb 6 33 rfl
      have e36 := hb 9 36 rfl
      have e44 := hb 17 44 rfl
      have d6 := hdep.1
      have d9 := hdep.2.1
      have d17 := hdep.2.2
      rw [d6.1] at e33
      rw [d9.1] at e36
      rw [d17.1] at e44
      clear hb hb' hdep d6 d9 d17
      go_simp
      exact hK _ _ rfl (fun _ _ _ h => h) hJ
    · intro done us W hJ hdep haft hnot b hb hb' K hK Q'
      simp only [List.getD_cons_succ, List.getD_cons_zero, List.mem_cons, List.not_mem_nil, or_false, forall_eq_or_imp, forall_eq] at hdep
      have e33 := hb 6 33 rfl
      have e45 := hb 18 45 rfl
      have d6 := hdep.1
      have d18 := hdep.2
      rw [d6.1] at e33
      rw [d18.1] at e45
      clear hb hb' hdep d6 d18
      go_simp
      exact hK _ _ rfl (fun _ _ _ h => h) hJ
  · intro us W hV hJ
    exact hend (us 0) (us 1) (us 2) (us 3) (us 4) (us 5) (us 6) (us 7) (us 8) (us 9) (us 10) (us 11) (us 12) (us 13) (us 14) (us 15) (us 16) (us 17) (us 18) (us 19) W (hV 0 (by omega)) (hV 1 (by omega)) (hV 2 (by omega)) (hV 3 (by omega)) (hV 4 (by omega)) (hV 5 (by omega)) (hV 6 (by omega)) (hV 7 (by omega)) (hV 8 (by omega)) (hV 9 (by omega)) (hV 10 (by omega)) (hV 11 (by omega)) (hV 12 (by omega)) (hV 13 (by omega)) (hV 14 (by omega)) (hV 15 (by omega)) (hV 16 (by omega)) (hV 17 (by omega)) (hV 18 (by omega)) (hV 19 (by omega)) hJ
set_option maxRecDepth 100000 in
set_option maxHeartbeats 2000000 in
theorem wor_r7b (gm gp aa : Nat) (w : World) (h0 : decide ((aa : Int) < 0) = false) (a : Act) (Q : Exit → Act → World → Prop) (hsize : 47 ≤ a.tmps.size)
    (s3 : a.tmps[3]? = some (.pointer (some ⟨gp, 0, none⟩)))
    (s6 : a.tmps[6]? = some (.int .i64 (aa : Int)))
    (s9 : a.tmps[9]? = some (.pointer (some ⟨gm, 0, none⟩)))
    (s11 : a.tmps[11]? = some (.int .i64 (1)))
    (hend : ∀ (xv0 xv1 xv2 xv3 xv4 xv5 xv6 xv7 xv8 xv9 xv10 xv11 xv12 xv13 xv14 xv15 xv16 xv17 xv18 xv19 : Value) (W : World), (xv0 = .int .i64 (aa : Int)) → (xv1 = .bool false) → (xv2 = .bool false) → (xv3 = .int .i64 (1)) → (xv4 = .bool true) → (xv5 = .bool true) → (xv6 = .bool true) → (xv7 = undef) → (xv8 = undef) → (xv9 = undef) → (xv10 = undef) → (xv11 = undef) → (xv12 = undef) → (xv13 = undef) → (xv14 = undef) → (xv15 = undef) → (xv16 = undef) → (xv17 = undef) → (xv18 = undef) → (xv19 = .bool true) → Ext w W → wpList Try.prog (rops Try.f152 7).toArray Q ((rops Try.f152 7).drop 20) ((((((((((((((((((((a.put (some 27) xv0).put (some 28) xv1).put (some 29) xv2).put (some 30) xv3).put (some 31) xv4).put (some 32) xv5).put (some 33) xv6).put (some 34) xv7).put (some 35) xv8).put (some 36) xv9).put (some 37) xv10).put (some 38) xv11).put (some 39) xv12).put (some 40) xv13).put (some 41) xv14).put (some 42) xv15).put (some 43) xv16).put (some 44) xv17).put (some 45) xv18).put (some 46) xv19) W) :
    (Code.region 7 (rops Try.f152 7).toArray true).wp Try.prog Q a w := by
  have hmono : ∀ (W W' : World) (j : Nat) (u : Value), Ext W W' → (fun (i : Nat) (v : Value) (W : World) => match i with
    | 0 => v = .int .i64 (aa : Int)
    | 1 => v = .bool false
    | 2 => v = .bool false
    | 3 => v = .int .i64 (1)
    | 4 => v = .bool true
    | 5 => v = .bool true
    | 6 => v = .bool true
    | 7 => v = undef
    | 8 => v = undef
    | 9 => v = undef
    | 10 => v = undef
    | 11 => v = undef
    | 12 => v = undef
    | 13 => v = undef
    | 14 => v = undef
    | 15 => v = undef
    | 16 => v = undef
    | 17 => v = undef
    | 18 => v = undef
    | 19 => v = .bool true
    | _ => True) j u W → (fun (i : Nat) (v : Value) (W : World) => match i with
    | 0 => v = .int .i64 (aa : Int)
    | 1 => v = .bool false
    | 2 => v = .bool false
    | 3 => v = .int .i64 (1)
    | 4 => v = .bool true
    | 5 => v = .bool true
    | 6 => v = .bool true
    | 7 => v = undef
    | 8 => v = undef
    | 9 => v = undef
    | 10 => v = undef
    | 11 => v = undef
    | 12 => v = undef
    | 13 => v = undef
    | 14 => v = undef
    | 15 => v = undef
    | 16 => v = undef
    | 17 => v = undef
    | 18 => v = undef
    | 19 => v = .bool true
    | _ => True) j u W' := by
    intro W W' j u hX h
    match j, h with
    | 0, h => exact h
    | 1, h => exact h
    | 2, h => exact h
    | 3, h => exact h
    | 4, h => exact h
    | 5, h => exact h
    | 6, h => exact h
    | 7, h => exact h
    | 8, h => exact h
    | 9, h => exact h
    | 10, h => exact h
    | 11, h => exact h
    | 12, h => exact h
    | 13, h => exact h
    | 14, h => exact h
    | 15, h => exact h
    | 16, h => exact h
    | 17, h => exact h
    | 18, h => exact h
    | 19, h => exact h
    | _ + 20, h => exact h
  have hsz : ∀ d, some d ∈ ([some 27, some 28, some 29, some 30, some 31, some 32, some 33, some 34, some 35, some 36, some 37, some 38, some 39, some 40, some 41, some 42, some 43, some 44, some 45, some 46] : List (Option Tmp)) → d < a.tmps.size := slots_lt (by decide) hsize
  refine wp_region_j 20 [some 27, some 28, some 29, some 30, some 31, some 32, some 33, some 34, some 35, some 36, some 37, some 38, some 39, some 40, some 41, some 42, some 43, some 44, some 45, some 46] [[], [0], [1], [2], [2, 3], [2, 4], [5], [6], [6, 7], [6, 8], [9], [9], [9, 11], [9], [9, 12, 13], [9, 14], [9, 10, 15], [9, 16], [6, 9, 17], [6, 18]] [[], [], [], [], [], [], [], [], [], [], [], [], [], [], [], [], [], [], [], []] (fun (i : Nat) (v : Value) (W : World) => match i with
    | 0 => v = .int .i64 (aa : Int)
    | 1 => v = .bool false
    | 2 => v = .bool false
    | 3 => v = .int .i64 (1)
    | 4 => v = .bool true
    | 5 => v = .bool true
    | 6 => v = .bool true
    | 7 => v = undef
    | 8 => v = undef
    | 9 => v = undef
    | 10 => v = undef
    | 11 => v = undef
    | 12 => v = undef
    | 13 => v = undef
    | 14 => v = undef
    | 15 => v = undef
    | 16 => v = undef
    | 17 => v = undef
    | 18 => v = undef
    | 19 => v = .bool true
    | _ => True) (fun _ W => Ext w W) (by kernel_rfl) (by kernel_rfl) hsz (fun _ _ _ _ h => h) ((Ext.refl w).drew) ?_ ?_
  · clear hend
    simp only [rops, Try.f152, regOf, Option.bind_some, Nat.reduceBEq, if_true, if_false, Bool.false_eq_true, Option.getD_some]
    simp only [List.take_succ_cons, List.take_zero]
    refine ⟨?_, ?_, ?_, ?_, ?_, ?_, ?_, ?_, ?_, ?_, ?_, ?_, ?_, ?_, ?_, ?_, ?_, ?_, ?_, ?_, trivial⟩
    · intro done us W hJ hdep haft hnot b hb hb' K hK Q'
      have e6 := (hb' 6 (by simp)).trans s6
      clear hb hb'
      go_simp
      exact hK _ _ rfl (fun _ _ _ h => h) hJ
    · intro done us W hJ hdep haft hnot b hb hb' K hK Q'
      simp only [List.getD_cons_succ, List.getD_cons_zero, List.mem_cons, List.not_mem_nil, or_false, forall_eq] at hdep
      have e27 := hb 0 27 rfl
      have d0 := hdep
      rw [d0.1] at e27
      clear hb hb' hdep d0
      go_simp
      exact hK _ _ rfl (fun _ _ _ h => h) hJ
    · intro done us W hJ hdep haft hnot b hb hb' K hK Q'
      simp only [List.getD_cons_succ, List.getD_cons_zero, List.mem_cons, List.not_mem_nil, or_false, forall_eq] at hdep
      have e28 := hb 1 28 rfl
      have d1 := hdep
      rw [d1.1] at e28
      clear hb hb' hdep d1
      go_simp
      exact hK _ _ rfl (fun _ _ _ h => h) hJ
    · intro done us W hJ hdep haft hnot b hb hb' K hK Q'
      simp only [List.getD_cons_succ, List.getD_cons_zero, List.mem_cons, List.not_mem_nil, or_false, forall_eq] at hdep
      have e11 := (hb' 11 (by simp)).trans s11
      have e29 := hb 2 29 rfl
      have d2 := hdep
      rw [d2.1] at e29
      clear hb hb' hdep d2
      go_simp
      exact hK _ _ rfl (fun _ _ _ h => h) hJ
    · intro done us W hJ hdep haft hnot b hb hb' K hK Q'
      simp only [List.getD_cons_succ, List.getD_cons_zero, List.mem_cons, List.not_mem_nil, or_false, forall_eq_or_imp, forall_eq] at hdep
      have e29 := hb 2 29 rfl
      have e30 := hb 3 30 rfl
      have d2 := hdep.1
      have d3 := hdep.2
      rw [d2.1] at e29
      rw [d3.1] at e30
      clear hb hb' hdep d2 d3
      go_simp
      exact hK _ _ rfl (fun _ _ _ h => h) hJ
    · intro done us W hJ hdep haft hnot b hb hb' K hK Q'
      simp only [List.getD_cons_succ, List.getD_cons_zero, List.mem_cons, List.not_mem_nil, or_false, forall_eq_or_imp, forall_eq] at hdep
      have e29 := hb 2 29 rfl
      have e31 := hb 4 31 rfl
      have d2 := hdep.1
      have d4 := hdep.2
      rw [d2.1] at e29
      rw [d4.1] at e31
      clear hb hb' hdep d2 d4
      go_simp
      exact hK _ _ rfl (fun _ _ _ h => h) hJ
    · intro done us W hJ hdep haft hnot b hb hb' K hK Q'
      simp only [List.getD_cons_succ, List.getD_cons_zero, List.mem_cons, List.not_mem_nil, or_false, forall_eq] at hdep
      have e32 := hb 5 32 rfl
      have d5 := hdep
      rw [d5.1] at e32
      clear hb hb' hdep d5
      go_simp
      exact hK _ _ rfl (fun _ _ _ h => h) hJ
    · intro done us W hJ hdep haft hnot b hb hb' K hK Q'
      simp only [List.getD_cons_succ, List.getD_cons_zero, List.mem_cons, List.not_mem_nil, or_false, forall_eq] at hdep
      have e11 := (hb' 11 (by simp)).trans s11
      have e33 := hb 6 33 rfl
      have d6 := hdep
      rw [d6.1] at e33
      clear hb hb' hdep d6
      go_simp
      exact hK _ _ rfl (fun _ _ _ h => h) hJ
    · intro done us W hJ hdep haft hnot b hb hb' K hK Q'
      simp only [List.getD_cons_succ, List.getD_cons_zero, List.mem_cons, List.not_mem_nil, or_false, forall_eq_or_imp, forall_eq] at hdep
      have e33 := hb 6 33 rfl
      have e34 := hb 7 34 rfl
      have d6 := hdep.1
      have d7 := hdep.2
      rw [d6.1] at e33
      rw [d7.1] at e34
      clear hb hb' hdep d6 d7
      go_simp
      exact hK _ _ rfl (fun _ _ _ h => h) hJ
    · intro done us W hJ hdep haft hnot b hb hb' K hK Q'
      simp only [List.getD_cons_succ, List.getD_cons_zero, List.mem_cons, List.not_mem_nil, or_false, forall_eq_or_imp, forall_eq] at hdep
      have e33 := hb 6 33 rfl
      have e35 := hb 8 35 rfl
      have d6 := hdep.1
      have d8 := hdep.2
      rw [d6.1] at e33
      rw [d8.1] at e35
      clear hb hb' hdep d6 d8
      go_simp
      exact hK _ _ rfl (fun _ _ _ h => h) hJ
    · intro done us W hJ hdep haft hnot b hb hb' K hK Q'
      simp only [List.getD_cons_succ, List.getD_cons_zero, List.mem_cons, List.not_mem_nil, or_false, forall_eq] at hdep
      have e9 := (hb' 9 (by simp)).trans s9
      have e36 := hb 9 36 rfl
      have d9 := hdep
      rw [d9.1] at e36
      clear hb hb' hdep d9
      go_simp
      exact hK _ _ rfl (fun _ _ _ h => h) hJ
    · intro done us W hJ hdep haft hnot b hb hb' K hK Q'
      simp only [List.getD_cons_succ, List.getD_cons_zero, List.mem_cons, List.not_mem_nil, or_false, forall_eq] at hdep
      have e3 := (hb' 3 (by simp)).trans s3
      have e36 := hb 9 36 rfl
      have d9 := hdep
      rw [d9.1] at e36
      clear hb hb' hdep d9
      go_simp
      exact hK _ _ rfl (fun _ _ _ h => h) hJ
    · intro done us W hJ hdep haft hnot b hb hb' K hK Q'
      simp only [List.getD_cons_succ, List.getD_cons_zero, List.mem_cons, List.not_mem_nil, or_false, forall_eq_or_imp, forall_eq] at hdep
      have e36 := hb 9 36 rfl
      have e38 := hb 11 38 rfl
      have d9 := hdep.1
      have d11 := hdep.2
      rw [d9.1] at e36
      rw [d11.1] at e38
      clear hb hb' hdep d9 d11
      go_simp
      exact hK _ _ rfl (fun _ _ _ h => h) hJ
    · intro done us W hJ hdep haft hnot b hb hb' K hK Q'
      simp only [List.getD_cons_succ, List.getD_cons_zero, List.mem_cons, List.not_mem_nil, or_false, forall_eq] at hdep
      have e6 := (hb' 6 (by simp)).trans s6
      have e36 := hb 9 36 rfl
      have d9 := hdep
      rw [d9.1] at e36
      clear hb hb' hdep d9
      go_simp
      exact hK _ _ rfl (fun _ _ _ h => h) hJ
    · intro done us W hJ hdep haft hnot b hb hb' K hK Q'
      simp only [List.getD_cons_succ, List.getD_cons_zero, List.mem_cons, List.not_mem_nil, or_false, forall_eq_or_imp, forall_eq] at hdep
      have e36 := hb 9 36 rfl
      have e39 := hb 12 39 rfl
      have e40 := hb 13 40 rfl
      have d9 := hdep.1
      have d12 := hdep.2.1
      have d13 := hdep.2.2
      rw [d9.1] at e36
      rw [d12.1] at e39
      rw [d13.1] at e40
      clear hb hb' hdep d9 d12 d13
      go_simp
      exact hK _ _ rfl (fun _ _ _ h => h) hJ
    · intro done us W hJ hdep haft hnot b hb hb' K hK Q'
      simp only [List.getD_cons_succ, List.getD_cons_zero, List.mem_cons, List.not_mem_nil, or_false, forall_eq_or_imp, forall_eq] at hdep
      have e36 := hb 9 36 rfl
      have e41 := hb 14 41 rfl
      have d9 := hdep.1
      have d14 := hdep.2
      rw [d9.1] at e36
      rw [d14.1] at e41
      clear hb hb' hdep d9 d14
      go_simp
      exact hK _ _ rfl (fun _ _ _ h => h) hJ
    · intro done us W hJ hdep haft hnot b hb hb' K hK Q'
      simp only [List.getD_cons_succ, List.getD_cons_zero, List.mem_cons, List.not_mem_nil, or_false, forall_eq_or_imp, forall_eq] at hdep
      have e36 := hb 9 36 rfl
      have e37 := hb 10 37 rfl
      have e42 := hb 15 42 rfl
      have d9 := hdep.1
      have d10 := hdep.2.1
      have d15 := hdep.2.2
      rw [d9.1] at e36
      rw [d10.1] at e37
      rw [d15.1] at e42
      clear hb hb' hdep d9 d10 d15
      go_simp
      exact hK _ _ rfl (fun _ _ _ h => h) hJ
    · intro done us W hJ hdep haft hnot b hb hb' K hK Q'
      simp only [List.getD_cons_succ, List.getD_cons_zero, List.mem_cons, List.not_mem_nil, or_false, forall_eq_or_imp, forall_eq] at hdep
      have e36 := hb 9 36 rfl
      have e43 := hb 16 43 rfl
      have d9 := hdep.1
      have d16 := hdep.2
      rw [d9.1] at e36
      rw [d16.1] at e43
      clear hb hb' hdep d9 d16
      go_simp
      exact hK _ _ rfl (fun _ _ _ h => h) hJ
    · intro done us W hJ hdep haft hnot b hb hb' K hK Q'
      simp only [List.getD_cons_succ, List.getD_cons_zero, List.mem_cons, List.not_mem_nil, or_false, forall_eq_or_imp, forall_eq] at hdep
      have e33 := hb 6 33 rfl
      have e36 := hb 9 36 rfl
      have e44 := hb 17 44 rfl
      have d6 := hdep.1
      have d9 := hdep.2.1
      have d17 := hdep.2.2
      rw [d6.1] at e33
      rw [d9.1] at e36
      rw [d17.1] at e44
      clear hb hb' hdep d6 d9 d17
      go_simp
      exact hK _ _ rfl (fun _ _ _ h => h) hJ
    · intro done us W hJ hdep haft hnot b hb hb' K hK Q'
      simp only [List.getD_cons_succ, List.getD_cons_zero, List.mem_cons, List.not_mem_nil, or_false, forall_eq_or_imp, forall_eq] at hdep
      have e33 := hb 6 33 rfl
      have e45 := hb 18 45 rfl
      have d6 := hdep.1
      have d18 := hdep.2
      rw [d6.1] at e33
      rw [d18.1] at e45
      clear hb hb' hdep d6 d18
      go_simp
      exact hK _ _ rfl (fun _ _ _ h => h) hJ
  · intro us W hV hJ
    exact hend (us 0) (us 1) (us 2) (us 3) (us 4) (us 5) (us 6) (us 7) (us 8) (us 9) (us 10) (us 11) (us 12) (us 13) (us 14) (us 15) (us 16) (us 17) (us 18) (us 19) W (hV 0 (by omega)) (hV 1 (by omega)) (hV 2 (by omega)) (hV 3 (by omega)) (hV 4 (by omega)) (hV 5 (by omega)) (hV 6 (by omega)) (hV 7 (by omega)) (hV 8 (by omega)) (hV 9 (by omega)) (hV 10 (by omega)) (hV 11 (by omega)) (hV 12 (by omega)) (hV 13 (by omega)) (hV 14 (by omega)) (hV 15 (by omega)) (hV 16 (by omega)) (hV 17 (by omega)) (hV 18 (by omega)) (hV 19 (by omega)) hJ
set_option maxRecDepth 100000 in
set_option maxHeartbeats 2000000 in
theorem wor_r7c (gm gp aa : Nat) (w : World) (h0 : decide ((aa : Int) < 0) = false) (a : Act) (Q : Exit → Act → World → Prop) (hsize : 47 ≤ a.tmps.size)
    (s3 : a.tmps[3]? = some (.pointer (some ⟨gp, 0, none⟩)))
    (s6 : a.tmps[6]? = some (.int .i64 (aa : Int)))
    (s9 : a.tmps[9]? = some (.pointer (some ⟨gm, 0, none⟩)))
    (s11 : a.tmps[11]? = some (.int .i64 (-1)))
    (hend : ∀ (xv0 xv1 xv2 xv3 xv4 xv5 xv6 xv7 xv8 xv9 xv10 xv11 xv12 xv13 xv14 xv15 xv16 xv17 xv18 xv19 : Value) (W : World), (xv0 = .int .i64 (aa : Int)) → (xv1 = .bool false) → (xv2 = .bool false) → (xv3 = .int .i64 (-1)) → (xv4 = .bool false) → (xv5 = .bool false) → (xv6 = .bool false) → (xv7 = .int .i64 (-1)) → (xv8 = .bool false) → (xv9 = .bool false) → (xv10 = undef) → (xv11 = undef) → (xv12 = undef) → (xv13 = undef) → (xv14 = undef) → (xv15 = undef) → (xv16 = undef) → (xv17 = undef) → (xv18 = .bool false) → (xv19 = .bool false) → Ext w W → wpList Try.prog (rops Try.f152 7).toArray Q ((rops Try.f152 7).drop 20) ((((((((((((((((((((a.put (some 27) xv0).put (some 28) xv1).put (some 29) xv2).put (some 30) xv3).put (some 31) xv4).put (some 32) xv5).put (some 33) xv6).put (some 34) xv7).put (some 35) xv8).put (some 36) xv9).put (some 37) xv10).put (some 38) xv11).put (some 39) xv12).put (some 40) xv13).put (some 41) xv14).put (some 42) xv15).put (some 43) xv16).put (some 44) xv17).put (some 45) xv18).put (some 46) xv19) W) :
    (Code.region 7 (rops Try.f152 7).toArray true).wp Try.prog Q a w := by
  have hmono : ∀ (W W' : World) (j : Nat) (u : Value), Ext W W' → (fun (i : Nat) (v : Value) (W : World) => match i with
    | 0 => v = .int .i64 (aa : Int)
    | 1 => v = .bool false
    | 2 => v = .bool false
    | 3 => v = .int .i64 (-1)
    | 4 => v = .bool false
    | 5 => v = .bool false
    | 6 => v = .bool false
    | 7 => v = .int .i64 (-1)
    | 8 => v = .bool false
    | 9 => v = .bool false
    | 10 => v = undef
    | 11 => v = undef
    | 12 => v = undef
    | 13 => v = undef
    | 14 => v = undef
    | 15 => v = undef
    | 16 => v = undef
    | 17 => v = undef
    | 18 => v = .bool false
    | 19 => v = .bool false
    | _ => True) j u W → (fun (i : Nat) (v : Value) (W : World) => match i with
    | 0 => v = .int .i64 (aa : Int)
    | 1 => v = .bool false
    | 2 => v = .bool false
    | 3 => v = .int .i64 (-1)
    | 4 => v = .bool false
    | 5 => v = .bool false
    | 6 => v = .bool false
    | 7 => v = .int .i64 (-1)
    | 8 => v = .bool false
    | 9 => v = .bool false
    | 10 => v = undef
    | 11 => v = undef
    | 12 => v = undef
    | 13 => v = undef
    | 14 => v = undef
    | 15 => v = undef
    | 16 => v = undef
    | 17 => v = undef
    | 18 => v = .bool false
    | 19 => v = .bool false
    | _ => True) j u W' := by
    intro W W' j u hX h
    match j, h with
    | 0, h => exact h
    | 1, h => exact h
    | 2, h => exact h
    | 3, h => exact h
    | 4, h => exact h
    | 5, h => exact h
    | 6, h => exact h
    | 7, h => exact h
    | 8, h => exact h
    | 9, h => exact h
    | 10, h => exact h
    | 11, h => exact h
    | 12, h => exact h
    | 13, h => exact h
    | 14, h => exact h
    | 15, h => exact h
    | 16, h => exact h
    | 17, h => exact h
    | 18, h => exact h
    | 19, h => exact h
    | _ + 20, h => exact h
  have hsz : ∀ d, some d ∈ ([some 27, some 28, some 29, some 30, some 31, some 32, some 33, some 34, some 35, some 36, some 37, some 38, some 39, some 40, some 41, some 42, some 43, some 44, some 45, some 46] : List (Option Tmp)) → d < a.tmps.size := slots_lt (by decide) hsize
  refine wp_region_j 20 [some 27, some 28, some 29, some 30, some 31, some 32, some 33, some 34, some 35, some 36, some 37, some 38, some 39, some 40, some 41, some 42, some 43, some 44, some 45, some 46] [[], [0], [1], [2], [2, 3], [2, 4], [5], [6], [6, 7], [6, 8], [9], [9], [9, 11], [9], [9, 12, 13], [9, 14], [9, 10, 15], [9, 16], [6, 9, 17], [6, 18]] [[], [], [], [], [], [], [], [], [], [], [], [], [], [], [], [], [], [], [], []] (fun (i : Nat) (v : Value) (W : World) => match i with
    | 0 => v = .int .i64 (aa : Int)
    | 1 => v = .bool false
    | 2 => v = .bool false
    | 3 => v = .int .i64 (-1)
    | 4 => v = .bool false
    | 5 => v = .bool false
    | 6 => v = .bool false
    | 7 => v = .int .i64 (-1)
    | 8 => v = .bool false
    | 9 => v = .bool false
    | 10 => v = undef
    | 11 => v = undef
    | 12 => v = undef
    | 13 => v = undef
    | 14 => v = undef
    | 15 => v = undef
    | 16 => v = undef
    | 17 => v = undef
    | 18 => v = .bool false
    | 19 => v = .bool false
    | _ => True) (fun _ W => Ext w W) (by kernel_rfl) (by kernel_rfl) hsz (fun _ _ _ _ h => h) ((Ext.refl w).drew) ?_ ?_
  · clear hend
    simp only [rops, Try.f152, regOf, Option.bind_some, Nat.reduceBEq, if_true, if_false, Bool.false_eq_true, Option.getD_some]
    simp only [List.take_succ_cons, List.take_zero]
    refine ⟨?_, ?_, ?_, ?_, ?_, ?_, ?_, ?_, ?_, ?_, ?_, ?_, ?_, ?_, ?_, ?_, ?_, ?_, ?_, ?_, trivial⟩
    · intro done us W hJ hdep haft hnot b hb hb' K hK Q'
      have e6 := (hb' 6 (by simp)).trans s6
      clear hb hb'
      go_simp
      exact hK _ _ rfl (fun _ _ _ h => h) hJ
    · intro done us W hJ hdep haft hnot b hb hb' K hK Q'
      simp only [List.getD_cons_succ, List.getD_cons_zero, List.mem_cons, List.not_mem_nil, or_false, forall_eq] at hdep
      have e27 := hb 0 27 rfl
      have d0 := hdep
      rw [d0.1] at e27
      clear hb hb' hdep d0
      go_simp
      exact hK _ _ rfl (fun _ _ _ h => h) hJ
    · intro done us W hJ hdep haft hnot b hb hb' K hK Q'
      simp only [List.getD_cons_succ, List.getD_cons_zero, List.mem_cons, List.not_mem_nil, or_false, forall_eq] at hdep
      have e28 := hb 1 28 rfl
      have d1 := hdep
      rw [d1.1] at e28
      clear hb hb' hdep d1
      go_simp
      exact hK _ _ rfl (fun _ _ _ h => h) hJ
    · intro done us W hJ hdep haft hnot b hb hb' K hK Q'
      simp only [List.getD_cons_succ, List.getD_cons_zero, List.mem_cons, List.not_mem_nil, or_false, forall_eq] at hdep
      have e11 := (hb' 11 (by simp)).trans s11
      have e29 := hb 2 29 rfl
      have d2 := hdep
      rw [d2.1] at e29
      clear hb hb' hdep d2
      go_simp
      exact hK _ _ rfl (fun _ _ _ h => h) hJ
    · intro done us W hJ hdep haft hnot b hb hb' K hK Q'
      simp only [List.getD_cons_succ, List.getD_cons_zero, List.mem_cons, List.not_mem_nil, or_false, forall_eq_or_imp, forall_eq] at hdep
      have e29 := hb 2 29 rfl
      have e30 := hb 3 30 rfl
      have d2 := hdep.1
      have d3 := hdep.2
      rw [d2.1] at e29
      rw [d3.1] at e30
      clear hb hb' hdep d2 d3
      go_simp
      exact hK _ _ rfl (fun _ _ _ h => h) hJ
    · intro done us W hJ hdep haft hnot b hb hb' K hK Q'
      simp only [List.getD_cons_succ, List.getD_cons_zero, List.mem_cons, List.not_mem_nil, or_false, forall_eq_or_imp, forall_eq] at hdep
      have e29 := hb 2 29 rfl
      have e31 := hb 4 31 rfl
      have d2 := hdep.1
      have d4 := hdep.2
      rw [d2.1] at e29
      rw [d4.1] at e31
      clear hb hb' hdep d2 d4
      go_simp
      exact hK _ _ rfl (fun _ _ _ h => h) hJ
    · intro done us W hJ hdep haft hnot b hb hb' K hK Q'
      simp only [List.getD_cons_succ, List.getD_cons_zero, List.mem_cons, List.not_mem_nil, or_false, forall_eq] at hdep
      have e32 := hb 5 32 rfl
      have d5 := hdep
      rw [d5.1] at e32
      clear hb hb' hdep d5
      go_simp
      exact hK _ _ rfl (fun _ _ _ h => h) hJ
    · intro done us W hJ hdep haft hnot b hb hb' K hK Q'
      simp only [List.getD_cons_succ, List.getD_cons_zero, List.mem_cons, List.not_mem_nil, or_false, forall_eq] at hdep
      have e11 := (hb' 11 (by simp)).trans s11
      have e33 := hb 6 33 rfl
      have d6 := hdep
      rw [d6.1] at e33
      clear hb hb' hdep d6
      go_simp
      exact hK _ _ rfl (fun _ _ _ h => h) hJ
    · intro done us W hJ hdep haft hnot b hb hb' K hK Q'
      simp only [List.getD_cons_succ, List.getD_cons_zero, List.mem_cons, List.not_mem_nil, or_false, forall_eq_or_imp, forall_eq] at hdep
      have e33 := hb 6 33 rfl
      have e34 := hb 7 34 rfl
      have d6 := hdep.1
      have d7 := hdep.2
      rw [d6.1] at e33
      rw [d7.1] at e34
      clear hb hb' hdep d6 d7
      go_simp
      exact hK _ _ rfl (fun _ _ _ h => h) hJ
    · intro done us W hJ hdep haft hnot b hb hb' K hK Q'
      simp only [List.getD_cons_succ, List.getD_cons_zero, List.mem_cons, List.not_mem_nil, or_false, forall_eq_or_imp, forall_eq] at hdep
      have e33 := hb 6 33 rfl
      have e35 := hb 8 35 rfl
      have d6 := hdep.1
      have d8 := hdep.2
      rw [d6.1] at e33
      rw [d8.1] at e35
      clear hb hb' hdep d6 d8
      go_simp
      exact hK _ _ rfl (fun _ _ _ h => h) hJ
    · intro done us W hJ hdep haft hnot b hb hb' K hK Q'
      simp only [List.getD_cons_succ, List.getD_cons_zero, List.mem_cons, List.not_mem_nil, or_false, forall_eq] at hdep
      have e9 := (hb' 9 (by simp)).trans s9
      have e36 := hb 9 36 rfl
      have d9 := hdep
      rw [d9.1] at e36
      clear hb hb' hdep d9
      go_simp
      exact hK _ _ rfl (fun _ _ _ h => h) hJ
    · intro done us W hJ hdep haft hnot b hb hb' K hK Q'
      simp only [List.getD_cons_succ, List.getD_cons_zero, List.mem_cons, List.not_mem_nil, or_false, forall_eq] at hdep
      have e3 := (hb' 3 (by simp)).trans s3
      have e36 := hb 9 36 rfl
      have d9 := hdep
      rw [d9.1] at e36
      clear hb hb' hdep d9
      go_simp
      exact hK _ _ rfl (fun _ _ _ h => h) hJ
    · intro done us W hJ hdep haft hnot b hb hb' K hK Q'
      simp only [List.getD_cons_succ, List.getD_cons_zero, List.mem_cons, List.not_mem_nil, or_false, forall_eq_or_imp, forall_eq] at hdep
      have e36 := hb 9 36 rfl
      have e38 := hb 11 38 rfl
      have d9 := hdep.1
      have d11 := hdep.2
      rw [d9.1] at e36
      rw [d11.1] at e38
      clear hb hb' hdep d9 d11
      go_simp
      exact hK _ _ rfl (fun _ _ _ h => h) hJ
    · intro done us W hJ hdep haft hnot b hb hb' K hK Q'
      simp only [List.getD_cons_succ, List.getD_cons_zero, List.mem_cons, List.not_mem_nil, or_false, forall_eq] at hdep
      have e6 := (hb' 6 (by simp)).trans s6
      have e36 := hb 9 36 rfl
      have d9 := hdep
      rw [d9.1] at e36
      clear hb hb' hdep d9
      go_simp
      exact hK _ _ rfl (fun _ _ _ h => h) hJ
    · intro done us W hJ hdep haft hnot b hb hb' K hK Q'
      simp only [List.getD_cons_succ, List.getD_cons_zero, List.mem_cons, List.not_mem_nil, or_false, forall_eq_or_imp, forall_eq] at hdep
      have e36 := hb 9 36 rfl
      have e39 := hb 12 39 rfl
      have e40 := hb 13 40 rfl
      have d9 := hdep.1
      have d12 := hdep.2.1
      have d13 := hdep.2.2
      rw [d9.1] at e36
      rw [d12.1] at e39
      rw [d13.1] at e40
      clear hb hb' hdep d9 d12 d13
      go_simp
      exact hK _ _ rfl (fun _ _ _ h => h) hJ
    · intro done us W hJ hdep haft hnot b hb hb' K hK Q'
      simp only [List.getD_cons_succ, List.getD_cons_zero, List.mem_cons, List.not_mem_nil, or_false, forall_eq_or_imp, forall_eq] at hdep
      have e36 := hb 9 36 rfl
      have e41 := hb 14 41 rfl
      have d9 := hdep.1
      have d14 := hdep.2
      rw [d9.1] at e36
      rw [d14.1] at e41
      clear hb hb' hdep d9 d14
      go_simp
      exact hK _ _ rfl (fun _ _ _ h => h) hJ
    · intro done us W hJ hdep haft hnot b hb hb' K hK Q'
      simp only [List.getD_cons_succ, List.getD_cons_zero, List.mem_cons, List.not_mem_nil, or_false, forall_eq_or_imp, forall_eq] at hdep
      have e36 := hb 9 36 rfl
      have e37 := hb 10 37 rfl
      have e42 := hb 15 42 rfl
      have d9 := hdep.1
      have d10 := hdep.2.1
      have d15 := hdep.2.2
      rw [d9.1] at e36
      rw [d10.1] at e37
      rw [d15.1] at e42
      clear hb hb' hdep d9 d10 d15
      go_simp
      exact hK _ _ rfl (fun _ _ _ h => h) hJ
    · intro done us W hJ hdep haft hnot b hb hb' K hK Q'
      simp only [List.getD_cons_succ, List.getD_cons_zero, List.mem_cons, List.not_mem_nil, or_false, forall_eq_or_imp, forall_eq] at hdep
      have e36 := hb 9 36 rfl
      have e43 := hb 16 43 rfl
      have d9 := hdep.1
      have d16 := hdep.2
      rw [d9.1] at e36
      rw [d16.1] at e43
      clear hb hb' hdep d9 d16
      go_simp
      exact hK _ _ rfl (fun _ _ _ h => h) hJ
    · intro done us W hJ hdep haft hnot b hb hb' K hK Q'
      simp only [List.getD_cons_succ, List.getD_cons_zero, List.mem_cons, List.not_mem_nil, or_false, forall_eq_or_imp, forall_eq] at hdep
      have e33 := hb 6 33 rfl
      have e36 := hb 9 36 rfl
      have e44 := hb 17 44 rfl
      have d6 := hdep.1
      have d9 := hdep.2.1
      have d17 := hdep.2.2
      rw [d6.1] at e33
      rw [d9.1] at e36
      rw [d17.1] at e44
      clear hb hb' hdep d6 d9 d17
      go_simp
      exact hK _ _ rfl (fun _ _ _ h => h) hJ
    · intro done us W hJ hdep haft hnot b hb hb' K hK Q'
      simp only [List.getD_cons_succ, List.getD_cons_zero, List.mem_cons, List.not_mem_nil, or_false, forall_eq_or_imp, forall_eq] at hdep
      have e33 := hb 6 33 rfl
      have e45 := hb 18 45 rfl
      have d6 := hdep.1
      have d18 := hdep.2
      rw [d6.1] at e33
      rw [d18.1] at e45
      clear hb hb' hdep d6 d18
      go_simp
      exact hK _ _ rfl (fun _ _ _ h => h) hJ
  · intro us W hV hJ
    exact hend (us 0) (us 1) (us 2) (us 3) (us 4) (us 5) (us 6) (us 7) (us 8) (us 9) (us 10) (us 11) (us 12) (us 13) (us 14) (us 15) (us 16) (us 17) (us 18) (us 19) W (hV 0 (by omega)) (hV 1 (by omega)) (hV 2 (by omega)) (hV 3 (by omega)) (hV 4 (by omega)) (hV 5 (by omega)) (hV 6 (by omega)) (hV 7 (by omega)) (hV 8 (by omega)) (hV 9 (by omega)) (hV 10 (by omega)) (hV 11 (by omega)) (hV 12 (by omega)) (hV 13 (by omega)) (hV 14 (by omega)) (hV 15 (by omega)) (hV 16 (by omega)) (hV 17 (by omega)) (hV 18 (by omega)) (hV 19 (by omega)) hJ
set_option maxRecDepth 100000 in
set_option maxHeartbeats 2000000 in
theorem wor_r7d (gm gp gq oq nn cc aa : Nat) (ma mb mx my mz md mw na nb nx ny nz nd nw : Int) (er : Bool) (w : World) (v0 : w.cell? ⟨gm, 0, none⟩ = some (.int .i64 (ma))) (v1 : w.cell? ⟨gm, 1, none⟩ = some (.int .i64 (mb))) (v2 : w.cell? ⟨gm, 2, none⟩ = some (.int .i64 (mx))) (v3 : w.cell? ⟨gm, 3, none⟩ = some (.int .i64 (my))) (v4 : w.cell? ⟨gm, 4, none⟩ = some (.int .i64 (mz))) (v5 : w.cell? ⟨gm, 5, none⟩ = some (.int .i64 (md))) (v6 : w.cell? ⟨gm, 6, none⟩ = some (.int .i64 (mw))) (n0 : w.cell? ⟨gq, oq + aa * 7, none⟩ = some (.int .i64 (na))) (n1 : w.cell? ⟨gq, oq + aa * 7 + 1, none⟩ = some (.int .i64 (nb))) (n2 : w.cell? ⟨gq, oq + aa * 7 + 2, none⟩ = some (.int .i64 (nx))) (n3 : w.cell? ⟨gq, oq + aa * 7 + 3, none⟩ = some (.int .i64 (ny))) (n4 : w.cell? ⟨gq, oq + aa * 7 + 4, none⟩ = some (.int .i64 (nz))) (n5 : w.cell? ⟨gq, oq + aa * 7 + 5, none⟩ = some (.int .i64 (nd))) (n6 : w.cell? ⟨gq, oq + aa * 7 + 6, none⟩ = some (.int .i64 (nw))) (p1 : w.cell? ⟨gp, 1, none⟩ = some (.slice (some ⟨gq, oq, none⟩) nn cc)) (han : aa < nn) (h0 : decide ((aa : Int) < 0) = false) (her : Hid (erl ⟨ma, mb, mx, my, mz, md, mw⟩ ⟨na, nb, nx, ny, nz, nd, nw⟩ = er)) (a : Act) (Q : Exit → Act → World → Prop) (hsize : 47 ≤ a.tmps.size)
    (s3 : a.tmps[3]? = some (.pointer (some ⟨gp, 0, none⟩)))
    (s6 : a.tmps[6]? = some (.int .i64 (aa : Int)))
    (s9 : a.tmps[9]? = some (.pointer (some ⟨gm, 0, none⟩)))
    (s11 : a.tmps[11]? = some (.int .i64 (0)))
    (hend : ∀ (xv0 xv1 xv2 xv3 xv4 xv5 xv6 xv7 xv8 xv9 xv10 xv11 xv12 xv13 xv14 xv15 xv16 xv17 xv18 xv19 : Value) (W : World), (xv0 = .int .i64 (aa : Int)) → (xv1 = .bool false) → (xv2 = .bool false) → (xv3 = .int .i64 (0)) → (xv4 = .bool false) → (xv5 = .bool false) → (xv6 = .bool false) → (xv7 = .int .i64 (0)) → (xv8 = .bool true) → (xv9 = .bool true) → (xv10 = .agg #[.int .i64 (ma), .int .i64 (mb), .int .i64 (mx), .int .i64 (my), .int .i64 (mz), .int .i64 (md), .int .i64 (mw)]) → (xv11 = .pointer (some ⟨gp, 1, none⟩)) → (xv12 = .slice (some ⟨gq, oq, none⟩) nn cc) → (xv13 = .int .i64 (aa : Int)) → (xv14 = .pointer (some ⟨gq, oq + aa * 7, none⟩)) → (xv15 = .agg #[.int .i64 (na), .int .i64 (nb), .int .i64 (nx), .int .i64 (ny), .int .i64 (nz), .int .i64 (nd), .int .i64 (nw)]) → (∃ r : Int, xv16 = .int .i64 r ∧ decide (r < 0) = er) → (xv17 = .bool er) → (xv18 = .bool er) → (xv19 = .bool er) → Ext w W → wpList Try.prog (rops Try.f152 7).toArray Q ((rops Try.f152 7).drop 20) ((((((((((((((((((((a.put (some 27) xv0).put (some 28) xv1).put (some 29) xv2).put (some 30) xv3).put (some 31) xv4).put (some 32) xv5).put (some 33) xv6).put (some 34) xv7).put (some 35) xv8).put (some 36) xv9).put (some 37) xv10).put (some 38) xv11).put (some 39) xv12).put (some 40) xv13).put (some 41) xv14).put (some 42) xv15).put (some 43) xv16).put (some 44) xv17).put (some 45) xv18).put (some 46) xv19) W) :
    (Code.region 7 (rops Try.f152 7).toArray true).wp Try.prog Q a w := by
  have hmono : ∀ (W W' : World) (j : Nat) (u : Value), Ext W W' → (fun (i : Nat) (v : Value) (W : World) => match i with
    | 0 => v = .int .i64 (aa : Int)
    | 1 => v = .bool false
    | 2 => v = .bool false
    | 3 => v = .int .i64 (0)
    | 4 => v = .bool false
    | 5 => v = .bool false
    | 6 => v = .bool false
    | 7 => v = .int .i64 (0)
    | 8 => v = .bool true
    | 9 => v = .bool true
    | 10 => v = .agg #[.int .i64 (ma), .int .i64 (mb), .int .i64 (mx), .int .i64 (my), .int .i64 (mz), .int .i64 (md), .int .i64 (mw)]
    | 11 => v = .pointer (some ⟨gp, 1, none⟩)
    | 12 => v = .slice (some ⟨gq, oq, none⟩) nn cc
    | 13 => v = .int .i64 (aa : Int)
    | 14 => v = .pointer (some ⟨gq, oq + aa * 7, none⟩)
    | 15 => v = .agg #[.int .i64 (na), .int .i64 (nb), .int .i64 (nx), .int .i64 (ny), .int .i64 (nz), .int .i64 (nd), .int .i64 (nw)]
    | 16 => ∃ r : Int, v = .int .i64 r ∧ decide (r < 0) = er
    | 17 => v = .bool er
    | 18 => v = .bool er
    | 19 => v = .bool er
    | _ => True) j u W → (fun (i : Nat) (v : Value) (W : World) => match i with
    | 0 => v = .int .i64 (aa : Int)
    | 1 => v = .bool false
    | 2 => v = .bool false
    | 3 => v = .int .i64 (0)
    | 4 => v = .bool false
    | 5 => v = .bool false
    | 6 => v = .bool false
    | 7 => v = .int .i64 (0)
    | 8 => v = .bool true
    | 9 => v = .bool true
    | 10 => v = .agg #[.int .i64 (ma), .int .i64 (mb), .int .i64 (mx), .int .i64 (my), .int .i64 (mz), .int .i64 (md), .int .i64 (mw)]
    | 11 => v = .pointer (some ⟨gp, 1, none⟩)
    | 12 => v = .slice (some ⟨gq, oq, none⟩) nn cc
    | 13 => v = .int .i64 (aa : Int)
    | 14 => v = .pointer (some ⟨gq, oq + aa * 7, none⟩)
    | 15 => v = .agg #[.int .i64 (na), .int .i64 (nb), .int .i64 (nx), .int .i64 (ny), .int .i64 (nz), .int .i64 (nd), .int .i64 (nw)]
    | 16 => ∃ r : Int, v = .int .i64 r ∧ decide (r < 0) = er
    | 17 => v = .bool er
    | 18 => v = .bool er
    | 19 => v = .bool er
    | _ => True) j u W' := by
    intro W W' j u hX h
    match j, h with
    | 0, h => exact h
    | 1, h => exact h
    | 2, h => exact h
    | 3, h => exact h
    | 4, h => exact h
    | 5, h => exact h
    | 6, h => exact h
    | 7, h => exact h
    | 8, h => exact h
    | 9, h => exact h
    | 10, h => exact h
    | 11, h => exact h
    | 12, h => exact h
    | 13, h => exact h
    | 14, h => exact h
    | 15, h => exact h
    | 16, h => exact h
    | 17, h => exact h
    | 18, h => exact h
    | 19, h => exact h
    | _ + 20, h => exact h
  have hsz : ∀ d, some d ∈ ([some 27, some 28, some 29, some 30, some 31, some 32, some 33, some 34, some 35, some 36, some 37, some 38, some 39, some 40, some 41, some 42, some 43, some 44, some 45, some 46] : List (Option Tmp)) → d < a.tmps.size := slots_lt (by decide) hsize
  refine wp_region_j 20 [some 27, some 28, some 29, some 30, some 31, some 32, some 33, some 34, some 35, some 36, some 37, some 38, some 39, some 40, some 41, some 42, some 43, some 44, some 45, some 46] [[], [0], [1], [2], [2, 3], [2, 4], [5], [6], [6, 7], [6, 8], [9], [9], [9, 11], [9], [9, 12, 13], [9, 14], [9, 10, 15], [9, 16], [6, 9, 17], [6, 18]] [[], [], [], [], [], [], [], [], [], [], [], [], [], [], [], [], [], [], [], []] (fun (i : Nat) (v : Value) (W : World) => match i with
    | 0 => v = .int .i64 (aa : Int)
    | 1 => v = .bool false
    | 2 => v = .bool false
    | 3 => v = .int .i64 (0)
    | 4 => v = .bool false
    | 5 => v = .bool false
    | 6 => v = .bool false
    | 7 => v = .int .i64 (0)
    | 8 => v = .bool true
    | 9 => v = .bool true
    | 10 => v = .agg #[.int .i64 (ma), .int .i64 (mb), .int .i64 (mx), .int .i64 (my), .int .i64 (mz), .int .i64 (md), .int .i64 (mw)]
    | 11 => v = .pointer (some ⟨gp, 1, none⟩)
    | 12 => v = .slice (some ⟨gq, oq, none⟩) nn cc
    | 13 => v = .int .i64 (aa : Int)
    | 14 => v = .pointer (some ⟨gq, oq + aa * 7, none⟩)
    | 15 => v = .agg #[.int .i64 (na), .int .i64 (nb), .int .i64 (nx), .int .i64 (ny), .int .i64 (nz), .int .i64 (nd), .int .i64 (nw)]
    | 16 => ∃ r : Int, v = .int .i64 r ∧ decide (r < 0) = er
    | 17 => v = .bool er
    | 18 => v = .bool er
    | 19 => v = .bool er
    | _ => True) (fun _ W => Ext w W) (by kernel_rfl) (by kernel_rfl) hsz (fun _ _ _ _ h => h) ((Ext.refl w).drew) ?_ ?_
  · clear hend
    simp only [rops, Try.f152, regOf, Option.bind_some, Nat.reduceBEq, if_true, if_false, Bool.false_eq_true, Option.getD_some]
    simp only [List.take_succ_cons, List.take_zero]
    refine ⟨?_, ?_, ?_, ?_, ?_, ?_, ?_, ?_, ?_, ?_, ?_, ?_, ?_, ?_, ?_, ?_, ?_, ?_, ?_, ?_, trivial⟩
    · intro done us W hJ hdep haft hnot b hb hb' K hK Q'
      have e6 := (hb' 6 (by simp)).trans s6
      clear hb hb'
      go_simp
      exact hK _ _ rfl (fun _ _ _ h => h) hJ
    · intro done us W hJ hdep haft hnot b hb hb' K hK Q'
      simp only [List.getD_cons_succ, List.getD_cons_zero, List.mem_cons, List.not_mem_nil, or_false, forall_eq] at hdep
      have e27 := hb 0 27 rfl
      have d0 := hdep
      rw [d0.1] at e27
      clear hb hb' hdep d0
      go_simp
      exact hK _ _ rfl (fun _ _ _ h => h) hJ
    · intro done us W hJ hdep haft hnot b hb hb' K hK Q'
      simp only [List.getD_cons_succ, List.getD_cons_zero, List.mem_cons, List.not_mem_nil, or_false, forall_eq] at hdep
      have e28 := hb 1 28 rfl
      have d1 := hdep
      rw [d1.1] at e28
      clear hb hb' hdep d1
      go_simp
      exact hK _ _ rfl (fun _ _ _ h => h) hJ
    · intro done us W hJ hdep haft hnot b hb hb' K hK Q'
      simp only [List.getD_cons_succ, List.getD_cons_zero, List.mem_cons, List.not_mem_nil, or_false, forall_eq] at hdep
      have e11 := (hb' 11 (by simp)).trans s11
      have e29 := hb 2 29 rfl
      have d2 := hdep
      rw [d2.1] at e29
      clear hb hb' hdep d2
      go_simp
      exact hK _ _ rfl (fun _ _ _ h => h) hJ
    · intro done us W hJ hdep haft hnot b hb hb' K hK Q'
      simp only [List.getD_cons_succ, List.getD_cons_zero, List.mem_cons, List.not_mem_nil, or_false, forall_eq_or_imp, forall_eq] at hdep
      have e29 := hb 2 29 rfl
      have e30 := hb 3 30 rfl
      have d2 := hdep.1
      have d3 := hdep.2
      rw [d2.1] at e29
      rw [d3.1] at e30
      clear hb hb' hdep d2 d3
      go_simp
      exact hK _ _ rfl (fun _ _ _ h => h) hJ
    · intro done us W hJ hdep haft hnot b hb hb' K hK Q'
      simp only [List.getD_cons_succ, List.getD_cons_zero, List.mem_cons, List.not_mem_nil, or_false, forall_eq_or_imp, forall_eq] at hdep
      have e29 := hb 2 29 rfl
      have e31 := hb 4 31 rfl
      have d2 := hdep.1
      have d4 := hdep.2
      rw [d2.1] at e29
      rw [d4.1] at e31
      clear hb hb' hdep d2 d4
      go_simp
      exact hK _ _ rfl (fun _ _ _ h => h) hJ
    · intro done us W hJ hdep haft hnot b hb hb' K hK Q'
      simp only [List.getD_cons_succ, List.getD_cons_zero, List.mem_cons, List.not_mem_nil, or_false, forall_eq] at hdep
      have e32 := hb 5 32 rfl
      have d5 := hdep
      rw [d5.1] at e32
      clear hb hb' hdep d5
      go_simp
      exact hK _ _ rfl (fun _ _ _ h => h) hJ
    · intro done us W hJ hdep haft hnot b hb hb' K hK Q'
      simp only [List.getD_cons_succ, List.getD_cons_zero, List.mem_cons, List.not_mem_nil, or_false, forall_eq] at hdep
      have e11 := (hb' 11 (by simp)).trans s11
      have e33 := hb 6 33 rfl
      have d6 := hdep
      rw [d6.1] at e33
      clear hb hb' hdep d6
      go_simp
      exact hK _ _ rfl (fun _ _ _ h => h) hJ
    · intro done us W hJ hdep haft hnot b hb hb' K hK Q'
      simp only [List.getD_cons_succ, List.getD_cons_zero, List.mem_cons, List.not_mem_nil, or_false, forall_eq_or_imp, forall_eq] at hdep
      have e33 := hb 6 33 rfl
      have e34 := hb 7 34 rfl
      have d6 := hdep.1
      have d7 := hdep.2
      rw [d6.1] at e33
      rw [d7.1] at e34
      clear hb hb' hdep d6 d7
      go_simp
      exact hK _ _ rfl (fun _ _ _ h => h) hJ
    · intro done us W hJ hdep haft hnot b hb hb' K hK Q'
      simp only [List.getD_cons_succ, List.getD_cons_zero, List.mem_cons, List.not_mem_nil, or_false, forall_eq_or_imp, forall_eq] at hdep
      have e33 := hb 6 33 rfl
      have e35 := hb 8 35 rfl
      have d6 := hdep.1
      have d8 := hdep.2
      rw [d6.1] at e33
      rw [d8.1] at e35
      clear hb hb' hdep d6 d8
      go_simp
      exact hK _ _ rfl (fun _ _ _ h => h) hJ
    · intro done us W hJ hdep haft hnot b hb hb' K hK Q'
      simp only [List.getD_cons_succ, List.getD_cons_zero, List.mem_cons, List.not_mem_nil, or_false, forall_eq] at hdep
      have e9 := (hb' 9 (by simp)).trans s9
      have e36 := hb 9 36 rfl
      have d9 := hdep
      rw [d9.1] at e36
      clear hb hb' hdep d9
      have z0 := Ext.cell hJ v0
      have z1 := Ext.cell hJ v1
      have z2 := Ext.cell hJ v2
      have z3 := Ext.cell hJ v3
      have z4 := Ext.cell hJ v4
      have z5 := Ext.cell hJ v5
      have z6 := Ext.cell hJ v6
      go_simp
      exact hK _ _ rfl (fun _ _ _ h => h) hJ
    · intro done us W hJ hdep haft hnot b hb hb' K hK Q'
      simp only [List.getD_cons_succ, List.getD_cons_zero, List.mem_cons, List.not_mem_nil, or_false, forall_eq] at hdep
      have e3 := (hb' 3 (by simp)).trans s3
      have e36 := hb 9 36 rfl
      have d9 := hdep
      rw [d9.1] at e36
      clear hb hb' hdep d9
      go_simp
      exact hK _ _ rfl (fun _ _ _ h => h) hJ
    · intro done us W hJ hdep haft hnot b hb hb' K hK Q'
      simp only [List.getD_cons_succ, List.getD_cons_zero, List.mem_cons, List.not_mem_nil, or_false, forall_eq_or_imp, forall_eq] at hdep
      have e36 := hb 9 36 rfl
      have e38 := hb 11 38 rfl
      have d9 := hdep.1
      have d11 := hdep.2
      rw [d9.1] at e36
      rw [d11.1] at e38
      clear hb hb' hdep d9 d11
      have q := Ext.cell hJ p1
      go_simp
      exact hK _ _ rfl (fun _ _ _ h => h) hJ
    · intro done us W hJ hdep haft hnot b hb hb' K hK Q'
      simp only [List.getD_cons_succ, List.getD_cons_zero, List.mem_cons, List.not_mem_nil, or_false, forall_eq] at hdep
      have e6 := (hb' 6 (by simp)).trans s6
      have e36 := hb 9 36 rfl
      have d9 := hdep
      rw [d9.1] at e36
      clear hb hb' hdep d9
      go_simp
      exact hK _ _ rfl (fun _ _ _ h => h) hJ
    · intro done us W hJ hdep haft hnot b hb hb' K hK Q'
      simp only [List.getD_cons_succ, List.getD_cons_zero, List.mem_cons, List.not_mem_nil, or_false, forall_eq_or_imp, forall_eq] at hdep
      have e36 := hb 9 36 rfl
      have e39 := hb 12 39 rfl
      have e40 := hb 13 40 rfl
      have d9 := hdep.1
      have d12 := hdep.2.1
      have d13 := hdep.2.2
      rw [d9.1] at e36
      rw [d12.1] at e39
      rw [d13.1] at e40
      clear hb hb' hdep d9 d12 d13
      go_simp
      exact hK _ _ rfl (fun _ _ _ h => h) hJ
    · intro done us W hJ hdep haft hnot b hb hb' K hK Q'
      simp only [List.getD_cons_succ, List.getD_cons_zero, List.mem_cons, List.not_mem_nil, or_false, forall_eq_or_imp, forall_eq] at hdep
      have e36 := hb 9 36 rfl
      have e41 := hb 14 41 rfl
      have d9 := hdep.1
      have d14 := hdep.2
      rw [d9.1] at e36
      rw [d14.1] at e41
      clear hb hb' hdep d9 d14
      have z0 := Ext.cell hJ n0
      have z1 := Ext.cell hJ n1
      have z2 := Ext.cell hJ n2
      have z3 := Ext.cell hJ n3
      have z4 := Ext.cell hJ n4
      have z5 := Ext.cell hJ n5
      have z6 := Ext.cell hJ n6
      go_simp
      exact hK _ _ rfl (fun _ _ _ h => h) hJ
    · intro done us W hJ hdep haft hnot b hb hb' K hK Q'
      simp only [List.getD_cons_succ, List.getD_cons_zero, List.mem_cons, List.not_mem_nil, or_false, forall_eq_or_imp, forall_eq] at hdep
      have e36 := hb 9 36 rfl
      have e37 := hb 10 37 rfl
      have e42 := hb 15 42 rfl
      have d9 := hdep.1
      have d10 := hdep.2.1
      have d15 := hdep.2.2
      rw [d9.1] at e36
      rw [d10.1] at e37
      rw [d15.1] at e42
      clear hb hb' hdep d9 d10 d15
      go_simp
      refine (content_v ma mb mx my mz md mw na nb nx ny nz nd nw W).mono ?_
      rintro e w' ⟨r, rfl, hr, hX⟩
      exact hK _ _ ⟨r, rfl, hr.trans her.out⟩ (fun j u _ h => hmono _ _ j u hX h) (Ext.trans hJ hX)
    · intro done us W hJ hdep haft hnot b hb hb' K hK Q'
      simp only [List.getD_cons_succ, List.getD_cons_zero, List.mem_cons, List.not_mem_nil, or_false, forall_eq_or_imp, forall_eq] at hdep
      have e36 := hb 9 36 rfl
      have e43 := hb 16 43 rfl
      have d9 := hdep.1
      have d16 := hdep.2
      rw [d9.1] at e36
      clear hb hb' hdep d9
      obtain ⟨⟨r, hv, hr⟩, _⟩ := d16
      rw [hv] at e43
      go_simp
      exact hK _ _ (by first | rfl | exact congrArg Value.bool hr) (fun _ _ _ h => h) hJ
    · intro done us W hJ hdep haft hnot b hb hb' K hK Q'
      simp only [List.getD_cons_succ, List.getD_cons_zero, List.mem_cons, List.not_mem_nil, or_false, forall_eq_or_imp, forall_eq] at hdep
      have e33 := hb 6 33 rfl
      have e36 := hb 9 36 rfl
      have e44 := hb 17 44 rfl
      have d6 := hdep.1
      have d9 := hdep.2.1
      have d17 := hdep.2.2
      rw [d6.1] at e33
      rw [d9.1] at e36
      rw [d17.1] at e44
      clear hb hb' hdep d6 d9 d17
      go_simp
      exact hK _ _ rfl (fun _ _ _ h => h) hJ
    · intro done us W hJ hdep haft hnot b hb hb' K hK Q'
      simp only [List.getD_cons_succ, List.getD_cons_zero, List.mem_cons, List.not_mem_nil, or_false, forall_eq_or_imp, forall_eq] at hdep
      have e33 := hb 6 33 rfl
      have e45 := hb 18 45 rfl
      have d6 := hdep.1
      have d18 := hdep.2
      rw [d6.1] at e33
      rw [d18.1] at e45
      clear hb hb' hdep d6 d18
      go_simp
      exact hK _ _ rfl (fun _ _ _ h => h) hJ
  · intro us W hV hJ
    exact hend (us 0) (us 1) (us 2) (us 3) (us 4) (us 5) (us 6) (us 7) (us 8) (us 9) (us 10) (us 11) (us 12) (us 13) (us 14) (us 15) (us 16) (us 17) (us 18) (us 19) W (hV 0 (by omega)) (hV 1 (by omega)) (hV 2 (by omega)) (hV 3 (by omega)) (hV 4 (by omega)) (hV 5 (by omega)) (hV 6 (by omega)) (hV 7 (by omega)) (hV 8 (by omega)) (hV 9 (by omega)) (hV 10 (by omega)) (hV 11 (by omega)) (hV 12 (by omega)) (hV 13 (by omega)) (hV 14 (by omega)) (hV 15 (by omega)) (hV 16 (by omega)) (hV 17 (by omega)) (hV 18 (by omega)) (hV 19 (by omega)) hJ
set_option maxRecDepth 100000 in
set_option maxHeartbeats 2000000 in
theorem wor_r8 (gw kk : Nat) (su : Bool) (Au Bu : Option Addr) (lu cu mu ku : Nat) (w : World) (x0 : w.cell? ⟨gw, 0, none⟩ = some (.bool su)) (x1 : w.cell? ⟨gw, 1, none⟩ = some (.slice Au lu cu)) (x2 : w.cell? ⟨gw, 2, none⟩ = some (.slice Bu mu ku)) (a : Act) (Q : Exit → Act → World → Prop) (hsize : 49 ≤ a.tmps.size)
    (s8 : a.tmps[8]? = some (.int .i64 (kk : Int)))
    (s10 : a.tmps[10]? = some (.pointer (some ⟨gw, 0, none⟩)))
    (hend : ∀ (xv0 xv1 xv2 : Value) (W : World), (xv0 = .int .i64 (kk : Int)) → (xv1 = .agg #[.bool su, .slice Au lu cu, .slice Bu mu ku]) → (xv2 = .int .i64 (kk : Int)) → Ext w W → wpList Try.prog (rops Try.f152 8).toArray Q ((rops Try.f152 8).drop 3) (((a.put (some 47) xv0).put (some 48) xv1).put (some 6) xv2) W) :
    (Code.region 8 (rops Try.f152 8).toArray true).wp Try.prog Q a w := by
  have hmono : ∀ (W W' : World) (j : Nat) (u : Value), Ext W W' → (fun (i : Nat) (v : Value) (W : World) => match i with
    | 0 => v = .int .i64 (kk : Int)
    | 1 => v = .agg #[.bool su, .slice Au lu cu, .slice Bu mu ku]
    | 2 => v = .int .i64 (kk : Int)
    | _ => True) j u W → (fun (i : Nat) (v : Value) (W : World) => match i with
    | 0 => v = .int .i64 (kk : Int)
    | 1 => v = .agg #[.bool su, .slice Au lu cu, .slice Bu mu ku]
    | 2 => v = .int .i64 (kk : Int)
    | _ => True) j u W' := by
    intro W W' j u hX h
    match j, h with
    | 0, h => exact h
    | 1, h => exact h
    | 2, h => exact h
    | _ + 3, h => exact h
  have hsz : ∀ d, some d ∈ ([some 47, some 48, some 6] : List (Option Tmp)) → d < a.tmps.size := slots_lt (by decide) hsize
  refine wp_region_j 3 [some 47, some 48, some 6] [[], [], [0]] [[], [], []] (fun (i : Nat) (v : Value) (W : World) => match i with
    | 0 => v = .int .i64 (kk : Int)
    | 1 => v = .agg #[.bool su, .slice Au lu cu, .slice Bu mu ku]
    | 2 => v = .int .i64 (kk : Int)
    | _ => True) (fun _ W => Ext w W) (by kernel_rfl) (by kernel_rfl) hsz (fun _ _ _ _ h => h) ((Ext.refl w).drew) ?_ ?_
  · clear hend
    simp only [rops, Try.f152, regOf, Option.bind_some, Nat.reduceBEq, if_true, if_false, Bool.false_eq_true, Option.getD_some]
    simp only [List.take_succ_cons, List.take_zero]
    refine ⟨?_, ?_, ?_, trivial⟩
    · intro done us W hJ hdep haft hnot b hb hb' K hK Q'
      have e8 := (hb' 8 (by simp)).trans s8
      clear hb hb'
      go_simp
      exact hK _ _ rfl (fun _ _ _ h => h) hJ
    · intro done us W hJ hdep haft hnot b hb hb' K hK Q'
      have e10 := (hb' 10 (by simp)).trans s10
      clear hb hb'
      have z0 := Ext.cell hJ x0
      have z1 := Ext.cell hJ x1
      have z2 := Ext.cell hJ x2
      go_simp
      exact hK _ _ rfl (fun _ _ _ h => h) hJ
    · intro done us W hJ hdep haft hnot b hb hb' K hK Q'
      simp only [List.getD_cons_succ, List.getD_cons_zero, List.mem_cons, List.not_mem_nil, or_false, forall_eq] at hdep
      have e47 := hb 0 47 rfl
      have d0 := hdep
      rw [d0.1] at e47
      clear hb hb' hdep d0
      go_simp
      exact hK _ _ rfl (fun _ _ _ h => h) hJ
  · intro us W hV hJ
    exact hend (us 0) (us 1) (us 2) W (hV 0 (by omega)) (hV 1 (by omega)) (hV 2 (by omega)) hJ
set_option maxRecDepth 100000 in
set_option maxHeartbeats 2000000 in
theorem wor_r10 (gs : Nat) (ai : Int) (su : Bool) (Au Bu : Option Addr) (lu cu mu ku : Nat) (w : World) (x0 : w.cell? ⟨gs, 0, none⟩ = some (.bool su)) (x1 : w.cell? ⟨gs, 1, none⟩ = some (.slice Au lu cu)) (x2 : w.cell? ⟨gs, 2, none⟩ = some (.slice Bu mu ku)) (a : Act) (Q : Exit → Act → World → Prop) (hsize : 52 ≤ a.tmps.size)
    (s6 : a.tmps[6]? = some (.int .i64 (ai)))
    (s7 : a.tmps[7]? = some (.pointer (some ⟨gs, 0, none⟩)))
    (hend : ∀ (xv0 xv1 xv2 : Value) (W : World), (xv0 = .int .i64 (ai)) → (xv1 = .agg #[.bool su, .slice Au lu cu, .slice Bu mu ku]) → (xv2 = .int .i64 (ai)) → Ext w W → wpList Try.prog (rops Try.f152 10).toArray Q ((rops Try.f152 10).drop 3) (((a.put (some 50) xv0).put (some 51) xv1).put (some 4) xv2) W) :
    (Code.region 10 (rops Try.f152 10).toArray true).wp Try.prog Q a w := by
  have hmono : ∀ (W W' : World) (j : Nat) (u : Value), Ext W W' → (fun (i : Nat) (v : Value) (W : World) => match i with
    | 0 => v = .int .i64 (ai)
    | 1 => v = .agg #[.bool su, .slice Au lu cu, .slice Bu mu ku]
    | 2 => v = .int .i64 (ai)
    | _ => True) j u W → (fun (i : Nat) (v : Value) (W : World) => match i with
    | 0 => v = .int .i64 (ai)
    | 1 => v = .agg #[.bool su, .slice Au lu cu, .slice Bu mu ku]
    | 2 => v = .int .i64 (ai)
    | _ => True) j u W' := by
    intro W W' j u hX h
    match j, h with
    | 0, h => exact h
    | 1, h => exact h
    | 2, h => exact h
    | _ + 3, h => exact h
  have hsz : ∀ d, some d ∈ ([some 50, some 51, some 4] : List (Option Tmp)) → d < a.tmps.size := slots_lt (by decide) hsize
  refine wp_region_j 3 [some 50, some 51, some 4] [[], [], [0]] [[], [], []] (fun (i : Nat) (v : Value) (W : World) => match i with
    | 0 => v = .int .i64 (ai)
    | 1 => v = .agg #[.bool su, .slice Au lu cu, .slice Bu mu ku]
    | 2 => v = .int .i64 (ai)
    | _ => True) (fun _ W => Ext w W) (by kernel_rfl) (by kernel_rfl) hsz (fun _ _ _ _ h => h) ((Ext.refl w).drew) ?_ ?_
  · clear hend
    simp only [rops, Try.f152, regOf, Option.bind_some, Nat.reduceBEq, if_true, if_false, Bool.false_eq_true, Option.getD_some]
    simp only [List.take_succ_cons, List.take_zero]
    refine ⟨?_, ?_, ?_, trivial⟩
    · intro done us W hJ hdep haft hnot b hb hb' K hK Q'
      have e6 := (hb' 6 (by simp)).trans s6
      clear hb hb'
      go_simp
      exact hK _ _ rfl (fun _ _ _ h => h) hJ
    · intro done us W hJ hdep haft hnot b hb hb' K hK Q'
      have e7 := (hb' 7 (by simp)).trans s7
      clear hb hb'
      have z0 := Ext.cell hJ x0
      have z1 := Ext.cell hJ x1
      have z2 := Ext.cell hJ x2
      go_simp
      exact hK _ _ rfl (fun _ _ _ h => h) hJ
    · intro done us W hJ hdep haft hnot b hb hb' K hK Q'
      simp only [List.getD_cons_succ, List.getD_cons_zero, List.mem_cons, List.not_mem_nil, or_false, forall_eq] at hdep
      have e50 := hb 0 50 rfl
      have d0 := hdep
      rw [d0.1] at e50
      clear hb hb' hdep d0
      go_simp
      exact hK _ _ rfl (fun _ _ _ h => h) hJ
  · intro us W hV hJ
    exact hend (us 0) (us 1) (us 2) W (hV 0 (by omega)) (hV 1 (by omega)) (hV 2 (by omega)) hJ
set_option maxRecDepth 100000 in
set_option maxHeartbeats 16000000 in
theorem worst_any (S : Nat) (A : Option Addr) (n c : Nat) (ms : List Mt) (gt ot ct : Nat) (u : Nat → Rat) (w : World) (h : MsAt w A n ms) (hv : ∀ m ∈ ms, VM (S : Int) m) (hn : n ≤ 64) (_hS1 : 1 ≤ S) (hS : ShP (fun w v q => NumX w v q 256) w gt ot S u) :
    Calls Try.prog 152 #[.slice (some ⟨gt, ot, none⟩) S ct, .agg #[.int .i64 (S : Int), .slice A n c]] w (fun e w' => ∃ v, e = .returned (.tuple #[.int .i64 (atI (worstP (3 * S) u ms).1), v]) ∧ NumX w' v (worstP (3 * S) u ms).2 3102 ∧ Ext w w') := by
  have H := Lib.hid h
  have HML := Lib.hid h.1
  have HVM := Lib.hid hv
  have HS := Lib.hid hS
  have hXe : Ext w ((w.alloc (.cells #[.int .i64 (S : Int), .slice A n c] 76)).alloc (.cells #[.bool false, .slice none 0 0, .slice none 0 0] 217)) := ((Ext.refl w).alloc _).alloc _
  have kP : Blk ((w.alloc (.cells #[.int .i64 (S : Int), .slice A n c] 76)).alloc (.cells #[.bool false, .slice none 0 0, .slice none 0 0] 217)) w.heap.size 76 #[.int .i64 (S : Int), .slice A n c] := Blk.alloc (Blk.new w _ _) _
  have kR : Blk ((w.alloc (.cells #[.int .i64 (S : Int), .slice A n c] 76)).alloc (.cells #[.bool false, .slice none 0 0, .slice none 0 0] 217)) (w.heap.size + 1) 217 #[.bool false, .slice none 0 0, .slice none 0 0] := Blk.at_ (by simp)
  clear h hv hS
  go_enter Try.func152, Try.ntmps152
  go_upto_region 1 with (fail)
  generalize (w.alloc (.cells #[.int .i64 (S : Int), .slice A n c] 76)).alloc (.cells #[.bool false, .slice none 0 0, .slice none 0 0] 217) = w1 at hXe kP kR ⊢
  have HX := Lib.hid hXe
  have HP := Lib.hid kP
  have HR := Lib.hid kR
  clear hXe kP kR
  go_wp2_with fail
  refine (intX 0 _ (by omega) (by omega)).mono ?_
  rintro e w2 ⟨v2, rfl, hv, hX⟩
  obtain ⟨s0, A0, l0, c0, B0, m0, k0, rfl⟩ := NumX.open hv
  replace HX := Lib.hid (HX.out.trans hX)
  replace HP := Lib.hid (HP.out.ext hX)
  replace HR := Lib.hid (HR.out.ext hX)
  have HN := Lib.hid hv
  clear hv hX
  go_upto_region 2 with (fail)
  have hXa : Ext w2 (w2.alloc (.cells #[.bool s0, .slice A0 l0 c0, .slice B0 m0 k0] 217)) := (Ext.refl _).alloc _
  have kS := Blk.new w2 217 #[.bool s0, .slice A0 l0 c0, .slice B0 m0 k0]
  have hrl := HR.out.lt
  replace HX := Lib.hid (HX.out.trans hXa)
  replace HP := Lib.hid (HP.out.ext hXa)
  replace HR := Lib.hid (HR.out.ext hXa)
  replace HN := Lib.hid ((HN.out.ext hXa).mono (show 2 ≤ 3102 by omega))
  clear hXa
  generalize w2.heap.size = gs at kS hrl ⊢
  generalize w2.alloc (.cells #[.bool s0, .slice A0 l0 c0, .slice B0 m0 k0] 217) = w3 at kS HX HP HR HN ⊢
  have KS := Lib.hid kS
  clear kS
  have hslt : w.heap.size ≤ gs := by omega
  have p1 := HP.out.cell 1
  simp only [List.getElem?_toArray, List.getElem?_cons_zero, List.getElem?_cons_succ] at p1
  go_wp2_with fail
  clear p1
  go_loopg [6, 16] n (fun fu av iv wr => ∃ (k : Nat) (ai : Int) (s0 : Bool) (A0 B0 : Option Addr) (l0 c0 m0 k0 : Nat), fu = n - k ∧ k ≤ n ∧ av = .int .i64 ai ∧ iv = .int .i64 (k : Int) ∧ Hid (ai = atI (wAt (3 * S) u ms k).1) ∧ Hid (NumX wr (.agg #[.bool s0, .slice A0 l0 c0, .slice B0 m0 k0]) (wAt (3 * S) u ms k).2 3102) ∧ Hid (Blk wr gs 217 #[.bool s0, .slice A0 l0 c0, .slice B0 m0 k0]) ∧ Hid (Blk wr (w.heap.size + 1) 217 #[.bool false, .slice none 0 0, .slice none 0 0]) ∧ Hid (Blk wr w.heap.size 76 #[.int .i64 (S : Int), .slice A n c]) ∧ Hid (Ext w wr))
  case atStart => exact ⟨0, -1, s0, A0, B0, l0, c0, m0, k0, rfl, by omega, rfl, rfl, Lib.hid rfl, HN, KS, HR, HP, HX⟩
  case round =>
    clear HN KS HR HP HX
    obtain ⟨k, ai, s0, A0, B0, l0, c0, m0, k0, rfl, hk, rfl, rfl, HAI, HN, KS, HR, HP, HX⟩ := hrel
    by_cases hlt : k < n
    · have q1 : decide (k < n) = true := decide_eq_true hlt
      obtain ⟨gq, oq, ⟨a, b, x, y, z, d, ww⟩, rfl, hm, hmem, x0, x1, x2, x3, x4, x5, x6⟩ := (H.out.ext HX.out).get hlt
      simp only at x0 x1 x2 x3 x4 x5 x6
      have HM := Lib.hid (mtAt_some' hm)
      have HMM := Lib.hid (HVM.out _ hmem)
      clear hm hmem
      go_upto_region 5 with (fail)
      have hXa : Ext wr (wr.alloc (.cells #[.int .i64 (a), .int .i64 (b), .int .i64 (x), .int .i64 (y), .int .i64 (z), .int .i64 (d), .int .i64 (ww)] 90)) := (Ext.refl _).alloc _
      have kM := Blk.new wr 90 #[.int .i64 (a), .int .i64 (b), .int .i64 (x), .int .i64 (y), .int .i64 (z), .int .i64 (d), .int .i64 (ww)]
      replace HX := Lib.hid (HX.out.trans hXa)
      replace HR := Lib.hid (HR.out.ext hXa)
      replace HP := Lib.hid (HP.out.ext hXa)
      replace KS := Lib.hid (KS.out.ext hXa)
      replace HN := Lib.hid (HN.out.ext hXa)
      clear hXa x0 x1 x2 x3 x4 x5 x6
      generalize wr.heap.size = gm at kM ⊢
      generalize wr.alloc (.cells #[.int .i64 (a), .int .i64 (b), .int .i64 (x), .int .i64 (y), .int .i64 (z), .int .i64 (d), .int .i64 (ww)] 90) = w5 at kM HX HR HP KS HN ⊢
      have KM := Lib.hid kM
      clear kM
      have y0 := KM.out.cell 0
      have y1 := KM.out.cell 1
      have y2 := KM.out.cell 2
      have y3 := KM.out.cell 3
      have y4 := KM.out.cell 4
      have y5 := KM.out.cell 5
      have y6 := KM.out.cell 6
      simp only [List.getElem?_toArray, List.getElem?_cons_zero, List.getElem?_cons_succ] at y0 y1 y2 y3 y4 y5 y6
      go_wp2_with fail
      refine (weighted_any (m := ⟨a, b, x, y, z, d, ww⟩) (HS.out.ext (growsNum 256) HX.out) HMM.out (by omega)).mono ?_
      rintro e w6 ⟨v6, rfl, hv, hX⟩
      obtain ⟨s1, A1, l1, c1, B1, m1, k1, rfl⟩ := NumX.open hv
      replace HX := Lib.hid (HX.out.trans hX)
      replace HR := Lib.hid (HR.out.ext hX)
      replace HP := Lib.hid (HP.out.ext hX)
      replace KS := Lib.hid (KS.out.ext hX)
      replace KM := Lib.hid (KM.out.ext hX)
      replace HN := Lib.hid (HN.out.ext hX)
      have HWV := Lib.hid (hv.mono (show 12 * 256 + 30 ≤ 3102 by omega))
      clear hv hX y0 y1 y2 y3 y4 y5 y6
      go_upto_region 6 with (fail)
      have hXa : Ext w6 (w6.alloc (.cells #[.bool s1, .slice A1 l1 c1, .slice B1 m1 k1] 217)) := (Ext.refl _).alloc _
      have kW := Blk.new w6 217 #[.bool s1, .slice A1 l1 c1, .slice B1 m1 k1]
      replace HX := Lib.hid (HX.out.trans hXa)
      replace HR := Lib.hid (HR.out.ext hXa)
      replace HP := Lib.hid (HP.out.ext hXa)
      replace KS := Lib.hid (KS.out.ext hXa)
      replace KM := Lib.hid (KM.out.ext hXa)
      replace HN := Lib.hid (HN.out.ext hXa)
      replace HWV := Lib.hid (HWV.out.ext hXa)
      clear hXa
      generalize w6.heap.size = gw at kW ⊢
      generalize w6.alloc (.cells #[.bool s1, .slice A1 l1 c1, .slice B1 m1 k1] 217) = w7 at kW HX HR HP KS KM HN HWV ⊢
      have KW := Lib.hid kW
      clear kW
      have y0 := KW.out.cell 0
      have y1 := KW.out.cell 1
      have y2 := KW.out.cell 2
      simp only [List.getElem?_toArray, List.getElem?_cons_zero, List.getElem?_cons_succ] at y0 y1 y2
      have z0 := KS.out.cell 0
      have z1 := KS.out.cell 1
      have z2 := KS.out.cell 2
      simp only [List.getElem?_toArray, List.getElem?_cons_zero, List.getElem?_cons_succ] at z0 z1 z2
      go_wp2_with fail
      refine (cmpX HWV.out HN.out (by omega)).mono ?_
      obtain ⟨sg, hsg⟩ : ∃ sg, sgnQ (wsq (3 * S) u ⟨a, b, x, y, z, d, ww⟩ - (wAt (3 * S) u ms k).2) = sg := ⟨_, rfl⟩
      rw [hsg]
      rintro e w8 ⟨rfl, hX⟩
      replace HX := Lib.hid (HX.out.trans hX)
      replace HR := Lib.hid (HR.out.ext hX)
      replace HP := Lib.hid (HP.out.ext hX)
      replace KS := Lib.hid (KS.out.ext hX)
      replace KM := Lib.hid (KM.out.ext hX)
      replace KW := Lib.hid (KW.out.ext hX)
      replace HN := Lib.hid (HN.out.ext hX)
      replace HWV := Lib.hid (HWV.out.ext hX)
      clear hX y0 y1 y2 z0 z1 z2
      obtain ⟨oa, hoa⟩ : ∃ oa, (wAt (3 * S) u ms k).1 = oa := ⟨_, rfl⟩
      have HOA := Lib.hid hoa
      have HSG := Lib.hid hsg
      clear hoa hsg
      go_upto_region 7 with (fail)
      by_cases hno : oa = none
      · subst hno
        obtain rfl : ai = -1 := by rw [HAI.out, HOA.out]; rfl
        refine wor_r7a gm w.heap.size sg w8 _ _ (by simp) rfl rfl rfl rfl ?_
        rintro xv0 xv1 xv2 xv3 xv4 xv5 xv6 xv7 xv8 xv9 xv10 xv11 xv12 xv13 xv14 xv15 xv16 xv17 xv18 xv19 W rfl rfl rfl rfl rfl rfl rfl rfl rfl rfl rfl rfl rfl rfl rfl rfl rfl rfl rfl rfl hX
        simp only [rops, Try.f152, regOf, Option.bind_some, Nat.reduceBEq, if_true, if_false, Bool.false_eq_true, Option.getD_some, List.drop_succ_cons, List.drop_zero]
        simp only [Act.put, List.setIfInBounds_toArray, List.set_cons_succ, List.set_cons_zero]
        replace HX := Lib.hid (HX.out.trans hX)
        replace HR := Lib.hid (HR.out.ext hX)
        replace HP := Lib.hid (HP.out.ext hX)
        replace KS := Lib.hid (KS.out.ext hX)
        replace KW := Lib.hid (KW.out.ext hX)
        replace HN := Lib.hid (HN.out.ext hX)
        replace HWV := Lib.hid (HWV.out.ext hX)
        clear hX
        have HST : Hid (wAt (3 * S) u ms (k + 1) = (some k, wsq (3 * S) u ⟨a, b, x, y, z, d, ww⟩)) := Lib.hid (by rw [wAt_none HOA.out, HM.out])
        go_upto_region 8 with (fail)
        refine wor_r8 gw k s1 A1 B1 l1 c1 m1 k1 W (KW.out.cell 0) (KW.out.cell 1) (KW.out.cell 2) _ _ (by simp) rfl rfl ?_
        rintro yv0 yv1 yv2 W2 rfl rfl rfl hX
        simp only [rops, Try.f152, regOf, Option.bind_some, Nat.reduceBEq, if_true, if_false, Bool.false_eq_true, Option.getD_some, List.drop_succ_cons, List.drop_zero]
        simp only [Act.put, List.setIfInBounds_toArray, List.set_cons_succ, List.set_cons_zero]
        replace HX := Lib.hid (HX.out.trans hX)
        replace HR := Lib.hid (HR.out.ext hX)
        replace HP := Lib.hid (HP.out.ext hX)
        replace KS := Lib.hid (KS.out.ext hX)
        replace HWV := Lib.hid (HWV.out.ext hX)
        clear hX HN
        obtain ⟨r0, r1, r2, f0, f1, f2⟩ := KS.out.three
        have HNI := Lib.hid (NoInts.three KS.out)
        go_wp2
        go_roundg (n - (k + 1))
        case rel =>
          refine ⟨k + 1, (k : Int), s1, A1, B1, l1, c1, m1, k1, rfl, by omega, rfl, by go_num, Lib.hid (by rw [HST.out]; rfl), Lib.hid ?_, Lib.hid (((KS.out.set 0 _).set 1 _).set 2 _), Lib.hid (((HR.out.far (by simp only; omega) _).far (by simp only; omega) _).far (by simp only; omega) _), Lib.hid (((HP.out.far (by simp only; omega) _).far (by simp only; omega) _).far (by simp only; omega) _), Lib.hid (Ext.boxed HX.out (by omega) _ _ _)⟩
          rw [HST.out]
          exact NumX.past HWV.out HNI.out
        case measure => omega
      · obtain ⟨aa, rfl⟩ : ∃ aa, oa = some aa := by
          cases oa with
          | none => exact absurd rfl hno
          | some aa => exact ⟨aa, rfl⟩
        clear hno
        obtain rfl : ai = (aa : Int) := by rw [HAI.out, HOA.out]; rfl
        have haa : aa < n := by
          rcases k with _ | k'
          · have := HOA.out; cases this
          · obtain ⟨a', e1, e2, _⟩ := wAt_some (3 * S) u ms k'
            have := e1.symm.trans HOA.out
            injection this with this
            omega
        have h0 : decide ((aa : Int) < 0) = false := decide_eq_false (by omega)
        by_cases hs1 : sg = 1
        · subst hs1
          refine wor_r7b gm w.heap.size aa w8 h0 _ _ (by simp) rfl rfl rfl rfl ?_
          rintro xv0 xv1 xv2 xv3 xv4 xv5 xv6 xv7 xv8 xv9 xv10 xv11 xv12 xv13 xv14 xv15 xv16 xv17 xv18 xv19 W rfl rfl rfl rfl rfl rfl rfl rfl rfl rfl rfl rfl rfl rfl rfl rfl rfl rfl rfl rfl hX
          simp only [rops, Try.f152, regOf, Option.bind_some, Nat.reduceBEq, if_true, if_false, Bool.false_eq_true, Option.getD_some, List.drop_succ_cons, List.drop_zero]
          simp only [Act.put, List.setIfInBounds_toArray, List.set_cons_succ, List.set_cons_zero]
          replace HX := Lib.hid (HX.out.trans hX)
          replace HR := Lib.hid (HR.out.ext hX)
          replace HP := Lib.hid (HP.out.ext hX)
          replace KS := Lib.hid (KS.out.ext hX)
          replace KW := Lib.hid (KW.out.ext hX)
          replace HN := Lib.hid (HN.out.ext hX)
          replace HWV := Lib.hid (HWV.out.ext hX)
          clear hX
          have HST : Hid (wAt (3 * S) u ms (k + 1) = (some k, wsq (3 * S) u ⟨a, b, x, y, z, d, ww⟩)) := Lib.hid (by rw [wAt_take HOA.out (.inl (by have := sgnQ_cases (wsq (3 * S) u ⟨a, b, x, y, z, d, ww⟩ - (wAt (3 * S) u ms k).2); have h9 := HSG.out; rcases this with ⟨h1, h2⟩ | ⟨h1, h2⟩ | ⟨h1, h2⟩ <;> first | omega | (rw [HM.out]; grind))), HM.out])
          go_upto_region 8 with (fail)
          refine wor_r8 gw k s1 A1 B1 l1 c1 m1 k1 W (KW.out.cell 0) (KW.out.cell 1) (KW.out.cell 2) _ _ (by simp) rfl rfl ?_
          rintro yv0 yv1 yv2 W2 rfl rfl rfl hX
          simp only [rops, Try.f152, regOf, Option.bind_some, Nat.reduceBEq, if_true, if_false, Bool.false_eq_true, Option.getD_some, List.drop_succ_cons, List.drop_zero]
          simp only [Act.put, List.setIfInBounds_toArray, List.set_cons_succ, List.set_cons_zero]
          replace HX := Lib.hid (HX.out.trans hX)
          replace HR := Lib.hid (HR.out.ext hX)
          replace HP := Lib.hid (HP.out.ext hX)
          replace KS := Lib.hid (KS.out.ext hX)
          replace HWV := Lib.hid (HWV.out.ext hX)
          clear hX HN
          obtain ⟨r0, r1, r2, f0, f1, f2⟩ := KS.out.three
          have HNI := Lib.hid (NoInts.three KS.out)
          go_wp2
          go_roundg (n - (k + 1))
          case rel =>
            refine ⟨k + 1, (k : Int), s1, A1, B1, l1, c1, m1, k1, rfl, by omega, rfl, by go_num, Lib.hid (by rw [HST.out]; rfl), Lib.hid ?_, Lib.hid (((KS.out.set 0 _).set 1 _).set 2 _), Lib.hid (((HR.out.far (by simp only; omega) _).far (by simp only; omega) _).far (by simp only; omega) _), Lib.hid (((HP.out.far (by simp only; omega) _).far (by simp only; omega) _).far (by simp only; omega) _), Lib.hid (Ext.boxed HX.out (by omega) _ _ _)⟩
            rw [HST.out]
            exact NumX.past HWV.out HNI.out
          case measure => omega
        · by_cases hs2 : sg = -1
          · subst hs2
            refine wor_r7c gm w.heap.size aa w8 h0 _ _ (by simp) rfl rfl rfl rfl ?_
            rintro xv0 xv1 xv2 xv3 xv4 xv5 xv6 xv7 xv8 xv9 xv10 xv11 xv12 xv13 xv14 xv15 xv16 xv17 xv18 xv19 W rfl rfl rfl rfl rfl rfl rfl rfl rfl rfl rfl rfl rfl rfl rfl rfl rfl rfl rfl rfl hX
            simp only [rops, Try.f152, regOf, Option.bind_some, Nat.reduceBEq, if_true, if_false, Bool.false_eq_true, Option.getD_some, List.drop_succ_cons, List.drop_zero]
            simp only [Act.put, List.setIfInBounds_toArray, List.set_cons_succ, List.set_cons_zero]
            replace HX := Lib.hid (HX.out.trans hX)
            replace HR := Lib.hid (HR.out.ext hX)
            replace HP := Lib.hid (HP.out.ext hX)
            replace KS := Lib.hid (KS.out.ext hX)
            replace KW := Lib.hid (KW.out.ext hX)
            replace HN := Lib.hid (HN.out.ext hX)
            replace HWV := Lib.hid (HWV.out.ext hX)
            clear hX
            have HST : Hid (wAt (3 * S) u ms (k + 1) = wAt (3 * S) u ms k) := Lib.hid (wAt_skip HOA.out (by have := sgnQ_cases (wsq (3 * S) u ⟨a, b, x, y, z, d, ww⟩ - (wAt (3 * S) u ms k).2); have h9 := HSG.out; rw [HM.out]; rcases this with ⟨h1, h2⟩ | ⟨h1, h2⟩ | ⟨h1, h2⟩ <;> first | omega | grind))
            go_wp2
            go_roundg (n - (k + 1))
            case rel => exact ⟨k + 1, (aa : Int), s0, A0, B0, l0, c0, m0, k0, rfl, by omega, rfl, by go_num, Lib.hid (by rw [HST.out]; exact HAI.out), Lib.hid (by rw [HST.out]; exact HN.out), KS, HR, HP, HX⟩
            case measure => omega
          · obtain rfl : sg = 0 := by
              rcases sgnQ_cases (wsq (3 * S) u ⟨a, b, x, y, z, d, ww⟩ - (wAt (3 * S) u ms k).2) with ⟨_, h2⟩ | ⟨_, h2⟩ | ⟨_, h2⟩
              · exact absurd (HSG.out.symm.trans h2) hs2
              · exact HSG.out.symm.trans h2
              · exact absurd (HSG.out.symm.trans h2) hs1
            clear hs1 hs2
            have HEQ : Hid (wsq (3 * S) u ⟨a, b, x, y, z, d, ww⟩ = (wAt (3 * S) u ms k).2) := Lib.hid (by have := sgnQ_iff.1 HSG.out; grind)
            obtain ⟨gq2, oq2, ⟨na, nb, nx, ny, nz, nd, nw⟩, hA, hm, _, n0, n1, n2, n3, n4, n5, n6⟩ := (H.out.ext HX.out).get haa
            simp only at n0 n1 n2 n3 n4 n5 n6
            injection hA with hA
            injection hA with hA1 hA2
            subst hA1 hA2
            have HM2 := Lib.hid (mtAt_some' hm)
            clear hm
            obtain ⟨er, her⟩ : ∃ er, erl ⟨a, b, x, y, z, d, ww⟩ ⟨na, nb, nx, ny, nz, nd, nw⟩ = er := ⟨_, rfl⟩
            have HER := Lib.hid her
            clear her
            refine wor_r7d gm w.heap.size gq oq n c aa a b x y z d ww na nb nx ny nz nd nw er w8 (KM.out.cell 0) (KM.out.cell 1) (KM.out.cell 2) (KM.out.cell 3) (KM.out.cell 4) (KM.out.cell 5) (KM.out.cell 6) n0 n1 n2 n3 n4 n5 n6 (HP.out.cell 1) haa h0 HER _ _ (by simp) rfl rfl rfl rfl ?_
            rintro xv0 xv1 xv2 xv3 xv4 xv5 xv6 xv7 xv8 xv9 xv10 xv11 xv12 xv13 xv14 xv15 xv16 xv17 xv18 xv19 W rfl rfl rfl rfl rfl rfl rfl rfl rfl rfl rfl rfl rfl rfl rfl rfl _ rfl rfl rfl hX
            simp only [rops, Try.f152, regOf, Option.bind_some, Nat.reduceBEq, if_true, if_false, Bool.false_eq_true, Option.getD_some, List.drop_succ_cons, List.drop_zero]
            simp only [Act.put, List.setIfInBounds_toArray, List.set_cons_succ, List.set_cons_zero]
            replace HX := Lib.hid (HX.out.trans hX)
            replace HR := Lib.hid (HR.out.ext hX)
            replace HP := Lib.hid (HP.out.ext hX)
            replace KS := Lib.hid (KS.out.ext hX)
            replace KW := Lib.hid (KW.out.ext hX)
            replace HN := Lib.hid (HN.out.ext hX)
            replace HWV := Lib.hid (HWV.out.ext hX)
            clear hX
            clear n0 n1 n2 n3 n4 n5 n6
            by_cases he : er = true
            · subst he
              have HST : Hid (wAt (3 * S) u ms (k + 1) = (some k, wsq (3 * S) u ⟨a, b, x, y, z, d, ww⟩)) := Lib.hid (by rw [wAt_take HOA.out (.inr ⟨by rw [HM.out]; exact HEQ.out, by rw [HM.out, HM2.out]; exact HER.out⟩), HM.out])
              go_upto_region 8 with (fail)
              refine wor_r8 gw k s1 A1 B1 l1 c1 m1 k1 W (KW.out.cell 0) (KW.out.cell 1) (KW.out.cell 2) _ _ (by simp) rfl rfl ?_
              rintro yv0 yv1 yv2 W2 rfl rfl rfl hX
              simp only [rops, Try.f152, regOf, Option.bind_some, Nat.reduceBEq, if_true, if_false, Bool.false_eq_true, Option.getD_some, List.drop_succ_cons, List.drop_zero]
              simp only [Act.put, List.setIfInBounds_toArray, List.set_cons_succ, List.set_cons_zero]
              replace HX := Lib.hid (HX.out.trans hX)
              replace HR := Lib.hid (HR.out.ext hX)
              replace HP := Lib.hid (HP.out.ext hX)
              replace KS := Lib.hid (KS.out.ext hX)
              replace HWV := Lib.hid (HWV.out.ext hX)
              clear hX HN
              obtain ⟨r0, r1, r2, f0, f1, f2⟩ := KS.out.three
              have HNI := Lib.hid (NoInts.three KS.out)
              go_wp2
              go_roundg (n - (k + 1))
              case rel =>
                refine ⟨k + 1, (k : Int), s1, A1, B1, l1, c1, m1, k1, rfl, by omega, rfl, by go_num, Lib.hid (by rw [HST.out]; rfl), Lib.hid ?_, Lib.hid (((KS.out.set 0 _).set 1 _).set 2 _), Lib.hid (((HR.out.far (by simp only; omega) _).far (by simp only; omega) _).far (by simp only; omega) _), Lib.hid (((HP.out.far (by simp only; omega) _).far (by simp only; omega) _).far (by simp only; omega) _), Lib.hid (Ext.boxed HX.out (by omega) _ _ _)⟩
                rw [HST.out]
                exact NumX.past HWV.out HNI.out
              case measure => omega
            · obtain rfl : er = false := by simpa using he
              clear he
              have HST : Hid (wAt (3 * S) u ms (k + 1) = wAt (3 * S) u ms k) := Lib.hid (wAt_skip HOA.out (by rw [HM.out, HM2.out, HER.out, HEQ.out]; rintro (h | ⟨_, h⟩); exact absurd h (by grind); cases h))
              go_wp2
              go_roundg (n - (k + 1))
              case rel => exact ⟨k + 1, (aa : Int), s0, A0, B0, l0, c0, m0, k0, rfl, by omega, rfl, by go_num, Lib.hid (by rw [HST.out]; exact HAI.out), Lib.hid (by rw [HST.out]; exact HN.out), KS, HR, HP, HX⟩
              case measure => omega
      
    · obtain rfl : n = k := by omega
      have q1 : decide (n < n) = false := by simp
      have HWP : Hid (wAt (3 * S) u ms n = worstP (3 * S) u ms) := Lib.hid (by unfold worstP; rw [HML.out])
      go_upto_region 10 with (fail)
      refine wor_r10 gs ai s0 A0 B0 l0 c0 m0 k0 wr (KS.out.cell 0) (KS.out.cell 1) (KS.out.cell 2) _ _ (by simp) rfl rfl ?_
      rintro xv0 xv1 xv2 W rfl rfl rfl hX
      simp only [rops, Try.f152, regOf, Option.bind_some, Nat.reduceBEq, if_true, if_false, Bool.false_eq_true, Option.getD_some, List.drop_succ_cons, List.drop_zero]
      simp only [Act.put, List.setIfInBounds_toArray, List.set_cons_succ, List.set_cons_zero]
      replace HX := Lib.hid (HX.out.trans hX)
      replace HR := Lib.hid (HR.out.ext hX)
      replace HN := Lib.hid (HN.out.ext hX)
      clear hX
      obtain ⟨r0, r1, r2, f0, f1, f2⟩ := HR.out.three
      have HNI := Lib.hid (NoInts.three HR.out)
      go_wp2
      refine bodyPost_ret (v := .tuple #[.int .i64 ai, .agg #[.bool s0, .slice A0 l0 c0, .slice B0 m0 k0]]) (by simp [results, Try.results152, go_sem, *]) rfl ?_
      refine ⟨.agg #[.bool s0, .slice A0 l0 c0, .slice B0 m0 k0], ?_, ?_, Ext.boxed HX.out (by omega) _ _ _⟩
      · rw [HAI.out, HWP.out]
      · rw [← HWP.out]
        exact NumX.past HN.out HNI.out

set_option maxRecDepth 100000 in
set_option maxHeartbeats 2000000 in
theorem worP_r8 (gr : Nat) (ai : Int) (su : Bool) (Au Bu : Option Addr) (lu cu mu ku : Nat) (w : World) (x0 : w.cell? ⟨gr, 0, none⟩ = some (.bool su)) (x1 : w.cell? ⟨gr, 1, none⟩ = some (.slice Au lu cu)) (x2 : w.cell? ⟨gr, 2, none⟩ = some (.slice Bu mu ku)) (a : Act) (Q : Exit → Act → World → Prop) (hsize : 39 ≤ a.tmps.size)
    (s9 : a.tmps[9]? = some (.int .i64 (ai)))
    (s11 : a.tmps[11]? = some (.pointer (some ⟨gr, 0, none⟩)))
    (hend : ∀ (xv0 xv1 xv2 : Value) (W : World), (xv0 = .int .i64 (ai)) → (xv1 = .agg #[.bool su, .slice Au lu cu, .slice Bu mu ku]) → (xv2 = .int .i64 (ai)) → Ext w W → wpList Try.prog (rops Try.f76 8).toArray Q ((rops Try.f76 8).drop 3) (((a.put (some 37) xv0).put (some 38) xv1).put (some 4) xv2) W) :
    (Code.region 8 (rops Try.f76 8).toArray true).wp Try.prog Q a w := by
  have hmono : ∀ (W W' : World) (j : Nat) (u : Value), Ext W W' → (fun (i : Nat) (v : Value) (W : World) => match i with
    | 0 => v = .int .i64 (ai)
    | 1 => v = .agg #[.bool su, .slice Au lu cu, .slice Bu mu ku]
    | 2 => v = .int .i64 (ai)
    | _ => True) j u W → (fun (i : Nat) (v : Value) (W : World) => match i with
    | 0 => v = .int .i64 (ai)
    | 1 => v = .agg #[.bool su, .slice Au lu cu, .slice Bu mu ku]
    | 2 => v = .int .i64 (ai)
    | _ => True) j u W' := by
    intro W W' j u hX h
    match j, h with
    | 0, h => exact h
    | 1, h => exact h
    | 2, h => exact h
    | _ + 3, h => exact h
  have hsz : ∀ d, some d ∈ ([some 37, some 38, some 4] : List (Option Tmp)) → d < a.tmps.size := slots_lt (by decide) hsize
  refine wp_region_j 3 [some 37, some 38, some 4] [[], [], [0]] [[], [], []] (fun (i : Nat) (v : Value) (W : World) => match i with
    | 0 => v = .int .i64 (ai)
    | 1 => v = .agg #[.bool su, .slice Au lu cu, .slice Bu mu ku]
    | 2 => v = .int .i64 (ai)
    | _ => True) (fun _ W => Ext w W) (by kernel_rfl) (by kernel_rfl) hsz (fun _ _ _ _ h => h) ((Ext.refl w).drew) ?_ ?_
  · clear hend
    simp only [rops, Try.f76, regOf, Option.bind_some, Nat.reduceBEq, if_true, if_false, Bool.false_eq_true, Option.getD_some]
    simp only [List.take_succ_cons, List.take_zero]
    refine ⟨?_, ?_, ?_, trivial⟩
    · intro done us W hJ hdep haft hnot b hb hb' K hK Q'
      have e9 := (hb' 9 (by simp)).trans s9
      clear hb hb'
      go_simp
      exact hK _ _ rfl (fun _ _ _ h => h) hJ
    · intro done us W hJ hdep haft hnot b hb hb' K hK Q'
      have e11 := (hb' 11 (by simp)).trans s11
      clear hb hb'
      have z0 := Ext.cell hJ x0
      have z1 := Ext.cell hJ x1
      have z2 := Ext.cell hJ x2
      go_simp
      exact hK _ _ rfl (fun _ _ _ h => h) hJ
    · intro done us W hJ hdep haft hnot b hb hb' K hK Q'
      simp only [List.getD_cons_succ, List.getD_cons_zero, List.mem_cons, List.not_mem_nil, or_false, forall_eq] at hdep
      have e37 := hb 0 37 rfl
      have d0 := hdep
      rw [d0.1] at e37
      clear hb hb' hdep d0
      go_simp
      exact hK _ _ rfl (fun _ _ _ h => h) hJ
  · intro us W hV hJ
    exact hend (us 0) (us 1) (us 2) W (hV 0 (by omega)) (hV 1 (by omega)) (hV 2 (by omega)) hJ
set_option maxRecDepth 100000 in
set_option maxHeartbeats 16000000 in
theorem worstP_ok (S : Nat) (A : Option Addr) (n c : Nat) (ms : List Mt) (gt ot ct : Nat) (u : Nat → Rat) (w : World) (h : MsAt w A n ms) (hv : VP (S : Int) ms) (hS : ShP RatG w gt ot S u) (hf : FitQW (worstP (3 * S) u ms).2) :
    Calls Try.prog 76 #[.agg #[.int .i64 (S : Int), .slice A n c], .slice (some ⟨gt, ot, none⟩) S ct] w (fun e w' => ∃ v, e = .returned (.tuple #[.int .i64 (atI (worstP (3 * S) u ms).1), v, .int .i64 0]) ∧ RatC w' v (worstP (3 * S) u ms).2 ∧ Ext w w') := by
  have H := Lib.hid h
  have HV := Lib.hid hv
  clear h hv
  have hXe : Ext w ((w.alloc (.cells #[.int .i64 (S : Int), .slice A n c] 76)).alloc (.cells #[.bool false, .slice none 0 0, .slice none 0 0] 97)) := ((Ext.refl w).alloc _).alloc _
  have kP : Blk ((w.alloc (.cells #[.int .i64 (S : Int), .slice A n c] 76)).alloc (.cells #[.bool false, .slice none 0 0, .slice none 0 0] 97)) w.heap.size 76 #[.int .i64 (S : Int), .slice A n c] := Blk.alloc (Blk.new w _ _) _
  have kR : Blk ((w.alloc (.cells #[.int .i64 (S : Int), .slice A n c] 76)).alloc (.cells #[.bool false, .slice none 0 0, .slice none 0 0] 97)) (w.heap.size + 1) 97 #[.bool false, .slice none 0 0, .slice none 0 0] := Blk.at_ (by simp)
  go_enter Try.func76, Try.ntmps76
  go_upto_region 1 with (fail)
  generalize (w.alloc (.cells #[.int .i64 (S : Int), .slice A n c] 76)).alloc (.cells #[.bool false, .slice none 0 0, .slice none 0 0] 97) = w1 at hXe kP kR ⊢
  have HX := Lib.hid hXe
  have HP := Lib.hid kP
  have HR := Lib.hid kR
  clear hXe kP kR
  have p0 := HP.out.cell 0
  have p1 := HP.out.cell 1
  simp only [List.getElem?_toArray, List.getElem?_cons_zero, List.getElem?_cons_succ] at p0 p1
  go_wp2_with fail
  have HS0 := Lib.hid hS
  have HF := Lib.hid hf
  have hn64 : n ≤ 64 := by have := HV.out.2.2.1; have := H.out.1; omega
  have hS1 : 1 ≤ S := by have := HV.out.1; omega
  clear hS hf
  refine (rdP_ok S A n c ms gt ot ct u _ (H.out.ext HX.out) HV.out (HS0.out.ext growsG HX.out)).mono ?_
  rintro e w2 ⟨go, rfl, hgo, hS, hX⟩
  have HS := Lib.hid hS
  replace HX := Lib.hid (HX.out.trans hX)
  replace HP := Lib.hid (HP.out.ext hX)
  replace HR := Lib.hid (HR.out.ext hX)
  clear hS hX p0 p1 hgo
  have p0 := HP.out.cell 0
  have p1 := HP.out.cell 1
  simp only [List.getElem?_toArray, List.getElem?_cons_zero, List.getElem?_cons_succ] at p0 p1
  go_wp2_with fail
  refine (worst_any S A n c ms go 0 S u _ (H.out.ext HX.out) HV.out.2.2.2 hn64 hS1 HS.out).mono ?_
  obtain ⟨ai, hai⟩ : ∃ ai, atI (worstP (3 * S) u ms).1 = ai := ⟨_, rfl⟩
  rw [hai]
  have HAI := Lib.hid hai
  clear hai
  rintro e w3 ⟨v3, rfl, hv, hX⟩
  obtain ⟨s1, A1, l1, c1, B1, m1, k1, rfl⟩ := NumX.open hv
  have HN := Lib.hid hv
  replace HX := Lib.hid (HX.out.trans hX)
  replace HR := Lib.hid (HR.out.ext hX)
  clear hv hX p0 p1
  go_upto_region 5 with (fail)
  have hXa : Ext w3 (w3.alloc (.cells #[.bool s1, .slice A1 l1 c1, .slice B1 m1 k1] 217)) := (Ext.refl _).alloc _
  have kW := Blk.new w3 217 #[.bool s1, .slice A1 l1 c1, .slice B1 m1 k1]
  replace HX := Lib.hid (HX.out.trans hXa)
  replace HR := Lib.hid (HR.out.ext hXa)
  replace HN := Lib.hid (HN.out.ext hXa)
  clear hXa
  generalize w3.heap.size = gw at kW ⊢
  generalize w3.alloc (.cells #[.bool s1, .slice A1 l1 c1, .slice B1 m1 k1] 217) = w4 at kW HX HR HN ⊢
  have y0 := kW.cell 0
  have y1 := kW.cell 1
  have y2 := kW.cell 2
  simp only [List.getElem?_toArray, List.getElem?_cons_zero, List.getElem?_cons_succ] at y0 y1 y2
  clear kW
  go_wp2_with fail
  refine (doneG HN.out (by omega) HF.out).mono ?_
  rintro e w5 ⟨v5, rfl, hv, hX⟩
  obtain ⟨s4, A4, l4, c4, B4, m4, k4, rfl⟩ := RatC.open hv
  have HC := Lib.hid hv
  replace HX := Lib.hid (HX.out.trans hX)
  replace HR := Lib.hid (HR.out.ext hX)
  clear hv hX y0 y1 y2
  go_upto_region 6 with (fail)
  have hXa : Ext w5 (w5.alloc (.cells #[.bool s4, .slice A4 l4 c4, .slice B4 m4 k4] 97)) := (Ext.refl _).alloc _
  have kW := Blk.new w5 97 #[.bool s4, .slice A4 l4 c4, .slice B4 m4 k4]
  replace HX := Lib.hid (HX.out.trans hXa)
  replace HR := Lib.hid (HR.out.ext hXa)
  replace HC := Lib.hid (staysC.grows _ _ _ _ HC.out hXa)
  clear hXa
  generalize w5.heap.size = gy at kW ⊢
  generalize w5.alloc (.cells #[.bool s4, .slice A4 l4 c4, .slice B4 m4 k4] 97) = w6 at kW HX HR HC ⊢
  have KW := Lib.hid kW
  clear kW
  go_upto_region 8 with (fail)
  refine worP_r8 gy ai s4 A4 B4 l4 c4 m4 k4 w6 (KW.out.cell 0) (KW.out.cell 1) (KW.out.cell 2) _ _ (by simp) rfl rfl ?_
  rintro xv0 xv1 xv2 W rfl rfl rfl hX
  simp only [rops, Try.f76, regOf, Option.bind_some, Nat.reduceBEq, if_true, if_false, Bool.false_eq_true, Option.getD_some, List.drop_succ_cons, List.drop_zero]
  simp only [Act.put, List.setIfInBounds_toArray, List.set_cons_succ, List.set_cons_zero]
  replace HX := Lib.hid (HX.out.trans hX)
  replace HR := Lib.hid (HR.out.ext hX)
  replace HC := Lib.hid (staysC.grows _ _ _ _ HC.out hX)
  clear hX
  obtain ⟨r0, r1, r2, f0, f1, f2⟩ := HR.out.three
  have HNI := Lib.hid (NoInts.three HR.out)
  go_wp2
  refine bodyPost_ret (v := .tuple #[.int .i64 ai, .agg #[.bool s4, .slice A4 l4 c4, .slice B4 m4 k4], .int .i64 0]) (by simp [results, Try.results76, go_sem, *]) rfl ?_
  refine ⟨.agg #[.bool s4, .slice A4 l4 c4, .slice B4 m4 k4], by rw [HAI.out], ?_, Ext.boxed HX.out (by omega) _ _ _⟩
  exact staysC _ _ _ _ _ HC.out ((((Keeps.refl [w.heap.size + 1] W).setCell (.inl (by simp)) _).setCell (.inl (by simp)) _).setCell (.inl (by simp)) _) (fun g hg => by simp at hg; subst hg; exact HNI.out)

end Go.Proofs.Ytikhlcgnlbinfaa
namespace Go.Proofs.Ytikhlcgnlbinfaa
open Go.RowKit

/-- How an element reads: as itself. -/
def mR (v : Value) : Option (DataW Value × List MemPlace) := some (.held v, [])
/-- What stands at a key. -/
def look (l : List (Int × Value)) (x : Int) : Option Value := (l.find? fun p => p.1 == x).map Prod.snd
theorem look_snoc {l : List (Int × Value)} {x : Int} {v : Value} (h : look l x = none) (y : Int) : look (l ++ [(x, v)]) y = if y = x then some v else look l y := by
  unfold look at h ⊢
  rw [List.find?_append]
  by_cases e : y = x
  · subst e
    rw [Option.map_eq_none_iff] at h
    rw [h]
    simp
  · rw [if_neg e]
    have : ([(x, v)] : List (Int × Value)).find? (fun p => p.1 == y) = none := by simp; exact fun h => e h.symm
    rw [this]; simp
theorem look_mem {l : List (Int × Value)} {x : Int} {v : Value} (h : look l x = some v) : (x, v) ∈ l := by
  unfold look at h
  obtain ⟨p, hp, rfl⟩ := Option.map_eq_some_iff.1 h
  have h1 := List.find?_some hp
  have h2 := List.mem_of_find?_eq_some hp
  have : p.1 = x := by simpa using h1
  rw [← this]; exact h2
theorem look_none {l : List (Int × Value)} {x : Int} : look l x = none ↔ x ∉ l.map Prod.fst := by
  unfold look
  rw [Option.map_eq_none_iff, List.find?_eq_none]
  constructor
  · intro h hm
    obtain ⟨p, hp, rfl⟩ := List.mem_map.1 hm
    exact h p hp (by simp)
  · intro h p hp e
    exact h (List.mem_map.2 ⟨p, hp, by simpa using e⟩)
theorem nodup_snoc {l : List (Int × Value)} (hn : (l.map Prod.fst).Nodup) {x : Int} {v : Value} (h : look l x = none) : ((l ++ [(x, v)]).map Prod.fst).Nodup := by
  rw [List.map_append, List.nodup_append]
  refine ⟨hn, by simp, fun a ha b hb => ?_⟩
  simp at hb
  subst hb
  rintro rfl
  exact look_none.1 h ha
/-- Block 'b' is a map of just these keys with these values. -/
structure MapL (P : Program) (k : TypeId) (w : World) (b : Nat) (l : List (Int × Value)) : Prop where
  own : ∃ D, w.ownsMap P k mR b l.length D ∧ (∀ x z, D.atKey (.int .i64 x) z = ((look l x).map DataW.held).getD z) ∧ Maps.size D = l.length
  apart : (l.map Prod.fst).Nodup

section
variable {P : Program} {k : TypeId} {w w' : World} {b : Nat} {l l' : List (Int × Value)}
theorem MapL.lt (h : MapL P k w b l) : b < w.heap.size := by obtain ⟨D, h1, _⟩ := h.own; exact h1.lt
theorem MapL.kept {row : Option Nat} (h : MapL P k w b l) (hg : w.grownBy w' row) (hne : some b ≠ row) : MapL P k w' b l := by obtain ⟨D, h1, h2⟩ := h.own; exact ⟨⟨D, h1.kept hg hne, h2⟩, h.apart⟩
theorem MapL.ext (h : MapL P k w b l) (he : Ext w w') : MapL P k w' b l := h.kept (he.row none) (by simp)
theorem MapL.keeps {L : List Nat} (h : MapL P k w b l) (hk : Keeps L w w') (hn : b ∉ L) : MapL P k w' b l := by
  obtain ⟨⟨D, h1, h2⟩, h3⟩ := h
  have hl := h1.lt
  obtain ⟨es, clock, hb, r⟩ := h1
  exact ⟨⟨D, ⟨es, clock, (hk.block b hl hn).trans hb, r⟩, h2⟩, h3⟩
theorem MapL.setCell (h : MapL P k w b l) {a : Addr} (ha : b ≠ a.block) (u : Value) : MapL P k (w.setCell a u) b l := by obtain ⟨D, h1, h2⟩ := h.own; exact ⟨⟨D, h1.setCell ha u, h2⟩, h.apart⟩
theorem MapL.drew (h : MapL P k w b l) : MapL P k w.drew b l := by obtain ⟨D, h1, h2⟩ := h.own; exact ⟨⟨D, h1.drew, h2⟩, h.apart⟩
theorem MapL.made (w : World) (P : Program) (k : TypeId) : MapL P k (w.alloc (.map #[] 0)) w.heap.size [] := ⟨⟨_, World.ownsMap_made w P k mR, fun _ _ => rfl, rfl⟩, by simp⟩
variable (K : Maps.Keyed P k) {t e : TypeId} (ht : P.underlying t = some (.map k e))
theorem has_of {D : DataW Value} {l : List (Int × Value)} (h : ∀ x z, D.atKey (.int .i64 x) z = ((look l x).map DataW.held).getD z) (x : Int) : Maps.has D (.int .i64 x) = (look l x).isSome := by
  cases hl : look l x with
  | none => exact Maps.has_false_of_atKey fun z => by rw [h, hl]; rfl
  | some v => exact Maps.has_true_of_atKey (y := .held v) fun z => by rw [h, hl]; rfl
include K ht
/-- 'm[x]'. -/
theorem MapL.run_at (h : MapL P k w b l) {z : Value} (hz : (zeroValue e).run P w = .ok z w) {x : Int} (hkey : keyOf P k (.int .i64 x) = some (.int .i64 x)) :
    (Instr.lookup t (.map (some b)) (.int .i64 x) false).run P w = .ok ((look l x).getD z) w := by
  obtain ⟨⟨D, h1, h2, h3⟩, h4⟩ := h
  obtain ⟨v, ps, hrun, hv⟩ := h1.lookup K ht hz (zd := .held z) (zp := []) rfl hkey
  rw [h2] at hv
  have : v = (look l x).getD z := by
    injection hv with hv
    injection hv with hv _
    cases hl : look l x with
    | none => rw [hl] at hv; injection hv
    | some u => rw [hl] at hv; injection hv
  subst this
  exact hrun
/-- 'm[x] = v', x a new key. -/
theorem MapL.run_put (h : MapL P k w b l) (hn : l.length < maxLen) {x : Int} {v : Value} (hkey : keyOf P k (.int .i64 x) = some (.int .i64 x)) (hl : look l x = none) :
    ∃ w', (Instr.mapUpdate t (.map (some b)) (.int .i64 x) v).run P w = .ok () w' ∧ MapL P k w' b (l ++ [(x, v)]) ∧ w.grownBy w' (some b) := by
  obtain ⟨⟨D, h1, h2, h3⟩, h4⟩ := h
  obtain ⟨w', hrun, h5, h6⟩ := h1.store K ht hn (d := .held v) (ps := []) hkey rfl (val := v)
  refine ⟨w', hrun, ⟨⟨_, by rw [List.length_append]; exact h5, fun y z => ?_, ?_⟩, nodup_snoc h4 hl⟩, h6.grown⟩
  · by_cases e : y = x
    · subst e
      rw [Maps.atKey_put_same h1.isMap (K.key hkey), look_snoc hl, if_pos rfl]; rfl
    · rw [Maps.atKey_put_other (by intro e'; injection e' with _ e'; exact e e'), look_snoc hl, if_neg e, h2]
  · rw [Maps.size_put (h1.tidy K), has_of h2, hl]; simp [h3]
end

section
variable {P : Program} (w : World) {ops : Array Oper} {rest : List Oper} {o : Oper} {a : Act} {Q : Exit → Act → World → Prop} {k : TypeId} {b : Nat} {l : List (Int × Value)}
theorem keyOf_i64 {P : Program} {k : TypeId} (hk : P.underlying k = some (.int .i64)) {x : Int} (hx : -9223372036854775808 ≤ x ∧ x ≤ 9223372036854775807) : keyOf P k (.int .i64 x) = some (.int .i64 x) := by
  have : (Lit.int .i64 x).wf = true := by simp [Lit.wf, IntKind.min, IntKind.max, IntKind.bits, IntKind.signed]; omega
  simp [keyOf, mapKey, hk, this]
/-- 'm[x] = v', a new key. -/
theorem wpList_put_new (hg : o.guard = none) (m x v : Operand) (t : TypeId) (hop : o.op = Op.mapUpdate t m x v) (e : TypeId) (K : Maps.Keyed P k) (hk : P.underlying k = some (.int .i64)) (ht : P.underlying t = some (.map k e))
    (hm : a.eval m = .map (some b)) (hown : MapL P k w b l) (hn : l.length < maxLen) (X : Int) (V : Value) (hx : a.eval x = .int .i64 X) (hv : a.eval v = V) (hX : -9223372036854775808 ≤ X ∧ X ≤ 9223372036854775807) (hl : look l X = none)
    (hK : ∀ w', MapL P k w' b (l ++ [(X, V)]) → w.grownBy w' (some b) → wpList P ops Q rest (a.put o.dst undef) w') : wpList P ops Q (o :: rest) a w := by
  refine wpList_plain hg fun K' hK' => ?_
  obtain ⟨w', hrun, r1, r2⟩ := hown.run_put K ht hn (v := V) (keyOf_i64 hk hX) hl
  unfold Oper.wp
  simp [execOp, hop, hm, hx, hv, hrun, Result.andThen]
  exact hK' _ _ (hK w' r1 r2)
end
end Go.Proofs.Ytikhlcgnlbinfaa
