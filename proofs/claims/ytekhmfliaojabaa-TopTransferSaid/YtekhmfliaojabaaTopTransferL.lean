/- Lemmas of the proof that follows (TopTransfer, part 12): walks of functions by contract, and plain lemmas. Conditions: none. -/
import Derived.Test.YtekhmfliaojabaaTopTransferK
namespace Go.Proofs.Ytekhmfliaojabaa
open Go.RowKit

theorem strOfNums_eq {xs ys : List Int} (hx : ∀ x ∈ xs, (Lit.int .u8 x).wf = true) (hy : ∀ y ∈ ys, (Lit.int .u8 y).wf = true) (h : (strOfNums xs).toList = (strOfNums ys).toList) : xs = ys := by
  have h1 : xs.map (fun n => UInt8.ofNat n.toNat) = ys.map (fun n => UInt8.ofNat n.toNat) := by rw [Lib.strOfNums_toList, Lib.strOfNums_toList] at h; exact h
  clear h
  induction xs generalizing ys with
  | nil => cases ys with
    | nil => rfl
    | cons y ys => simp at h1
  | cons x xs ih => cases ys with
    | nil => simp at h1
    | cons y ys =>
      simp only [List.map_cons, List.cons.injEq] at h1
      have a := u8_bounds (hx x (by simp))
      have b := u8_bounds (hy y (by simp))
      have e := congrArg UInt8.toNat h1.1
      simp only [UInt8.toNat_ofNat'] at e
      rw [Nat.mod_eq_of_lt (by omega), Nat.mod_eq_of_lt (by omega)] at e
      rw [ih (fun z hz => hx z (by simp [hz])) (fun z hz => hy z (by simp [hz])) h1.2, show x = y by omega]

set_option maxRecDepth 100000 in
set_option maxHeartbeats 2000000 in
theorem foreign_a (gf gs gb ob m c0 : Nat) (st sq : Int) (w : World) (y0 : w.cell? ⟨gf, 0, none⟩ = some (.int .i64 st)) (hne : (st != 0) = true) (a : Act) (Q : Exit → Act → World → Prop) (hsize : 146 ≤ a.tmps.size)
    (s7 : a.tmps[7]? = some (.pointer (some ⟨gs, 0, none⟩)))
    (s24 : a.tmps[24]? = some (.pointer (some ⟨gf, 0, none⟩)))
    (hend : ∀ (xv0 xv1 xv2 xv3 xv4 xv5 xv6 xv7 xv8 xv9 xv10 xv11 xv12 xv13 xv14 xv15 xv16 xv17 xv18 xv19 xv20 xv21 xv22 xv23 xv24 xv25 xv26 xv27 : Value) (W : World), (xv0 = .pointer (some ⟨gf, 0, none⟩)) → (xv1 = .int .i64 st) → (xv2 = .bool true) → (xv3 = .bool true) → (xv4 = undef) → (xv5 = undef) → (xv6 = undef) → (xv7 = undef) → (xv8 = undef) → (xv9 = undef) → (xv10 = undef) → (xv11 = undef) → (xv12 = .bool true) → (xv13 = .bool true) → (xv14 = undef) → (xv15 = undef) → (xv16 = undef) → (xv17 = undef) → (xv18 = undef) → (xv19 = undef) → (xv20 = undef) → (xv21 = undef) → (xv22 = undef) → (xv23 = undef) → (xv24 = undef) → (xv25 = undef) → (xv26 = undef) → (xv27 = .bool true) → Ext w W → wpList Try.prog (rops Try.f68 25).toArray Q ((rops Try.f68 25).drop 28) ((((((((((((((((((((((((((((a.put (some 118) xv0).put (some 119) xv1).put (some 120) xv2).put (some 121) xv3).put (some 122) xv4).put (some 123) xv5).put (some 124) xv6).put (some 125) xv7).put (some 126) xv8).put (some 127) xv9).put (some 128) xv10).put (some 129) xv11).put (some 130) xv12).put (some 131) xv13).put (some 132) xv14).put (some 133) xv15).put (some 134) xv16).put (some 135) xv17).put (some 136) xv18).put (some 137) xv19).put (some 138) xv20).put (some 139) xv21).put (some 140) xv22).put (some 141) xv23).put (some 142) xv24).put (some 143) xv25).put (some 144) xv26).put (some 145) xv27) W) :
    (Code.region 25 (rops Try.f68 25).toArray true).wp Try.prog Q a w := by
  have hmono : ∀ (W W' : World) (j : Nat) (u : Value), Ext W W' → (fun (i : Nat) (v : Value) (W : World) => match i with
    | 0 => v = .pointer (some ⟨gf, 0, none⟩)
    | 1 => v = .int .i64 st
    | 2 => v = .bool true
    | 3 => v = .bool true
    | 4 => v = undef
    | 5 => v = undef
    | 6 => v = undef
    | 7 => v = undef
    | 8 => v = undef
    | 9 => v = undef
    | 10 => v = undef
    | 11 => v = undef
    | 12 => v = .bool true
    | 13 => v = .bool true
    | 14 => v = undef
    | 15 => v = undef
    | 16 => v = undef
    | 17 => v = undef
    | 18 => v = undef
    | 19 => v = undef
    | 20 => v = undef
    | 21 => v = undef
    | 22 => v = undef
    | 23 => v = undef
    | 24 => v = undef
    | 25 => v = undef
    | 26 => v = undef
    | 27 => v = .bool true
    | _ => True) j u W → (fun (i : Nat) (v : Value) (W : World) => match i with
    | 0 => v = .pointer (some ⟨gf, 0, none⟩)
    | 1 => v = .int .i64 st
    | 2 => v = .bool true
    | 3 => v = .bool true
    | 4 => v = undef
    | 5 => v = undef
    | 6 => v = undef
    | 7 => v = undef
    | 8 => v = undef
    | 9 => v = undef
    | 10 => v = undef
    | 11 => v = undef
    | 12 => v = .bool true
    | 13 => v = .bool true
    | 14 => v = undef
    | 15 => v = undef
    | 16 => v = undef
    | 17 => v = undef
    | 18 => v = undef
    | 19 => v = undef
    | 20 => v = undef
    | 21 => v = undef
    | 22 => v = undef
    | 23 => v = undef
    | 24 => v = undef
    | 25 => v = undef
    | 26 => v = undef
    | 27 => v = .bool true
    | _ => True) j u W' := by
    intro W W' j u hX h
    match j, h with
    | 0, h => exact h
    | 1, h => exact h
    | 2, h => exact h
    | 3, h => exact h
    | 4, h => exact h
    | 5, h => exact h
    | 6, h => exact h
    | 7, h => exact h
    | 8, h => exact h
    | 9, h => exact h
    | 10, h => exact h
    | 11, h => exact h
    | 12, h => exact h
    | 13, h => exact h
    | 14, h => exact h
    | 15, h => exact h
    | 16, h => exact h
    | 17, h => exact h
    | 18, h => exact h
    | 19, h => exact h
    | 20, h => exact h
    | 21, h => exact h
    | 22, h => exact h
    | 23, h => exact h
    | 24, h => exact h
    | 25, h => exact h
    | 26, h => exact h
    | 27, h => exact h
    | _ + 28, h => exact h
  have hsz : ∀ d, some d ∈ ([some 118, some 119, some 120, some 121, some 122, some 123, some 124, some 125, some 126, some 127, some 128, some 129, some 130, some 131, some 132, some 133, some 134, some 135, some 136, some 137, some 138, some 139, some 140, some 141, some 142, some 143, some 144, some 145] : List (Option Tmp)) → d < a.tmps.size := slots_lt (by decide) hsize
  refine wp_region_j 28 [some 118, some 119, some 120, some 121, some 122, some 123, some 124, some 125, some 126, some 127, some 128, some 129, some 130, some 131, some 132, some 133, some 134, some 135, some 136, some 137, some 138, some 139, some 140, some 141, some 142, some 143, some 144, some 145] [[], [0], [1], [2], [3], [3, 4], [3], [3, 6], [3, 7], [3, 8], [3, 9], [3, 5, 10], [3, 11], [12], [13], [13, 14], [13, 15], [13, 16], [13], [13, 18], [13, 17, 19], [13, 20], [13, 21], [13], [13, 23], [13, 24], [13, 22, 25], [13, 26]] [[], [], [], [], [], [], [], [], [], [], [], [], [], [], [], [], [], [], [], [], [], [], [], [], [], [], [], []] (fun (i : Nat) (v : Value) (W : World) => match i with
    | 0 => v = .pointer (some ⟨gf, 0, none⟩)
    | 1 => v = .int .i64 st
    | 2 => v = .bool true
    | 3 => v = .bool true
    | 4 => v = undef
    | 5 => v = undef
    | 6 => v = undef
    | 7 => v = undef
    | 8 => v = undef
    | 9 => v = undef
    | 10 => v = undef
    | 11 => v = undef
    | 12 => v = .bool true
    | 13 => v = .bool true
    | 14 => v = undef
    | 15 => v = undef
    | 16 => v = undef
    | 17 => v = undef
    | 18 => v = undef
    | 19 => v = undef
    | 20 => v = undef
    | 21 => v = undef
    | 22 => v = undef
    | 23 => v = undef
    | 24 => v = undef
    | 25 => v = undef
    | 26 => v = undef
    | 27 => v = .bool true
    | _ => True) (fun _ W => Ext w W) (by kernel_rfl) (by kernel_rfl) hsz (fun _ _ _ _ h => h) ((Ext.refl w).drew) ?_ ?_
  · clear hend
    simp only [rops, Try.f68, regOf, Option.bind_some, Nat.reduceBEq, if_true, if_false, Bool.false_eq_true, Option.getD_some]
    simp only [List.take_succ_cons, List.take_zero]
    refine ⟨?_, ?_, ?_, ?_, ?_, ?_, ?_, ?_, ?_, ?_, ?_, ?_, ?_, ?_, ?_, ?_, ?_, ?_, ?_, ?_, ?_, ?_, ?_, ?_, ?_, ?_, ?_, ?_, trivial⟩
    · intro done us W hJ hdep haft hnot b hb hb' K hK Q'
      have e24 := (hb' 24 (by simp)).trans s24
      clear hb hb'
      go_simp
      exact hK _ _ rfl (fun _ _ _ h => h) hJ
    · intro done us W hJ hdep haft hnot b hb hb' K hK Q'
      simp only [List.getD_cons_succ, List.getD_cons_zero, List.mem_cons, List.not_mem_nil, or_false, forall_eq_or_imp, forall_eq] at hdep
      have e118 := hb 0 118 rfl
      have d0 := hdep
      rw [d0.1] at e118
      clear hb hb' hdep d0
      have q := Ext.cell hJ y0
      go_simp
      exact hK _ _ rfl (fun _ _ _ h => h) hJ
    · intro done us W hJ hdep haft hnot b hb hb' K hK Q'
      simp only [List.getD_cons_succ, List.getD_cons_zero, List.mem_cons, List.not_mem_nil, or_false, forall_eq_or_imp, forall_eq] at hdep
      have e119 := hb 1 119 rfl
      have d1 := hdep
      rw [d1.1] at e119
      clear hb hb' hdep d1
      go_simp
      exact hK _ _ (by first | rfl | (congr 1; exact decide_eq_true (by omega)) | (congr 1; simp; omega)) (fun _ _ _ h => h) hJ
    · intro done us W hJ hdep haft hnot b hb hb' K hK Q'
      simp only [List.getD_cons_succ, List.getD_cons_zero, List.mem_cons, List.not_mem_nil, or_false, forall_eq_or_imp, forall_eq] at hdep
      have e120 := hb 2 120 rfl
      have d2 := hdep
      rw [d2.1] at e120
      clear hb hb' hdep d2
      go_simp
      exact hK _ _ (by first | rfl | (congr 1; exact decide_eq_true (by omega)) | (congr 1; simp; omega)) (fun _ _ _ h => h) hJ
    · intro done us W hJ hdep haft hnot b hb hb' K hK Q'
      simp only [List.getD_cons_succ, List.getD_cons_zero, List.mem_cons, List.not_mem_nil, or_false, forall_eq_or_imp, forall_eq] at hdep
      have e24 := (hb' 24 (by simp)).trans s24
      have e121 := hb 3 121 rfl
      have d3 := hdep
      rw [d3.1] at e121
      clear hb hb' hdep d3
      go_simp
      exact hK _ _ rfl (fun _ _ _ h => h) hJ
    · intro done us W hJ hdep haft hnot b hb hb' K hK Q'
      simp only [List.getD_cons_succ, List.getD_cons_zero, List.mem_cons, List.not_mem_nil, or_false, forall_eq_or_imp, forall_eq] at hdep
      have e121 := hb 3 121 rfl
      have e122 := hb 4 122 rfl
      have d3 := hdep.1
      have d4 := hdep.2
      rw [d3.1] at e121
      rw [d4.1] at e122
      clear hb hb' hdep d3 d4
      go_simp
      exact hK _ _ rfl (fun _ _ _ h => h) hJ
    · intro done us W hJ hdep haft hnot b hb hb' K hK Q'
      simp only [List.getD_cons_succ, List.getD_cons_zero, List.mem_cons, List.not_mem_nil, or_false, forall_eq_or_imp, forall_eq] at hdep
      have e7 := (hb' 7 (by simp)).trans s7
      have e121 := hb 3 121 rfl
      have d3 := hdep
      rw [d3.1] at e121
      clear hb hb' hdep d3
      go_simp
      exact hK _ _ rfl (fun _ _ _ h => h) hJ
    · intro done us W hJ hdep haft hnot b hb hb' K hK Q'
      simp only [List.getD_cons_succ, List.getD_cons_zero, List.mem_cons, List.not_mem_nil, or_false, forall_eq_or_imp, forall_eq] at hdep
      have e121 := hb 3 121 rfl
      have e124 := hb 6 124 rfl
      have d3 := hdep.1
      have d6 := hdep.2
      rw [d3.1] at e121
      rw [d6.1] at e124
      clear hb hb' hdep d3 d6
      go_simp
      exact hK _ _ rfl (fun _ _ _ h => h) hJ
    · intro done us W hJ hdep haft hnot b hb hb' K hK Q'
      simp only [List.getD_cons_succ, List.getD_cons_zero, List.mem_cons, List.not_mem_nil, or_false, forall_eq_or_imp, forall_eq] at hdep
      have e121 := hb 3 121 rfl
      have e125 := hb 7 125 rfl
      have d3 := hdep.1
      have d7 := hdep.2
      rw [d3.1] at e121
      rw [d7.1] at e125
      clear hb hb' hdep d3 d7
      go_simp
      exact hK _ _ rfl (fun _ _ _ h => h) hJ
    · intro done us W hJ hdep haft hnot b hb hb' K hK Q'
      simp only [List.getD_cons_succ, List.getD_cons_zero, List.mem_cons, List.not_mem_nil, or_false, forall_eq_or_imp, forall_eq] at hdep
      have e121 := hb 3 121 rfl
      have e126 := hb 8 126 rfl
      have d3 := hdep.1
      have d8 := hdep.2
      rw [d3.1] at e121
      rw [d8.1] at e126
      clear hb hb' hdep d3 d8
      go_simp
      exact hK _ _ rfl (fun _ _ _ h => h) hJ
    · intro done us W hJ hdep haft hnot b hb hb' K hK Q'
      simp only [List.getD_cons_succ, List.getD_cons_zero, List.mem_cons, List.not_mem_nil, or_false, forall_eq_or_imp, forall_eq] at hdep
      have e121 := hb 3 121 rfl
      have e127 := hb 9 127 rfl
      have d3 := hdep.1
      have d9 := hdep.2
      rw [d3.1] at e121
      rw [d9.1] at e127
      clear hb hb' hdep d3 d9
      go_simp
      exact hK _ _ rfl (fun _ _ _ h => h) hJ
    · intro done us W hJ hdep haft hnot b hb hb' K hK Q'
      simp only [List.getD_cons_succ, List.getD_cons_zero, List.mem_cons, List.not_mem_nil, or_false, forall_eq_or_imp, forall_eq] at hdep
      have e121 := hb 3 121 rfl
      have e123 := hb 5 123 rfl
      have e128 := hb 10 128 rfl
      have d3 := hdep.1
      have d5 := hdep.2.1
      have d10 := hdep.2.2
      rw [d3.1] at e121
      rw [d5.1] at e123
      rw [d10.1] at e128
      clear hb hb' hdep d3 d5 d10
      go_simp
      exact hK _ _ rfl (fun _ _ _ h => h) hJ
    · intro done us W hJ hdep haft hnot b hb hb' K hK Q'
      simp only [List.getD_cons_succ, List.getD_cons_zero, List.mem_cons, List.not_mem_nil, or_false, forall_eq_or_imp, forall_eq] at hdep
      have e121 := hb 3 121 rfl
      have e129 := hb 11 129 rfl
      have d3 := hdep.1
      have d11 := hdep.2
      rw [d3.1] at e121
      rw [d11.1] at e129
      clear hb hb' hdep d3 d11
      go_simp
      exact hK _ _ (by first | rfl | (congr 1; exact decide_eq_true (by omega)) | (congr 1; simp; omega)) (fun _ _ _ h => h) hJ
    · intro done us W hJ hdep haft hnot b hb hb' K hK Q'
      simp only [List.getD_cons_succ, List.getD_cons_zero, List.mem_cons, List.not_mem_nil, or_false, forall_eq_or_imp, forall_eq] at hdep
      have e130 := hb 12 130 rfl
      have d12 := hdep
      rw [d12.1] at e130
      clear hb hb' hdep d12
      go_simp
      exact hK _ _ (by first | rfl | (congr 1; exact decide_eq_true (by omega)) | (congr 1; simp; omega)) (fun _ _ _ h => h) hJ
    · intro done us W hJ hdep haft hnot b hb hb' K hK Q'
      simp only [List.getD_cons_succ, List.getD_cons_zero, List.mem_cons, List.not_mem_nil, or_false, forall_eq_or_imp, forall_eq] at hdep
      have e7 := (hb' 7 (by simp)).trans s7
      have e131 := hb 13 131 rfl
      have d13 := hdep
      rw [d13.1] at e131
      clear hb hb' hdep d13
      go_simp
      exact hK _ _ rfl (fun _ _ _ h => h) hJ
    · intro done us W hJ hdep haft hnot b hb hb' K hK Q'
      simp only [List.getD_cons_succ, List.getD_cons_zero, List.mem_cons, List.not_mem_nil, or_false, forall_eq_or_imp, forall_eq] at hdep
      have e131 := hb 13 131 rfl
      have e132 := hb 14 132 rfl
      have d13 := hdep.1
      have d14 := hdep.2
      rw [d13.1] at e131
      rw [d14.1] at e132
      clear hb hb' hdep d13 d14
      go_simp
      exact hK _ _ rfl (fun _ _ _ h => h) hJ
    · intro done us W hJ hdep haft hnot b hb hb' K hK Q'
      simp only [List.getD_cons_succ, List.getD_cons_zero, List.mem_cons, List.not_mem_nil, or_false, forall_eq_or_imp, forall_eq] at hdep
      have e131 := hb 13 131 rfl
      have e133 := hb 15 133 rfl
      have d13 := hdep.1
      have d15 := hdep.2
      rw [d13.1] at e131
      rw [d15.1] at e133
      clear hb hb' hdep d13 d15
      go_simp
      exact hK _ _ rfl (fun _ _ _ h => h) hJ
    · intro done us W hJ hdep haft hnot b hb hb' K hK Q'
      simp only [List.getD_cons_succ, List.getD_cons_zero, List.mem_cons, List.not_mem_nil, or_false, forall_eq_or_imp, forall_eq] at hdep
      have e131 := hb 13 131 rfl
      have e134 := hb 16 134 rfl
      have d13 := hdep.1
      have d16 := hdep.2
      rw [d13.1] at e131
      rw [d16.1] at e134
      clear hb hb' hdep d13 d16
      go_simp
      exact hK _ _ rfl (fun _ _ _ h => h) hJ
    · intro done us W hJ hdep haft hnot b hb hb' K hK Q'
      simp only [List.getD_cons_succ, List.getD_cons_zero, List.mem_cons, List.not_mem_nil, or_false, forall_eq_or_imp, forall_eq] at hdep
      have e24 := (hb' 24 (by simp)).trans s24
      have e131 := hb 13 131 rfl
      have d13 := hdep
      rw [d13.1] at e131
      clear hb hb' hdep d13
      go_simp
      exact hK _ _ rfl (fun _ _ _ h => h) hJ
    · intro done us W hJ hdep haft hnot b hb hb' K hK Q'
      simp only [List.getD_cons_succ, List.getD_cons_zero, List.mem_cons, List.not_mem_nil, or_false, forall_eq_or_imp, forall_eq] at hdep
      have e131 := hb 13 131 rfl
      have e136 := hb 18 136 rfl
      have d13 := hdep.1
      have d18 := hdep.2
      rw [d13.1] at e131
      rw [d18.1] at e136
      clear hb hb' hdep d13 d18
      go_simp
      exact hK _ _ rfl (fun _ _ _ h => h) hJ
    · intro done us W hJ hdep haft hnot b hb hb' K hK Q'
      simp only [List.getD_cons_succ, List.getD_cons_zero, List.mem_cons, List.not_mem_nil, or_false, forall_eq_or_imp, forall_eq] at hdep
      have e131 := hb 13 131 rfl
      have e135 := hb 17 135 rfl
      have e137 := hb 19 137 rfl
      have d13 := hdep.1
      have d17 := hdep.2.1
      have d19 := hdep.2.2
      rw [d13.1] at e131
      rw [d17.1] at e135
      rw [d19.1] at e137
      clear hb hb' hdep d13 d17 d19
      go_simp
      exact hK _ _ rfl (fun _ _ _ h => h) hJ
    · intro done us W hJ hdep haft hnot b hb hb' K hK Q'
      simp only [List.getD_cons_succ, List.getD_cons_zero, List.mem_cons, List.not_mem_nil, or_false, forall_eq_or_imp, forall_eq] at hdep
      have e131 := hb 13 131 rfl
      have e138 := hb 20 138 rfl
      have d13 := hdep.1
      have d20 := hdep.2
      rw [d13.1] at e131
      rw [d20.1] at e138
      clear hb hb' hdep d13 d20
      go_simp
      exact hK _ _ rfl (fun _ _ _ h => h) hJ
    · intro done us W hJ hdep haft hnot b hb hb' K hK Q'
      simp only [List.getD_cons_succ, List.getD_cons_zero, List.mem_cons, List.not_mem_nil, or_false, forall_eq_or_imp, forall_eq] at hdep
      have e131 := hb 13 131 rfl
      have e139 := hb 21 139 rfl
      have d13 := hdep.1
      have d21 := hdep.2
      rw [d13.1] at e131
      rw [d21.1] at e139
      clear hb hb' hdep d13 d21
      go_simp
      exact hK _ _ rfl (fun _ _ _ h => h) hJ
    · intro done us W hJ hdep haft hnot b hb hb' K hK Q'
      simp only [List.getD_cons_succ, List.getD_cons_zero, List.mem_cons, List.not_mem_nil, or_false, forall_eq_or_imp, forall_eq] at hdep
      have e24 := (hb' 24 (by simp)).trans s24
      have e131 := hb 13 131 rfl
      have d13 := hdep
      rw [d13.1] at e131
      clear hb hb' hdep d13
      go_simp
      exact hK _ _ rfl (fun _ _ _ h => h) hJ
    · intro done us W hJ hdep haft hnot b hb hb' K hK Q'
      simp only [List.getD_cons_succ, List.getD_cons_zero, List.mem_cons, List.not_mem_nil, or_false, forall_eq_or_imp, forall_eq] at hdep
      have e131 := hb 13 131 rfl
      have e141 := hb 23 141 rfl
      have d13 := hdep.1
      have d23 := hdep.2
      rw [d13.1] at e131
      rw [d23.1] at e141
      clear hb hb' hdep d13 d23
      go_simp
      exact hK _ _ rfl (fun _ _ _ h => h) hJ
    · intro done us W hJ hdep haft hnot b hb hb' K hK Q'
      simp only [List.getD_cons_succ, List.getD_cons_zero, List.mem_cons, List.not_mem_nil, or_false, forall_eq_or_imp, forall_eq] at hdep
      have e131 := hb 13 131 rfl
      have e142 := hb 24 142 rfl
      have d13 := hdep.1
      have d24 := hdep.2
      rw [d13.1] at e131
      rw [d24.1] at e142
      clear hb hb' hdep d13 d24
      go_simp
      exact hK _ _ rfl (fun _ _ _ h => h) hJ
    · intro done us W hJ hdep haft hnot b hb hb' K hK Q'
      simp only [List.getD_cons_succ, List.getD_cons_zero, List.mem_cons, List.not_mem_nil, or_false, forall_eq_or_imp, forall_eq] at hdep
      have e131 := hb 13 131 rfl
      have e140 := hb 22 140 rfl
      have e143 := hb 25 143 rfl
      have d13 := hdep.1
      have d22 := hdep.2.1
      have d25 := hdep.2.2
      rw [d13.1] at e131
      rw [d22.1] at e140
      rw [d25.1] at e143
      clear hb hb' hdep d13 d22 d25
      go_simp
      exact hK _ _ rfl (fun _ _ _ h => h) hJ
    · intro done us W hJ hdep haft hnot b hb hb' K hK Q'
      simp only [List.getD_cons_succ, List.getD_cons_zero, List.mem_cons, List.not_mem_nil, or_false, forall_eq_or_imp, forall_eq] at hdep
      have e131 := hb 13 131 rfl
      have e144 := hb 26 144 rfl
      have d13 := hdep.1
      have d26 := hdep.2
      rw [d13.1] at e131
      rw [d26.1] at e144
      clear hb hb' hdep d13 d26
      go_simp
      exact hK _ _ (by first | rfl | (congr 1; exact decide_eq_true (by omega)) | (congr 1; simp; omega)) (fun _ _ _ h => h) hJ
  · intro us W hV hJ
    exact hend (us 0) (us 1) (us 2) (us 3) (us 4) (us 5) (us 6) (us 7) (us 8) (us 9) (us 10) (us 11) (us 12) (us 13) (us 14) (us 15) (us 16) (us 17) (us 18) (us 19) (us 20) (us 21) (us 22) (us 23) (us 24) (us 25) (us 26) (us 27) W (hV 0 (by omega)) (hV 1 (by omega)) (hV 2 (by omega)) (hV 3 (by omega)) (hV 4 (by omega)) (hV 5 (by omega)) (hV 6 (by omega)) (hV 7 (by omega)) (hV 8 (by omega)) (hV 9 (by omega)) (hV 10 (by omega)) (hV 11 (by omega)) (hV 12 (by omega)) (hV 13 (by omega)) (hV 14 (by omega)) (hV 15 (by omega)) (hV 16 (by omega)) (hV 17 (by omega)) (hV 18 (by omega)) (hV 19 (by omega)) (hV 20 (by omega)) (hV 21 (by omega)) (hV 22 (by omega)) (hV 23 (by omega)) (hV 24 (by omega)) (hV 25 (by omega)) (hV 26 (by omega)) (hV 27 (by omega)) hJ
set_option maxRecDepth 100000 in
set_option maxHeartbeats 2000000 in
theorem foreign_b (gf gs : Nat) (A0 : Option Addr) (m c0 : Nat) (sq : Int) (w : World) (y0 : w.cell? ⟨gf, 0, none⟩ = some (.int .i64 0)) (y1 : w.cell? ⟨gf, 1, none⟩ = some (.int .i64 sq)) (z3 : w.cell? ⟨gs, 3, none⟩ = some (.slice A0 m c0)) (hge : (m : Int) ≤ sq) (a : Act) (Q : Exit → Act → World → Prop) (hsize : 146 ≤ a.tmps.size)
    (s7 : a.tmps[7]? = some (.pointer (some ⟨gs, 0, none⟩)))
    (s24 : a.tmps[24]? = some (.pointer (some ⟨gf, 0, none⟩)))
    (hend : ∀ (xv0 xv1 xv2 xv3 xv4 xv5 xv6 xv7 xv8 xv9 xv10 xv11 xv12 xv13 xv14 xv15 xv16 xv17 xv18 xv19 xv20 xv21 xv22 xv23 xv24 xv25 xv26 xv27 : Value) (W : World), (xv0 = .pointer (some ⟨gf, 0, none⟩)) → (xv1 = .int .i64 0) → (xv2 = .bool false) → (xv3 = .bool false) → (xv4 = .pointer (some ⟨gf, 1, none⟩)) → (xv5 = .int .i64 sq) → (xv6 = .pointer (some ⟨gs, 0, none⟩)) → (xv7 = .pointer (some ⟨gs, 0, none⟩)) → (xv8 = .pointer (some ⟨gs, 3, none⟩)) → (xv9 = .slice A0 m c0) → (xv10 = .int .i64 (m : Int)) → (xv11 = .bool true) → (xv12 = .bool true) → (xv13 = .bool true) → (xv14 = undef) → (xv15 = undef) → (xv16 = undef) → (xv17 = undef) → (xv18 = undef) → (xv19 = undef) → (xv20 = undef) → (xv21 = undef) → (xv22 = undef) → (xv23 = undef) → (xv24 = undef) → (xv25 = undef) → (xv26 = undef) → (xv27 = .bool true) → Ext w W → wpList Try.prog (rops Try.f68 25).toArray Q ((rops Try.f68 25).drop 28) ((((((((((((((((((((((((((((a.put (some 118) xv0).put (some 119) xv1).put (some 120) xv2).put (some 121) xv3).put (some 122) xv4).put (some 123) xv5).put (some 124) xv6).put (some 125) xv7).put (some 126) xv8).put (some 127) xv9).put (some 128) xv10).put (some 129) xv11).put (some 130) xv12).put (some 131) xv13).put (some 132) xv14).put (some 133) xv15).put (some 134) xv16).put (some 135) xv17).put (some 136) xv18).put (some 137) xv19).put (some 138) xv20).put (some 139) xv21).put (some 140) xv22).put (some 141) xv23).put (some 142) xv24).put (some 143) xv25).put (some 144) xv26).put (some 145) xv27) W) :
    (Code.region 25 (rops Try.f68 25).toArray true).wp Try.prog Q a w := by
  have hmono : ∀ (W W' : World) (j : Nat) (u : Value), Ext W W' → (fun (i : Nat) (v : Value) (W : World) => match i with
    | 0 => v = .pointer (some ⟨gf, 0, none⟩)
    | 1 => v = .int .i64 0
    | 2 => v = .bool false
    | 3 => v = .bool false
    | 4 => v = .pointer (some ⟨gf, 1, none⟩)
    | 5 => v = .int .i64 sq
    | 6 => v = .pointer (some ⟨gs, 0, none⟩)
    | 7 => v = .pointer (some ⟨gs, 0, none⟩)
    | 8 => v = .pointer (some ⟨gs, 3, none⟩)
    | 9 => v = .slice A0 m c0
    | 10 => v = .int .i64 (m : Int)
    | 11 => v = .bool true
    | 12 => v = .bool true
    | 13 => v = .bool true
    | 14 => v = undef
    | 15 => v = undef
    | 16 => v = undef
    | 17 => v = undef
    | 18 => v = undef
    | 19 => v = undef
    | 20 => v = undef
    | 21 => v = undef
    | 22 => v = undef
    | 23 => v = undef
    | 24 => v = undef
    | 25 => v = undef
    | 26 => v = undef
    | 27 => v = .bool true
    | _ => True) j u W → (fun (i : Nat) (v : Value) (W : World) => match i with
    | 0 => v = .pointer (some ⟨gf, 0, none⟩)
    | 1 => v = .int .i64 0
    | 2 => v = .bool false
    | 3 => v = .bool false
    | 4 => v = .pointer (some ⟨gf, 1, none⟩)
    | 5 => v = .int .i64 sq
    | 6 => v = .pointer (some ⟨gs, 0, none⟩)
    | 7 => v = .pointer (some ⟨gs, 0, none⟩)
    | 8 => v = .pointer (some ⟨gs, 3, none⟩)
    | 9 => v = .slice A0 m c0
    | 10 => v = .int .i64 (m : Int)
    | 11 => v = .bool true
    | 12 => v = .bool true
    | 13 => v = .bool true
    | 14 => v = undef
    | 15 => v = undef
    | 16 => v = undef
    | 17 => v = undef
    | 18 => v = undef
    | 19 => v = undef
    | 20 => v = undef
    | 21 => v = undef
    | 22 => v = undef
    | 23 => v = undef
    | 24 => v = undef
    | 25 => v = undef
    | 26 => v = undef
    | 27 => v = .bool true
    | _ => True) j u W' := by
    intro W W' j u hX h
    match j, h with
    | 0, h => exact h
    | 1, h => exact h
    | 2, h => exact h
    | 3, h => exact h
    | 4, h => exact h
    | 5, h => exact h
    | 6, h => exact h
    | 7, h => exact h
    | 8, h => exact h
    | 9, h => exact h
    | 10, h => exact h
    | 11, h => exact h
    | 12, h => exact h
    | 13, h => exact h
    | 14, h => exact h
    | 15, h => exact h
    | 16, h => exact h
    | 17, h => exact h
    | 18, h => exact h
    | 19, h => exact h
    | 20, h => exact h
    | 21, h => exact h
    | 22, h => exact h
    | 23, h => exact h
    | 24, h => exact h
    | 25, h => exact h
    | 26, h => exact h
    | 27, h => exact h
    | _ + 28, h => exact h
  have hsz : ∀ d, some d ∈ ([some 118, some 119, some 120, some 121, some 122, some 123, some 124, some 125, some 126, some 127, some 128, some 129, some 130, some 131, some 132, some 133, some 134, some 135, some 136, some 137, some 138, some 139, some 140, some 141, some 142, some 143, some 144, some 145] : List (Option Tmp)) → d < a.tmps.size := slots_lt (by decide) hsize
  refine wp_region_j 28 [some 118, some 119, some 120, some 121, some 122, some 123, some 124, some 125, some 126, some 127, some 128, some 129, some 130, some 131, some 132, some 133, some 134, some 135, some 136, some 137, some 138, some 139, some 140, some 141, some 142, some 143, some 144, some 145] [[], [0], [1], [2], [3], [3, 4], [3], [3, 6], [3, 7], [3, 8], [3, 9], [3, 5, 10], [3, 11], [12], [13], [13, 14], [13, 15], [13, 16], [13], [13, 18], [13, 17, 19], [13, 20], [13, 21], [13], [13, 23], [13, 24], [13, 22, 25], [13, 26]] [[], [], [], [], [], [], [], [], [], [], [], [], [], [], [], [], [], [], [], [], [], [], [], [], [], [], [], []] (fun (i : Nat) (v : Value) (W : World) => match i with
    | 0 => v = .pointer (some ⟨gf, 0, none⟩)
    | 1 => v = .int .i64 0
    | 2 => v = .bool false
    | 3 => v = .bool false
    | 4 => v = .pointer (some ⟨gf, 1, none⟩)
    | 5 => v = .int .i64 sq
    | 6 => v = .pointer (some ⟨gs, 0, none⟩)
    | 7 => v = .pointer (some ⟨gs, 0, none⟩)
    | 8 => v = .pointer (some ⟨gs, 3, none⟩)
    | 9 => v = .slice A0 m c0
    | 10 => v = .int .i64 (m : Int)
    | 11 => v = .bool true
    | 12 => v = .bool true
    | 13 => v = .bool true
    | 14 => v = undef
    | 15 => v = undef
    | 16 => v = undef
    | 17 => v = undef
    | 18 => v = undef
    | 19 => v = undef
    | 20 => v = undef
    | 21 => v = undef
    | 22 => v = undef
    | 23 => v = undef
    | 24 => v = undef
    | 25 => v = undef
    | 26 => v = undef
    | 27 => v = .bool true
    | _ => True) (fun _ W => Ext w W) (by kernel_rfl) (by kernel_rfl) hsz (fun _ _ _ _ h => h) ((Ext.refl w).drew) ?_ ?_
  · clear hend
    simp only [rops, Try.f68, regOf, Option.bind_some, Nat.reduceBEq, if_true, if_false, Bool.false_eq_true, Option.getD_some]
    simp only [List.take_succ_cons, List.take_zero]
    refine ⟨?_, ?_, ?_, ?_, ?_, ?_, ?_, ?_, ?_, ?_, ?_, ?_, ?_, ?_, ?_, ?_, ?_, ?_, ?_, ?_, ?_, ?_, ?_, ?_, ?_, ?_, ?_, ?_, trivial⟩
    · intro done us W hJ hdep haft hnot b hb hb' K hK Q'
      have e24 := (hb' 24 (by simp)).trans s24
      clear hb hb'
      go_simp
      exact hK _ _ rfl (fun _ _ _ h => h) hJ
    · intro done us W hJ hdep haft hnot b hb hb' K hK Q'
      simp only [List.getD_cons_succ, List.getD_cons_zero, List.mem_cons, List.not_mem_nil, or_false, forall_eq_or_imp, forall_eq] at hdep
      have e118 := hb 0 118 rfl
      have d0 := hdep
      rw [d0.1] at e118
      clear hb hb' hdep d0
      have q := Ext.cell hJ y0
      go_simp
      exact hK _ _ rfl (fun _ _ _ h => h) hJ
    · intro done us W hJ hdep haft hnot b hb hb' K hK Q'
      simp only [List.getD_cons_succ, List.getD_cons_zero, List.mem_cons, List.not_mem_nil, or_false, forall_eq_or_imp, forall_eq] at hdep
      have e119 := hb 1 119 rfl
      have d1 := hdep
      rw [d1.1] at e119
      clear hb hb' hdep d1
      go_simp
      exact hK _ _ (by first | rfl | (congr 1; exact decide_eq_false (by omega)) | (congr 1; simp; omega)) (fun _ _ _ h => h) hJ
    · intro done us W hJ hdep haft hnot b hb hb' K hK Q'
      simp only [List.getD_cons_succ, List.getD_cons_zero, List.mem_cons, List.not_mem_nil, or_false, forall_eq_or_imp, forall_eq] at hdep
      have e120 := hb 2 120 rfl
      have d2 := hdep
      rw [d2.1] at e120
      clear hb hb' hdep d2
      go_simp
      exact hK _ _ (by first | rfl | (congr 1; exact decide_eq_false (by omega)) | (congr 1; simp; omega)) (fun _ _ _ h => h) hJ
    · intro done us W hJ hdep haft hnot b hb hb' K hK Q'
      simp only [List.getD_cons_succ, List.getD_cons_zero, List.mem_cons, List.not_mem_nil, or_false, forall_eq_or_imp, forall_eq] at hdep
      have e24 := (hb' 24 (by simp)).trans s24
      have e121 := hb 3 121 rfl
      have d3 := hdep
      rw [d3.1] at e121
      clear hb hb' hdep d3
      go_simp
      exact hK _ _ rfl (fun _ _ _ h => h) hJ
    · intro done us W hJ hdep haft hnot b hb hb' K hK Q'
      simp only [List.getD_cons_succ, List.getD_cons_zero, List.mem_cons, List.not_mem_nil, or_false, forall_eq_or_imp, forall_eq] at hdep
      have e121 := hb 3 121 rfl
      have e122 := hb 4 122 rfl
      have d3 := hdep.1
      have d4 := hdep.2
      rw [d3.1] at e121
      rw [d4.1] at e122
      clear hb hb' hdep d3 d4
      have q := Ext.cell hJ y1
      go_simp
      exact hK _ _ rfl (fun _ _ _ h => h) hJ
    · intro done us W hJ hdep haft hnot b hb hb' K hK Q'
      simp only [List.getD_cons_succ, List.getD_cons_zero, List.mem_cons, List.not_mem_nil, or_false, forall_eq_or_imp, forall_eq] at hdep
      have e7 := (hb' 7 (by simp)).trans s7
      have e121 := hb 3 121 rfl
      have d3 := hdep
      rw [d3.1] at e121
      clear hb hb' hdep d3
      go_simp
      exact hK _ _ rfl (fun _ _ _ h => h) hJ
    · intro done us W hJ hdep haft hnot b hb hb' K hK Q'
      simp only [List.getD_cons_succ, List.getD_cons_zero, List.mem_cons, List.not_mem_nil, or_false, forall_eq_or_imp, forall_eq] at hdep
      have e121 := hb 3 121 rfl
      have e124 := hb 6 124 rfl
      have d3 := hdep.1
      have d6 := hdep.2
      rw [d3.1] at e121
      rw [d6.1] at e124
      clear hb hb' hdep d3 d6
      go_simp
      exact hK _ _ rfl (fun _ _ _ h => h) hJ
    · intro done us W hJ hdep haft hnot b hb hb' K hK Q'
      simp only [List.getD_cons_succ, List.getD_cons_zero, List.mem_cons, List.not_mem_nil, or_false, forall_eq_or_imp, forall_eq] at hdep
      have e121 := hb 3 121 rfl
      have e125 := hb 7 125 rfl
      have d3 := hdep.1
      have d7 := hdep.2
      rw [d3.1] at e121
      rw [d7.1] at e125
      clear hb hb' hdep d3 d7
      go_simp
      exact hK _ _ rfl (fun _ _ _ h => h) hJ
    · intro done us W hJ hdep haft hnot b hb hb' K hK Q'
      simp only [List.getD_cons_succ, List.getD_cons_zero, List.mem_cons, List.not_mem_nil, or_false, forall_eq_or_imp, forall_eq] at hdep
      have e121 := hb 3 121 rfl
      have e126 := hb 8 126 rfl
      have d3 := hdep.1
      have d8 := hdep.2
      rw [d3.1] at e121
      rw [d8.1] at e126
      clear hb hb' hdep d3 d8
      have q := Ext.cell hJ z3
      go_simp
      exact hK _ _ rfl (fun _ _ _ h => h) hJ
    · intro done us W hJ hdep haft hnot b hb hb' K hK Q'
      simp only [List.getD_cons_succ, List.getD_cons_zero, List.mem_cons, List.not_mem_nil, or_false, forall_eq_or_imp, forall_eq] at hdep
      have e121 := hb 3 121 rfl
      have e127 := hb 9 127 rfl
      have d3 := hdep.1
      have d9 := hdep.2
      rw [d3.1] at e121
      rw [d9.1] at e127
      clear hb hb' hdep d3 d9
      go_simp
      exact hK _ _ rfl (fun _ _ _ h => h) hJ
    · intro done us W hJ hdep haft hnot b hb hb' K hK Q'
      simp only [List.getD_cons_succ, List.getD_cons_zero, List.mem_cons, List.not_mem_nil, or_false, forall_eq_or_imp, forall_eq] at hdep
      have e121 := hb 3 121 rfl
      have e123 := hb 5 123 rfl
      have e128 := hb 10 128 rfl
      have d3 := hdep.1
      have d5 := hdep.2.1
      have d10 := hdep.2.2
      rw [d3.1] at e121
      rw [d5.1] at e123
      rw [d10.1] at e128
      clear hb hb' hdep d3 d5 d10
      go_simp
      exact hK _ _ (by first | rfl | (congr 1; exact decide_eq_true (by omega)) | (congr 1; simp; omega)) (fun _ _ _ h => h) hJ
    · intro done us W hJ hdep haft hnot b hb hb' K hK Q'
      simp only [List.getD_cons_succ, List.getD_cons_zero, List.mem_cons, List.not_mem_nil, or_false, forall_eq_or_imp, forall_eq] at hdep
      have e121 := hb 3 121 rfl
      have e129 := hb 11 129 rfl
      have d3 := hdep.1
      have d11 := hdep.2
      rw [d3.1] at e121
      rw [d11.1] at e129
      clear hb hb' hdep d3 d11
      go_simp
      exact hK _ _ (by first | rfl | (congr 1; exact decide_eq_true (by omega)) | (congr 1; simp; omega)) (fun _ _ _ h => h) hJ
    · intro done us W hJ hdep haft hnot b hb hb' K hK Q'
      simp only [List.getD_cons_succ, List.getD_cons_zero, List.mem_cons, List.not_mem_nil, or_false, forall_eq_or_imp, forall_eq] at hdep
      have e130 := hb 12 130 rfl
      have d12 := hdep
      rw [d12.1] at e130
      clear hb hb' hdep d12
      go_simp
      exact hK _ _ (by first | rfl | (congr 1; exact decide_eq_true (by omega)) | (congr 1; simp; omega)) (fun _ _ _ h => h) hJ
    · intro done us W hJ hdep haft hnot b hb hb' K hK Q'
      simp only [List.getD_cons_succ, List.getD_cons_zero, List.mem_cons, List.not_mem_nil, or_false, forall_eq_or_imp, forall_eq] at hdep
      have e7 := (hb' 7 (by simp)).trans s7
      have e131 := hb 13 131 rfl
      have d13 := hdep
      rw [d13.1] at e131
      clear hb hb' hdep d13
      go_simp
      exact hK _ _ rfl (fun _ _ _ h => h) hJ
    · intro done us W hJ hdep haft hnot b hb hb' K hK Q'
      simp only [List.getD_cons_succ, List.getD_cons_zero, List.mem_cons, List.not_mem_nil, or_false, forall_eq_or_imp, forall_eq] at hdep
      have e131 := hb 13 131 rfl
      have e132 := hb 14 132 rfl
      have d13 := hdep.1
      have d14 := hdep.2
      rw [d13.1] at e131
      rw [d14.1] at e132
      clear hb hb' hdep d13 d14
      go_simp
      exact hK _ _ rfl (fun _ _ _ h => h) hJ
    · intro done us W hJ hdep haft hnot b hb hb' K hK Q'
      simp only [List.getD_cons_succ, List.getD_cons_zero, List.mem_cons, List.not_mem_nil, or_false, forall_eq_or_imp, forall_eq] at hdep
      have e131 := hb 13 131 rfl
      have e133 := hb 15 133 rfl
      have d13 := hdep.1
      have d15 := hdep.2
      rw [d13.1] at e131
      rw [d15.1] at e133
      clear hb hb' hdep d13 d15
      go_simp
      exact hK _ _ rfl (fun _ _ _ h => h) hJ
    · intro done us W hJ hdep haft hnot b hb hb' K hK Q'
      simp only [List.getD_cons_succ, List.getD_cons_zero, List.mem_cons, List.not_mem_nil, or_false, forall_eq_or_imp, forall_eq] at hdep
      have e131 := hb 13 131 rfl
      have e134 := hb 16 134 rfl
      have d13 := hdep.1
      have d16 := hdep.2
      rw [d13.1] at e131
      rw [d16.1] at e134
      clear hb hb' hdep d13 d16
      go_simp
      exact hK _ _ rfl (fun _ _ _ h => h) hJ
    · intro done us W hJ hdep haft hnot b hb hb' K hK Q'
      simp only [List.getD_cons_succ, List.getD_cons_zero, List.mem_cons, List.not_mem_nil, or_false, forall_eq_or_imp, forall_eq] at hdep
      have e24 := (hb' 24 (by simp)).trans s24
      have e131 := hb 13 131 rfl
      have d13 := hdep
      rw [d13.1] at e131
      clear hb hb' hdep d13
      go_simp
      exact hK _ _ rfl (fun _ _ _ h => h) hJ
    · intro done us W hJ hdep haft hnot b hb hb' K hK Q'
      simp only [List.getD_cons_succ, List.getD_cons_zero, List.mem_cons, List.not_mem_nil, or_false, forall_eq_or_imp, forall_eq] at hdep
      have e131 := hb 13 131 rfl
      have e136 := hb 18 136 rfl
      have d13 := hdep.1
      have d18 := hdep.2
      rw [d13.1] at e131
      rw [d18.1] at e136
      clear hb hb' hdep d13 d18
      go_simp
      exact hK _ _ rfl (fun _ _ _ h => h) hJ
    · intro done us W hJ hdep haft hnot b hb hb' K hK Q'
      simp only [List.getD_cons_succ, List.getD_cons_zero, List.mem_cons, List.not_mem_nil, or_false, forall_eq_or_imp, forall_eq] at hdep
      have e131 := hb 13 131 rfl
      have e135 := hb 17 135 rfl
      have e137 := hb 19 137 rfl
      have d13 := hdep.1
      have d17 := hdep.2.1
      have d19 := hdep.2.2
      rw [d13.1] at e131
      rw [d17.1] at e135
      rw [d19.1] at e137
      clear hb hb' hdep d13 d17 d19
      go_simp
      exact hK _ _ rfl (fun _ _ _ h => h) hJ
    · intro done us W hJ hdep haft hnot b hb hb' K hK Q'
      simp only [List.getD_cons_succ, List.getD_cons_zero, List.mem_cons, List.not_mem_nil, or_false, forall_eq_or_imp, forall_eq] at hdep
      have e131 := hb 13 131 rfl
      have e138 := hb 20 138 rfl
      have d13 := hdep.1
      have d20 := hdep.2
      rw [d13.1] at e131
      rw [d20.1] at e138
      clear hb hb' hdep d13 d20
      go_simp
      exact hK _ _ rfl (fun _ _ _ h => h) hJ
    · intro done us W hJ hdep haft hnot b hb hb' K hK Q'
      simp only [List.getD_cons_succ, List.getD_cons_zero, List.mem_cons, List.not_mem_nil, or_false, forall_eq_or_imp, forall_eq] at hdep
      have e131 := hb 13 131 rfl
      have e139 := hb 21 139 rfl
      have d13 := hdep.1
      have d21 := hdep.2
      rw [d13.1] at e131
      rw [d21.1] at e139
      clear hb hb' hdep d13 d21
      go_simp
      exact hK _ _ rfl (fun _ _ _ h => h) hJ
    · intro done us W hJ hdep haft hnot b hb hb' K hK Q'
      simp only [List.getD_cons_succ, List.getD_cons_zero, List.mem_cons, List.not_mem_nil, or_false, forall_eq_or_imp, forall_eq] at hdep
      have e24 := (hb' 24 (by simp)).trans s24
      have e131 := hb 13 131 rfl
      have d13 := hdep
      rw [d13.1] at e131
      clear hb hb' hdep d13
      go_simp
      exact hK _ _ rfl (fun _ _ _ h => h) hJ
    · intro done us W hJ hdep haft hnot b hb hb' K hK Q'
      simp only [List.getD_cons_succ, List.getD_cons_zero, List.mem_cons, List.not_mem_nil, or_false, forall_eq_or_imp, forall_eq] at hdep
      have e131 := hb 13 131 rfl
      have e141 := hb 23 141 rfl
      have d13 := hdep.1
      have d23 := hdep.2
      rw [d13.1] at e131
      rw [d23.1] at e141
      clear hb hb' hdep d13 d23
      go_simp
      exact hK _ _ rfl (fun _ _ _ h => h) hJ
    · intro done us W hJ hdep haft hnot b hb hb' K hK Q'
      simp only [List.getD_cons_succ, List.getD_cons_zero, List.mem_cons, List.not_mem_nil, or_false, forall_eq_or_imp, forall_eq] at hdep
      have e131 := hb 13 131 rfl
      have e142 := hb 24 142 rfl
      have d13 := hdep.1
      have d24 := hdep.2
      rw [d13.1] at e131
      rw [d24.1] at e142
      clear hb hb' hdep d13 d24
      go_simp
      exact hK _ _ rfl (fun _ _ _ h => h) hJ
    · intro done us W hJ hdep haft hnot b hb hb' K hK Q'
      simp only [List.getD_cons_succ, List.getD_cons_zero, List.mem_cons, List.not_mem_nil, or_false, forall_eq_or_imp, forall_eq] at hdep
      have e131 := hb 13 131 rfl
      have e140 := hb 22 140 rfl
      have e143 := hb 25 143 rfl
      have d13 := hdep.1
      have d22 := hdep.2.1
      have d25 := hdep.2.2
      rw [d13.1] at e131
      rw [d22.1] at e140
      rw [d25.1] at e143
      clear hb hb' hdep d13 d22 d25
      go_simp
      exact hK _ _ rfl (fun _ _ _ h => h) hJ
    · intro done us W hJ hdep haft hnot b hb hb' K hK Q'
      simp only [List.getD_cons_succ, List.getD_cons_zero, List.mem_cons, List.not_mem_nil, or_false, forall_eq_or_imp, forall_eq] at hdep
      have e131 := hb 13 131 rfl
      have e144 := hb 26 144 rfl
      have d13 := hdep.1
      have d26 := hdep.2
      rw [d13.1] at e131
      rw [d26.1] at e144
      clear hb hb' hdep d13 d26
      go_simp
      exact hK _ _ (by first | rfl | (congr 1; exact decide_eq_true (by omega)) | (congr 1; simp; omega)) (fun _ _ _ h => h) hJ
  · intro us W hV hJ
    exact hend (us 0) (us 1) (us 2) (us 3) (us 4) (us 5) (us 6) (us 7) (us 8) (us 9) (us 10) (us 11) (us 12) (us 13) (us 14) (us 15) (us 16) (us 17) (us 18) (us 19) (us 20) (us 21) (us 22) (us 23) (us 24) (us 25) (us 26) (us 27) W (hV 0 (by omega)) (hV 1 (by omega)) (hV 2 (by omega)) (hV 3 (by omega)) (hV 4 (by omega)) (hV 5 (by omega)) (hV 6 (by omega)) (hV 7 (by omega)) (hV 8 (by omega)) (hV 9 (by omega)) (hV 10 (by omega)) (hV 11 (by omega)) (hV 12 (by omega)) (hV 13 (by omega)) (hV 14 (by omega)) (hV 15 (by omega)) (hV 16 (by omega)) (hV 17 (by omega)) (hV 18 (by omega)) (hV 19 (by omega)) (hV 20 (by omega)) (hV 21 (by omega)) (hV 22 (by omega)) (hV 23 (by omega)) (hV 24 (by omega)) (hV 25 (by omega)) (hV 26 (by omega)) (hV 27 (by omega)) hJ
set_option maxRecDepth 100000 in
set_option maxHeartbeats 2000000 in
theorem foreign_c (gf gs gb ob m c0 q : Nat) (A5 : Option Addr) (n5 e5 : Nat) (A6 : Option Addr) (n6 e6 : Nat) (xs5 xs6 : List Int) (st5 st6 : ByteArray) (bq : Bool) (w : World) (y0 : w.cell? ⟨gf, 0, none⟩ = some (.int .i64 0)) (y1 : w.cell? ⟨gf, 1, none⟩ = some (.int .i64 (q : Int))) (z3 : w.cell? ⟨gs, 3, none⟩ = some (.slice (some ⟨gb, ob, none⟩) m c0)) (y2 : w.cell? ⟨gf, 2, none⟩ = some (.slice A5 n5 e5)) (z6 : w.cell? ⟨gb, ob + q, none⟩ = some (.slice A6 n6 e6)) (hI5 : Ints .u8 w A5 n5 xs5) (hI6 : Ints .u8 w A6 n6 xs6) (hst5 : Hid (strOfNums xs5 = st5)) (hst6 : Hid (strOfNums xs6 = st6)) (hbq : Hid ((!(st6.toList == st5.toList)) = bq)) (hqm : q < m) (a : Act) (Q : Exit → Act → World → Prop) (hsize : 146 ≤ a.tmps.size)
    (s7 : a.tmps[7]? = some (.pointer (some ⟨gs, 0, none⟩)))
    (s24 : a.tmps[24]? = some (.pointer (some ⟨gf, 0, none⟩)))
    (hend : ∀ (xv0 xv1 xv2 xv3 xv4 xv5 xv6 xv7 xv8 xv9 xv10 xv11 xv12 xv13 xv14 xv15 xv16 xv17 xv18 xv19 xv20 xv21 xv22 xv23 xv24 xv25 xv26 xv27 : Value) (W : World), (xv0 = .pointer (some ⟨gf, 0, none⟩)) → (xv1 = .int .i64 0) → (xv2 = .bool false) → (xv3 = .bool false) → (xv4 = .pointer (some ⟨gf, 1, none⟩)) → (xv5 = .int .i64 (q : Int)) → (xv6 = .pointer (some ⟨gs, 0, none⟩)) → (xv7 = .pointer (some ⟨gs, 0, none⟩)) → (xv8 = .pointer (some ⟨gs, 3, none⟩)) → (xv9 = .slice (some ⟨gb, ob, none⟩) m c0) → (xv10 = .int .i64 (m : Int)) → (xv11 = .bool false) → (xv12 = .bool false) → (xv13 = .bool false) → (xv14 = .pointer (some ⟨gs, 0, none⟩)) → (xv15 = .pointer (some ⟨gs, 0, none⟩)) → (xv16 = .pointer (some ⟨gs, 3, none⟩)) → (xv17 = .slice (some ⟨gb, ob, none⟩) m c0) → (xv18 = .pointer (some ⟨gf, 1, none⟩)) → (xv19 = .int .i64 (q : Int)) → (xv20 = .pointer (some ⟨gb, ob + q, none⟩)) → (xv21 = .slice A6 n6 e6) → (xv22 = .string st6) → (xv23 = .pointer (some ⟨gf, 2, none⟩)) → (xv24 = .slice A5 n5 e5) → (xv25 = .string st5) → (xv26 = .bool bq) → (xv27 = .bool bq) → Ext w W → wpList Try.prog (rops Try.f68 25).toArray Q ((rops Try.f68 25).drop 28) ((((((((((((((((((((((((((((a.put (some 118) xv0).put (some 119) xv1).put (some 120) xv2).put (some 121) xv3).put (some 122) xv4).put (some 123) xv5).put (some 124) xv6).put (some 125) xv7).put (some 126) xv8).put (some 127) xv9).put (some 128) xv10).put (some 129) xv11).put (some 130) xv12).put (some 131) xv13).put (some 132) xv14).put (some 133) xv15).put (some 134) xv16).put (some 135) xv17).put (some 136) xv18).put (some 137) xv19).put (some 138) xv20).put (some 139) xv21).put (some 140) xv22).put (some 141) xv23).put (some 142) xv24).put (some 143) xv25).put (some 144) xv26).put (some 145) xv27) W) :
    (Code.region 25 (rops Try.f68 25).toArray true).wp Try.prog Q a w := by
  have hmono : ∀ (W W' : World) (j : Nat) (u : Value), Ext W W' → (fun (i : Nat) (v : Value) (W : World) => match i with
    | 0 => v = .pointer (some ⟨gf, 0, none⟩)
    | 1 => v = .int .i64 0
    | 2 => v = .bool false
    | 3 => v = .bool false
    | 4 => v = .pointer (some ⟨gf, 1, none⟩)
    | 5 => v = .int .i64 (q : Int)
    | 6 => v = .pointer (some ⟨gs, 0, none⟩)
    | 7 => v = .pointer (some ⟨gs, 0, none⟩)
    | 8 => v = .pointer (some ⟨gs, 3, none⟩)
    | 9 => v = .slice (some ⟨gb, ob, none⟩) m c0
    | 10 => v = .int .i64 (m : Int)
    | 11 => v = .bool false
    | 12 => v = .bool false
    | 13 => v = .bool false
    | 14 => v = .pointer (some ⟨gs, 0, none⟩)
    | 15 => v = .pointer (some ⟨gs, 0, none⟩)
    | 16 => v = .pointer (some ⟨gs, 3, none⟩)
    | 17 => v = .slice (some ⟨gb, ob, none⟩) m c0
    | 18 => v = .pointer (some ⟨gf, 1, none⟩)
    | 19 => v = .int .i64 (q : Int)
    | 20 => v = .pointer (some ⟨gb, ob + q, none⟩)
    | 21 => v = .slice A6 n6 e6
    | 22 => v = .string st6
    | 23 => v = .pointer (some ⟨gf, 2, none⟩)
    | 24 => v = .slice A5 n5 e5
    | 25 => v = .string st5
    | 26 => v = .bool bq
    | 27 => v = .bool bq
    | _ => True) j u W → (fun (i : Nat) (v : Value) (W : World) => match i with
    | 0 => v = .pointer (some ⟨gf, 0, none⟩)
    | 1 => v = .int .i64 0
    | 2 => v = .bool false
    | 3 => v = .bool false
    | 4 => v = .pointer (some ⟨gf, 1, none⟩)
    | 5 => v = .int .i64 (q : Int)
    | 6 => v = .pointer (some ⟨gs, 0, none⟩)
    | 7 => v = .pointer (some ⟨gs, 0, none⟩)
    | 8 => v = .pointer (some ⟨gs, 3, none⟩)
    | 9 => v = .slice (some ⟨gb, ob, none⟩) m c0
    | 10 => v = .int .i64 (m : Int)
    | 11 => v = .bool false
    | 12 => v = .bool false
    | 13 => v = .bool false
    | 14 => v = .pointer (some ⟨gs, 0, none⟩)
    | 15 => v = .pointer (some ⟨gs, 0, none⟩)
    | 16 => v = .pointer (some ⟨gs, 3, none⟩)
    | 17 => v = .slice (some ⟨gb, ob, none⟩) m c0
    | 18 => v = .pointer (some ⟨gf, 1, none⟩)
    | 19 => v = .int .i64 (q : Int)
    | 20 => v = .pointer (some ⟨gb, ob + q, none⟩)
    | 21 => v = .slice A6 n6 e6
    | 22 => v = .string st6
    | 23 => v = .pointer (some ⟨gf, 2, none⟩)
    | 24 => v = .slice A5 n5 e5
    | 25 => v = .string st5
    | 26 => v = .bool bq
    | 27 => v = .bool bq
    | _ => True) j u W' := by
    intro W W' j u hX h
    match j, h with
    | 0, h => exact h
    | 1, h => exact h
    | 2, h => exact h
    | 3, h => exact h
    | 4, h => exact h
    | 5, h => exact h
    | 6, h => exact h
    | 7, h => exact h
    | 8, h => exact h
    | 9, h => exact h
    | 10, h => exact h
    | 11, h => exact h
    | 12, h => exact h
    | 13, h => exact h
    | 14, h => exact h
    | 15, h => exact h
    | 16, h => exact h
    | 17, h => exact h
    | 18, h => exact h
    | 19, h => exact h
    | 20, h => exact h
    | 21, h => exact h
    | 22, h => exact h
    | 23, h => exact h
    | 24, h => exact h
    | 25, h => exact h
    | 26, h => exact h
    | 27, h => exact h
    | _ + 28, h => exact h
  have hsz : ∀ d, some d ∈ ([some 118, some 119, some 120, some 121, some 122, some 123, some 124, some 125, some 126, some 127, some 128, some 129, some 130, some 131, some 132, some 133, some 134, some 135, some 136, some 137, some 138, some 139, some 140, some 141, some 142, some 143, some 144, some 145] : List (Option Tmp)) → d < a.tmps.size := slots_lt (by decide) hsize
  refine wp_region_j 28 [some 118, some 119, some 120, some 121, some 122, some 123, some 124, some 125, some 126, some 127, some 128, some 129, some 130, some 131, some 132, some 133, some 134, some 135, some 136, some 137, some 138, some 139, some 140, some 141, some 142, some 143, some 144, some 145] [[], [0], [1], [2], [3], [3, 4], [3], [3, 6], [3, 7], [3, 8], [3, 9], [3, 5, 10], [3, 11], [12], [13], [13, 14], [13, 15], [13, 16], [13], [13, 18], [13, 17, 19], [13, 20], [13, 21], [13], [13, 23], [13, 24], [13, 22, 25], [13, 26]] [[], [], [], [], [], [], [], [], [], [], [], [], [], [], [], [], [], [], [], [], [], [], [], [], [], [], [], []] (fun (i : Nat) (v : Value) (W : World) => match i with
    | 0 => v = .pointer (some ⟨gf, 0, none⟩)
    | 1 => v = .int .i64 0
    | 2 => v = .bool false
    | 3 => v = .bool false
    | 4 => v = .pointer (some ⟨gf, 1, none⟩)
    | 5 => v = .int .i64 (q : Int)
    | 6 => v = .pointer (some ⟨gs, 0, none⟩)
    | 7 => v = .pointer (some ⟨gs, 0, none⟩)
    | 8 => v = .pointer (some ⟨gs, 3, none⟩)
    | 9 => v = .slice (some ⟨gb, ob, none⟩) m c0
    | 10 => v = .int .i64 (m : Int)
    | 11 => v = .bool false
    | 12 => v = .bool false
    | 13 => v = .bool false
    | 14 => v = .pointer (some ⟨gs, 0, none⟩)
    | 15 => v = .pointer (some ⟨gs, 0, none⟩)
    | 16 => v = .pointer (some ⟨gs, 3, none⟩)
    | 17 => v = .slice (some ⟨gb, ob, none⟩) m c0
    | 18 => v = .pointer (some ⟨gf, 1, none⟩)
    | 19 => v = .int .i64 (q : Int)
    | 20 => v = .pointer (some ⟨gb, ob + q, none⟩)
    | 21 => v = .slice A6 n6 e6
    | 22 => v = .string st6
    | 23 => v = .pointer (some ⟨gf, 2, none⟩)
    | 24 => v = .slice A5 n5 e5
    | 25 => v = .string st5
    | 26 => v = .bool bq
    | 27 => v = .bool bq
    | _ => True) (fun _ W => Ext w W) (by kernel_rfl) (by kernel_rfl) hsz (fun _ _ _ _ h => h) ((Ext.refl w).drew) ?_ ?_
  · clear hend
    simp only [rops, Try.f68, regOf, Option.bind_some, Nat.reduceBEq, if_true, if_false, Bool.false_eq_true, Option.getD_some]
    simp only [List.take_succ_cons, List.take_zero]
    refine ⟨?_, ?_, ?_, ?_, ?_, ?_, ?_, ?_, ?_, ?_, ?_, ?_, ?_, ?_, ?_, ?_, ?_, ?_, ?_, ?_, ?_, ?_, ?_, ?_, ?_, ?_, ?_, ?_, trivial⟩
    · intro done us W hJ hdep haft hnot b hb hb' K hK Q'
      have e24 := (hb' 24 (by simp)).trans s24
      clear hb hb'
      go_simp
      exact hK _ _ rfl (fun _ _ _ h => h) hJ
    · intro done us W hJ hdep haft hnot b hb hb' K hK Q'
      simp only [List.getD_cons_succ, List.getD_cons_zero, List.mem_cons, List.not_mem_nil, or_false, forall_eq_or_imp, forall_eq] at hdep
      have e118 := hb 0 118 rfl
      have d0 := hdep
      rw [d0.1] at e118
      clear hb hb' hdep d0
      have q := Ext.cell hJ y0
      go_simp
      exact hK _ _ rfl (fun _ _ _ h => h) hJ
    · intro done us W hJ hdep haft hnot b hb hb' K hK Q'
      simp only [List.getD_cons_succ, List.getD_cons_zero, List.mem_cons, List.not_mem_nil, or_false, forall_eq_or_imp, forall_eq] at hdep
      have e119 := hb 1 119 rfl
      have d1 := hdep
      rw [d1.1] at e119
      clear hb hb' hdep d1
      go_simp
      exact hK _ _ (by first | rfl | (congr 1; exact decide_eq_false (by omega)) | (congr 1; simp; omega)) (fun _ _ _ h => h) hJ
    · intro done us W hJ hdep haft hnot b hb hb' K hK Q'
      simp only [List.getD_cons_succ, List.getD_cons_zero, List.mem_cons, List.not_mem_nil, or_false, forall_eq_or_imp, forall_eq] at hdep
      have e120 := hb 2 120 rfl
      have d2 := hdep
      rw [d2.1] at e120
      clear hb hb' hdep d2
      go_simp
      exact hK _ _ (by first | rfl | (congr 1; exact decide_eq_false (by omega)) | (congr 1; simp; omega)) (fun _ _ _ h => h) hJ
    · intro done us W hJ hdep haft hnot b hb hb' K hK Q'
      simp only [List.getD_cons_succ, List.getD_cons_zero, List.mem_cons, List.not_mem_nil, or_false, forall_eq_or_imp, forall_eq] at hdep
      have e24 := (hb' 24 (by simp)).trans s24
      have e121 := hb 3 121 rfl
      have d3 := hdep
      rw [d3.1] at e121
      clear hb hb' hdep d3
      go_simp
      exact hK _ _ rfl (fun _ _ _ h => h) hJ
    · intro done us W hJ hdep haft hnot b hb hb' K hK Q'
      simp only [List.getD_cons_succ, List.getD_cons_zero, List.mem_cons, List.not_mem_nil, or_false, forall_eq_or_imp, forall_eq] at hdep
      have e121 := hb 3 121 rfl
      have e122 := hb 4 122 rfl
      have d3 := hdep.1
      have d4 := hdep.2
      rw [d3.1] at e121
      rw [d4.1] at e122
      clear hb hb' hdep d3 d4
      have q := Ext.cell hJ y1
      go_simp
      exact hK _ _ rfl (fun _ _ _ h => h) hJ
    · intro done us W hJ hdep haft hnot b hb hb' K hK Q'
      simp only [List.getD_cons_succ, List.getD_cons_zero, List.mem_cons, List.not_mem_nil, or_false, forall_eq_or_imp, forall_eq] at hdep
      have e7 := (hb' 7 (by simp)).trans s7
      have e121 := hb 3 121 rfl
      have d3 := hdep
      rw [d3.1] at e121
      clear hb hb' hdep d3
      go_simp
      exact hK _ _ rfl (fun _ _ _ h => h) hJ
    · intro done us W hJ hdep haft hnot b hb hb' K hK Q'
      simp only [List.getD_cons_succ, List.getD_cons_zero, List.mem_cons, List.not_mem_nil, or_false, forall_eq_or_imp, forall_eq] at hdep
      have e121 := hb 3 121 rfl
      have e124 := hb 6 124 rfl
      have d3 := hdep.1
      have d6 := hdep.2
      rw [d3.1] at e121
      rw [d6.1] at e124
      clear hb hb' hdep d3 d6
      go_simp
      exact hK _ _ rfl (fun _ _ _ h => h) hJ
    · intro done us W hJ hdep haft hnot b hb hb' K hK Q'
      simp only [List.getD_cons_succ, List.getD_cons_zero, List.mem_cons, List.not_mem_nil, or_false, forall_eq_or_imp, forall_eq] at hdep
      have e121 := hb 3 121 rfl
      have e125 := hb 7 125 rfl
      have d3 := hdep.1
      have d7 := hdep.2
      rw [d3.1] at e121
      rw [d7.1] at e125
      clear hb hb' hdep d3 d7
      go_simp
      exact hK _ _ rfl (fun _ _ _ h => h) hJ
    · intro done us W hJ hdep haft hnot b hb hb' K hK Q'
      simp only [List.getD_cons_succ, List.getD_cons_zero, List.mem_cons, List.not_mem_nil, or_false, forall_eq_or_imp, forall_eq] at hdep
      have e121 := hb 3 121 rfl
      have e126 := hb 8 126 rfl
      have d3 := hdep.1
      have d8 := hdep.2
      rw [d3.1] at e121
      rw [d8.1] at e126
      clear hb hb' hdep d3 d8
      have q := Ext.cell hJ z3
      go_simp
      exact hK _ _ rfl (fun _ _ _ h => h) hJ
    · intro done us W hJ hdep haft hnot b hb hb' K hK Q'
      simp only [List.getD_cons_succ, List.getD_cons_zero, List.mem_cons, List.not_mem_nil, or_false, forall_eq_or_imp, forall_eq] at hdep
      have e121 := hb 3 121 rfl
      have e127 := hb 9 127 rfl
      have d3 := hdep.1
      have d9 := hdep.2
      rw [d3.1] at e121
      rw [d9.1] at e127
      clear hb hb' hdep d3 d9
      go_simp
      exact hK _ _ rfl (fun _ _ _ h => h) hJ
    · intro done us W hJ hdep haft hnot b hb hb' K hK Q'
      simp only [List.getD_cons_succ, List.getD_cons_zero, List.mem_cons, List.not_mem_nil, or_false, forall_eq_or_imp, forall_eq] at hdep
      have e121 := hb 3 121 rfl
      have e123 := hb 5 123 rfl
      have e128 := hb 10 128 rfl
      have d3 := hdep.1
      have d5 := hdep.2.1
      have d10 := hdep.2.2
      rw [d3.1] at e121
      rw [d5.1] at e123
      rw [d10.1] at e128
      clear hb hb' hdep d3 d5 d10
      go_simp
      exact hK _ _ (by first | rfl | (congr 1; exact decide_eq_false (by omega)) | (congr 1; simp; omega)) (fun _ _ _ h => h) hJ
    · intro done us W hJ hdep haft hnot b hb hb' K hK Q'
      simp only [List.getD_cons_succ, List.getD_cons_zero, List.mem_cons, List.not_mem_nil, or_false, forall_eq_or_imp, forall_eq] at hdep
      have e121 := hb 3 121 rfl
      have e129 := hb 11 129 rfl
      have d3 := hdep.1
      have d11 := hdep.2
      rw [d3.1] at e121
      rw [d11.1] at e129
      clear hb hb' hdep d3 d11
      go_simp
      exact hK _ _ (by first | rfl | (congr 1; exact decide_eq_false (by omega)) | (congr 1; simp; omega)) (fun _ _ _ h => h) hJ
    · intro done us W hJ hdep haft hnot b hb hb' K hK Q'
      simp only [List.getD_cons_succ, List.getD_cons_zero, List.mem_cons, List.not_mem_nil, or_false, forall_eq_or_imp, forall_eq] at hdep
      have e130 := hb 12 130 rfl
      have d12 := hdep
      rw [d12.1] at e130
      clear hb hb' hdep d12
      go_simp
      exact hK _ _ (by first | rfl | (congr 1; exact decide_eq_false (by omega)) | (congr 1; simp; omega)) (fun _ _ _ h => h) hJ
    · intro done us W hJ hdep haft hnot b hb hb' K hK Q'
      simp only [List.getD_cons_succ, List.getD_cons_zero, List.mem_cons, List.not_mem_nil, or_false, forall_eq_or_imp, forall_eq] at hdep
      have e7 := (hb' 7 (by simp)).trans s7
      have e131 := hb 13 131 rfl
      have d13 := hdep
      rw [d13.1] at e131
      clear hb hb' hdep d13
      go_simp
      exact hK _ _ rfl (fun _ _ _ h => h) hJ
    · intro done us W hJ hdep haft hnot b hb hb' K hK Q'
      simp only [List.getD_cons_succ, List.getD_cons_zero, List.mem_cons, List.not_mem_nil, or_false, forall_eq_or_imp, forall_eq] at hdep
      have e131 := hb 13 131 rfl
      have e132 := hb 14 132 rfl
      have d13 := hdep.1
      have d14 := hdep.2
      rw [d13.1] at e131
      rw [d14.1] at e132
      clear hb hb' hdep d13 d14
      go_simp
      exact hK _ _ rfl (fun _ _ _ h => h) hJ
    · intro done us W hJ hdep haft hnot b hb hb' K hK Q'
      simp only [List.getD_cons_succ, List.getD_cons_zero, List.mem_cons, List.not_mem_nil, or_false, forall_eq_or_imp, forall_eq] at hdep
      have e131 := hb 13 131 rfl
      have e133 := hb 15 133 rfl
      have d13 := hdep.1
      have d15 := hdep.2
      rw [d13.1] at e131
      rw [d15.1] at e133
      clear hb hb' hdep d13 d15
      go_simp
      exact hK _ _ rfl (fun _ _ _ h => h) hJ
    · intro done us W hJ hdep haft hnot b hb hb' K hK Q'
      simp only [List.getD_cons_succ, List.getD_cons_zero, List.mem_cons, List.not_mem_nil, or_false, forall_eq_or_imp, forall_eq] at hdep
      have e131 := hb 13 131 rfl
      have e134 := hb 16 134 rfl
      have d13 := hdep.1
      have d16 := hdep.2
      rw [d13.1] at e131
      rw [d16.1] at e134
      clear hb hb' hdep d13 d16
      have q := Ext.cell hJ z3
      go_simp
      exact hK _ _ rfl (fun _ _ _ h => h) hJ
    · intro done us W hJ hdep haft hnot b hb hb' K hK Q'
      simp only [List.getD_cons_succ, List.getD_cons_zero, List.mem_cons, List.not_mem_nil, or_false, forall_eq_or_imp, forall_eq] at hdep
      have e24 := (hb' 24 (by simp)).trans s24
      have e131 := hb 13 131 rfl
      have d13 := hdep
      rw [d13.1] at e131
      clear hb hb' hdep d13
      go_simp
      exact hK _ _ rfl (fun _ _ _ h => h) hJ
    · intro done us W hJ hdep haft hnot b hb hb' K hK Q'
      simp only [List.getD_cons_succ, List.getD_cons_zero, List.mem_cons, List.not_mem_nil, or_false, forall_eq_or_imp, forall_eq] at hdep
      have e131 := hb 13 131 rfl
      have e136 := hb 18 136 rfl
      have d13 := hdep.1
      have d18 := hdep.2
      rw [d13.1] at e131
      rw [d18.1] at e136
      clear hb hb' hdep d13 d18
      have q := Ext.cell hJ y1
      go_simp
      exact hK _ _ rfl (fun _ _ _ h => h) hJ
    · intro done us W hJ hdep haft hnot b hb hb' K hK Q'
      simp only [List.getD_cons_succ, List.getD_cons_zero, List.mem_cons, List.not_mem_nil, or_false, forall_eq_or_imp, forall_eq] at hdep
      have e131 := hb 13 131 rfl
      have e135 := hb 17 135 rfl
      have e137 := hb 19 137 rfl
      have d13 := hdep.1
      have d17 := hdep.2.1
      have d19 := hdep.2.2
      rw [d13.1] at e131
      rw [d17.1] at e135
      rw [d19.1] at e137
      clear hb hb' hdep d13 d17 d19
      go_simp
      exact hK _ _ rfl (fun _ _ _ h => h) hJ
    · intro done us W hJ hdep haft hnot b hb hb' K hK Q'
      simp only [List.getD_cons_succ, List.getD_cons_zero, List.mem_cons, List.not_mem_nil, or_false, forall_eq_or_imp, forall_eq] at hdep
      have e131 := hb 13 131 rfl
      have e138 := hb 20 138 rfl
      have d13 := hdep.1
      have d20 := hdep.2
      rw [d13.1] at e131
      rw [d20.1] at e138
      clear hb hb' hdep d13 d20
      have q := Ext.cell hJ z6
      go_simp
      exact hK _ _ rfl (fun _ _ _ h => h) hJ
    · intro done us W hJ hdep haft hnot b hb hb' K hK Q'
      simp only [List.getD_cons_succ, List.getD_cons_zero, List.mem_cons, List.not_mem_nil, or_false, forall_eq_or_imp, forall_eq] at hdep
      have e131 := hb 13 131 rfl
      have e139 := hb 21 139 rfl
      have d13 := hdep.1
      have d21 := hdep.2
      rw [d13.1] at e131
      rw [d21.1] at e139
      clear hb hb' hdep d13 d21
      have q := str_any W (c := e6) (Ints.ext hI6 hJ)
      rw [hst6.out] at q
      go_simp
      exact hK _ _ rfl (fun _ _ _ h => h) hJ
    · intro done us W hJ hdep haft hnot b hb hb' K hK Q'
      simp only [List.getD_cons_succ, List.getD_cons_zero, List.mem_cons, List.not_mem_nil, or_false, forall_eq_or_imp, forall_eq] at hdep
      have e24 := (hb' 24 (by simp)).trans s24
      have e131 := hb 13 131 rfl
      have d13 := hdep
      rw [d13.1] at e131
      clear hb hb' hdep d13
      go_simp
      exact hK _ _ rfl (fun _ _ _ h => h) hJ
    · intro done us W hJ hdep haft hnot b hb hb' K hK Q'
      simp only [List.getD_cons_succ, List.getD_cons_zero, List.mem_cons, List.not_mem_nil, or_false, forall_eq_or_imp, forall_eq] at hdep
      have e131 := hb 13 131 rfl
      have e141 := hb 23 141 rfl
      have d13 := hdep.1
      have d23 := hdep.2
      rw [d13.1] at e131
      rw [d23.1] at e141
      clear hb hb' hdep d13 d23
      have q := Ext.cell hJ y2
      go_simp
      exact hK _ _ rfl (fun _ _ _ h => h) hJ
    · intro done us W hJ hdep haft hnot b hb hb' K hK Q'
      simp only [List.getD_cons_succ, List.getD_cons_zero, List.mem_cons, List.not_mem_nil, or_false, forall_eq_or_imp, forall_eq] at hdep
      have e131 := hb 13 131 rfl
      have e142 := hb 24 142 rfl
      have d13 := hdep.1
      have d24 := hdep.2
      rw [d13.1] at e131
      rw [d24.1] at e142
      clear hb hb' hdep d13 d24
      have q := str_any W (c := e5) (Ints.ext hI5 hJ)
      rw [hst5.out] at q
      go_simp
      exact hK _ _ rfl (fun _ _ _ h => h) hJ
    · intro done us W hJ hdep haft hnot b hb hb' K hK Q'
      simp only [List.getD_cons_succ, List.getD_cons_zero, List.mem_cons, List.not_mem_nil, or_false, forall_eq_or_imp, forall_eq] at hdep
      have e131 := hb 13 131 rfl
      have e140 := hb 22 140 rfl
      have e143 := hb 25 143 rfl
      have d13 := hdep.1
      have d22 := hdep.2.1
      have d25 := hdep.2.2
      rw [d13.1] at e131
      rw [d22.1] at e140
      rw [d25.1] at e143
      clear hb hb' hdep d13 d22 d25
      have hq := hbq.out
      subst hq
      go_simp
      exact hK _ _ rfl (fun _ _ _ h => h) hJ
    · intro done us W hJ hdep haft hnot b hb hb' K hK Q'
      simp only [List.getD_cons_succ, List.getD_cons_zero, List.mem_cons, List.not_mem_nil, or_false, forall_eq_or_imp, forall_eq] at hdep
      have e131 := hb 13 131 rfl
      have e144 := hb 26 144 rfl
      have d13 := hdep.1
      have d26 := hdep.2
      rw [d13.1] at e131
      rw [d26.1] at e144
      clear hb hb' hdep d13 d26
      go_simp
      exact hK _ _ rfl (fun _ _ _ h => h) hJ
  · intro us W hV hJ
    exact hend (us 0) (us 1) (us 2) (us 3) (us 4) (us 5) (us 6) (us 7) (us 8) (us 9) (us 10) (us 11) (us 12) (us 13) (us 14) (us 15) (us 16) (us 17) (us 18) (us 19) (us 20) (us 21) (us 22) (us 23) (us 24) (us 25) (us 26) (us 27) W (hV 0 (by omega)) (hV 1 (by omega)) (hV 2 (by omega)) (hV 3 (by omega)) (hV 4 (by omega)) (hV 5 (by omega)) (hV 6 (by omega)) (hV 7 (by omega)) (hV 8 (by omega)) (hV 9 (by omega)) (hV 10 (by omega)) (hV 11 (by omega)) (hV 12 (by omega)) (hV 13 (by omega)) (hV 14 (by omega)) (hV 15 (by omega)) (hV 16 (by omega)) (hV 17 (by omega)) (hV 18 (by omega)) (hV 19 (by omega)) (hV 20 (by omega)) (hV 21 (by omega)) (hV 22 (by omega)) (hV 23 (by omega)) (hV 24 (by omega)) (hV 25 (by omega)) (hV 26 (by omega)) (hV 27 (by omega)) hJ
end Go.Proofs.Ytekhmfliaojabaa
namespace Go.Proofs.Ytekhmfliaojabaa
open Go.RowKit

theorem unp_seq {xs : List Int} (h : (unp xs).2.2 = 0) : (unp xs).1.seq = bigN ((xs.drop 2).take 4) := by
  revert h
  unfold unp
  split
  · intro h; simp at h
  · split
    · intro h; simp at h
    · split
      · intro h; simp at h
      · split
        · intro h; simp at h
        · split
          · intro h; simp at h
          · split
            · intro h; simp at h
            · intro _; rfl
theorem hb4 (xs : List Int) (h : ∀ y ∈ xs, (Lit.int .u8 y).wf = true) : ∀ x ∈ (xs.drop 2).take 4, 0 ≤ x ∧ x ≤ 255 := fun x hx => u8_bounds (h x (List.mem_of_mem_drop (List.mem_of_mem_take hx)))
theorem scn_seq (f : Nat) (xs : List Int) (h : ∀ y ∈ xs, (Lit.int .u8 y).wf = true) : ∀ r ∈ (scn f xs).1, 0 ≤ r.seq ∧ r.seq ≤ 4294967295 ∧ ∀ y ∈ r.body, (Lit.int .u8 y).wf = true := by
  induction f generalizing xs with
  | zero => simp [scn]
  | succ f ih =>
    unfold scn
    split
    · simp
    · split
      · rename_i hz
        have hg := unp_good hz
        intro r hr
        simp only [preS, List.mem_append, List.mem_singleton] at hr
        rcases hr with rfl | hr
        · refine ⟨?_, ?_, ?_⟩
          · rw [unp_seq hz]; exact (bigN_range (hb4 xs h)).1
          · rw [unp_seq hz]
            have h1 := (bigN_range (hb4 xs h)).2
            have h2 : ((xs.drop 2).take 4).length ≤ 4 := List.length_take_le _ _
            generalize ((xs.drop 2).take 4).length = z at h1 h2
            rcases (by omega : z = 0 ∨ z = 1 ∨ z = 2 ∨ z = 3 ∨ z = 4) with rfl | rfl | rfl | rfl | rfl <;> omega
          · rw [hg.2.2.2]; exact fun y hy => h y (List.mem_of_mem_take (List.mem_of_mem_drop hy))
        · exact ih _ (fun y hy => h y (List.mem_of_mem_drop hy)) r hr
      · simpa [preS] using ih (xs.drop 1) (fun y hy => h y (List.mem_of_mem_drop hy))
/-- A test's answer: where it is no, G holds. -/
def RetG (w : World) (G : Prop) (e : Ending) (w' : World) : Prop := ∃ b, e = .returned (.bool b) ∧ (b = false → G) ∧ Ext w w'
theorem RetG.mk {w : World} {G : Prop} {e : Ending} {w' : World} (b : Bool) (h1 : e = .returned (.bool b)) (h2 : b = false → G) (h3 : Ext w w') : RetG w G e w' := ⟨b, h1, h2, h3⟩
theorem SndR.dgs {base : Nat} {w : World} {g : Nat} {v : Value} {s : Snd} (h : SndR base w g v s) : Dgs base w v s.bodies.length s.bodies := h.row


set_option maxRecDepth 100000 in
set_option maxHeartbeats 16000000 in
theorem foreign_any (A : Option Addr) (n c : Nat) (win : Int) (B : Option Addr) (m d : Nat) (xss : List (List Int)) (rs : List (List Flt)) (w : World) (hL : Lists .u8 w A n xss) (hn : n ≤ 200) (hR : FltLs w B m rs) (hm : m ≤ 1000) (hr8 : ∀ k, k < 64 → (rs.getD k []).length ≤ 1000) (hx : ∀ x ∈ xss, x.length ≤ 1000000 ∧ ∀ y ∈ x, (Lit.int .u8 y).wf = true) (hbad : ¬ BadS 0 win) :
    Calls Try.prog 68 #[.slice A n c, .int .i64 win, .slice B m d] w (RetG w (GoodT xss rs 64 0 (snd0 0 win) (rcv0 0 win 0))) := by
  have HL := Lib.hid hL
  have HXL := Lib.hid hL.len
  have HR := Lib.hid hR
  have HRL := Lib.hid hR.1
  have HXX := Lib.hid hx
  have HR8 := Lib.hid hr8
  clear hL hR hx hr8
  go_enter Try.func68, Try.ntmps68
  go_wp2_with fail
  refine (newR_any 0 win _ hbad).mono ?_
  rintro e w1 ⟨gs, vs0, rfl, hS, hX1⟩
  have HS := Lib.hid hS
  have HX := Lib.hid hX1
  have hz1 := hX1.size
  clear hS hX1
  go_wp2_with fail
  refine (newE_any 0 win 0 _ (by unfold BadS at hbad; unfold BadR; omega)).mono ?_
  rintro e w2 ⟨gr, vr0, rfl, hQ, hX2⟩
  have HT0 : Hid (TrE w w2 gs vs0 gr vr0 (.slice none 0 0) w.heap.size w1.heap.size (snd0 0 win) (rcv0 0 win 0) []) := Lib.hid ⟨HS.out.ext hX2, hQ, DlL.nil _ _ _, fun k hk => by simp [Value.ownBlock] at hk, Nat.le_refl _, hz1, HX.out.trans hX2⟩
  have HST0 := Lib.hid (sndT0 xss hbad)
  clear HS HX hQ hX2
  go_wp2_with fail
  go_loopg [11] 64 (fun f nv wr => ∃ (k : Nat) (s : Snd) (r : Rcv) (vs vr : Value), f = 64 - k ∧ k ≤ 64 ∧ nv = .int .i64 (k : Int) ∧ Hid (TrE w wr gs vs gr vr (.slice none 0 0) w.heap.size w1.heap.size s r []) ∧ Hid (SndT xss s) ∧ Hid (GoodT xss rs (64 - k) k s r → GoodT xss rs 64 0 (snd0 0 win) (rcv0 0 win 0)))
  case atStart => exact ⟨0, _, _, _, _, rfl, by omega, rfl, HT0, HST0, Lib.hid id⟩
  case round =>
    clear HT0 HST0
    obtain ⟨k, s, r, vs, vr, rfl, hk, rfl, HT, HS, HTR⟩ := hrel
    have y2 := HT.out.rcv.q.blk.cell 2
    by_cases hk64 : k < 64
    · by_cases hnx : r.next < n
      · have q1 : decide (r.next < (n : Int)) = true := decide_eq_true hnx
        have HNX : Hid (r.next < (xss.length : Int)) := Lib.hid (by rw [HXL.out]; exact hnx)
        have HS2 := Lib.hid (HS.out.round (fun x hx => (HXX.out x hx).2) r (rs.getD k []))
        obtain ⟨fl, hfl⟩ : ∃ fl, rs.getD k [] = fl := ⟨_, rfl⟩
        rw [hfl] at HS2
        have HFL := Lib.hid hfl
        obtain ⟨sF, hsF⟩ : ∃ sF, fillF xss (xss.length - s.bodies.length) s = sF := ⟨_, rfl⟩
        have hRF : roundF xss s r fl = ((ackS sF (takes r (framesF (carry1 (sentF sF) fl))).1.next).1, takes r (framesF (carry1 (sentF sF) fl))) := by unfold roundF; rw [hsF]
        have HRF := Lib.hid hRF
        have HSFF := Lib.hid hsF
        have HSF : Hid (fillF xss (n - s.bodies.length) s = sF) := Lib.hid (by rw [← HXL.out]; exact hsF)
        have q64 : decide ((k : Int) < 64) = true := decide_eq_true (by omega)
        have HK64 := Lib.hid hk64
        clear hnx hfl hsF hRF hk64
        go_upto_block 2 with (fail)
        clear y2
        go_cut [] (fun W => ∃ vs' : Value, Hid (TrE w W gs vs' gr vr (.slice none 0 0) w.heap.size w1.heap.size sF r []) ∧ Hid (SndT xss sF))
        case first =>
          go_wp2_with fail
          go_loopg [] (n - s.bodies.length) (fun f wr => ∃ (s1 : Snd) (vs1 : Value), f = n - s1.bodies.length ∧ Hid (TrE w wr gs vs1 gr vr (.slice none 0 0) w.heap.size w1.heap.size s1 r []) ∧ Hid (SndT xss s1) ∧ Hid (fillF xss (n - s1.bodies.length) s1 = sF))
          case atStart => exact ⟨s, vs, rfl, HT, HS, HSF⟩
          case round =>
            clear HT HS HSF
            obtain ⟨s1, vs1, rfl, HT, HS, HSF⟩ := hrel
            have hsl : s1.bodies.length ≤ n := by have h1 := HS.out.le; have h2 := HXL.out; omega
            obtain ⟨A0, c0, hso⟩ := HT.out.snd.slice
            subst hso
            have y3 := HT.out.snd.blk.cell 3
            by_cases hlt : s1.bodies.length < n
            · obtain ⟨bb, ob, A6, n6, c6, xs, rfl, hx6, hc6, hI6, hn6, hm6⟩ := (HL.out.ext HT.out.ext).get hlt
              have hxg : xss.getD s1.bodies.length [] = xs := by simp [List.getD, hx6]
              have h6 := HXX.out xs (List.mem_of_getElem? hx6)
              have h6n : n6 ≤ 1000000 := by have := hI6.1; omega
              have hSO := HS.out.offer (fun x hx => (HXX.out x hx).2) (by have h2 := HXL.out; omega)
              rw [hxg] at hSO
              have HSO := Lib.hid hSO
              have HXG := Lib.hid hxg
              have HI6 := Lib.hid hI6
              clear h6 hx6 hxg hSO hI6
              go_wp2_with fail
              refine (offerR_any w.heap.size gs _ s1 A6 n6 c6 xs _ HT.out.snd HI6.out hn6 hm6 h6n (by omega)).mono ?_
              rintro e w3 ⟨u, vs3, rfl, hu, hS3, hk3⟩
              obtain ⟨A7, n7, c7, rfl, hO7⟩ := hu
              replace HT := Lib.hid (HT.out.sent hk3 hS3)
              clear y3 hc6 HI6 hk3 hS3 hO7
              by_cases he : (offerS s1 xs).2.2 = 0
              · have hb1 := (offerS_zero he).1
                have hbl : (offerS s1 xs).1.bodies.length = s1.bodies.length + 1 := by rw [hb1]; simp
                have HBL := Lib.hid hbl
                have HSF2 : Hid (fillF xss (n - (s1.bodies.length + 1)) (offerS s1 xs).1 = sF) := Lib.hid (by
                  have h1 := HSF.out
                  rw [show n - s1.bodies.length = (n - (s1.bodies.length + 1)) + 1 by omega] at h1
                  unfold fillF at h1
                  rw [HXG.out, if_pos he] at h1
                  exact h1)
                rw [he]
                clear he hb1 hbl
                go_wp2
                go_roundg (n - (s1.bodies.length + 1))
                case rel => exact ⟨_, _, by rw [HBL.out], Lib.hid (HT.out.grow ((Ext.refl _).alloc _)), HSO, Lib.hid (by rw [HBL.out]; exact HSF2.out)⟩
                case measure => omega
              · have hs1 : (offerS s1 xs).1 = s1 := offerS_nz he
                have hsf : sF = s1 := by
                  have h1 := HSF.out
                  rw [show n - s1.bodies.length = (n - (s1.bodies.length + 1)) + 1 by omega] at h1
                  unfold fillF at h1
                  rw [HXG.out, if_neg he] at h1
                  exact h1.symm
                have hne : ((offerS s1 xs).2.2 != 0) = true := by simpa using he
                have HS1 := Lib.hid hs1
                have HSFE := Lib.hid hsf
                clear he hs1 hsf
                go_wp2
                go_meet
                have h1 := HT.out
                rw [HS1.out, ← HSFE.out] at h1
                exact ⟨_, Lib.hid (h1.grow ((Ext.refl _).alloc _)), by rw [HSFE.out]; exact HS⟩
            · have hsf : sF = s1 := by
                have h1 := HSF.out
                rw [show n - s1.bodies.length = 0 by omega] at h1
                exact h1.symm
              have HSFE := Lib.hid hsf
              clear hsf
              go_wp2
              go_meet
              exact ⟨_, by rw [HSFE.out]; exact HT, by rw [HSFE.out]; exact HS⟩
        case rest =>
          clear HT HS HSF
          obtain ⟨vs', HT, HS⟩ := hcut
          have HSZ : Hid (w.heap.size ≤ wc.heap.size) := Lib.hid HT.out.ext.size
          have hbl : sF.bodies.length ≤ n := by have h1 := HS.out.le; have h2 := HXL.out; omega
          have HGR := Lib.hid (sentF_grams HS.out.ok (by omega))
          have hpl : (pendS sF).length ≤ 64 := by
            have h1 := HGR.out.1
            unfold sentF at h1
            rw [List.length_map] at h1
            exact h1
          have HPO := Lib.hid (pendS_ok HS.out.ok (by omega))
          obtain ⟨N, hN⟩ : ∃ N, (pendS sF).length = N := ⟨_, rfl⟩
          have HN := Lib.hid hN
          rw [hN] at hpl
          clear hN
          go_wp2_with fail
          refine (pendR_any w.heap.size gs vs' sF _ HT.out.snd (by omega)).mono ?_
          rintro e w2 ⟨v, rfl, hv, hX2⟩
          obtain ⟨A4, c4, rfl, hf4, _, _⟩ := hv.frs
          rw [HN.out] at hf4 ⊢
          have HF4 := Lib.hid hf4
          replace HT := Lib.hid (HT.out.grow hX2)
          have HSZ2 := Lib.hid (Nat.le_trans HSZ.out hX2.size)
          have HVL : Hid (∀ k, vs'.ownBlock = some k → k < w2.heap.size) := Lib.hid fun k hk => (HT.out.snd.row_lt k hk).2
          clear hv hf4 hX2
          go_wp2_with fail
          go_loopg [14, 74] N (fun f vd iv wr => ∃ k : Nat, f = N - k ∧ k ≤ N ∧ iv = .int .i64 (k : Int) ∧ Hid (Dgs w2.heap.size wr vd k ((pendS sF).take k |>.map pck)) ∧ Hid (TrE w wr gs vs' gr vr (.slice none 0 0) w.heap.size w1.heap.size sF r []) ∧ Hid (Ext w2 wr))
          case atStart => exact ⟨0, rfl, by omega, rfl, Lib.hid ⟨[], World.ownsRow_nil _ _ _ _, trivial⟩, HT, Lib.hid (Ext.refl _)⟩
          case round =>
            clear HT
            obtain ⟨i, rfl, hi, rfl, HD, HT, HX⟩ := hrel
            obtain ⟨A8, c8, hsl⟩ := HD.out.slice
            subst hsl
            by_cases hlt : i < N
            · obtain ⟨b, off, f, A5', n5, c5', rfl, hf, a0, a1, a2, hI5, hc5, hm5⟩ := (HF4.out.ext HX.out).get hlt
              obtain ⟨hok, hby⟩ := HPO.out f (List.mem_of_getElem? hf)
              have h5 : n5 ≤ 1024 := by have h1 := hI5.1; have h2 := hok.2.2.2.2; omega
              have HFI := Lib.hid hf
              have HOK := Lib.hid hok
              have HI5 := Lib.hid hI5
              clear hf hok hby hI5
              go_upto_region 13 with (fail)
              clear a0 a1 a2
              have hXa : Ext wr (wr.alloc (.cells #[.int .i64 f.stream, .int .i64 f.seq, .slice A5' n5 c5'] 38)) := (Ext.refl _).alloc _
              have kb := Blk.new wr 38 #[.int .i64 f.stream, .int .i64 f.seq, .slice A5' n5 c5']
              generalize wr.alloc (.cells #[.int .i64 f.stream, .int .i64 f.seq, .slice A5' n5 c5'] 38) = w3 at hXa kb ⊢
              replace HT := Lib.hid (HT.out.grow hXa)
              replace HD := Lib.hid (HD.out.ext hXa)
              replace HX := Lib.hid (HX.out.trans hXa)
              have hP := packR_ok f.stream f.seq A5' n5 c5' f.body w3 (HI5.out.ext hXa) hc5 hm5 HOK.out
              have f0 := kb.cell 0
              have f1 := kb.cell 1
              have f2 := kb.cell 2
              clear hXa
              go_wp2_with fail
              refine hP.mono ?_
              rintro e w4 ⟨A6, n6, c6, rfl, hO6, hX4⟩
              have hs3 := HX.out.size
              replace HT := Lib.hid (HT.out.grow hX4)
              replace HX := Lib.hid (HX.out.trans hX4)
              obtain ⟨vs, hown, hF2⟩ := HD.out.ext hX4
              have HF2 := Lib.hid hF2
              have HO6 := Lib.hid (hO6.mono hs3)
              have hs4 := HX.out.size
              clear hP hO6 hX4 f0 f1 f2 hF2 HD kb
              go_wp2_with (at_builtin; refine wpList_app _ elL rfl _ _ rfl w2.heap.size (.slice A8 i c8) i vs rfl (hown.alloc _) _ 1 1 [.slice A6 n6 c6] rfl rfl (At.new' _ [_] _ rfl) (by simp [Value.oneCell']) (by omega) (by unfold maxLen; omega) (by simp; omega) ?_; intro v5 w5 hown5 hgr5 _)
              go_roundg (N - (i + 1))
              case rel =>
                have hXb : Ext w4 (w4.alloc (.cells #[.slice A6 n6 c6] 22)) := (Ext.refl _).alloc _
                have hown0 := World.ownsRow.ext' hown hXb
                have hk5 : Keeps (Value.slice A8 i c8).ownBlock.toList (w4.alloc (.cells #[.slice A6 n6 c6] 22)) w5 := Keeps.of_grown hgr5 fun k hk => by rw [hk]; simp
                have hn5 : ∀ k' ∈ (Value.slice A8 i c8).ownBlock.toList, NoRow 5 (w4.alloc (.cells #[.slice A6 n6 c6] 22)) k' := fun k' hk' => NoRow.of_own hown0 (Option.mem_toList.1 hk') (by decide)
                refine ⟨i + 1, rfl, by omega, by go_num, Lib.hid ⟨_, hown5, ?_⟩, Lib.hid ((HT.out.grow hXb).row hown0 HSZ2.out HVL.out hgr5), Lib.hid ((HX.out.trans hXb).grown hgr5 fun k' hk' => (hown0.lt k' hk').1)⟩
                rw [List.take_add_one, HFI.out, Option.toList_some, List.map_append]
                refine (HF2.out.imp fun p q _ h => (h.ext hXb).keeps hk5 hn5).snoc ?_
                exact BodyV.keeps ⟨A6, n6, c6, rfl, HO6.out.ext hXb⟩ hk5 hn5
              case measure => omega
            · obtain rfl : i = N := by omega
              have HD1 : Hid (Dgs w2.heap.size wr (.slice A8 i c8) i (sentF sF)) := Lib.hid (by
                have h1 := HD.out
                rw [List.take_of_length_le (by rw [HN.out]; omega)] at h1
                exact h1)
              have HLO := Lib.hid (HD1.out.lo.mono HSZ2.out)
              have HLN := Lib.hid HLO.out.len
              obtain ⟨gs', hgs'⟩ : ∃ gs', carry1 (sentF sF) fl = gs' := ⟨_, rfl⟩
              have HGS := Lib.hid hgs'
              have HFLL : Hid (fl.length ≤ 1000) := Lib.hid (by have h1 := HR8.out k HK64.out; rwa [HFL.out] at h1)
              have HCG : Hid (Grams 2000 1036 gs') := Lib.hid (by
                rw [← hgs']
                exact (HGR.out.carry fl).up (by have := HFLL.out; omega) (Nat.le_refl _))
              clear hgs' HD
              go_upto_if 91 with (fail)
              go_cut [14] (fun v W => ∃ (A9 : Option Addr) (n9 c9 : Nat), v = .slice A9 n9 c9 ∧ Hid (LO w.heap.size W A9 n9 gs') ∧ Hid (TrE w W gs vs' gr vr (.slice none 0 0) w.heap.size w1.heap.size sF r []))
              case first =>
                by_cases hkm : k < m
                · obtain ⟨b, off, A6, n6, c6, fl', rfl, hf6, hc6, hF6⟩ := (FltLs.ext HR.out HT.out.ext).get hkm
                  have hfg : fl' = fl := by
                    have h2 := HFL.out
                    simp only [List.getD, hf6, Option.getD_some] at h2
                    exact h2
                  subst hfg
                  have hl6 := hF6.1
                  have hl7 := HFLL.out
                  have HF6 := Lib.hid hF6
                  clear hf6 hF6
                  go_wp2_with fail
                  refine (carryO_any A8 i c8 A6 n6 c6 (sentF sF) fl' _ HLO.out.lists (by omega) HF6.out (by omega) (HGR.out.up' HLN.out)).mono ?_
                  rintro e w5 ⟨A9, n9, c9, rfl, h9, _, _, hX5⟩
                  rw [HGS.out] at h9
                  have HL9 := Lib.hid (h9.mono HT.out.ext.size)
                  replace HT := Lib.hid (HT.out.grow hX5)
                  clear h9 hX5 hc6
                  go_wp2
                  go_meet
                  exact ⟨_, _, _, rfl, HL9, HT⟩
                · have hfg : fl = [] := by
                    have h2 := HFL.out
                    simp only [List.getD, List.getElem?_eq_none (by rw [HRL.out]; omega : rs.length ≤ k), Option.getD_none] at h2
                    exact h2.symm
                  subst hfg
                  have HL9 : Hid (LO w.heap.size wr A8 i gs') := Lib.hid (by rw [← HGS.out]; exact HLO.out)
                  go_wp2
                  go_meet
                  exact ⟨_, _, _, rfl, HL9, HT⟩
              case rest =>
                clear HT HLO HD1 HX
                obtain ⟨A9, n9, c9, rfl, HLO, HT⟩ := hcut
                have h9l : n9 ≤ 2000 := by have h1 := HLO.out.len; have h2 := HCG.out.1; omega
                go_wp2_with fail
                go_loopg [100] n9 (fun f jv wr => ∃ (j : Nat) (r1 : Rcv) (vr1 : Value), f = n9 - j ∧ j ≤ n9 ∧ jv = .int .i64 (j : Int) ∧ Hid ((takes r (framesF (gs'.take j))).1 = r1) ∧ Hid (∀ g ∈ framesF (gs'.take j), GoodF xss sF.bodies.length g) ∧ Hid (TrE w wr gs vs' gr vr1 (.slice none 0 0) w.heap.size w1.heap.size sF r1 []) ∧ Hid (LO w.heap.size wr A9 n9 gs'))
                case atStart => exact ⟨0, r, vr, rfl, by omega, rfl, Lib.hid (by simp [framesF, takes]), Lib.hid (by simp [framesF]), HT, HLO⟩
                case round =>
                  clear HT HLO
                  obtain ⟨j, r1, vr1, rfl, hj, rfl, HTK, HGD, HT, HLO⟩ := hrel
                  by_cases hjl : j < n9
                  · obtain ⟨b9, o9, A6, n6, c6, x, rfl, hx, hcx, hO6⟩ := HLO.out.get hjl
                    have hg6 := HCG.out.2 x (List.mem_of_getElem? hx)
                    have HBY := Lib.hid hg6.2
                    have hl6 := hO6.len
                    have h6 : n6 ≤ 1036 := by omega
                    obtain ⟨fs, sk, lf, hsc⟩ : ∃ fs sk lf, scan x = (fs, sk, lf) := ⟨_, _, _, rfl⟩
                    have hS := scanR_any A6 n6 c6 x wr hO6.ints hO6.cap.1 hO6.cap.2 (by omega)
                    rw [hsc] at hS
                    have HXJ := Lib.hid hx
                    have HSC := Lib.hid hsc
                    have hfsl : fs.length ≤ 1036 := by
                      have h1 := scan_len x
                      rw [hsc] at h1
                      simp only at h1
                      omega
                    clear hx hg6 hl6 hsc
                    go_wp2_with fail
                    refine hS.mono ?_
                    rintro e w6 ⟨A7, n7, c7, us, rfl, hu1, hu2, hu3, hX6⟩
                    simp only at hu2 hu3 ⊢
                    subst hu3
                    have HFL7 : Hid (FrL wr.heap.size w6 (.slice A7 fs.length c7) fs) := Lib.hid ⟨us, hu1, hu2⟩
                    replace HT := Lib.hid (HT.out.grow hX6)
                    replace HLO := Lib.hid (HLO.out.ext hX6)
                    clear hS hu1 hu2 hX6 hcx hO6
                    go_wp2_with fail
                    go_loopg [114] fs.length (fun f iv wq => ∃ (i : Nat) (r2 : Rcv) (vr2 : Value), f = fs.length - i ∧ i ≤ fs.length ∧ iv = .int .i64 (i : Int) ∧ Hid ((takes r1 (fs.take i)).1 = r2) ∧ Hid (∀ g ∈ fs.take i, GoodF xss sF.bodies.length g) ∧ Hid (TrE w wq gs vs' gr vr2 (.slice none 0 0) w.heap.size w1.heap.size sF r2 []) ∧ Hid (LO w.heap.size wq (some ⟨b9, o9, none⟩) n9 gs') ∧ Hid (FrL wr.heap.size wq (.slice A7 fs.length c7) fs))
                    case atStart => exact ⟨0, r1, vr1, rfl, by omega, rfl, Lib.hid (by simp [takes]), Lib.hid (by simp), HT, HLO, HFL7⟩
                    case round =>
                      clear HT HLO HFL7
                      obtain ⟨i, r2, vr2, rfl, hi, rfl, HTK2, HGD2, HT, HLO, HFL7⟩ := hrel
                      by_cases hil : i < fs.length
                      · obtain ⟨A7', c7', e, hfr, _, _⟩ := HFL7.out.frs
                        injection e with e1 e2 e3
                        subst e1 e3
                        obtain ⟨b, off, f, A5', n5, c5', rfl, hf, a0, a1, a2, hI5, hc5, hm5⟩ := hfr.get hil
                        have hmf : f ∈ (scan x).1 := by rw [HSC.out]; exact List.mem_of_getElem? hf
                        have h5 : n5 ≤ 1000000 := by
                          have h1 := scan_body (xs := x) f hmf
                          have h2 := hI5.1
                          omega
                        obtain ⟨hq0, hq1, hqb⟩ := scn_seq x.length x HBY.out f hmf
                        have HQB := Lib.hid hqb
                        have HFI := Lib.hid hf
                        have HI5 := Lib.hid hI5
                        obtain ⟨A0, c0, hso⟩ := HT.out.snd.slice
                        subst hso
                        clear hf hI5 hfr hmf hqb
                        go_upto_region 25 with (fail)
                        clear a0 a1 a2
                        have hXa : Ext wr (wr.alloc (.cells #[.int .i64 f.stream, .int .i64 f.seq, .slice A5' n5 c5'] 38)) := (Ext.refl _).alloc _
                        have kb := Blk.new wr 38 #[.int .i64 f.stream, .int .i64 f.seq, .slice A5' n5 c5']
                        obtain ⟨gf, hgf⟩ : ∃ gf, wr.heap.size = gf := ⟨_, rfl⟩
                        generalize hwe : wr.alloc (.cells #[.int .i64 f.stream, .int .i64 f.seq, .slice A5' n5 c5'] 38) = w7 at hXa kb ⊢
                        rw [hgf] at kb ⊢
                        clear hwe hgf
                        replace HT := Lib.hid (HT.out.grow hXa)
                        replace HLO := Lib.hid (HLO.out.ext hXa)
                        replace HFL7 := Lib.hid (HFL7.out.ext hXa)
                        replace HI5 := Lib.hid (HI5.out.ext hXa)
                        have KB := Lib.hid kb
                        have z3 := HT.out.snd.blk.cell 3
                        have y0 := kb.cell 0
                        have y1 := kb.cell 1
                        have y2 := kb.cell 2
                        clear hXa kb
                        simp only [Array.getD_eq_getD_getElem?, List.getElem?_toArray, List.getElem?_cons_zero, List.getElem?_cons_succ, Option.getD_some] at y0 y1 y2 z3
                        by_cases hst : f.stream = 0
                        · rw [hst] at y0
                          by_cases hge : (sF.bodies.length : Int) ≤ f.seq
                          · refine foreign_b gf gs A0 sF.bodies.length c0 f.seq w7 y0 y1 z3 hge _ _ (by simp) rfl rfl ?_
                            rintro xv0 xv1 xv2 xv3 xv4 xv5 xv6 xv7 xv8 xv9 xv10 xv11 xv12 xv13 xv14 xv15 xv16 xv17 xv18 xv19 xv20 xv21 xv22 xv23 xv24 xv25 xv26 xv27 W rfl rfl rfl rfl rfl rfl rfl rfl rfl rfl rfl rfl rfl rfl rfl rfl rfl rfl rfl rfl rfl rfl rfl rfl rfl rfl rfl rfl hXW
                            simp only [rops, Try.f68, regOf, Option.bind_some, Nat.reduceBEq, if_true, if_false, Bool.false_eq_true, Option.getD_some, List.drop_succ_cons, List.drop_zero]
                            simp only [Act.put, List.setIfInBounds_toArray, List.set_cons_succ, List.set_cons_zero]
                            replace HT := Lib.hid (HT.out.grow hXW)
                            clear hXW y0 y1 y2 z3 hge hst
                            go_wp2
                            go_ret
                            exact RetG.mk true rfl (fun h => by simp at h) HT.out.ext
                          · obtain ⟨q, hq⟩ : ∃ q : Nat, f.seq = (q : Int) := ⟨f.seq.toNat, by omega⟩
                            rw [hq] at y1
                            have hqm : q < sF.bodies.length := by omega
                            obtain ⟨gb, cc, xs6, A6', n6', cc6, e, hx6, hc6, hO6⟩ := HT.out.snd.dgs.get hqm
                            injection e with e1 e2 e3
                            subst e1 e3
                            obtain ⟨bq, hbq⟩ : ∃ bq, (!((strOfNums xs6).toList == (strOfNums f.body).toList)) = bq := ⟨_, rfl⟩
                            have HBQ := Lib.hid hbq
                            have HX6 := Lib.hid hx6
                            have HQ := Lib.hid hq
                            have HST := Lib.hid hst
                            clear hbq hx6 hge hq hst
                            refine foreign_c gf gs gb 0 sF.bodies.length c0 q A5' n5 c5' A6' n6' cc6 f.body xs6 _ _ bq w7 y0 y1 z3 y2 (by rw [Nat.zero_add]; exact hc6) HI5.out hO6.ints (Lib.hid rfl) (Lib.hid rfl) HBQ hqm _ _ (by simp) rfl rfl ?_
                            rintro xv0 xv1 xv2 xv3 xv4 xv5 xv6 xv7 xv8 xv9 xv10 xv11 xv12 xv13 xv14 xv15 xv16 xv17 xv18 xv19 xv20 xv21 xv22 xv23 xv24 xv25 xv26 xv27 W rfl rfl rfl rfl rfl rfl rfl rfl rfl rfl rfl rfl rfl rfl rfl rfl rfl rfl rfl rfl rfl rfl rfl rfl rfl rfl rfl rfl hXW
                            simp only [rops, Try.f68, regOf, Option.bind_some, Nat.reduceBEq, if_true, if_false, Bool.false_eq_true, Option.getD_some, List.drop_succ_cons, List.drop_zero]
                            simp only [Act.put, List.setIfInBounds_toArray, List.set_cons_succ, List.set_cons_zero]
                            replace HT := Lib.hid (HT.out.grow hXW)
                            replace HLO := Lib.hid (HLO.out.ext hXW)
                            replace HFL7 := Lib.hid (HFL7.out.ext hXW)
                            replace HI5 := Lib.hid (HI5.out.ext hXW)
                            replace KB := Lib.hid (KB.out.ext hXW)
                            clear hXW y0 y1 y2 z3 hO6 hc6
                            by_cases hbt : bq = true
                            · subst hbt
                              go_wp2
                              go_ret
                              exact RetG.mk true rfl (fun h => by simp at h) HT.out.ext
                            · have hbf : bq = false := by simpa using hbt
                              subst hbf
                              have HGF : Hid (GoodF xss sF.bodies.length f) := Lib.hid (by
                                have h1 := HBQ.out
                                have h2 := HX6.out
                                simp only [Bool.not_eq_false', beq_iff_eq] at h1
                                have h3 := strOfNums_eq (HS.out.ok.body xs6 (List.mem_of_getElem? h2)).2 HQB.out h1
                                refine ⟨HST.out, q, hqm, HQ.out, ?_⟩
                                rw [HS.out.pre, List.getElem?_take_of_lt hqm] at h2
                                simp only [List.getD, h2, Option.getD_some]
                                exact h3.symm)
                              have f0 := KB.out.cell 0
                              have f1 := KB.out.cell 1
                              have f2 := KB.out.cell 2
                              clear hbt
                              go_wp2_with fail
                              refine (takeE_any w1.heap.size gr vr2 r2 f A5' n5 c5' _ HT.out.rcv HI5.out hc5 hm5 h5).mono ?_
                              rintro e w8 ⟨u, vr3, rfl, hdl, hR8, hk8, hn8⟩
                              have HLO8 := Lib.hid (HLO.out.keeps hk8 (HT.out.rcv.q.far _ (by decide) (by decide)) (HT.out.rcv.q.far _ (by decide) (by decide)))
                              have HFL8 := Lib.hid (HFL7.out.keeps hk8 (HT.out.rcv.q.far _ (by decide) (by decide)) (HT.out.rcv.q.far _ (by decide) (by decide)))
                              have HT8 := Lib.hid (HT.out.took hk8 hR8 hn8)
                              have HTK3 : Hid ((takes r1 (fs.take (i + 1))).1 = (takeR r2 f).1) := Lib.hid (by
                                rw [List.take_add_one, HFI.out, Option.toList_some, takes_snoc, HTK2.out])
                              have HGD3 : Hid (∀ g ∈ fs.take (i + 1), GoodF xss sF.bodies.length g) := Lib.hid fun g hg => by
                                rw [List.take_add_one, HFI.out, Option.toList_some] at hg
                                rcases List.mem_append.1 hg with hg | hg
                                · exact HGD2.out g hg
                                · simp at hg; subst hg; exact HGF.out
                              clear hdl hR8 hk8 hn8 f0 f1 f2 HT HLO HFL7
                              go_wp2
                              go_roundg (fs.length - (i + 1))
                              case rel => exact ⟨i + 1, _, vr3, rfl, by omega, by go_num, HTK3, HGD3, HT8, HLO8, HFL8⟩
                              case measure => omega
                        · have hne : (f.stream != 0) = true := by simpa using hst
                          refine foreign_a gf gs 0 0 0 0 f.stream 0 w7 y0 hne _ _ (by simp) rfl rfl ?_
                          rintro xv0 xv1 xv2 xv3 xv4 xv5 xv6 xv7 xv8 xv9 xv10 xv11 xv12 xv13 xv14 xv15 xv16 xv17 xv18 xv19 xv20 xv21 xv22 xv23 xv24 xv25 xv26 xv27 W rfl rfl rfl rfl rfl rfl rfl rfl rfl rfl rfl rfl rfl rfl rfl rfl rfl rfl rfl rfl rfl rfl rfl rfl rfl rfl rfl rfl hXW
                          simp only [rops, Try.f68, regOf, Option.bind_some, Nat.reduceBEq, if_true, if_false, Bool.false_eq_true, Option.getD_some, List.drop_succ_cons, List.drop_zero]
                          simp only [Act.put, List.setIfInBounds_toArray, List.set_cons_succ, List.set_cons_zero]
                          replace HT := Lib.hid (HT.out.grow hXW)
                          clear hXW y0 y1 y2 z3 hst hne
                          go_wp2
                          go_ret
                          exact RetG.mk true rfl (fun h => by simp at h) HT.out.ext
                      · obtain rfl : i = fs.length := by omega
                        go_wp2
                        go_roundg (n9 - (j + 1))
                        case rel =>
                          refine ⟨j + 1, r2, vr2, rfl, by omega, by go_num, Lib.hid ?_, Lib.hid ?_, HT, HLO⟩
                          · have h1 := HTK2.out
                            rw [List.take_of_length_le (Nat.le_refl _)] at h1
                            rw [framesF_take HXJ.out, takes_append, HTK.out, HSC.out]
                            exact h1
                          · have h1 := HGD2.out
                            rw [List.take_of_length_le (Nat.le_refl _)] at h1
                            rw [framesF_take HXJ.out, HSC.out]
                            intro g hg
                            rcases List.mem_append.1 hg with hg | hg
                            · exact HGD.out g hg
                            · exact h1 g hg
                        case measure => omega
                  · obtain rfl : j = n9 := by omega
                    have htk : (takes r (framesF gs')).1 = r1 := by
                      have h1 := HTK.out
                      rwa [List.take_of_length_le (by rw [HLO.out.len]; omega)] at h1
                    have hgd : ∀ g ∈ framesF gs', GoodF xss sF.bodies.length g := by
                      have h1 := HGD.out
                      rwa [List.take_of_length_le (by rw [HLO.out.len]; omega)] at h1
                    have hrf : roundF xss s r fl = ((ackS sF r1.next).1, r1, (takes r (framesF gs')).2) := by rw [HRF.out, HGS.out, ← htk]
                    have HTR2 : Hid (GoodT xss rs (64 - (k + 1)) (k + 1) (ackS sF r1.next).1 r1 → GoodT xss rs 64 0 (snd0 0 win) (rcv0 0 win 0)) := Lib.hid fun hg => HTR.out (by
                      rw [show 64 - k = (64 - (k + 1)) + 1 by have := HK64.out; omega]
                      intro _
                      rw [HFL.out, hrf]
                      refine ⟨?_, hg⟩
                      unfold GoodR
                      rw [HSFF.out, HGS.out]
                      exact hgd)
                    rw [hrf] at HS2
                    simp only at HS2
                    have y2 := HT.out.rcv.q.blk.cell 2
                    clear htk hrf hgd
                    go_wp2_with fail
                    refine (ackR_any w.heap.size gs vs' sF r1.next _ HT.out.snd (by omega)).mono ?_
                    rintro e w8 ⟨rfl, hS8, hk8⟩
                    have HT8 := Lib.hid (HT.out.sent hk8 hS8)
                    clear hS8 hk8 y2
                    go_wp2
                    go_roundg (64 - (k + 1))
                    case rel => exact ⟨k + 1, _, _, _, _, rfl, by have := HK64.out; omega, by go_num, HT8, HS2, HTR2⟩
                    case measure => have := HK64.out; omega
      · have q1 : decide (r.next < (n : Int)) = false := decide_eq_false hnx
        have HG : Hid (GoodT xss rs 64 0 (snd0 0 win) (rcv0 0 win 0)) := Lib.hid (HTR.out (by
          rw [show 64 - k = (64 - (k + 1)) + 1 by omega]
          intro h
          rw [HXL.out] at h
          exact absurd h hnx))
        clear hnx
        go_wp2
        go_ret
        exact RetG.mk false rfl (fun _ => HG.out) HT.out.ext
    · obtain rfl : k = 64 := by omega
      have HG : Hid (GoodT xss rs 64 0 (snd0 0 win) (rcv0 0 win 0)) := Lib.hid (HTR.out trivial)
      go_wp2
      go_ret
      exact RetG.mk false rfl (fun _ => HG.out) HT.out.ext

end Go.Proofs.Ytekhmfliaojabaa
