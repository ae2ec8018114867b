/- part (of the statements), plain laws of spans, the spans' contracts in one form. -/
import Derived.Test.YteoijnaljkagfaaL11
namespace Go.Proofs.Yteoijnaljkagfaa
open Go.RowKit

/-- The two numbers of 'part'. -/
def ptX (lo hi i : Int) : Int := lo + i * 37 % (hi - lo + 1)
def ptY (lo hi j : Int) : Int := lo + j * 41 % (hi - lo + 1)
theorem ptX_in {lo hi : Int} (h : lo ≤ hi) (i : Int) : lo ≤ ptX lo hi i ∧ ptX lo hi i ≤ hi := by
  have h1 := Int.emod_nonneg (i * 37) (show hi - lo + 1 ≠ 0 by omega)
  have h2 := Int.emod_lt_of_pos (i * 37) (show 0 < hi - lo + 1 by omega)
  unfold ptX; omega
theorem ptY_in {lo hi : Int} (h : lo ≤ hi) (i : Int) : lo ≤ ptY lo hi i ∧ ptY lo hi i ≤ hi := by
  have h1 := Int.emod_nonneg (i * 41) (show hi - lo + 1 ≠ 0 by omega)
  have h2 := Int.emod_lt_of_pos (i * 41) (show 0 < hi - lo + 1 by omega)
  unfold ptY; omega

set_option maxRecDepth 100000 in
set_option maxHeartbeats 2000000 in
theorem part_r2 (ga : Nat) (lo hi iu ju : Int) (w : World) (x0 : w.cell? ⟨ga, 0, none⟩ = some (.int .i64 lo)) (hlo : -1152921504606846976 ≤ lo) (hlh : lo ≤ hi) (hhi : hi ≤ 1152921504606846976) (hi0 : 0 ≤ iu) (hi1 : iu ≤ 4294967295) (hj0 : 0 ≤ ju) (hj1 : ju ≤ 4294967295) (a : Act) (Q : Exit → Act → World → Prop) (hsize : 32 ≤ a.tmps.size)
    (s1 : a.tmps[1]? = some (.int .u32 iu))
    (s2 : a.tmps[2]? = some (.int .u32 ju))
    (s3 : a.tmps[3]? = some (.pointer (some ⟨ga, 0, none⟩)))
    (s7 : a.tmps[7]? = some (.int .i64 (hi - lo + 1)))
    (hend : ∀ (xv0 xv1 xv2 xv3 xv4 xv5 xv6 xv7 xv8 xv9 xv10 xv11 xv12 xv13 xv14 xv15 xv16 xv17 : Value) (W : World), (xv0 = .pointer (some ⟨ga, 0, none⟩)) → (xv1 = .int .i64 lo) → (xv2 = .int .u32 iu) → (xv3 = .int .i64 iu) → (xv4 = .int .i64 (iu * 37)) → (xv5 = .int .i64 (hi - lo + 1)) → (xv6 = .int .i64 (iu * 37 % (hi - lo + 1))) → (xv7 = .int .i64 (ptX lo hi iu)) → (xv8 = .pointer (some ⟨ga, 0, none⟩)) → (xv9 = .int .i64 lo) → (xv10 = .int .u32 ju) → (xv11 = .int .i64 ju) → (xv12 = .int .i64 (ju * 41)) → (xv13 = .int .i64 (hi - lo + 1)) → (xv14 = .int .i64 (ju * 41 % (hi - lo + 1))) → (xv15 = .int .i64 (ptY lo hi ju)) → (xv16 = .int .i64 (ptX lo hi iu)) → (xv17 = .int .i64 (ptY lo hi ju)) → Ext w W → wpList Try.prog (rops Try.f53 2).toArray Q ((rops Try.f53 2).drop 18) ((((((((((((((((((a.put (some 16) xv0).put (some 17) xv1).put (some 18) xv2).put (some 19) xv3).put (some 20) xv4).put (some 21) xv5).put (some 22) xv6).put (some 23) xv7).put (some 24) xv8).put (some 25) xv9).put (some 26) xv10).put (some 27) xv11).put (some 28) xv12).put (some 29) xv13).put (some 30) xv14).put (some 31) xv15).put (some 8) xv16).put (some 9) xv17) W) :
    (Code.region 2 (rops Try.f53 2).toArray true).wp Try.prog Q a w := by
  have hmono : ∀ (W W' : World) (j : Nat) (u : Value), Ext W W' → (fun (i : Nat) (v : Value) (W : World) => match i with
    | 0 => v = .pointer (some ⟨ga, 0, none⟩)
    | 1 => v = .int .i64 lo
    | 2 => v = .int .u32 iu
    | 3 => v = .int .i64 iu
    | 4 => v = .int .i64 (iu * 37)
    | 5 => v = .int .i64 (hi - lo + 1)
    | 6 => v = .int .i64 (iu * 37 % (hi - lo + 1))
    | 7 => v = .int .i64 (ptX lo hi iu)
    | 8 => v = .pointer (some ⟨ga, 0, none⟩)
    | 9 => v = .int .i64 lo
    | 10 => v = .int .u32 ju
    | 11 => v = .int .i64 ju
    | 12 => v = .int .i64 (ju * 41)
    | 13 => v = .int .i64 (hi - lo + 1)
    | 14 => v = .int .i64 (ju * 41 % (hi - lo + 1))
    | 15 => v = .int .i64 (ptY lo hi ju)
    | 16 => v = .int .i64 (ptX lo hi iu)
    | 17 => v = .int .i64 (ptY lo hi ju)
    | _ => True) j u W → (fun (i : Nat) (v : Value) (W : World) => match i with
    | 0 => v = .pointer (some ⟨ga, 0, none⟩)
    | 1 => v = .int .i64 lo
    | 2 => v = .int .u32 iu
    | 3 => v = .int .i64 iu
    | 4 => v = .int .i64 (iu * 37)
    | 5 => v = .int .i64 (hi - lo + 1)
    | 6 => v = .int .i64 (iu * 37 % (hi - lo + 1))
    | 7 => v = .int .i64 (ptX lo hi iu)
    | 8 => v = .pointer (some ⟨ga, 0, none⟩)
    | 9 => v = .int .i64 lo
    | 10 => v = .int .u32 ju
    | 11 => v = .int .i64 ju
    | 12 => v = .int .i64 (ju * 41)
    | 13 => v = .int .i64 (hi - lo + 1)
    | 14 => v = .int .i64 (ju * 41 % (hi - lo + 1))
    | 15 => v = .int .i64 (ptY lo hi ju)
    | 16 => v = .int .i64 (ptX lo hi iu)
    | 17 => v = .int .i64 (ptY lo hi ju)
    | _ => True) j u W' := by
    intro W W' j u hX h
    match j, h with
    | 0, h => exact h
    | 1, h => exact h
    | 2, h => exact h
    | 3, h => exact h
    | 4, h => exact h
    | 5, h => exact h
    | 6, h => exact h
    | 7, h => exact h
    | 8, h => exact h
    | 9, h => exact h
    | 10, h => exact h
    | 11, h => exact h
    | 12, h => exact h
    | 13, h => exact h
    | 14, h => exact h
    | 15, h => exact h
    | 16, h => exact h
    | 17, h => exact h
    | _ + 18, h => exact h
  have hsz : ∀ d, some d ∈ ([some 16, some 17, some 18, some 19, some 20, some 21, some 22, some 23, some 24, some 25, some 26, some 27, some 28, some 29, some 30, some 31, some 8, some 9] : List (Option Tmp)) → d < a.tmps.size := slots_lt (by decide) hsize
  refine wp_region_j 18 [some 16, some 17, some 18, some 19, some 20, some 21, some 22, some 23, some 24, some 25, some 26, some 27, some 28, some 29, some 30, some 31, some 8, some 9] [[], [0], [], [2], [3], [], [4, 5], [1, 6], [], [8], [], [10], [11], [], [12, 13], [9, 14], [7], [15]] [[], [], [], [], [], [], [], [], [], [], [], [], [], [], [], [], [], []] (fun (i : Nat) (v : Value) (W : World) => match i with
    | 0 => v = .pointer (some ⟨ga, 0, none⟩)
    | 1 => v = .int .i64 lo
    | 2 => v = .int .u32 iu
    | 3 => v = .int .i64 iu
    | 4 => v = .int .i64 (iu * 37)
    | 5 => v = .int .i64 (hi - lo + 1)
    | 6 => v = .int .i64 (iu * 37 % (hi - lo + 1))
    | 7 => v = .int .i64 (ptX lo hi iu)
    | 8 => v = .pointer (some ⟨ga, 0, none⟩)
    | 9 => v = .int .i64 lo
    | 10 => v = .int .u32 ju
    | 11 => v = .int .i64 ju
    | 12 => v = .int .i64 (ju * 41)
    | 13 => v = .int .i64 (hi - lo + 1)
    | 14 => v = .int .i64 (ju * 41 % (hi - lo + 1))
    | 15 => v = .int .i64 (ptY lo hi ju)
    | 16 => v = .int .i64 (ptX lo hi iu)
    | 17 => v = .int .i64 (ptY lo hi ju)
    | _ => True) (fun _ W => Ext w W) (by kernel_rfl) (by kernel_rfl) hsz (fun _ _ _ _ h => h) ((Ext.refl w).drew) ?_ ?_
  · clear hend
    simp only [rops, Try.f53, regOf, Option.bind_some, Nat.reduceBEq, if_true, if_false, Bool.false_eq_true, Option.getD_some]
    simp only [List.take_succ_cons, List.take_zero]
    refine ⟨?_, ?_, ?_, ?_, ?_, ?_, ?_, ?_, ?_, ?_, ?_, ?_, ?_, ?_, ?_, ?_, ?_, ?_, trivial⟩
    · intro done us W hJ hdep haft hnot b hb hb' K hK Q'
      have e3 := (hb' 3 (by simp)).trans s3
      clear hb hb'
      go_simp
      exact hK _ _ rfl (fun _ _ _ h => h) hJ
    · intro done us W hJ hdep haft hnot b hb hb' K hK Q'
      simp only [List.getD_cons_succ, List.getD_cons_zero, List.mem_cons, List.not_mem_nil, or_false, forall_eq_or_imp, forall_eq] at hdep
      have e16 := hb 0 16 rfl
      have d0 := hdep
      rw [d0.1] at e16
      clear hb hb' hdep d0
      have q := Ext.cell hJ x0
      go_simp
      exact hK _ _ rfl (fun _ _ _ h => h) hJ
    · intro done us W hJ hdep haft hnot b hb hb' K hK Q'
      have e1 := (hb' 1 (by simp)).trans s1
      clear hb hb'
      go_simp
      exact hK _ _ rfl (fun _ _ _ h => h) hJ
    · intro done us W hJ hdep haft hnot b hb hb' K hK Q'
      simp only [List.getD_cons_succ, List.getD_cons_zero, List.mem_cons, List.not_mem_nil, or_false, forall_eq_or_imp, forall_eq] at hdep
      have e18 := hb 2 18 rfl
      have d2 := hdep
      rw [d2.1] at e18
      clear hb hb' hdep d2
      have hw : IntKind.i64.wrap iu = iu := by rw [IntKind.wrap_i64]; omega
      go_simp
      exact hK _ _ rfl (fun _ _ _ h => h) hJ
    · intro done us W hJ hdep haft hnot b hb hb' K hK Q'
      simp only [List.getD_cons_succ, List.getD_cons_zero, List.mem_cons, List.not_mem_nil, or_false, forall_eq_or_imp, forall_eq] at hdep
      have e19 := hb 3 19 rfl
      have d3 := hdep
      rw [d3.1] at e19
      clear hb hb' hdep d3
      have hw : IntKind.i64.wrap (iu * 37) = iu * 37 := by rw [IntKind.wrap_i64]; omega
      go_simp
      exact hK _ _ rfl (fun _ _ _ h => h) hJ
    · intro done us W hJ hdep haft hnot b hb hb' K hK Q'
      have e7 := (hb' 7 (by simp)).trans s7
      clear hb hb'
      go_simp
      exact hK _ _ rfl (fun _ _ _ h => h) hJ
    · intro done us W hJ hdep haft hnot b hb hb' K hK Q'
      simp only [List.getD_cons_succ, List.getD_cons_zero, List.mem_cons, List.not_mem_nil, or_false, forall_eq_or_imp, forall_eq] at hdep
      have e20 := hb 4 20 rfl
      have e21 := hb 5 21 rfl
      have d4 := hdep.1
      have d5 := hdep.2
      rw [d4.1] at e20
      rw [d5.1] at e21
      clear hb hb' hdep d4 d5
      have hz : ¬ ((hi - lo + 1) = 0) := by omega
      have hm : (iu * 37).tmod (hi - lo + 1) = iu * 37 % (hi - lo + 1) := Int.tmod_eq_emod_of_nonneg (by omega)
      have hk : 0 ≤ iu * 37 := by omega
      go_simp
      exact hK _ _ rfl (fun _ _ _ h => h) hJ
    · intro done us W hJ hdep haft hnot b hb hb' K hK Q'
      simp only [List.getD_cons_succ, List.getD_cons_zero, List.mem_cons, List.not_mem_nil, or_false, forall_eq_or_imp, forall_eq] at hdep
      have e17 := hb 1 17 rfl
      have e22 := hb 6 22 rfl
      have d1 := hdep.1
      have d6 := hdep.2
      rw [d1.1] at e17
      rw [d6.1] at e22
      clear hb hb' hdep d1 d6
      obtain ⟨g1, g2⟩ := ptX_in hlh iu
      unfold ptX at g1 g2
      have hw : IntKind.i64.wrap (lo + iu * 37 % (hi - lo + 1)) = lo + iu * 37 % (hi - lo + 1) := by rw [IntKind.wrap_i64]; omega
      go_simp
      exact hK _ _ rfl (fun _ _ _ h => h) hJ
    · intro done us W hJ hdep haft hnot b hb hb' K hK Q'
      have e3 := (hb' 3 (by simp)).trans s3
      clear hb hb'
      go_simp
      exact hK _ _ rfl (fun _ _ _ h => h) hJ
    · intro done us W hJ hdep haft hnot b hb hb' K hK Q'
      simp only [List.getD_cons_succ, List.getD_cons_zero, List.mem_cons, List.not_mem_nil, or_false, forall_eq_or_imp, forall_eq] at hdep
      have e24 := hb 8 24 rfl
      have d8 := hdep
      rw [d8.1] at e24
      clear hb hb' hdep d8
      have q := Ext.cell hJ x0
      go_simp
      exact hK _ _ rfl (fun _ _ _ h => h) hJ
    · intro done us W hJ hdep haft hnot b hb hb' K hK Q'
      have e2 := (hb' 2 (by simp)).trans s2
      clear hb hb'
      go_simp
      exact hK _ _ rfl (fun _ _ _ h => h) hJ
    · intro done us W hJ hdep haft hnot b hb hb' K hK Q'
      simp only [List.getD_cons_succ, List.getD_cons_zero, List.mem_cons, List.not_mem_nil, or_false, forall_eq_or_imp, forall_eq] at hdep
      have e26 := hb 10 26 rfl
      have d10 := hdep
      rw [d10.1] at e26
      clear hb hb' hdep d10
      have hw : IntKind.i64.wrap ju = ju := by rw [IntKind.wrap_i64]; omega
      go_simp
      exact hK _ _ rfl (fun _ _ _ h => h) hJ
    · intro done us W hJ hdep haft hnot b hb hb' K hK Q'
      simp only [List.getD_cons_succ, List.getD_cons_zero, List.mem_cons, List.not_mem_nil, or_false, forall_eq_or_imp, forall_eq] at hdep
      have e27 := hb 11 27 rfl
      have d11 := hdep
      rw [d11.1] at e27
      clear hb hb' hdep d11
      have hw : IntKind.i64.wrap (ju * 41) = ju * 41 := by rw [IntKind.wrap_i64]; omega
      go_simp
      exact hK _ _ rfl (fun _ _ _ h => h) hJ
    · intro done us W hJ hdep haft hnot b hb hb' K hK Q'
      have e7 := (hb' 7 (by simp)).trans s7
      clear hb hb'
      go_simp
      exact hK _ _ rfl (fun _ _ _ h => h) hJ
    · intro done us W hJ hdep haft hnot b hb hb' K hK Q'
      simp only [List.getD_cons_succ, List.getD_cons_zero, List.mem_cons, List.not_mem_nil, or_false, forall_eq_or_imp, forall_eq] at hdep
      have e28 := hb 12 28 rfl
      have e29 := hb 13 29 rfl
      have d12 := hdep.1
      have d13 := hdep.2
      rw [d12.1] at e28
      rw [d13.1] at e29
      clear hb hb' hdep d12 d13
      have hz : ¬ ((hi - lo + 1) = 0) := by omega
      have hm : (ju * 41).tmod (hi - lo + 1) = ju * 41 % (hi - lo + 1) := Int.tmod_eq_emod_of_nonneg (by omega)
      have hk : 0 ≤ ju * 41 := by omega
      go_simp
      exact hK _ _ rfl (fun _ _ _ h => h) hJ
    · intro done us W hJ hdep haft hnot b hb hb' K hK Q'
      simp only [List.getD_cons_succ, List.getD_cons_zero, List.mem_cons, List.not_mem_nil, or_false, forall_eq_or_imp, forall_eq] at hdep
      have e25 := hb 9 25 rfl
      have e30 := hb 14 30 rfl
      have d9 := hdep.1
      have d14 := hdep.2
      rw [d9.1] at e25
      rw [d14.1] at e30
      clear hb hb' hdep d9 d14
      obtain ⟨g1, g2⟩ := ptY_in hlh ju
      unfold ptY at g1 g2
      have hw : IntKind.i64.wrap (lo + ju * 41 % (hi - lo + 1)) = lo + ju * 41 % (hi - lo + 1) := by rw [IntKind.wrap_i64]; omega
      go_simp
      exact hK _ _ rfl (fun _ _ _ h => h) hJ
    · intro done us W hJ hdep haft hnot b hb hb' K hK Q'
      simp only [List.getD_cons_succ, List.getD_cons_zero, List.mem_cons, List.not_mem_nil, or_false, forall_eq_or_imp, forall_eq] at hdep
      have e23 := hb 7 23 rfl
      have d7 := hdep
      rw [d7.1] at e23
      clear hb hb' hdep d7
      go_simp
      exact hK _ _ rfl (fun _ _ _ h => h) hJ
    · intro done us W hJ hdep haft hnot b hb hb' K hK Q'
      simp only [List.getD_cons_succ, List.getD_cons_zero, List.mem_cons, List.not_mem_nil, or_false, forall_eq_or_imp, forall_eq] at hdep
      have e31 := hb 15 31 rfl
      have d15 := hdep
      rw [d15.1] at e31
      clear hb hb' hdep d15
      go_simp
      exact hK _ _ rfl (fun _ _ _ h => h) hJ
  · intro us W hV hJ
    exact hend (us 0) (us 1) (us 2) (us 3) (us 4) (us 5) (us 6) (us 7) (us 8) (us 9) (us 10) (us 11) (us 12) (us 13) (us 14) (us 15) (us 16) (us 17) W (hV 0 (by omega)) (hV 1 (by omega)) (hV 2 (by omega)) (hV 3 (by omega)) (hV 4 (by omega)) (hV 5 (by omega)) (hV 6 (by omega)) (hV 7 (by omega)) (hV 8 (by omega)) (hV 9 (by omega)) (hV 10 (by omega)) (hV 11 (by omega)) (hV 12 (by omega)) (hV 13 (by omega)) (hV 14 (by omega)) (hV 15 (by omega)) (hV 16 (by omega)) (hV 17 (by omega)) hJ
set_option maxRecDepth 100000 in
set_option maxHeartbeats 2000000 in
theorem part_any (lo hi iu ju : Int) (w : World) (hlo : -1152921504606846976 ≤ lo) (hlh : lo ≤ hi) (hhi : hi ≤ 1152921504606846976) (hi0 : 0 ≤ iu) (hi1 : iu ≤ 4294967295) (hj0 : 0 ≤ ju) (hj1 : ju ≤ 4294967295) :
    Calls Try.prog 53 #[.agg #[.int .i64 (lo), .int .i64 (hi)], .int .u32 iu, .int .u32 ju] w (fun e w' => e = .returned (.agg #[.int .i64 (min (ptX lo hi iu) (ptY lo hi ju)), .int .i64 (max (ptX lo hi iu) (ptY lo hi ju))]) ∧ Ext w w') := by
  have hXe : Ext w ((w.alloc (.cells #[.int .i64 lo, .int .i64 hi] 62)).alloc (.cells #[.int .i64 0, .int .i64 0] 62)) := (((Ext.refl w).alloc _).alloc _)
  have kA : Blk ((w.alloc (.cells #[.int .i64 lo, .int .i64 hi] 62)).alloc (.cells #[.int .i64 0, .int .i64 0] 62)) w.heap.size 62 #[.int .i64 lo, .int .i64 hi] := Blk.alloc (Blk.at_ (by simp)) _
  have kR : Blk ((w.alloc (.cells #[.int .i64 lo, .int .i64 hi] 62)).alloc (.cells #[.int .i64 0, .int .i64 0] 62)) (w.heap.size + 1) 62 #[.int .i64 0, .int .i64 0] := Blk.at_ (by simp)
  go_enter Try.func53, Try.ntmps53
  go_wp2_with fail
  generalize ((w.alloc (.cells #[.int .i64 lo, .int .i64 hi] 62)).alloc (.cells #[.int .i64 0, .int .i64 0] 62)) = w1 at hXe kA kR ⊢
  have HX := Lib.hid hXe
  clear hXe
  have KA := Lib.hid kA
  clear kA
  have KR := Lib.hid kR
  clear kR
  refine part_r2 w.heap.size lo hi iu ju w1 (KA.out.cell 0) hlo hlh hhi hi0 hi1 hj0 hj1 _ _ (by simp) rfl rfl rfl rfl ?_
  rintro xv0 xv1 xv2 xv3 xv4 xv5 xv6 xv7 xv8 xv9 xv10 xv11 xv12 xv13 xv14 xv15 xv16 xv17 w2 rfl rfl rfl rfl rfl rfl rfl rfl rfl rfl rfl rfl rfl rfl rfl rfl rfl rfl hXW
  simp only [rops, Try.f53, regOf, Option.bind_some, Nat.reduceBEq, if_true, if_false, Bool.false_eq_true, Option.getD_some, List.drop_succ_cons, List.drop_zero]
  simp only [Act.put, List.setIfInBounds_toArray, List.set_cons_succ, List.set_cons_zero]
  replace HX := Lib.hid (HX.out.trans hXW)
  replace KA := Lib.hid (KA.out.ext hXW)
  replace KR := Lib.hid (KR.out.ext hXW)
  clear hXW
  have cA0 : w2.cell? ⟨w.heap.size, 0, none⟩ = some (.int .i64 lo) := KA.out.cell 0
  have cA1 : w2.cell? ⟨w.heap.size, 1, none⟩ = some (.int .i64 hi) := KA.out.cell 1
  have cR0 : w2.cell? ⟨(w.heap.size + 1), 0, none⟩ = some (.int .i64 0) := KR.out.cell 0
  have fR0 : w2.frozen? ⟨(w.heap.size + 1), 0, none⟩ = false := KR.out.free 0
  have cR1 : w2.cell? ⟨(w.heap.size + 1), 1, none⟩ = some (.int .i64 0) := KR.out.cell 1
  have fR1 : w2.frozen? ⟨(w.heap.size + 1), 1, none⟩ = false := KR.out.free 1
  obtain ⟨x, hx⟩ : ∃ q, ptX lo hi iu = q := ⟨_, rfl⟩
  obtain ⟨y, hy⟩ : ∃ q, ptY lo hi ju = q := ⟨_, rfl⟩
  rw [hx, hy]
  have HPX := Lib.hid hx
  have HPY := Lib.hid hy
  clear hx hy
  go_wp2
  refine bodyPost_ret (v := .agg #[.int .i64 (min x y), .int .i64 (max x y)]) (by simp [results, Try.results53, go_sem, *]) rfl ?_
  exact ⟨by rw [HPX.out, HPY.out], HX.out.two (by omega) _ _⟩

/-- What Plus, Minus and Times return: a span and an error; without an error the span is 'lo', 'hi'. -/
def RetS (w : World) (lo hi : Int) (ok : Prop) (e : Ending) (w' : World) : Prop := ∃ x y er : Int, e = .returned (.tuple #[.agg #[.int .i64 x, .int .i64 y], .int .i64 er]) ∧ Hid (er = 0 → ok ∧ x = lo ∧ y = hi) ∧ Hid (ok → er = 0) ∧ Hid (-1152921504606846976 ≤ x ∧ x ≤ 1152921504606846976 ∧ -1152921504606846976 ≤ y ∧ y ≤ 1152921504606846976) ∧ Ext w w'
def okN (lo hi : Int) : Prop := -1152921504606846976 ≤ lo ∧ hi ≤ 1152921504606846976
theorem plusS (a b c d : Int) (w : World) (hab : okS a b = true) (hcd : okS c d = true) : Calls Try.prog 54 #[.agg #[.int .i64 a, .int .i64 b], .agg #[.int .i64 c, .int .i64 d]] w (RetS w (a + c) (b + d) (okN (a + c) (b + d))) := by
  obtain ⟨a0, a1, a2⟩ := okS_in hab
  obtain ⟨c0, c1, c2⟩ := okS_in hcd
  by_cases h : okN (a + c) (b + d)
  · refine (eplus_ok a b c d w hab hcd h.1 h.2).mono ?_
    rintro e w' ⟨rfl, hX⟩
    exact ⟨_, _, _, rfl, fun _ => ⟨h, rfl, rfl⟩, fun _ => rfl, ⟨h.1, by have := h.2; omega, by have := h.1; omega, h.2⟩, hX⟩
  · refine (eplus_out a b c d w hab hcd (by unfold okN at h; omega)).mono ?_
    rintro e w' ⟨rfl, hX⟩
    exact ⟨_, _, _, rfl, fun h => by omega, fun k => absurd k h, ⟨by omega, by omega, by omega, by omega⟩, hX⟩
theorem minusS (a b c d : Int) (w : World) (hab : okS a b = true) (hcd : okS c d = true) : Calls Try.prog 55 #[.agg #[.int .i64 a, .int .i64 b], .agg #[.int .i64 c, .int .i64 d]] w (RetS w (a - d) (b - c) (okN (a - d) (b - c))) := by
  obtain ⟨a0, a1, a2⟩ := okS_in hab
  obtain ⟨c0, c1, c2⟩ := okS_in hcd
  by_cases h : okN (a - d) (b - c)
  · refine (eminus_ok a b c d w hab hcd h.1 h.2).mono ?_
    rintro e w' ⟨rfl, hX⟩
    exact ⟨_, _, _, rfl, fun _ => ⟨h, rfl, rfl⟩, fun _ => rfl, ⟨h.1, by have := h.2; omega, by have := h.1; omega, h.2⟩, hX⟩
  · refine (eminus_out a b c d w hab hcd (by unfold okN at h; omega)).mono ?_
    rintro e w' ⟨rfl, hX⟩
    exact ⟨_, _, _, rfl, fun h => by omega, fun k => absurd k h, ⟨by omega, by omega, by omega, by omega⟩, hX⟩
theorem tlo_in {a b c d : Int} (h : tok a b c d = true) : -1152921504606846976 ≤ tlo a b c d 4 ∧ tlo a b c d 4 ≤ 1152921504606846976 ∧ -1152921504606846976 ≤ thi a b c d 4 ∧ thi a b c d 4 ≤ 1152921504606846976 := by
  simp only [tok, Bool.and_eq_true] at h
  obtain ⟨⟨⟨h0, h1⟩, h2⟩, h3⟩ := h
  have h0 := inN_yes h0
  have h1 := inN_yes h1
  have h2 := inN_yes h2
  have h3 := inN_yes h3
  simp only [tlo, thi]
  omega
theorem timesS (a b c d : Int) (w : World) (hab : okS a b = true) (hcd : okS c d = true) : Calls Try.prog 56 #[.agg #[.int .i64 a, .int .i64 b], .agg #[.int .i64 c, .int .i64 d]] w (RetS w (tlo a b c d 4) (thi a b c d 4) (tok a b c d = true)) := by
  refine (times_any a b c d w hab hcd).mono ?_
  rintro e w' ⟨rfl, hX⟩
  rcases h : tok a b c d with _ | _
  · exact ⟨0, 0, 3, by simp [timesV, timesE, h], (fun h => by omega), (fun k => by cases k), ⟨by omega, by omega, by omega, by omega⟩, hX⟩
  · exact ⟨_, _, 0, by simp [timesV, timesE, h], fun _ => ⟨rfl, rfl, rfl⟩, fun _ => rfl, tlo_in h, hX⟩
theorem mul_mid {a b x y lo hi : Int} (h0 : a ≤ x) (h1 : x ≤ b) (ha : lo ≤ a * y ∧ a * y ≤ hi) (hb : lo ≤ b * y ∧ b * y ≤ hi) : lo ≤ x * y ∧ x * y ≤ hi := by
  by_cases hy : 0 ≤ y
  · have e1 : a * y ≤ x * y := Int.mul_le_mul_of_nonneg_right h0 hy
    have e2 : x * y ≤ b * y := Int.mul_le_mul_of_nonneg_right h1 hy
    omega
  · have e1 : x * y ≤ a * y := Int.mul_le_mul_of_nonpos_right h0 (by omega)
    have e2 : b * y ≤ x * y := Int.mul_le_mul_of_nonpos_right h1 (by omega)
    omega
theorem mul_box {a b c d x y lo hi : Int} (h0 : a ≤ x) (h1 : x ≤ b) (k0 : c ≤ y) (k1 : y ≤ d) (q0 : lo ≤ a * c ∧ a * c ≤ hi) (q1 : lo ≤ a * d ∧ a * d ≤ hi) (q2 : lo ≤ b * c ∧ b * c ≤ hi) (q3 : lo ≤ b * d ∧ b * d ≤ hi) : lo ≤ x * y ∧ x * y ≤ hi := by
  have e1 : lo ≤ a * y ∧ a * y ≤ hi := by
    rw [Int.mul_comm a c] at q0
    rw [Int.mul_comm a d] at q1
    rw [Int.mul_comm a y]
    exact mul_mid k0 k1 q0 q1
  have e2 : lo ≤ b * y ∧ b * y ≤ hi := by
    rw [Int.mul_comm b c] at q2
    rw [Int.mul_comm b d] at q3
    rw [Int.mul_comm b y]
    exact mul_mid k0 k1 q2 q3
  exact mul_mid h0 h1 e1 e2
theorem tbox (a b c d : Int) : (tlo a b c d 4 ≤ a * c ∧ a * c ≤ thi a b c d 4) ∧ (tlo a b c d 4 ≤ a * d ∧ a * d ≤ thi a b c d 4) ∧ (tlo a b c d 4 ≤ b * c ∧ b * c ≤ thi a b c d 4) ∧ (tlo a b c d 4 ≤ b * d ∧ b * d ≤ thi a b c d 4) := by
  simp only [tlo, thi, tp, if_true, if_false, Nat.one_ne_zero, show (2 : Nat) ≠ 0 by omega, show (2 : Nat) ≠ 1 by omega, show (3 : Nat) ≠ 0 by omega, show (3 : Nat) ≠ 1 by omega, show (3 : Nat) ≠ 2 by omega]
  omega
theorem times_part {a b c d x y z t : Int} (h0 : a ≤ x) (hx : x ≤ y) (h1 : y ≤ b) (k0 : c ≤ z) (hz : z ≤ t) (k1 : t ≤ d) (h : tok a b c d = true) :
    tok x y z t = true ∧ tlo a b c d 4 ≤ tlo x y z t 4 ∧ tlo x y z t 4 ≤ thi a b c d 4 ∧ tlo a b c d 4 ≤ thi x y z t 4 ∧ thi x y z t 4 ≤ thi a b c d 4 ∧ tlo x y z t 4 ≤ x * z ∧ x * z ≤ thi x y z t 4 := by
  obtain ⟨q0, q1, q2, q3⟩ := tbox a b c d
  have b0 := mul_box h0 (show x ≤ b by omega) k0 (show z ≤ d by omega) q0 q1 q2 q3
  have b1 := mul_box h0 (show x ≤ b by omega) (show c ≤ t by omega) k1 q0 q1 q2 q3
  have b2 := mul_box (show a ≤ y by omega) h1 k0 (show z ≤ d by omega) q0 q1 q2 q3
  have b3 := mul_box (show a ≤ y by omega) h1 (show c ≤ t by omega) k1 q0 q1 q2 q3
  have hin := tlo_in h
  have hb := tbox x y z t
  have ht : tok x y z t = true := by
    simp only [tok, tp, inN, Bool.and_eq_true, decide_eq_true_eq, if_true, if_false, Nat.one_ne_zero, show (2 : Nat) ≠ 0 by omega, show (2 : Nat) ≠ 1 by omega, show (3 : Nat) ≠ 0 by omega, show (3 : Nat) ≠ 1 by omega, show (3 : Nat) ≠ 2 by omega]
    omega
  refine ⟨ht, ?_, by omega, by omega, ?_, hb.1.1, hb.1.2⟩
  · simp only [tlo, tp, if_true, if_false, Nat.one_ne_zero, show (2 : Nat) ≠ 0 by omega, show (2 : Nat) ≠ 1 by omega, show (3 : Nat) ≠ 0 by omega, show (3 : Nat) ≠ 1 by omega, show (3 : Nat) ≠ 2 by omega] at *
    omega
  · simp only [thi, tp, if_true, if_false, Nat.one_ne_zero, show (2 : Nat) ≠ 0 by omega, show (2 : Nat) ≠ 1 by omega, show (3 : Nat) ≠ 0 by omega, show (3 : Nat) ≠ 1 by omega, show (3 : Nat) ≠ 2 by omega] at *
    omega
/-- Over, of a span and of a part of it. -/
theorem over_part {a b x y n : Int} (h0 : a ≤ x) (hx : x ≤ y) (h1 : y ≤ b) (hn : 1 ≤ n) : a / n ≤ x / n ∧ x / n ≤ -((-b) / n) ∧ a / n ≤ -((-y) / n) ∧ -((-y) / n) ≤ -((-b) / n) ∧ x / n * n ≤ x ∧ y ≤ -((-y) / n) * n ∧ x < (x / n + 1) * n ∧ (-((-y) / n) - 1) * n < y := by
  have e1 : a / n ≤ x / n := Int.ediv_le_ediv (by omega) h0
  have e2 : (-b) / n ≤ (-y) / n := Int.ediv_le_ediv (by omega) (by omega)
  have e3 := Int.ediv_mul_le x (show n ≠ 0 by omega)
  have e4 := Int.ediv_mul_le (-y) (show n ≠ 0 by omega)
  have e5 := Int.lt_ediv_add_one_mul_self x (show 0 < n by omega)
  have e6 := Int.lt_ediv_add_one_mul_self (-y) (show 0 < n by omega)
  have e7 : -((-y) / n) * n = -((-y) / n * n) := Int.neg_mul _ _
  have e8 : (-((-y) / n) - 1) * n = -(((-y) / n + 1) * n) := by rw [← Int.neg_mul]; congr 1; omega
  have e9 : x / n ≤ -((-y) / n) := by
    apply Int.not_lt.1
    intro h
    have : (-((-y) / n) + 1) * n ≤ x / n * n := Int.mul_le_mul_of_nonneg_right (by omega) (by omega)
    have e10 : (-((-y) / n) + 1) * n = -((-y) / n * n) + n := by rw [Int.add_mul, Int.neg_mul, Int.one_mul]
    omega
  omega
end Go.Proofs.Yteoijnaljkagfaa
