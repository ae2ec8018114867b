/- Lemmas of the proof that follows (Facets, part 13): walks of functions by contract, and plain lemmas. Conditions: none. -/
import Derived.Test.YtikhlcgnlbinfaaFacetsL
namespace Go.Proofs.Ytikhlcgnlbinfaa
open Go.RowKit

/-- A match in a block of its own, its normal a function. -/
def T7 (w : World) (g : Nat) (s o : Int) (f : Nat → Int) (dd wt : Int) : Prop := Blk w g 90 #[.int .i64 s, .int .i64 o, .int .i64 (f 0), .int .i64 (f 1), .int .i64 (f 2), .int .i64 dd, .int .i64 wt]
theorem T7.ext {w w' : World} {g : Nat} {s o dd wt : Int} {f : Nat → Int} (h : T7 w g s o f dd wt) (he : Ext w w') : T7 w' g s o f dd wt := Blk.ext h he
theorem T7.cell {w : World} {g : Nat} {s o dd wt : Int} {f : Nat → Int} (h : T7 w g s o f dd wt) {k : Nat} (hk : k < 3) : w.cell? ⟨g, 2 + k, none⟩ = some (.int .i64 (f k)) := by
  unfold T7 at h
  match k, hk with
  | 0, _ => exact h.cell 2
  | 1, _ => exact h.cell 3
  | 2, _ => exact h.cell 4
theorem T7.cellD {w : World} {g : Nat} {s o dd wt : Int} {f : Nat → Int} (h : T7 w g s o f dd wt) : w.cell? ⟨g, 5, none⟩ = some (.int .i64 dd) := Blk.cell h 5
theorem T7.free {w : World} {g : Nat} {s o dd wt : Int} {f : Nat → Int} (h : T7 w g s o f dd wt) (k : Nat) : w.frozen? ⟨g, k, none⟩ = false := Blk.free h k
theorem T7.congr {w : World} {g : Nat} {s o dd wt : Int} {f f' : Nat → Int} (h : T7 w g s o f dd wt) (e : ∀ k, k < 3 → f k = f' k) : T7 w g s o f' dd wt := by
  unfold T7 at h ⊢
  rw [← e 0 (by omega), ← e 1 (by omega), ← e 2 (by omega)]
  exact h
theorem T7.put {w : World} {g : Nat} {s o dd wt : Int} {f : Nat → Int} (h : T7 w g s o f dd wt) {k : Nat} (hk : k < 3) (x : Int) : T7 (w.setCell ⟨g, 2 + k, none⟩ (.int .i64 x)) g s o (fun j => if j = k then x else f j) dd wt := by
  unfold T7 at h ⊢
  match k, hk with
  | 0, _ => exact h.set 2 _
  | 1, _ => exact h.set 3 _
  | 2, _ => exact h.set 4 _
theorem T7.putD {w : World} {g : Nat} {s o dd wt : Int} {f : Nat → Int} (h : T7 w g s o f dd wt) (x : Int) : T7 (w.setCell ⟨g, 5, none⟩ (.int .i64 x)) g s o f x wt := Blk.set h 5 _
def tieS (m d : Nat → Int) : Nat → Int
  | 0 => 0
  | i + 1 => tieS m d i + m i * d i
theorem tieS_bound {m d : Nat → Int} (hm : ∀ k, k < 3 → -100 ≤ m k ∧ m k ≤ 100) (hd : ∀ k, k < 3 → -536870912 ≤ d k ∧ d k ≤ 536870912) : ∀ i : Nat, i ≤ 3 → -(53687091200 * (i : Int)) ≤ tieS m d i ∧ tieS m d i ≤ 53687091200 * (i : Int)
  | 0, _ => ⟨by show -(53687091200 * ((0 : Nat) : Int)) ≤ 0; omega, by show (0 : Int) ≤ 53687091200 * ((0 : Nat) : Int); omega⟩
  | i + 1, hi => by
    have ih := tieS_bound hm hd i (by omega)
    have b := prod_bound (A := 100) (B := 536870912) (hm i (by omega)).1 (hm i (by omega)).2 (hd i (by omega)).1 (hd i (by omega)).2
    show -(53687091200 * ((i + 1 : Nat) : Int)) ≤ tieS m d i + m i * d i ∧ tieS m d i + m i * d i ≤ 53687091200 * ((i + 1 : Nat) : Int)
    omega
theorem tieS_three (m d : Nat → Int) : tieS m d 3 = m 0 * d 0 + m 1 * d 1 + m 2 * d 2 := by
  show (0 : Int) + m 0 * d 0 + m 1 * d 1 + m 2 * d 2 = _
  rw [Int.zero_add]

set_option maxRecDepth 100000 in
set_option maxHeartbeats 2000000 in
theorem tieR_r22 (ga gq gm k : Nat) (ak qk mk dk dd : Int) (w : World) (hdd : w.cell? ⟨gm, 5, none⟩ = some (.int .i64 dd)) (hmk : w.cell? ⟨gm, 2 + k, none⟩ = some (.int .i64 mk)) (hak : w.cell? ⟨ga, k, none⟩ = some (.int .i64 ak)) (hqk : w.cell? ⟨gq, k, none⟩ = some (.int .i64 qk)) (hk3 : k < 3) (hk3i : (k : Int) < 3) (w1 : IntKind.i64.wrap (ak - qk) = dk) (w2 : IntKind.i64.wrap (mk * dk) = mk * dk) (w3 : IntKind.i64.wrap (dd + mk * dk) = dd + mk * dk) (a : Act) (Q : Exit → Act → World → Prop) (hsize : 143 ≤ a.tmps.size)
    (s9 : a.tmps[9]? = some (.pointer (some ⟨ga, 0, none⟩)))
    (s12 : a.tmps[12]? = some (.pointer (some ⟨gq, 0, none⟩)))
    (s18 : a.tmps[18]? = some (.pointer (some ⟨gm, 0, none⟩)))
    (s22 : a.tmps[22]? = some (.int .i64 (k : Int)))
    (hend : ∀ (xv0 xv1 xv2 xv3 xv4 xv5 xv6 xv7 xv8 xv9 xv10 xv11 xv12 xv13 xv14 xv15 : Value) (W : World), (xv0 = .pointer (some ⟨gm, 5, none⟩)) → (xv1 = .int .i64 (dd)) → (xv2 = .int .i64 (k : Int)) → (xv3 = .pointer (some ⟨gm, 2, none⟩)) → (xv4 = .pointer (some ⟨gm, 2 + k, none⟩)) → (xv5 = .int .i64 (mk)) → (xv6 = .int .i64 (k : Int)) → (xv7 = .pointer (some ⟨ga, k, none⟩)) → (xv8 = .int .i64 (ak)) → (xv9 = .int .i64 (k : Int)) → (xv10 = .pointer (some ⟨gq, k, none⟩)) → (xv11 = .int .i64 (qk)) → (xv12 = .int .i64 (dk)) → (xv13 = .int .i64 (mk * dk)) → (xv14 = .int .i64 (dd + mk * dk)) → (xv15 = .pointer (some ⟨gm, 5, none⟩)) → Ext w W → wpList Try.prog (rops Try.f71 22).toArray Q ((rops Try.f71 22).drop 16) ((((((((((((((((a.put (some 127) xv0).put (some 128) xv1).put (some 129) xv2).put (some 130) xv3).put (some 131) xv4).put (some 132) xv5).put (some 133) xv6).put (some 134) xv7).put (some 135) xv8).put (some 136) xv9).put (some 137) xv10).put (some 138) xv11).put (some 139) xv12).put (some 140) xv13).put (some 141) xv14).put (some 142) xv15) W) :
    (Code.region 22 (rops Try.f71 22).toArray true).wp Try.prog Q a w := by
  have hmono : ∀ (W W' : World) (j : Nat) (u : Value), Ext W W' → (fun (i : Nat) (v : Value) (W : World) => match i with
    | 0 => v = .pointer (some ⟨gm, 5, none⟩)
    | 1 => v = .int .i64 (dd)
    | 2 => v = .int .i64 (k : Int)
    | 3 => v = .pointer (some ⟨gm, 2, none⟩)
    | 4 => v = .pointer (some ⟨gm, 2 + k, none⟩)
    | 5 => v = .int .i64 (mk)
    | 6 => v = .int .i64 (k : Int)
    | 7 => v = .pointer (some ⟨ga, k, none⟩)
    | 8 => v = .int .i64 (ak)
    | 9 => v = .int .i64 (k : Int)
    | 10 => v = .pointer (some ⟨gq, k, none⟩)
    | 11 => v = .int .i64 (qk)
    | 12 => v = .int .i64 (dk)
    | 13 => v = .int .i64 (mk * dk)
    | 14 => v = .int .i64 (dd + mk * dk)
    | 15 => v = .pointer (some ⟨gm, 5, none⟩)
    | _ => True) j u W → (fun (i : Nat) (v : Value) (W : World) => match i with
    | 0 => v = .pointer (some ⟨gm, 5, none⟩)
    | 1 => v = .int .i64 (dd)
    | 2 => v = .int .i64 (k : Int)
    | 3 => v = .pointer (some ⟨gm, 2, none⟩)
    | 4 => v = .pointer (some ⟨gm, 2 + k, none⟩)
    | 5 => v = .int .i64 (mk)
    | 6 => v = .int .i64 (k : Int)
    | 7 => v = .pointer (some ⟨ga, k, none⟩)
    | 8 => v = .int .i64 (ak)
    | 9 => v = .int .i64 (k : Int)
    | 10 => v = .pointer (some ⟨gq, k, none⟩)
    | 11 => v = .int .i64 (qk)
    | 12 => v = .int .i64 (dk)
    | 13 => v = .int .i64 (mk * dk)
    | 14 => v = .int .i64 (dd + mk * dk)
    | 15 => v = .pointer (some ⟨gm, 5, none⟩)
    | _ => True) j u W' := by
    intro W W' j u hX h
    match j, h with
    | 0, h => exact h
    | 1, h => exact h
    | 2, h => exact h
    | 3, h => exact h
    | 4, h => exact h
    | 5, h => exact h
    | 6, h => exact h
    | 7, h => exact h
    | 8, h => exact h
    | 9, h => exact h
    | 10, h => exact h
    | 11, h => exact h
    | 12, h => exact h
    | 13, h => exact h
    | 14, h => exact h
    | 15, h => exact h
    | _ + 16, h => exact h
  have hsz : ∀ d, some d ∈ ([some 127, some 128, some 129, some 130, some 131, some 132, some 133, some 134, some 135, some 136, some 137, some 138, some 139, some 140, some 141, some 142] : List (Option Tmp)) → d < a.tmps.size := slots_lt (by decide) hsize
  refine wp_region_j 16 [some 127, some 128, some 129, some 130, some 131, some 132, some 133, some 134, some 135, some 136, some 137, some 138, some 139, some 140, some 141, some 142] [[], [0], [], [], [2, 3], [4], [], [6], [7], [], [9], [10], [8, 11], [5, 12], [1, 13], []] [[], [], [], [], [], [], [], [], [], [], [], [], [], [], [], []] (fun (i : Nat) (v : Value) (W : World) => match i with
    | 0 => v = .pointer (some ⟨gm, 5, none⟩)
    | 1 => v = .int .i64 (dd)
    | 2 => v = .int .i64 (k : Int)
    | 3 => v = .pointer (some ⟨gm, 2, none⟩)
    | 4 => v = .pointer (some ⟨gm, 2 + k, none⟩)
    | 5 => v = .int .i64 (mk)
    | 6 => v = .int .i64 (k : Int)
    | 7 => v = .pointer (some ⟨ga, k, none⟩)
    | 8 => v = .int .i64 (ak)
    | 9 => v = .int .i64 (k : Int)
    | 10 => v = .pointer (some ⟨gq, k, none⟩)
    | 11 => v = .int .i64 (qk)
    | 12 => v = .int .i64 (dk)
    | 13 => v = .int .i64 (mk * dk)
    | 14 => v = .int .i64 (dd + mk * dk)
    | 15 => v = .pointer (some ⟨gm, 5, none⟩)
    | _ => True) (fun _ W => Ext w W) (by kernel_rfl) (by kernel_rfl) hsz (fun _ _ _ _ h => h) ((Ext.refl w).drew) ?_ ?_
  · clear hend
    simp only [rops, Try.f71, regOf, Option.bind_some, Nat.reduceBEq, if_true, if_false, Bool.false_eq_true, Option.getD_some]
    simp only [List.take_succ_cons, List.take_zero]
    refine ⟨?_, ?_, ?_, ?_, ?_, ?_, ?_, ?_, ?_, ?_, ?_, ?_, ?_, ?_, ?_, ?_, trivial⟩
    · intro done us W hJ hdep haft hnot b hb hb' K hK Q'
      have e18 := (hb' 18 (by simp)).trans s18
      clear hb hb'
      go_simp
      exact hK _ _ rfl (fun _ _ _ h => h) hJ
    · intro done us W hJ hdep haft hnot b hb hb' K hK Q'
      simp only [List.getD_cons_succ, List.getD_cons_zero, List.mem_cons, List.not_mem_nil, or_false, forall_eq] at hdep
      have e127 := hb 0 127 rfl
      have d0 := hdep
      rw [d0.1] at e127
      clear hb hb' hdep d0
      have q := Ext.cell hJ hdd
      go_simp
      exact hK _ _ rfl (fun _ _ _ h => h) hJ
    · intro done us W hJ hdep haft hnot b hb hb' K hK Q'
      have e22 := (hb' 22 (by simp)).trans s22
      clear hb hb'
      go_simp
      exact hK _ _ rfl (fun _ _ _ h => h) hJ
    · intro done us W hJ hdep haft hnot b hb hb' K hK Q'
      have e18 := (hb' 18 (by simp)).trans s18
      clear hb hb'
      go_simp
      exact hK _ _ rfl (fun _ _ _ h => h) hJ
    · intro done us W hJ hdep haft hnot b hb hb' K hK Q'
      simp only [List.getD_cons_succ, List.getD_cons_zero, List.mem_cons, List.not_mem_nil, or_false, forall_eq_or_imp, forall_eq] at hdep
      have e129 := hb 2 129 rfl
      have e130 := hb 3 130 rfl
      have d2 := hdep.1
      have d3 := hdep.2
      rw [d2.1] at e129
      rw [d3.1] at e130
      clear hb hb' hdep d2 d3
      go_simp
      exact hK _ _ rfl (fun _ _ _ h => h) hJ
    · intro done us W hJ hdep haft hnot b hb hb' K hK Q'
      simp only [List.getD_cons_succ, List.getD_cons_zero, List.mem_cons, List.not_mem_nil, or_false, forall_eq] at hdep
      have e131 := hb 4 131 rfl
      have d4 := hdep
      rw [d4.1] at e131
      clear hb hb' hdep d4
      have q := Ext.cell hJ hmk
      go_simp
      exact hK _ _ rfl (fun _ _ _ h => h) hJ
    · intro done us W hJ hdep haft hnot b hb hb' K hK Q'
      have e22 := (hb' 22 (by simp)).trans s22
      clear hb hb'
      go_simp
      exact hK _ _ rfl (fun _ _ _ h => h) hJ
    · intro done us W hJ hdep haft hnot b hb hb' K hK Q'
      simp only [List.getD_cons_succ, List.getD_cons_zero, List.mem_cons, List.not_mem_nil, or_false, forall_eq] at hdep
      have e9 := (hb' 9 (by simp)).trans s9
      have e133 := hb 6 133 rfl
      have d6 := hdep
      rw [d6.1] at e133
      clear hb hb' hdep d6
      go_simp
      exact hK _ _ rfl (fun _ _ _ h => h) hJ
    · intro done us W hJ hdep haft hnot b hb hb' K hK Q'
      simp only [List.getD_cons_succ, List.getD_cons_zero, List.mem_cons, List.not_mem_nil, or_false, forall_eq] at hdep
      have e134 := hb 7 134 rfl
      have d7 := hdep
      rw [d7.1] at e134
      clear hb hb' hdep d7
      have q := Ext.cell hJ hak
      go_simp
      exact hK _ _ rfl (fun _ _ _ h => h) hJ
    · intro done us W hJ hdep haft hnot b hb hb' K hK Q'
      have e22 := (hb' 22 (by simp)).trans s22
      clear hb hb'
      go_simp
      exact hK _ _ rfl (fun _ _ _ h => h) hJ
    · intro done us W hJ hdep haft hnot b hb hb' K hK Q'
      simp only [List.getD_cons_succ, List.getD_cons_zero, List.mem_cons, List.not_mem_nil, or_false, forall_eq] at hdep
      have e12 := (hb' 12 (by simp)).trans s12
      have e136 := hb 9 136 rfl
      have d9 := hdep
      rw [d9.1] at e136
      clear hb hb' hdep d9
      go_simp
      exact hK _ _ rfl (fun _ _ _ h => h) hJ
    · intro done us W hJ hdep haft hnot b hb hb' K hK Q'
      simp only [List.getD_cons_succ, List.getD_cons_zero, List.mem_cons, List.not_mem_nil, or_false, forall_eq] at hdep
      have e137 := hb 10 137 rfl
      have d10 := hdep
      rw [d10.1] at e137
      clear hb hb' hdep d10
      have q := Ext.cell hJ hqk
      go_simp
      exact hK _ _ rfl (fun _ _ _ h => h) hJ
    · intro done us W hJ hdep haft hnot b hb hb' K hK Q'
      simp only [List.getD_cons_succ, List.getD_cons_zero, List.mem_cons, List.not_mem_nil, or_false, forall_eq_or_imp, forall_eq] at hdep
      have e135 := hb 8 135 rfl
      have e138 := hb 11 138 rfl
      have d8 := hdep.1
      have d11 := hdep.2
      rw [d8.1] at e135
      rw [d11.1] at e138
      clear hb hb' hdep d8 d11
      go_simp
      exact hK _ _ rfl (fun _ _ _ h => h) hJ
    · intro done us W hJ hdep haft hnot b hb hb' K hK Q'
      simp only [List.getD_cons_succ, List.getD_cons_zero, List.mem_cons, List.not_mem_nil, or_false, forall_eq_or_imp, forall_eq] at hdep
      have e132 := hb 5 132 rfl
      have e139 := hb 12 139 rfl
      have d5 := hdep.1
      have d12 := hdep.2
      rw [d5.1] at e132
      rw [d12.1] at e139
      clear hb hb' hdep d5 d12
      go_simp
      exact hK _ _ rfl (fun _ _ _ h => h) hJ
    · intro done us W hJ hdep haft hnot b hb hb' K hK Q'
      simp only [List.getD_cons_succ, List.getD_cons_zero, List.mem_cons, List.not_mem_nil, or_false, forall_eq_or_imp, forall_eq] at hdep
      have e128 := hb 1 128 rfl
      have e140 := hb 13 140 rfl
      have d1 := hdep.1
      have d13 := hdep.2
      rw [d1.1] at e128
      rw [d13.1] at e140
      clear hb hb' hdep d1 d13
      go_simp
      exact hK _ _ rfl (fun _ _ _ h => h) hJ
    · intro done us W hJ hdep haft hnot b hb hb' K hK Q'
      have e18 := (hb' 18 (by simp)).trans s18
      clear hb hb'
      go_simp
      exact hK _ _ rfl (fun _ _ _ h => h) hJ
  · intro us W hV hJ
    exact hend (us 0) (us 1) (us 2) (us 3) (us 4) (us 5) (us 6) (us 7) (us 8) (us 9) (us 10) (us 11) (us 12) (us 13) (us 14) (us 15) W (hV 0 (by omega)) (hV 1 (by omega)) (hV 2 (by omega)) (hV 3 (by omega)) (hV 4 (by omega)) (hV 5 (by omega)) (hV 6 (by omega)) (hV 7 (by omega)) (hV 8 (by omega)) (hV 9 (by omega)) (hV 10 (by omega)) (hV 11 (by omega)) (hV 12 (by omega)) (hV 13 (by omega)) (hV 14 (by omega)) (hV 15 (by omega)) hJ
set_option maxRecDepth 100000 in
set_option maxHeartbeats 16000000 in
theorem tieR_any (pa pb pc pq : Nat → Int) (s o wt : Int) (w : World) :
    Calls Try.prog 71 #[.int .i64 s, .int .i64 o, .agg #[.int .i64 (pa 0), .int .i64 (pa 1), .int .i64 (pa 2)], .agg #[.int .i64 (pb 0), .int .i64 (pb 1), .int .i64 (pb 2)], .agg #[.int .i64 (pc 0), .int .i64 (pc 1), .int .i64 (pc 2)], .agg #[.int .i64 (pq 0), .int .i64 (pq 1), .int .i64 (pq 2)], .int .i64 wt] w (fun e w' => e = .returned (tieV (tieA pa pb pc pq s o wt)) ∧ Ext w w') := by
  have HX := Lib.hid ((((((Ext.refl w).alloc (.cells #[.int .i64 (pa 0), .int .i64 (pa 1), .int .i64 (pa 2)] 22)).alloc (.cells #[.int .i64 (pb 0), .int .i64 (pb 1), .int .i64 (pb 2)] 22)).alloc (.cells #[.int .i64 (pc 0), .int .i64 (pc 1), .int .i64 (pc 2)] 22)).alloc (.cells #[.int .i64 (pq 0), .int .i64 (pq 1), .int .i64 (pq 2)] 22)).alloc (.cells #[.int .i64 0, .int .i64 0, .int .i64 0, .int .i64 0, .int .i64 0, .int .i64 0, .int .i64 0] 90))
  have HA : Hid (T3 (((((w.alloc (.cells #[.int .i64 (pa 0), .int .i64 (pa 1), .int .i64 (pa 2)] 22)).alloc (.cells #[.int .i64 (pb 0), .int .i64 (pb 1), .int .i64 (pb 2)] 22)).alloc (.cells #[.int .i64 (pc 0), .int .i64 (pc 1), .int .i64 (pc 2)] 22)).alloc (.cells #[.int .i64 (pq 0), .int .i64 (pq 1), .int .i64 (pq 2)] 22)).alloc (.cells #[.int .i64 0, .int .i64 0, .int .i64 0, .int .i64 0, .int .i64 0, .int .i64 0, .int .i64 0] 90)) w.heap.size pa) := Lib.hid (Blk.alloc (Blk.alloc (Blk.alloc (Blk.alloc (Blk.new w _ _) _) _) _) _)
  have HB : Hid (T3 (((((w.alloc (.cells #[.int .i64 (pa 0), .int .i64 (pa 1), .int .i64 (pa 2)] 22)).alloc (.cells #[.int .i64 (pb 0), .int .i64 (pb 1), .int .i64 (pb 2)] 22)).alloc (.cells #[.int .i64 (pc 0), .int .i64 (pc 1), .int .i64 (pc 2)] 22)).alloc (.cells #[.int .i64 (pq 0), .int .i64 (pq 1), .int .i64 (pq 2)] 22)).alloc (.cells #[.int .i64 0, .int .i64 0, .int .i64 0, .int .i64 0, .int .i64 0, .int .i64 0, .int .i64 0] 90)) (w.heap.size + 1) pb) := Lib.hid (Blk.alloc (Blk.alloc (Blk.alloc (Blk.at_ (by simp)) _) _) _)
  have HC : Hid (T3 (((((w.alloc (.cells #[.int .i64 (pa 0), .int .i64 (pa 1), .int .i64 (pa 2)] 22)).alloc (.cells #[.int .i64 (pb 0), .int .i64 (pb 1), .int .i64 (pb 2)] 22)).alloc (.cells #[.int .i64 (pc 0), .int .i64 (pc 1), .int .i64 (pc 2)] 22)).alloc (.cells #[.int .i64 (pq 0), .int .i64 (pq 1), .int .i64 (pq 2)] 22)).alloc (.cells #[.int .i64 0, .int .i64 0, .int .i64 0, .int .i64 0, .int .i64 0, .int .i64 0, .int .i64 0] 90)) (w.heap.size + 2) pc) := Lib.hid (Blk.alloc (Blk.alloc (Blk.at_ (by simp)) _) _)
  have HQ : Hid (T3 (((((w.alloc (.cells #[.int .i64 (pa 0), .int .i64 (pa 1), .int .i64 (pa 2)] 22)).alloc (.cells #[.int .i64 (pb 0), .int .i64 (pb 1), .int .i64 (pb 2)] 22)).alloc (.cells #[.int .i64 (pc 0), .int .i64 (pc 1), .int .i64 (pc 2)] 22)).alloc (.cells #[.int .i64 (pq 0), .int .i64 (pq 1), .int .i64 (pq 2)] 22)).alloc (.cells #[.int .i64 0, .int .i64 0, .int .i64 0, .int .i64 0, .int .i64 0, .int .i64 0, .int .i64 0] 90)) (w.heap.size + 3) pq) := Lib.hid (Blk.alloc (Blk.at_ (by simp)) _)
  have HR : Hid (Blk (((((w.alloc (.cells #[.int .i64 (pa 0), .int .i64 (pa 1), .int .i64 (pa 2)] 22)).alloc (.cells #[.int .i64 (pb 0), .int .i64 (pb 1), .int .i64 (pb 2)] 22)).alloc (.cells #[.int .i64 (pc 0), .int .i64 (pc 1), .int .i64 (pc 2)] 22)).alloc (.cells #[.int .i64 (pq 0), .int .i64 (pq 1), .int .i64 (pq 2)] 22)).alloc (.cells #[.int .i64 0, .int .i64 0, .int .i64 0, .int .i64 0, .int .i64 0, .int .i64 0, .int .i64 0] 90)) (w.heap.size + 4) 90 #[.int .i64 0, .int .i64 0, .int .i64 0, .int .i64 0, .int .i64 0, .int .i64 0, .int .i64 0]) := Lib.hid (Blk.at_ (by simp))
  go_enter Try.func71, Try.ntmps71
  go_upto_region 1 with (fail)
  generalize ((((w.alloc (.cells #[.int .i64 (pa 0), .int .i64 (pa 1), .int .i64 (pa 2)] 22)).alloc (.cells #[.int .i64 (pb 0), .int .i64 (pb 1), .int .i64 (pb 2)] 22)).alloc (.cells #[.int .i64 (pc 0), .int .i64 (pc 1), .int .i64 (pc 2)] 22)).alloc (.cells #[.int .i64 (pq 0), .int .i64 (pq 1), .int .i64 (pq 2)] 22)).alloc (.cells #[.int .i64 0, .int .i64 0, .int .i64 0, .int .i64 0, .int .i64 0, .int .i64 0, .int .i64 0] 90) = w1 at HX HA HB HC HQ HR ⊢
  have x0 := HA.out.cell (k := 0) (by omega)
  have x1 := HA.out.cell (k := 1) (by omega)
  have x2 := HA.out.cell (k := 2) (by omega)
  obtain ⟨b0, hb0⟩ : ∃ bb : Bool, bb = true ↔ nrK pa := by
    by_cases h : nrK pa
    · exact ⟨true, by simp [h]⟩
    · exact ⟨false, by simp [h]⟩
  replace hb0 := Lib.hid hb0
  go_wp2_with fail
  refine (near_any pa b0 _ hb0.out).mono ?_
  rintro e v0 ⟨rfl, hX2⟩
  clear x0 x1 x2
  replace HA := Lib.hid (HA.out.ext hX2)
  replace HB := Lib.hid (HB.out.ext hX2)
  replace HC := Lib.hid (HC.out.ext hX2)
  replace HQ := Lib.hid (HQ.out.ext hX2)
  replace HR := Lib.hid (HR.out.ext hX2)
  replace HX := Lib.hid (HX.out.trans hX2)
  clear hX2
  by_cases hP : nrK pa
  case neg =>
    obtain rfl : b0 = false := by
      rcases h : b0 with _ | _
      · rfl
      · exact absurd (hb0.out.1 h) hP
    clear hb0
    have HA2 : Hid (tieA pa pb pc pq s o wt = (⟨0, 0, 0, 0, 0, 0, 0⟩, 2)) := Lib.hid (tieA_bad (fun h => hP h.1.1))
    have r0 := HR.out.cell 0
    have f0 := HR.out.free 0
    have r1 := HR.out.cell 1
    have f1 := HR.out.free 1
    have r2 := HR.out.cell 2
    have f2 := HR.out.free 2
    have r3 := HR.out.cell 3
    have f3 := HR.out.free 3
    have r4 := HR.out.cell 4
    have f4 := HR.out.free 4
    have r5 := HR.out.cell 5
    have f5 := HR.out.free 5
    have r6 := HR.out.cell 6
    have f6 := HR.out.free 6
    simp only [List.getElem?_toArray, List.getElem?_cons_zero, List.getElem?_cons_succ] at r0 r1 r2 r3 r4 r5 r6
    go_wp2
    refine bodyPost_ret (v := .tuple #[.agg #[.int .i64 0, .int .i64 0, .int .i64 0, .int .i64 0, .int .i64 0, .int .i64 0, .int .i64 0], .int .i64 2]) (by simp [results, Try.results71, go_sem, *]) rfl ?_
    exact ⟨by rw [HA2.out]; rfl, (Ext.seven HX.out (by omega) _ _ _ _ _ _ _)⟩
  obtain rfl : b0 = true := hb0.out.2 hP
  have HP0 := Lib.hid hP
  clear hb0 hP
  have y0 := HB.out.cell (k := 0) (by omega)
  have y1 := HB.out.cell (k := 1) (by omega)
  have y2 := HB.out.cell (k := 2) (by omega)
  obtain ⟨b1, hb1⟩ : ∃ bb : Bool, bb = true ↔ nrK pb := by
    by_cases h : nrK pb
    · exact ⟨true, by simp [h]⟩
    · exact ⟨false, by simp [h]⟩
  replace hb1 := Lib.hid hb1
  go_wp2_with fail
  refine (near_any pb b1 _ hb1.out).mono ?_
  rintro e v1 ⟨rfl, hX2⟩
  clear y0 y1 y2
  replace HA := Lib.hid (HA.out.ext hX2)
  replace HB := Lib.hid (HB.out.ext hX2)
  replace HC := Lib.hid (HC.out.ext hX2)
  replace HQ := Lib.hid (HQ.out.ext hX2)
  replace HR := Lib.hid (HR.out.ext hX2)
  replace HX := Lib.hid (HX.out.trans hX2)
  clear hX2
  by_cases hP : nrK pb
  case neg =>
    obtain rfl : b1 = false := by
      rcases h : b1 with _ | _
      · rfl
      · exact absurd (hb1.out.1 h) hP
    clear hb1
    have HA2 : Hid (tieA pa pb pc pq s o wt = (⟨0, 0, 0, 0, 0, 0, 0⟩, 2)) := Lib.hid (tieA_bad (fun h => hP h.1.2.1))
    have r0 := HR.out.cell 0
    have f0 := HR.out.free 0
    have r1 := HR.out.cell 1
    have f1 := HR.out.free 1
    have r2 := HR.out.cell 2
    have f2 := HR.out.free 2
    have r3 := HR.out.cell 3
    have f3 := HR.out.free 3
    have r4 := HR.out.cell 4
    have f4 := HR.out.free 4
    have r5 := HR.out.cell 5
    have f5 := HR.out.free 5
    have r6 := HR.out.cell 6
    have f6 := HR.out.free 6
    simp only [List.getElem?_toArray, List.getElem?_cons_zero, List.getElem?_cons_succ] at r0 r1 r2 r3 r4 r5 r6
    go_wp2
    refine bodyPost_ret (v := .tuple #[.agg #[.int .i64 0, .int .i64 0, .int .i64 0, .int .i64 0, .int .i64 0, .int .i64 0, .int .i64 0], .int .i64 2]) (by simp [results, Try.results71, go_sem, *]) rfl ?_
    exact ⟨by rw [HA2.out]; rfl, (Ext.seven HX.out (by omega) _ _ _ _ _ _ _)⟩
  obtain rfl : b1 = true := hb1.out.2 hP
  have HP1 := Lib.hid hP
  clear hb1 hP
  have z0 := HC.out.cell (k := 0) (by omega)
  have z1 := HC.out.cell (k := 1) (by omega)
  have z2 := HC.out.cell (k := 2) (by omega)
  obtain ⟨b2, hb2⟩ : ∃ bb : Bool, bb = true ↔ nrK pc := by
    by_cases h : nrK pc
    · exact ⟨true, by simp [h]⟩
    · exact ⟨false, by simp [h]⟩
  replace hb2 := Lib.hid hb2
  go_wp2_with fail
  refine (near_any pc b2 _ hb2.out).mono ?_
  rintro e v2 ⟨rfl, hX2⟩
  clear z0 z1 z2
  replace HA := Lib.hid (HA.out.ext hX2)
  replace HB := Lib.hid (HB.out.ext hX2)
  replace HC := Lib.hid (HC.out.ext hX2)
  replace HQ := Lib.hid (HQ.out.ext hX2)
  replace HR := Lib.hid (HR.out.ext hX2)
  replace HX := Lib.hid (HX.out.trans hX2)
  clear hX2
  by_cases hP : nrK pc
  case neg =>
    obtain rfl : b2 = false := by
      rcases h : b2 with _ | _
      · rfl
      · exact absurd (hb2.out.1 h) hP
    clear hb2
    have HA2 : Hid (tieA pa pb pc pq s o wt = (⟨0, 0, 0, 0, 0, 0, 0⟩, 2)) := Lib.hid (tieA_bad (fun h => hP h.1.2.2.1))
    have r0 := HR.out.cell 0
    have f0 := HR.out.free 0
    have r1 := HR.out.cell 1
    have f1 := HR.out.free 1
    have r2 := HR.out.cell 2
    have f2 := HR.out.free 2
    have r3 := HR.out.cell 3
    have f3 := HR.out.free 3
    have r4 := HR.out.cell 4
    have f4 := HR.out.free 4
    have r5 := HR.out.cell 5
    have f5 := HR.out.free 5
    have r6 := HR.out.cell 6
    have f6 := HR.out.free 6
    simp only [List.getElem?_toArray, List.getElem?_cons_zero, List.getElem?_cons_succ] at r0 r1 r2 r3 r4 r5 r6
    go_wp2
    refine bodyPost_ret (v := .tuple #[.agg #[.int .i64 0, .int .i64 0, .int .i64 0, .int .i64 0, .int .i64 0, .int .i64 0, .int .i64 0], .int .i64 2]) (by simp [results, Try.results71, go_sem, *]) rfl ?_
    exact ⟨by rw [HA2.out]; rfl, (Ext.seven HX.out (by omega) _ _ _ _ _ _ _)⟩
  obtain rfl : b2 = true := hb2.out.2 hP
  have HP2 := Lib.hid hP
  clear hb2 hP
  have q0 := HQ.out.cell (k := 0) (by omega)
  have q1 := HQ.out.cell (k := 1) (by omega)
  have q2 := HQ.out.cell (k := 2) (by omega)
  obtain ⟨b3, hb3⟩ : ∃ bb : Bool, bb = true ↔ nrK pq := by
    by_cases h : nrK pq
    · exact ⟨true, by simp [h]⟩
    · exact ⟨false, by simp [h]⟩
  replace hb3 := Lib.hid hb3
  go_wp2_with fail
  refine (near_any pq b3 _ hb3.out).mono ?_
  rintro e v3 ⟨rfl, hX2⟩
  clear q0 q1 q2
  replace HA := Lib.hid (HA.out.ext hX2)
  replace HB := Lib.hid (HB.out.ext hX2)
  replace HC := Lib.hid (HC.out.ext hX2)
  replace HQ := Lib.hid (HQ.out.ext hX2)
  replace HR := Lib.hid (HR.out.ext hX2)
  replace HX := Lib.hid (HX.out.trans hX2)
  clear hX2
  by_cases hP : nrK pq
  case neg =>
    obtain rfl : b3 = false := by
      rcases h : b3 with _ | _
      · rfl
      · exact absurd (hb3.out.1 h) hP
    clear hb3
    have HA2 : Hid (tieA pa pb pc pq s o wt = (⟨0, 0, 0, 0, 0, 0, 0⟩, 2)) := Lib.hid (tieA_bad (fun h => hP h.1.2.2.2))
    have r0 := HR.out.cell 0
    have f0 := HR.out.free 0
    have r1 := HR.out.cell 1
    have f1 := HR.out.free 1
    have r2 := HR.out.cell 2
    have f2 := HR.out.free 2
    have r3 := HR.out.cell 3
    have f3 := HR.out.free 3
    have r4 := HR.out.cell 4
    have f4 := HR.out.free 4
    have r5 := HR.out.cell 5
    have f5 := HR.out.free 5
    have r6 := HR.out.cell 6
    have f6 := HR.out.free 6
    simp only [List.getElem?_toArray, List.getElem?_cons_zero, List.getElem?_cons_succ] at r0 r1 r2 r3 r4 r5 r6
    go_wp2
    refine bodyPost_ret (v := .tuple #[.agg #[.int .i64 0, .int .i64 0, .int .i64 0, .int .i64 0, .int .i64 0, .int .i64 0, .int .i64 0], .int .i64 2]) (by simp [results, Try.results71, go_sem, *]) rfl ?_
    exact ⟨by rw [HA2.out]; rfl, (Ext.seven HX.out (by omega) _ _ _ _ _ _ _)⟩
  obtain rfl : b3 = true := hb3.out.2 hP
  have HP3 := Lib.hid hP
  clear hb3 hP
  by_cases hg0 : s < 0
  case pos =>
    have qg0 : decide (s < 0) = true := by simpa using hg0
    have HA2 : Hid (tieA pa pb pc pq s o wt = (⟨0, 0, 0, 0, 0, 0, 0⟩, 2)) := Lib.hid (tieA_bad (fun h => h.2.1 hg0))
    have r0 := HR.out.cell 0
    have f0 := HR.out.free 0
    have r1 := HR.out.cell 1
    have f1 := HR.out.free 1
    have r2 := HR.out.cell 2
    have f2 := HR.out.free 2
    have r3 := HR.out.cell 3
    have f3 := HR.out.free 3
    have r4 := HR.out.cell 4
    have f4 := HR.out.free 4
    have r5 := HR.out.cell 5
    have f5 := HR.out.free 5
    have r6 := HR.out.cell 6
    have f6 := HR.out.free 6
    simp only [List.getElem?_toArray, List.getElem?_cons_zero, List.getElem?_cons_succ] at r0 r1 r2 r3 r4 r5 r6
    go_wp2
    refine bodyPost_ret (v := .tuple #[.agg #[.int .i64 0, .int .i64 0, .int .i64 0, .int .i64 0, .int .i64 0, .int .i64 0, .int .i64 0], .int .i64 2]) (by simp [results, Try.results71, go_sem, *]) rfl ?_
    exact ⟨by rw [HA2.out]; rfl, (Ext.seven HX.out (by omega) _ _ _ _ _ _ _)⟩
  have qg0 : decide (s < 0) = false := by simpa using hg0
  by_cases hg1 : 8 ≤ s
  case pos =>
    have qg1 : decide (8 ≤ s) = true := by simpa using hg1
    have HA2 : Hid (tieA pa pb pc pq s o wt = (⟨0, 0, 0, 0, 0, 0, 0⟩, 2)) := Lib.hid (tieA_bad (fun h => h.2.2.1 hg1))
    have r0 := HR.out.cell 0
    have f0 := HR.out.free 0
    have r1 := HR.out.cell 1
    have f1 := HR.out.free 1
    have r2 := HR.out.cell 2
    have f2 := HR.out.free 2
    have r3 := HR.out.cell 3
    have f3 := HR.out.free 3
    have r4 := HR.out.cell 4
    have f4 := HR.out.free 4
    have r5 := HR.out.cell 5
    have f5 := HR.out.free 5
    have r6 := HR.out.cell 6
    have f6 := HR.out.free 6
    simp only [List.getElem?_toArray, List.getElem?_cons_zero, List.getElem?_cons_succ] at r0 r1 r2 r3 r4 r5 r6
    go_wp2
    refine bodyPost_ret (v := .tuple #[.agg #[.int .i64 0, .int .i64 0, .int .i64 0, .int .i64 0, .int .i64 0, .int .i64 0, .int .i64 0], .int .i64 2]) (by simp [results, Try.results71, go_sem, *]) rfl ?_
    exact ⟨by rw [HA2.out]; rfl, (Ext.seven HX.out (by omega) _ _ _ _ _ _ _)⟩
  have qg1 : decide (8 ≤ s) = false := by simpa using hg1
  by_cases hg2 : o < -1
  case pos =>
    have qg2 : decide (o < -1) = true := by simpa using hg2
    have HA2 : Hid (tieA pa pb pc pq s o wt = (⟨0, 0, 0, 0, 0, 0, 0⟩, 2)) := Lib.hid (tieA_bad (fun h => h.2.2.2.1 hg2))
    have r0 := HR.out.cell 0
    have f0 := HR.out.free 0
    have r1 := HR.out.cell 1
    have f1 := HR.out.free 1
    have r2 := HR.out.cell 2
    have f2 := HR.out.free 2
    have r3 := HR.out.cell 3
    have f3 := HR.out.free 3
    have r4 := HR.out.cell 4
    have f4 := HR.out.free 4
    have r5 := HR.out.cell 5
    have f5 := HR.out.free 5
    have r6 := HR.out.cell 6
    have f6 := HR.out.free 6
    simp only [List.getElem?_toArray, List.getElem?_cons_zero, List.getElem?_cons_succ] at r0 r1 r2 r3 r4 r5 r6
    go_wp2
    refine bodyPost_ret (v := .tuple #[.agg #[.int .i64 0, .int .i64 0, .int .i64 0, .int .i64 0, .int .i64 0, .int .i64 0, .int .i64 0], .int .i64 2]) (by simp [results, Try.results71, go_sem, *]) rfl ?_
    exact ⟨by rw [HA2.out]; rfl, (Ext.seven HX.out (by omega) _ _ _ _ _ _ _)⟩
  have qg2 : decide (o < -1) = false := by simpa using hg2
  by_cases hg3 : 8 ≤ o
  case pos =>
    have qg3 : decide (8 ≤ o) = true := by simpa using hg3
    have HA2 : Hid (tieA pa pb pc pq s o wt = (⟨0, 0, 0, 0, 0, 0, 0⟩, 2)) := Lib.hid (tieA_bad (fun h => h.2.2.2.2.1 hg3))
    have r0 := HR.out.cell 0
    have f0 := HR.out.free 0
    have r1 := HR.out.cell 1
    have f1 := HR.out.free 1
    have r2 := HR.out.cell 2
    have f2 := HR.out.free 2
    have r3 := HR.out.cell 3
    have f3 := HR.out.free 3
    have r4 := HR.out.cell 4
    have f4 := HR.out.free 4
    have r5 := HR.out.cell 5
    have f5 := HR.out.free 5
    have r6 := HR.out.cell 6
    have f6 := HR.out.free 6
    simp only [List.getElem?_toArray, List.getElem?_cons_zero, List.getElem?_cons_succ] at r0 r1 r2 r3 r4 r5 r6
    go_wp2
    refine bodyPost_ret (v := .tuple #[.agg #[.int .i64 0, .int .i64 0, .int .i64 0, .int .i64 0, .int .i64 0, .int .i64 0, .int .i64 0], .int .i64 2]) (by simp [results, Try.results71, go_sem, *]) rfl ?_
    exact ⟨by rw [HA2.out]; rfl, (Ext.seven HX.out (by omega) _ _ _ _ _ _ _)⟩
  have qg3 : decide (8 ≤ o) = false := by simpa using hg3
  by_cases hg4 : o = s
  case pos =>
    have qg4 : (o == s) = true := by simpa using hg4
    have HA2 : Hid (tieA pa pb pc pq s o wt = (⟨0, 0, 0, 0, 0, 0, 0⟩, 2)) := Lib.hid (tieA_bad (fun h => h.2.2.2.2.2.1 hg4))
    have r0 := HR.out.cell 0
    have f0 := HR.out.free 0
    have r1 := HR.out.cell 1
    have f1 := HR.out.free 1
    have r2 := HR.out.cell 2
    have f2 := HR.out.free 2
    have r3 := HR.out.cell 3
    have f3 := HR.out.free 3
    have r4 := HR.out.cell 4
    have f4 := HR.out.free 4
    have r5 := HR.out.cell 5
    have f5 := HR.out.free 5
    have r6 := HR.out.cell 6
    have f6 := HR.out.free 6
    simp only [List.getElem?_toArray, List.getElem?_cons_zero, List.getElem?_cons_succ] at r0 r1 r2 r3 r4 r5 r6
    go_wp2
    refine bodyPost_ret (v := .tuple #[.agg #[.int .i64 0, .int .i64 0, .int .i64 0, .int .i64 0, .int .i64 0, .int .i64 0, .int .i64 0], .int .i64 2]) (by simp [results, Try.results71, go_sem, *]) rfl ?_
    exact ⟨by rw [HA2.out]; rfl, (Ext.seven HX.out (by omega) _ _ _ _ _ _ _)⟩
  have qg4 : (o == s) = false := by simpa using hg4
  by_cases hg5 : wt < 1
  case pos =>
    have qg5 : decide (wt < 1) = true := by simpa using hg5
    have HA2 : Hid (tieA pa pb pc pq s o wt = (⟨0, 0, 0, 0, 0, 0, 0⟩, 2)) := Lib.hid (tieA_bad (fun h => h.2.2.2.2.2.2.1 hg5))
    have r0 := HR.out.cell 0
    have f0 := HR.out.free 0
    have r1 := HR.out.cell 1
    have f1 := HR.out.free 1
    have r2 := HR.out.cell 2
    have f2 := HR.out.free 2
    have r3 := HR.out.cell 3
    have f3 := HR.out.free 3
    have r4 := HR.out.cell 4
    have f4 := HR.out.free 4
    have r5 := HR.out.cell 5
    have f5 := HR.out.free 5
    have r6 := HR.out.cell 6
    have f6 := HR.out.free 6
    simp only [List.getElem?_toArray, List.getElem?_cons_zero, List.getElem?_cons_succ] at r0 r1 r2 r3 r4 r5 r6
    go_wp2
    refine bodyPost_ret (v := .tuple #[.agg #[.int .i64 0, .int .i64 0, .int .i64 0, .int .i64 0, .int .i64 0, .int .i64 0, .int .i64 0], .int .i64 2]) (by simp [results, Try.results71, go_sem, *]) rfl ?_
    exact ⟨by rw [HA2.out]; rfl, (Ext.seven HX.out (by omega) _ _ _ _ _ _ _)⟩
  have qg5 : decide (wt < 1) = false := by simpa using hg5
  by_cases hg6 : 1000 < wt
  case pos =>
    have qg6 : decide (1000 < wt) = true := by simpa using hg6
    have HA2 : Hid (tieA pa pb pc pq s o wt = (⟨0, 0, 0, 0, 0, 0, 0⟩, 2)) := Lib.hid (tieA_bad (fun h => h.2.2.2.2.2.2.2 hg6))
    have r0 := HR.out.cell 0
    have f0 := HR.out.free 0
    have r1 := HR.out.cell 1
    have f1 := HR.out.free 1
    have r2 := HR.out.cell 2
    have f2 := HR.out.free 2
    have r3 := HR.out.cell 3
    have f3 := HR.out.free 3
    have r4 := HR.out.cell 4
    have f4 := HR.out.free 4
    have r5 := HR.out.cell 5
    have f5 := HR.out.free 5
    have r6 := HR.out.cell 6
    have f6 := HR.out.free 6
    simp only [List.getElem?_toArray, List.getElem?_cons_zero, List.getElem?_cons_succ] at r0 r1 r2 r3 r4 r5 r6
    go_wp2
    refine bodyPost_ret (v := .tuple #[.agg #[.int .i64 0, .int .i64 0, .int .i64 0, .int .i64 0, .int .i64 0, .int .i64 0, .int .i64 0], .int .i64 2]) (by simp [results, Try.results71, go_sem, *]) rfl ?_
    exact ⟨by rw [HA2.out]; rfl, (Ext.seven HX.out (by omega) _ _ _ _ _ _ _)⟩
  have qg6 : decide (1000 < wt) = false := by simpa using hg6
  have HOK : Hid (tieOk pa pb pc pq s o wt) := Lib.hid ⟨⟨HP0.out, HP1.out, HP2.out, HP3.out⟩, hg0, hg1, hg2, hg3, hg4, hg5, hg6⟩
  clear hg0 hg1 hg2 hg3 hg4 hg5 hg6 HP0 HP1 HP2 HP3
  obtain ⟨⟨n, ee⟩, hne⟩ : ∃ x, facA pa pb pc = x := ⟨_, rfl⟩
  have HNB : Hid (∀ k, -576460752303423488 ≤ n k ∧ n k ≤ 576460752303423488) := Lib.hid (fun k => by have := facA_bound pa pb pc k; rw [hne] at this; exact this)
  have hF := facetR_any pa pb pc
  rw [hne] at hF
  have HNE := Lib.hid hne
  clear hne
  have x0 := HA.out.cell (k := 0) (by omega)
  have x1 := HA.out.cell (k := 1) (by omega)
  have x2 := HA.out.cell (k := 2) (by omega)
  have y0 := HB.out.cell (k := 0) (by omega)
  have y1 := HB.out.cell (k := 1) (by omega)
  have y2 := HB.out.cell (k := 2) (by omega)
  have z0 := HC.out.cell (k := 0) (by omega)
  have z1 := HC.out.cell (k := 1) (by omega)
  have z2 := HC.out.cell (k := 2) (by omega)
  go_wp2_with fail
  refine (hF _).mono ?_
  rintro e w3 ⟨rfl, hX2⟩
  clear hF x0 x1 x2 y0 y1 y2 z0 z1 z2 qg0 qg1 qg2 qg3 qg4 qg5 qg6
  replace HA := Lib.hid (HA.out.ext hX2)
  replace HB := Lib.hid (HB.out.ext hX2)
  replace HC := Lib.hid (HC.out.ext hX2)
  replace HQ := Lib.hid (HQ.out.ext hX2)
  replace HR := Lib.hid (HR.out.ext hX2)
  replace HX := Lib.hid (HX.out.trans hX2)
  clear hX2
  go_upto_region 4 with (fail)
  have hXn : Ext w3 (w3.alloc (.cells #[.int .i64 (n 0), .int .i64 (n 1), .int .i64 (n 2)] 22)) := (Ext.refl _).alloc _
  have HN : Hid (T3 (w3.alloc (.cells #[.int .i64 (n 0), .int .i64 (n 1), .int .i64 (n 2)] 22)) w3.heap.size n) := Lib.hid (Blk.new w3 _ _)
  have hX2 := hXn
  clear hXn
  generalize w3.heap.size = gn at HN ⊢
  generalize w3.alloc (.cells #[.int .i64 (n 0), .int .i64 (n 1), .int .i64 (n 2)] 22) = w4 at HN hX2 ⊢
  replace HA := Lib.hid (HA.out.ext hX2)
  replace HB := Lib.hid (HB.out.ext hX2)
  replace HC := Lib.hid (HC.out.ext hX2)
  replace HQ := Lib.hid (HQ.out.ext hX2)
  replace HR := Lib.hid (HR.out.ext hX2)
  replace HX := Lib.hid (HX.out.trans hX2)
  clear hX2
  by_cases hee : ee = 0
  case neg =>
    have q1 : (ee != 0) = true := by simpa using hee
    have HA2 : Hid (tieA pa pb pc pq s o wt = (⟨0, 0, 0, 0, 0, 0, 0⟩, ee)) := Lib.hid (by rw [tieA_flat HOK.out (by rw [HNE.out]; exact hee), HNE.out])
    clear hee
    have r0 := HR.out.cell 0
    have f0 := HR.out.free 0
    have r1 := HR.out.cell 1
    have f1 := HR.out.free 1
    have r2 := HR.out.cell 2
    have f2 := HR.out.free 2
    have r3 := HR.out.cell 3
    have f3 := HR.out.free 3
    have r4 := HR.out.cell 4
    have f4 := HR.out.free 4
    have r5 := HR.out.cell 5
    have f5 := HR.out.free 5
    have r6 := HR.out.cell 6
    have f6 := HR.out.free 6
    simp only [List.getElem?_toArray, List.getElem?_cons_zero, List.getElem?_cons_succ] at r0 r1 r2 r3 r4 r5 r6
    go_wp2
    refine bodyPost_ret (v := .tuple #[.agg #[.int .i64 0, .int .i64 0, .int .i64 0, .int .i64 0, .int .i64 0, .int .i64 0, .int .i64 0], .int .i64 ee]) (by simp [results, Try.results71, go_sem, *]) rfl ?_
    exact ⟨by rw [HA2.out]; rfl, (Ext.seven HX.out (by omega) _ _ _ _ _ _ _)⟩
  subst hee
  go_upto_region 7 with (fail)
  have hXn : Ext w4 (w4.alloc (.cells #[.int .i64 s, .int .i64 o, .int .i64 0, .int .i64 0, .int .i64 0, .int .i64 0, .int .i64 wt] 90)) := (Ext.refl _).alloc _
  have HM : Hid (T7 (w4.alloc (.cells #[.int .i64 s, .int .i64 o, .int .i64 0, .int .i64 0, .int .i64 0, .int .i64 0, .int .i64 wt] 90)) w4.heap.size s o (fun _ => 0) 0 wt) := Lib.hid (Blk.new w4 _ _)
  have hX2 := hXn
  have hgm : w.heap.size + 4 < w4.heap.size := HR.out.lt
  have hgn : gn < w4.heap.size := HN.out.lt
  clear hXn
  generalize w4.heap.size = gm at HM hgm hgn ⊢
  generalize w4.alloc (.cells #[.int .i64 s, .int .i64 o, .int .i64 0, .int .i64 0, .int .i64 0, .int .i64 0, .int .i64 wt] 90) = w5 at HM hX2 ⊢
  replace HN := Lib.hid (HN.out.ext hX2)
  replace HA := Lib.hid (HA.out.ext hX2)
  replace HB := Lib.hid (HB.out.ext hX2)
  replace HC := Lib.hid (HC.out.ext hX2)
  replace HQ := Lib.hid (HQ.out.ext hX2)
  replace HR := Lib.hid (HR.out.ext hX2)
  replace HX := Lib.hid (HX.out.trans hX2)
  clear hX2
  clear HB HC
  obtain ⟨K, hK⟩ : ∃ k, tieK n = k := ⟨_, rfl⟩
  have HK := Lib.hid hK
  clear hK
  go_upto_block 0 with (fail)
  go_cut [] (fun W => Hid (T3 W w.heap.size pa) ∧ Hid (T3 W (w.heap.size + 3) pq) ∧ Hid (Blk W (w.heap.size + 4) 90 #[.int .i64 0, .int .i64 0, .int .i64 0, .int .i64 0, .int .i64 0, .int .i64 0, .int .i64 0]) ∧ Hid (T7 W gm s o (fun j => downK (n j) K) 0 wt) ∧ Hid (fitsN (n 0) (n 1) (n 2) K) ∧ Hid (Ext w W))
  case first =>
    go_wp2_with fail
    go_loopg [19, 20, 21] 64 (fun fu kv _ _ W => ∃ (r : Nat) (f : Nat → Int), fu = 64 - r ∧ r ≤ 59 ∧ kv = .int .i64 (r : Int) ∧ Hid (∀ k, k < r → ¬ fitsN (n 0) (n 1) (n 2) k) ∧ Hid (T3 W w.heap.size pa) ∧ Hid (T3 W (w.heap.size + 3) pq) ∧ Hid (Blk W (w.heap.size + 4) 90 #[.int .i64 0, .int .i64 0, .int .i64 0, .int .i64 0, .int .i64 0, .int .i64 0, .int .i64 0]) ∧ Hid (T3 W gn n) ∧ Hid (T7 W gm s o f 0 wt) ∧ Hid (Ext w W))
    case atStart => exact ⟨0, fun _ => 0, rfl, by omega, rfl, Lib.hid (fun k hk => by omega), HA, HQ, HR, HN, HM, HX⟩
    case round =>
      clear HA HQ HR HN HM HX
      obtain ⟨r, f, rfl, hr, rfl, HZ, HA, HQ, HR, HN, HM, HX⟩ := hrel
      have q1 : decide ((r : Int) < 64) = true := decide_eq_true (by omega)
      have q1b : decide (r < 64) = true := decide_eq_true (by omega)
      replace HM : Hid (T7 wr gm s o (fun j => if j < 0 then downK (n j) r else f j) 0 wt) := Lib.hid (HM.out.congr (fun k hk => by simp))
      go_wp2_with fail
      go_loopg [20, 21] 3 (fun fu bv iv W => ∃ (i : Nat) (b : Bool), fu = 3 - i ∧ i ≤ 3 ∧ bv = .bool b ∧ iv = .int .i64 (i : Int) ∧ Hid (b = true ↔ ∀ j, j < i → -100 ≤ downK (n j) r ∧ downK (n j) r ≤ 100) ∧ Hid (T3 W w.heap.size pa) ∧ Hid (T3 W (w.heap.size + 3) pq) ∧ Hid (Blk W (w.heap.size + 4) 90 #[.int .i64 0, .int .i64 0, .int .i64 0, .int .i64 0, .int .i64 0, .int .i64 0, .int .i64 0]) ∧ Hid (T3 W gn n) ∧ Hid (T7 W gm s o (fun j => if j < i then downK (n j) r else f j) 0 wt) ∧ Hid (Ext w W))
      case atStart => exact ⟨0, true, rfl, by omega, rfl, rfl, Lib.hid ⟨fun _ j hj => by omega, fun _ => rfl⟩, HA, HQ, HR, HN, HM, HX⟩
      case round =>
        clear HA HQ HR HN HM HX
        obtain ⟨i, b, rfl, hi, rfl, rfl, HBJ, HA, HQ, HR, HN, HM, HX⟩ := hrel
        by_cases hi3 : i < 3
        · have q2 : decide ((i : Int) < 3) = true := decide_eq_true (by omega)
          have hii : (i : Int) < 3 := by omega
          have ci := HN.out.cell hi3
          obtain ⟨x, hx⟩ : ∃ x, n i = x := ⟨_, rfl⟩
          obtain ⟨y, hy⟩ : ∃ y, downK x r = y := ⟨_, rfl⟩
          have hxb := HNB.out i
          rw [hx] at hxb ci
          have hH := halved_any x r
          rw [hy] at hH
          have HXB := Lib.hid hxb
          have HV : Hid (downK (n i) r = y) := Lib.hid (by rw [hx, hy])
          clear hx hy hxb
          go_wp2_with fail
          refine (hH _ (by have := HXB.out; omega) (by omega)).mono ?_
          rintro e w6 ⟨rfl, hX2⟩
          clear hH ci
          replace HN := Lib.hid (HN.out.ext hX2)
          replace HM := Lib.hid (HM.out.ext hX2)
          replace HA := Lib.hid (HA.out.ext hX2)
          replace HQ := Lib.hid (HQ.out.ext hX2)
          replace HR := Lib.hid (HR.out.ext hX2)
          replace HX := Lib.hid (HX.out.trans hX2)
          clear hX2
          have mi := HM.out.cell hi3
          have fi := HM.out.free (2 + i)
          have mi2 := (HM.out.put hi3 y).cell hi3
          simp only [if_pos] at mi2
          have HM2 : Hid (T7 (w6.setCell ⟨gm, 2 + i, none⟩ (.int .i64 y)) gm s o (fun j => if j < i + 1 then downK (n j) r else f j) 0 wt) := Lib.hid ((HM.out.put hi3 y).congr (fun j hj => by
              by_cases e : j = i
              · subst e; simp [HV.out]
              · simp only [if_neg e]
                by_cases e2 : j < i
                · rw [if_pos e2, if_pos (by omega)]
                · rw [if_neg e2, if_neg (by omega)]))
          have HS : Hid (∀ b2 : Bool, (b2 = true ↔ b = true ∧ -100 ≤ y ∧ y ≤ 100) → (b2 = true ↔ ∀ j, j < i + 1 → -100 ≤ downK (n j) r ∧ downK (n j) r ≤ 100)) := Lib.hid (fun b2 h => by
            rw [h, HBJ.out]
            constructor
            · rintro ⟨h1, h2⟩ j hj
              by_cases e : j = i
              · subst e; rw [HV.out]; exact h2
              · exact h1 j (by omega)
            · intro h1
              refine ⟨fun j hj => h1 j (by omega), ?_⟩
              rw [← HV.out]
              exact h1 i (by omega))
          clear HBJ
          rcases b with _ | _
          · have HS2 := Lib.hid (HS.out false (by simp))
            clear HS
            go_wp2
            go_roundg (3 - (i + 1))
            case rel => exact ⟨i + 1, false, rfl, by omega, rfl, by go_num, HS2, Lib.hid (HA.out.far (by simp only; omega) _), Lib.hid (HQ.out.far (by simp only; omega) _), Lib.hid (HR.out.far (by simp only; omega) _), Lib.hid (HN.out.far (by simp only; omega) _), HM2, Lib.hid (HX.out.setCell (by simp only; omega) _)⟩
            case measure => omega
          by_cases c1 : -100 ≤ y
          case neg =>
            have q3 : decide (-100 ≤ y) = false := decide_eq_false c1
            have HS2 := Lib.hid (HS.out false (by simp; omega))
            clear HS c1
            go_wp2
            go_roundg (3 - (i + 1))
            case rel => exact ⟨i + 1, false, rfl, by omega, rfl, by go_num, HS2, Lib.hid (HA.out.far (by simp only; omega) _), Lib.hid (HQ.out.far (by simp only; omega) _), Lib.hid (HR.out.far (by simp only; omega) _), Lib.hid (HN.out.far (by simp only; omega) _), HM2, Lib.hid (HX.out.setCell (by simp only; omega) _)⟩
            case measure => omega
          by_cases c2 : y ≤ 100
          case neg =>
            have q3 : decide (-100 ≤ y) = true := decide_eq_true c1
            have q4 : decide (y ≤ 100) = false := decide_eq_false c2
            have HS2 := Lib.hid (HS.out false (by simp; omega))
            clear HS c1 c2
            go_wp2
            go_roundg (3 - (i + 1))
            case rel => exact ⟨i + 1, false, rfl, by omega, rfl, by go_num, HS2, Lib.hid (HA.out.far (by simp only; omega) _), Lib.hid (HQ.out.far (by simp only; omega) _), Lib.hid (HR.out.far (by simp only; omega) _), Lib.hid (HN.out.far (by simp only; omega) _), HM2, Lib.hid (HX.out.setCell (by simp only; omega) _)⟩
            case measure => omega
          have q3 : decide (-100 ≤ y) = true := decide_eq_true c1
          have q4 : decide (y ≤ 100) = true := decide_eq_true c2
          have HS2 := Lib.hid (HS.out true ⟨fun _ => ⟨rfl, c1, c2⟩, fun _ => rfl⟩)
          clear HS c1 c2
          go_wp2
          go_roundg (3 - (i + 1))
          case rel => exact ⟨i + 1, true, rfl, by omega, rfl, by go_num, Lib.hid ⟨fun _ => HS2.out.1 (by simp), fun _ => rfl⟩, Lib.hid (HA.out.far (by simp only; omega) _), Lib.hid (HQ.out.far (by simp only; omega) _), Lib.hid (HR.out.far (by simp only; omega) _), Lib.hid (HN.out.far (by simp only; omega) _), HM2, Lib.hid (HX.out.setCell (by simp only; omega) _)⟩
          case measure => omega
        obtain rfl : i = 3 := by omega
        have q2 : decide (((3 : Nat) : Int) < 3) = false := by decide
        replace HM : Hid (T7 wr gm s o (fun j => downK (n j) r) 0 wt) := Lib.hid (HM.out.congr (fun j hj => if_pos hj))
        replace HBJ : Hid (b = true ↔ fitsN (n 0) (n 1) (n 2) r) := Lib.hid (HBJ.out.trans fitsN_iff.symm)
        by_cases hfit : fitsN (n 0) (n 1) (n 2) r
        · obtain rfl : b = true := HBJ.out.2 hfit
          have e : r = K := by rw [← HK.out]; exact (tieK_eq hfit HZ.out).symm
          rw [e] at HM hfit
          have HF := Lib.hid hfit
          clear hfit HBJ HZ e
          go_wp2
          go_meet
          exact ⟨HA, HQ, HR, HM, HF, HX⟩
        obtain rfl : b = false := by
          rcases h : b with _ | _
          · rfl
          · exact absurd (HBJ.out.1 h) hfit
        have hr59 : r < 59 := by
          by_cases h : r < 59
          · exact h
          · exact absurd (fitsN_late HNB.out (by omega)) hfit
        have HZ2 : Hid (∀ k, k < r + 1 → ¬ fitsN (n 0) (n 1) (n 2) k) := Lib.hid (fun k hk => by by_cases e : k = r; (subst e; exact hfit); exact HZ.out k (by omega))
        clear hfit HBJ HZ
        go_wp2
        go_roundg (64 - (r + 1))
        case rel => exact ⟨r + 1, fun j => downK (n j) r, rfl, by omega, by go_num, HZ2, HA, HQ, HR, HN, HM, HX⟩
        case measure => omega
  case rest =>
    obtain ⟨HA3, HQ3, HR3, HM3, HF, HX3⟩ := hcut
    clear HA HQ HR HM HX HN
    have HA := HA3
    have HQ := HQ3
    have HR := HR3
    have HX := HX3
    clear HA3 HQ3 HR3 HX3
    obtain ⟨m, hm⟩ : ∃ m : Nat → Int, ∀ k, downK (n k) K = m k := ⟨_, fun _ => rfl⟩
    have HMB : Hid (∀ k, k < 3 → -100 ≤ m k ∧ m k ≤ 100) := Lib.hid (fun k hk => by rw [← hm k]; exact fitsN_iff.1 HF.out k hk)
    have HM : Hid (T7 wc gm s o m 0 wt) := Lib.hid (HM3.out.congr (fun k _ => hm k))
    have HMM := Lib.hid hm
    clear hm HF HM3 HNB
    have m0 := HM.out.cell (k := 0) (by omega)
    have m1 := HM.out.cell (k := 1) (by omega)
    have m2 := HM.out.cell (k := 2) (by omega)
    by_cases hz : m 0 = 0 ∧ m 1 = 0 ∧ m 2 = 0
    · have g6 : ∀ w, (Op.equalIn 10000 22 (.agg #[.int .i64 (m 0), .int .i64 (m 1), .int .i64 (m 2)]) (.agg #[.int .i64 0, .int .i64 0, .int .i64 0])).run Try.prog w = .ok true w := fun w => by rw [run_eq3 9998, decide_eq_true hz]
      have HA2 : Hid (tieA pa pb pc pq s o wt = (⟨0, 0, 0, 0, 0, 0, 0⟩, 52)) := Lib.hid (tieA_zero HOK.out HNE.out HK.out (by rw [HMM.out, HMM.out, HMM.out]; exact hz))
      clear hz
      have r0 := HR.out.cell 0
      have f0 := HR.out.free 0
      have r1 := HR.out.cell 1
      have f1 := HR.out.free 1
      have r2 := HR.out.cell 2
      have f2 := HR.out.free 2
      have r3 := HR.out.cell 3
      have f3 := HR.out.free 3
      have r4 := HR.out.cell 4
      have f4 := HR.out.free 4
      have r5 := HR.out.cell 5
      have f5 := HR.out.free 5
      have r6 := HR.out.cell 6
      have f6 := HR.out.free 6
      simp only [List.getElem?_toArray, List.getElem?_cons_zero, List.getElem?_cons_succ] at r0 r1 r2 r3 r4 r5 r6
      go_wp2
      refine bodyPost_ret (v := .tuple #[.agg #[.int .i64 0, .int .i64 0, .int .i64 0, .int .i64 0, .int .i64 0, .int .i64 0, .int .i64 0], .int .i64 52]) (by simp [results, Try.results71, go_sem, *]) rfl ?_
      exact ⟨by rw [HA2.out]; rfl, (Ext.seven HX.out (by omega) _ _ _ _ _ _ _)⟩
    have g6 : ∀ w, (Op.equalIn 10000 22 (.agg #[.int .i64 (m 0), .int .i64 (m 1), .int .i64 (m 2)]) (.agg #[.int .i64 0, .int .i64 0, .int .i64 0])).run Try.prog w = .ok false w := fun w => by rw [run_eq3 9998, decide_eq_false hz]
    obtain ⟨d, hd⟩ : ∃ d : Nat → Int, ∀ k, pa k - pq k = d k := ⟨_, fun _ => rfl⟩
    have HDB : Hid (∀ k, k < 3 → -536870912 ≤ d k ∧ d k ≤ 536870912) := Lib.hid (fun k hk => by have a1 := HOK.out.1.1 k hk; have a2 := HOK.out.1.2.2.2 k hk; rw [← hd k]; omega)
    have HA2 : Hid (tieA pa pb pc pq s o wt = (⟨s, o, m 0, m 1, m 2, tieS m d 3, wt⟩, 0)) := Lib.hid (by
      have h := tieA_ok HOK.out HNE.out HK.out (by rw [HMM.out, HMM.out, HMM.out]; exact hz)
      rw [HMM.out, HMM.out, HMM.out, hd, hd, hd, ← tieS_three] at h
      exact h)
    have HDD := Lib.hid hd
    clear hz hd
    go_wp2_with fail
    clear m0 m1 m2 g6
    go_loopg [22] 3 (fun fu iv W => ∃ i : Nat, fu = 3 - i ∧ i ≤ 3 ∧ iv = .int .i64 (i : Int) ∧ Hid (T3 W w.heap.size pa) ∧ Hid (T3 W (w.heap.size + 3) pq) ∧ Hid (Blk W (w.heap.size + 4) 90 #[.int .i64 0, .int .i64 0, .int .i64 0, .int .i64 0, .int .i64 0, .int .i64 0, .int .i64 0]) ∧ Hid (T7 W gm s o m (tieS m d i) wt) ∧ Hid (Ext w W))
    case atStart => exact ⟨0, rfl, by omega, rfl, HA, HQ, HR, HM, HX⟩
    case round =>
      clear HA HQ HR HM HX
      obtain ⟨i, rfl, hi, rfl, HA, HQ, HR, HM, HX⟩ := hrel
      by_cases hi3 : i < 3
      · have q1 : decide ((i : Int) < 3) = true := decide_eq_true (by omega)
        have hsb := tieS_bound HMB.out HDB.out i hi
        have hsb2 := tieS_bound HMB.out HDB.out (i + 1) (by omega)
        have hpb := prod_bound (A := 100) (B := 536870912) (HMB.out i hi3).1 (HMB.out i hi3).2 (HDB.out i hi3).1 (HDB.out i hi3).2
        have hdb := HDB.out i hi3
        have HW := Lib.hid (And.intro ((IntWalk.i64_in (pa i - pq i) (by rw [HDD.out]; omega)).trans (HDD.out i)) (And.intro (IntWalk.i64_in (m i * d i) (by omega)) (IntWalk.i64_in (tieS m d i + m i * d i) (by have h : tieS m d (i + 1) = tieS m d i + m i * d i := rfl; omega))))
        clear hsb hsb2 hpb hdb
        go_upto_region 22 with (fail)
        refine tieR_r22 w.heap.size (w.heap.size + 3) gm i (pa i) (pq i) (m i) (d i) (tieS m d i) wr HM.out.cellD (HM.out.cell hi3) (HA.out.cell hi3) (HQ.out.cell hi3) hi3 (by omega) HW.out.1 HW.out.2.1 HW.out.2.2 _ _ (by simp) rfl rfl rfl rfl ?_
        rintro xv0 xv1 xv2 xv3 xv4 xv5 xv6 xv7 xv8 xv9 xv10 xv11 xv12 xv13 xv14 xv15 w7 rfl rfl rfl rfl rfl rfl rfl rfl rfl rfl rfl rfl rfl rfl rfl rfl hX2
        simp only [rops, Try.f71, regOf, Option.bind_some, Nat.reduceBEq, if_true, if_false, Bool.false_eq_true, Option.getD_some, List.drop_succ_cons, List.drop_zero]
        simp only [Act.put, List.setIfInBounds_toArray, List.set_cons_succ, List.set_cons_zero]
        replace HM := Lib.hid (HM.out.ext hX2)
        replace HA := Lib.hid (HA.out.ext hX2)
        replace HQ := Lib.hid (HQ.out.ext hX2)
        replace HR := Lib.hid (HR.out.ext hX2)
        replace HX := Lib.hid (HX.out.trans hX2)
        clear hX2
        clear HW
        have c5 := HM.out.cellD
        have f5 := HM.out.free 5
        obtain ⟨sv, hsv⟩ : ∃ sv, tieS m d i + m i * d i = sv := ⟨_, rfl⟩
        have HM2 : Hid (T7 (w7.setCell ⟨gm, 5, none⟩ (.int .i64 sv)) gm s o m (tieS m d (i + 1)) wt) := Lib.hid (by rw [← hsv]; exact HM.out.putD _)
        rw [hsv]
        clear hsv
        go_wp2
        go_roundg (3 - (i + 1))
        case rel => exact ⟨i + 1, rfl, by omega, by go_num, Lib.hid (HA.out.far (by simp only; omega) _), Lib.hid (HQ.out.far (by simp only; omega) _), Lib.hid (HR.out.far (by simp only; omega) _), HM2, Lib.hid (HX.out.setCell (by simp only; omega) _)⟩
        case measure => omega
      obtain rfl : i = 3 := by omega
      have q1 : decide (((3 : Nat) : Int) < 3) = false := by decide
      obtain ⟨sv, hsv⟩ : ∃ sv, tieS m d 3 = sv := ⟨_, rfl⟩
      rw [hsv] at HM HA2
      clear hsv
      have t0 := Blk.cell (show Blk wr gm _ _ from HM.out) 0
      have t1 := Blk.cell (show Blk wr gm _ _ from HM.out) 1
      have t2 := Blk.cell (show Blk wr gm _ _ from HM.out) 2
      have t3 := Blk.cell (show Blk wr gm _ _ from HM.out) 3
      have t4 := Blk.cell (show Blk wr gm _ _ from HM.out) 4
      have t5 := Blk.cell (show Blk wr gm _ _ from HM.out) 5
      have t6 := Blk.cell (show Blk wr gm _ _ from HM.out) 6
      simp only [List.getElem?_toArray, List.getElem?_cons_zero, List.getElem?_cons_succ] at t0 t1 t2 t3 t4 t5 t6
      have r0 := HR.out.cell 0
      have f0 := HR.out.free 0
      have r1 := HR.out.cell 1
      have f1 := HR.out.free 1
      have r2 := HR.out.cell 2
      have f2 := HR.out.free 2
      have r3 := HR.out.cell 3
      have f3 := HR.out.free 3
      have r4 := HR.out.cell 4
      have f4 := HR.out.free 4
      have r5 := HR.out.cell 5
      have f5 := HR.out.free 5
      have r6 := HR.out.cell 6
      have f6 := HR.out.free 6
      simp only [List.getElem?_toArray, List.getElem?_cons_zero, List.getElem?_cons_succ] at r0 r1 r2 r3 r4 r5 r6
      go_wp2
      refine bodyPost_ret (v := .tuple #[.agg #[.int .i64 s, .int .i64 o, .int .i64 (m 0), .int .i64 (m 1), .int .i64 (m 2), .int .i64 sv, .int .i64 wt], .int .i64 0]) (by simp [results, Try.results71, go_sem, *]) rfl ?_
      exact ⟨by rw [HA2.out]; rfl, (Ext.seven HX.out (by omega) _ _ _ _ _ _ _)⟩

end Go.Proofs.Ytikhlcgnlbinfaa
namespace Go.Proofs.Ytikhlcgnlbinfaa
open Go.RowKit

theorem fitQ_zero (L : Nat) : FitQ 0 (L + 1) := ⟨Fit.zero (by decide), Fit.one (by decide) (by omega)⟩
theorem solP_fit {S : Int} {ms : List Mt} (h : ∀ m ∈ ms, VM S m) (hl : ms.length ≤ 64) {n : Nat} (hn : n ≤ 24) (j : Nat) : FitQ (solP n ms j) 53 := by
  unfold solP solG
  split
  · rename_i i hp
    have hi := Stage.pivtop n j i hp
    have h2 := redG_top n (tabM ms n) n
    exact redG_fit h hl hn n (Nat.le_refl _) i (by omega) n (Nat.le_refl _)
  · exact fitQ_zero 52

set_option maxRecDepth 100000 in
set_option maxHeartbeats 2000000 in
theorem solveP_ok (S : Nat) (A : Option Addr) (n c : Nat) (ms : List Mt) (w : World) (h : MsAt w A n ms) (hv : VP (S : Int) ms) :
    Calls Try.prog 48 #[.agg #[.int .i64 (S : Int), .slice A n c]] w (fun e w' => ∃ go, e = .returned (.tuple #[.slice (some ⟨go, 0, none⟩) S S, .int .i64 0]) ∧ w.heap.size ≤ go ∧ ShP RatC w' go 0 S (solP (3 * S) ms) ∧ Ext w w') := by
  have HX := Lib.hid ((Ext.refl w).alloc (.cells #[.int .i64 (S : Int), .slice A n c] 76))
  have HP := Lib.hid (Blk.new w 76 #[.int .i64 (S : Int), .slice A n c])
  have HB := Lib.hid (vpB_iff.2 hv)
  have H := Lib.hid h
  have HV := Lib.hid hv
  clear h hv
  go_enter Try.func48, Try.ntmps48
  go_upto_region 1 with (fail)
  generalize w.alloc (.cells #[.int .i64 (S : Int), .slice A n c] 76) = w1 at HX HP ⊢
  have p0 := HP.out.cell 0
  have p1 := HP.out.cell 1
  simp only [List.getElem?_toArray, List.getElem?_cons_zero, List.getElem?_cons_succ] at p0 p1
  go_wp2_with fail
  refine (valid5_any (S : Int) A n c ms _ (H.out.ext HX.out)).mono ?_
  rw [HB.out]
  rintro e w2 ⟨rfl, hX⟩
  replace HX := Lib.hid (HX.out.trans hX)
  replace HP := Lib.hid (HP.out.ext hX)
  clear hX p0 p1
  have hS8 : S ≤ 8 := by have := HV.out.2.1; omega
  have HF : Hid (∀ j, j < 3 * S → FitQW (solP (3 * S) ms j)) := Lib.hid (fun j _ => FitQW.of4 ((solP_fit HV.out.2.2.2 HV.out.2.2.1 (by omega) j)) (by omega))
  have p0 := HP.out.cell 0
  have p1 := HP.out.cell 1
  simp only [List.getElem?_toArray, List.getElem?_cons_zero, List.getElem?_cons_succ] at p0 p1
  go_wp2_with fail
  refine (solve_ok S A n c ms _ (H.out.ext HX.out) HV.out).mono ?_
  rintro e w3 ⟨go, rfl, hgo, hS, hX⟩
  have HS := Lib.hid hS
  have hs := HX.out.size
  replace HX := Lib.hid (HX.out.trans hX)
  clear hS hX p0 p1
  go_wp2_with fail
  refine (done_S 53 go 0 S S (solP (3 * S) ms) _ HS.out (by omega) HF.out (by omega)).mono ?_
  rintro e w4 ⟨g2, rfl, hg2, hS2, hX⟩
  have hs3 := HX.out.size
  replace HX := Lib.hid (HX.out.trans hX)
  have HS2 := Lib.hid hS2
  clear hS2 hX
  go_wp2
  go_ret2
  exact ⟨g2, rfl, by omega, HS2.out, HX.out⟩

end Go.Proofs.Ytikhlcgnlbinfaa
namespace Go.Proofs.Ytikhlcgnlbinfaa
open Go.RowKit

set_option maxRecDepth 100000 in
set_option maxHeartbeats 2000000 in
theorem read_r14 (go S ss kk gr : Nat) (sy : Bool) (Ay By : Option Addr) (ly cy my ky : Nat) (q : Rat) (w : World) (x0 : w.cell? ⟨gr, 0, none⟩ = some (.bool sy)) (x1 : w.cell? ⟨gr, 1, none⟩ = some (.slice Ay ly cy)) (x2 : w.cell? ⟨gr, 2, none⟩ = some (.slice By my ky)) (hx : RatG w (.agg #[.bool sy, .slice Ay ly cy, .slice By my ky]) q) (hs1 : ss < S) (hk3 : (kk : Int) < 3) (_hk4 : kk < 3) (a : Act) (Q : Exit → Act → World → Prop) (hsize : 43 ≤ a.tmps.size)
    (s6 : a.tmps[6]? = some (.slice (some ⟨go, 0, none⟩) S S))
    (s7 : a.tmps[7]? = some (.int .i64 (ss : Int)))
    (s9 : a.tmps[9]? = some (.int .i64 (kk : Int)))
    (s10 : a.tmps[10]? = some (.pointer (some ⟨gr, 0, none⟩)))
    (hend : ∀ (xv0 xv1 xv2 xv3 xv4 xv5 xv6 : Value) (W : World), (xv0 = .slice (some ⟨go, 0, none⟩) S S) → (xv1 = .int .i64 (ss : Int)) → (xv2 = .int .i64 (kk : Int)) → (xv3 = .agg #[.bool sy, .slice Ay ly cy, .slice By my ky]) → (NumX W xv4 (q) (256)) → (xv5 = .pointer (some ⟨go, ss * 9, none⟩)) → (xv6 = .pointer (some ⟨go, ss * 9 + kk * 3, none⟩)) → Ext w W → wpList Try.prog (rops Try.f126 14).toArray Q ((rops Try.f126 14).drop 7) (((((((a.put (some 36) xv0).put (some 37) xv1).put (some 38) xv2).put (some 39) xv3).put (some 40) xv4).put (some 41) xv5).put (some 42) xv6) W) :
    (Code.region 14 (rops Try.f126 14).toArray true).wp Try.prog Q a w := by
  have hmono : ∀ (W W' : World) (j : Nat) (u : Value), Ext W W' → (fun (i : Nat) (v : Value) (W : World) => match i with
    | 0 => v = .slice (some ⟨go, 0, none⟩) S S
    | 1 => v = .int .i64 (ss : Int)
    | 2 => v = .int .i64 (kk : Int)
    | 3 => v = .agg #[.bool sy, .slice Ay ly cy, .slice By my ky]
    | 4 => NumX W v (q) (256)
    | 5 => v = .pointer (some ⟨go, ss * 9, none⟩)
    | 6 => v = .pointer (some ⟨go, ss * 9 + kk * 3, none⟩)
    | _ => True) j u W → (fun (i : Nat) (v : Value) (W : World) => match i with
    | 0 => v = .slice (some ⟨go, 0, none⟩) S S
    | 1 => v = .int .i64 (ss : Int)
    | 2 => v = .int .i64 (kk : Int)
    | 3 => v = .agg #[.bool sy, .slice Ay ly cy, .slice By my ky]
    | 4 => NumX W v (q) (256)
    | 5 => v = .pointer (some ⟨go, ss * 9, none⟩)
    | 6 => v = .pointer (some ⟨go, ss * 9 + kk * 3, none⟩)
    | _ => True) j u W' := by
    intro W W' j u hX h
    match j, h with
    | 0, h => exact h
    | 1, h => exact h
    | 2, h => exact h
    | 3, h => exact h
    | 4, h => exact NumX.ext h hX
    | 5, h => exact h
    | 6, h => exact h
    | _ + 7, h => exact h
  have hsz : ∀ d, some d ∈ ([some 36, some 37, some 38, some 39, some 40, some 41, some 42] : List (Option Tmp)) → d < a.tmps.size := slots_lt (by decide) hsize
  refine wp_region_j 7 [some 36, some 37, some 38, some 39, some 40, some 41, some 42] [[], [], [], [], [3], [0, 1], [2, 5]] [[], [], [], [], [], [], []] (fun (i : Nat) (v : Value) (W : World) => match i with
    | 0 => v = .slice (some ⟨go, 0, none⟩) S S
    | 1 => v = .int .i64 (ss : Int)
    | 2 => v = .int .i64 (kk : Int)
    | 3 => v = .agg #[.bool sy, .slice Ay ly cy, .slice By my ky]
    | 4 => NumX W v (q) (256)
    | 5 => v = .pointer (some ⟨go, ss * 9, none⟩)
    | 6 => v = .pointer (some ⟨go, ss * 9 + kk * 3, none⟩)
    | _ => True) (fun _ W => Ext w W) (by kernel_rfl) (by kernel_rfl) hsz (fun _ _ _ _ h => h) ((Ext.refl w).drew) ?_ ?_
  · clear hend
    simp only [rops, Try.f126, regOf, Option.bind_some, Nat.reduceBEq, if_true, if_false, Bool.false_eq_true, Option.getD_some]
    simp only [List.take_succ_cons, List.take_zero]
    refine ⟨?_, ?_, ?_, ?_, ?_, ?_, ?_, trivial⟩
    · intro done us W hJ hdep haft hnot b hb hb' K hK Q'
      have e6 := (hb' 6 (by simp)).trans s6
      clear hb hb'
      go_simp
      exact hK _ _ rfl (fun _ _ _ h => h) hJ
    · intro done us W hJ hdep haft hnot b hb hb' K hK Q'
      have e7 := (hb' 7 (by simp)).trans s7
      clear hb hb'
      go_simp
      exact hK _ _ rfl (fun _ _ _ h => h) hJ
    · intro done us W hJ hdep haft hnot b hb hb' K hK Q'
      have e9 := (hb' 9 (by simp)).trans s9
      clear hb hb'
      go_simp
      exact hK _ _ rfl (fun _ _ _ h => h) hJ
    · intro done us W hJ hdep haft hnot b hb hb' K hK Q'
      have e10 := (hb' 10 (by simp)).trans s10
      clear hb hb'
      have z0 := Ext.cell hJ x0
      have z1 := Ext.cell hJ x1
      have z2 := Ext.cell hJ x2
      go_simp
      exact hK _ _ rfl (fun _ _ _ h => h) hJ
    · intro done us W hJ hdep haft hnot b hb hb' K hK Q'
      simp only [List.getD_cons_succ, List.getD_cons_zero, List.mem_cons, List.not_mem_nil, or_false, forall_eq] at hdep
      have e39 := hb 3 39 rfl
      have d3 := hdep
      rw [d3.1] at e39
      clear hb hb' hdep d3
      go_simp
      refine (ofG (hx.ext hJ)).mono ?_
      rintro e w' ⟨v, rfl, hv, hX⟩
      exact hK _ _ hv (fun j u _ h => hmono _ _ j u hX h) (Ext.trans hJ hX)
    · intro done us W hJ hdep haft hnot b hb hb' K hK Q'
      simp only [List.getD_cons_succ, List.getD_cons_zero, List.mem_cons, List.not_mem_nil, or_false, forall_eq_or_imp, forall_eq] at hdep
      have e36 := hb 0 36 rfl
      have e37 := hb 1 37 rfl
      have d0 := hdep.1
      have d1 := hdep.2
      rw [d0.1] at e36
      rw [d1.1] at e37
      clear hb hb' hdep d0 d1
      go_simp
      exact hK _ _ rfl (fun _ _ _ h => h) hJ
    · intro done us W hJ hdep haft hnot b hb hb' K hK Q'
      simp only [List.getD_cons_succ, List.getD_cons_zero, List.mem_cons, List.not_mem_nil, or_false, forall_eq_or_imp, forall_eq] at hdep
      have e38 := hb 2 38 rfl
      have e41 := hb 5 41 rfl
      have d2 := hdep.1
      have d5 := hdep.2
      rw [d2.1] at e38
      rw [d5.1] at e41
      clear hb hb' hdep d2 d5
      go_simp
      exact hK _ _ rfl (fun _ _ _ h => h) hJ
  · intro us W hV hJ
    exact hend (us 0) (us 1) (us 2) (us 3) (us 4) (us 5) (us 6) W (hV 0 (by omega)) (hV 1 (by omega)) (hV 2 (by omega)) (hV 3 (by omega)) (hV 4 (by omega)) (hV 5 (by omega)) (hV 6 (by omega)) hJ
set_option maxRecDepth 100000 in
set_option maxHeartbeats 16000000 in
theorem rdP_ok (S : Nat) (A : Option Addr) (n c : Nat) (ms : List Mt) (gt ot ct : Nat) (u : Nat → Rat) (w : World) (h : MsAt w A n ms) (hv : VP (S : Int) ms) (hS : ShP RatG w gt ot S u) :
    Calls Try.prog 126 #[.agg #[.int .i64 (S : Int), .slice A n c], .slice (some ⟨gt, ot, none⟩) S ct] w (fun e w' => ∃ go, e = .returned (.tuple #[.slice (some ⟨go, 0, none⟩) S S, .int .i64 0]) ∧ w.heap.size ≤ go ∧ ShP (fun w v q => NumX w v q 256) w' go 0 S u ∧ Ext w w') := by
  have HX := Lib.hid ((Ext.refl w).alloc (.cells #[.int .i64 (S : Int), .slice A n c] 76))
  have HP := Lib.hid (Blk.new w 76 #[.int .i64 (S : Int), .slice A n c])
  have HB := Lib.hid (vpB_iff.2 hv)
  have H := Lib.hid h
  have HV := Lib.hid hv
  clear h hv
  go_enter Try.func126, Try.ntmps126
  go_upto_region 1 with (fail)
  generalize w.alloc (.cells #[.int .i64 (S : Int), .slice A n c] 76) = w1 at HX HP ⊢
  have p0 := HP.out.cell 0
  have p1 := HP.out.cell 1
  simp only [List.getElem?_toArray, List.getElem?_cons_zero, List.getElem?_cons_succ] at p0 p1
  go_wp2_with fail
  refine (valid5_any (S : Int) A n c ms _ (H.out.ext HX.out)).mono ?_
  rw [HB.out]
  rintro e w2 ⟨rfl, hX⟩
  replace HX := Lib.hid (HX.out.trans hX)
  replace HP := Lib.hid (HP.out.ext hX)
  clear hX p0 p1
  have p0 := HP.out.cell 0
  simp only [List.getElem?_toArray, List.getElem?_cons_zero] at p0
  have q0 : ((S : Int) != (S : Int)) = false := by simp
  have hS8 : S ≤ 8 := by have := HV.out.2.1; omega
  have HS := Lib.hid hS
  clear hS
  have hsx := HX.out.size
  go_upto_region 6 with (at_make; refine wpList_mkS w2 elS9 rfl _ _ rfl w.heap.size _ _ _ _ S S rfl rfl (by first | rfl | omega) (by first | rfl | omega) (Nat.le_refl _) (by omega) (by unfold maxLen; omega) hsx ?_; intro w4 us hown hz1 hz2 hext hsz)
  have hrow : RowN (fun w v q => NumX w v q 256) 263 9 w.heap.size w4 w2.heap.size S S (3 * S) (fun _ => none) := RowN.make9 hown hz1 hz2
  replace HX := Lib.hid (HX.out.trans hext)
  generalize w2.heap.size = go at hrow hsx hsz ⊢
  have HR := Lib.hid hrow
  clear hrow hown hz1 hz2 hext p0
  go_wp2_with fail
  go_loopg [24] S (fun f iv wr => ∃ i : Nat, f = S - i ∧ i ≤ S ∧ iv = .int .i64 (i : Int) ∧ Hid (RowN (fun w v q => NumX w v q 256) 263 9 w.heap.size wr go S S (3 * S) (fun j => if j < 3 * i then some (u j) else none)) ∧ Hid (Ext w wr))
  case atStart => exact ⟨0, by omega, by omega, rfl, Lib.hid (HR.out.congr (fun j _ => by rw [if_neg (by omega)])), HX⟩
  case round =>
    clear HR HX hsz
    obtain ⟨i, rfl, hi, rfl, HR, HX⟩ := hrel
    by_cases hlt : i < S
    · have q1 : decide (i < S) = true := decide_eq_true hlt
      obtain ⟨s0, A0, l0, c0, B0, m0, k0, a0, b0, d0, e0⟩ := HS.out i 0 hlt (by omega)
      replace a0 := HX.out.cell a0
      replace b0 := HX.out.cell b0
      replace d0 := HX.out.cell d0
      obtain ⟨s1, A1, l1, c1, B1, m1, k1, a1, b1, d1, e1⟩ := HS.out i 1 hlt (by omega)
      replace a1 := HX.out.cell a1
      replace b1 := HX.out.cell b1
      replace d1 := HX.out.cell d1
      obtain ⟨s2, A2, l2, c2, B2, m2, k2, a2, b2, d2, e2⟩ := HS.out i 2 hlt (by omega)
      replace a2 := HX.out.cell a2
      replace b2 := HX.out.cell b2
      replace d2 := HX.out.cell d2
      have HE0 := Lib.hid e0
      have HE1 := Lib.hid e1
      have HE2 := Lib.hid e2
      clear e0 e1 e2
      simp only [Nat.zero_mul, Nat.add_zero, Nat.one_mul] at a0 b0 d0 a1 b1 d1
      have e3 : ot + i * 9 + 3 + 1 = ot + i * 9 + 4 := by omega
      have e4 : ot + i * 9 + 3 + 2 = ot + i * 9 + 5 := by omega
      have e6 : ot + i * 9 + 2 * 3 = ot + i * 9 + 6 := by omega
      have e7 : ot + i * 9 + 2 * 3 + 1 = ot + i * 9 + 7 := by omega
      have e8 : ot + i * 9 + 2 * 3 + 2 = ot + i * 9 + 8 := by omega
      rw [e3] at b1
      rw [e4] at d1
      rw [e7] at b2
      rw [e8] at d2
      rw [e6] at a2
      clear e3 e4 e6 e7 e8
      go_upto_region 9 with (fail)
      have hXa : Ext wr (wr.alloc (.cells #[.bool s0, .slice A0 l0 c0, .slice B0 m0 k0, .bool s1, .slice A1 l1 c1, .slice B1 m1 k1, .bool s2, .slice A2 l2 c2, .slice B2 m2 k2] 98)) := (Ext.refl _).alloc _
      have kB := Blk.new wr 98 #[.bool s0, .slice A0 l0 c0, .slice B0 m0 k0, .bool s1, .slice A1 l1 c1, .slice B1 m1 k1, .bool s2, .slice A2 l2 c2, .slice B2 m2 k2]
      replace HR := Lib.hid (HR.out.ext (staysNum 256) hXa)
      replace HX := Lib.hid (HX.out.trans hXa)
      clear hXa a0 b0 d0 a1 b1 d1 a2 b2 d2
      generalize wr.heap.size = gv at kB ⊢
      generalize wr.alloc (.cells #[.bool s0, .slice A0 l0 c0, .slice B0 m0 k0, .bool s1, .slice A1 l1 c1, .slice B1 m1 k1, .bool s2, .slice A2 l2 c2, .slice B2 m2 k2] 98) = w5 at kB HR HX ⊢
      have y0 := kB.cell 0
      have y1 := kB.cell 1
      have y2 := kB.cell 2
      have y3 := kB.cell 3
      have y4 := kB.cell 4
      have y5 := kB.cell 5
      have y6 := kB.cell 6
      have y7 := kB.cell 7
      have y8 := kB.cell 8
      simp only [List.getElem?_toArray, List.getElem?_cons_zero, List.getElem?_cons_succ] at y0 y1 y2 y3 y4 y5 y6 y7 y8
      clear kB
      go_wp2_with fail
      clear y0 y1 y2 y3 y4 y5 y6 y7 y8
      go_loopg [30] 3 (fun f kv wr => ∃ k : Nat, f = 3 - k ∧ k ≤ 3 ∧ kv = .int .i64 (k : Int) ∧ Hid (RowN (fun w v q => NumX w v q 256) 263 9 w.heap.size wr go S S (3 * S) (fun j => if j < 3 * i + k then some (u j) else none)) ∧ Hid (Ext w wr))
      case atStart => exact ⟨0, by omega, by omega, rfl, HR, HX⟩
      case round =>
        clear HR HX
        obtain ⟨k, rfl, hk, rfl, HR, HX⟩ := hrel
        by_cases hkl : k < 3
        · have q2 : decide (k < 3) = true := decide_eq_true hkl
          obtain ⟨s9, A9, l9, c9, B9, m9, k9, g1, g2, g3, hq⟩ := pick_agg (P := RatG) (w := wr) (q := fun k => u (3 * i + k)) hkl (HE0.out.ext HX.out) (HE1.out.ext HX.out) (HE2.out.ext HX.out)
          have ik := idx9R (.bool s0) (.slice A0 l0 c0) (.slice B0 m0 k0) (.bool s1) (.slice A1 l1 c1) (.slice B1 m1 k1) (.bool s2) (.slice A2 l2 c2) (.slice B2 m2 k2) hkl
          rw [g1, g2, g3] at ik
          have HQ := Lib.hid hq
          clear hq g1 g2 g3
          have hj3 : 3 * i + k < 3 * S := by omega
          go_upto_region 12 with (fail)
          have hXa : Ext wr (wr.alloc (.cells #[.bool s9, .slice A9 l9 c9, .slice B9 m9 k9] 97)) := (Ext.refl _).alloc _
          have kB := Blk.new wr 97 #[.bool s9, .slice A9 l9 c9, .slice B9 m9 k9]
          replace HR := Lib.hid (HR.out.ext (staysNum 256) hXa)
          replace HX := Lib.hid (HX.out.trans hXa)
          replace HQ := Lib.hid (HQ.out.ext hXa)
          clear hXa ik
          generalize wr.heap.size = gn at kB ⊢
          generalize wr.alloc (.cells #[.bool s9, .slice A9 l9 c9, .slice B9 m9 k9] 97) = w6 at kB HR HX HQ ⊢
          have KB := Lib.hid kB
          have y0 := kB.cell 0
          have y1 := kB.cell 1
          have y2 := kB.cell 2
          simp only [List.getElem?_toArray, List.getElem?_cons_zero, List.getElem?_cons_succ] at y0 y1 y2
          clear kB
          go_wp2_with fail
          refine (RatL.is HQ.out.small).mono ?_
          rintro e w7 ⟨rfl, hX⟩
          clear y0 y1 y2
          replace HR := Lib.hid (HR.out.ext (staysNum 256) hX)
          replace HX := Lib.hid (HX.out.trans hX)
          replace HQ := Lib.hid (HQ.out.ext hX)
          replace KB := Lib.hid (KB.out.ext hX)
          clear hX
          go_upto_region 14 with (fail)
          refine read_r14 go S i k gn s9 A9 B9 l9 c9 m9 k9 _ w7 (KB.out.cell 0) (KB.out.cell 1) (KB.out.cell 2) HQ.out hlt (by omega) hkl _ _ (by simp) rfl rfl rfl rfl ?_
          rintro xv0 xv1 xv2 xv3 xv4 xv5 xv6 W rfl rfl rfl rfl hv rfl rfl hX
          simp only [rops, Try.f126, regOf, Option.bind_some, Nat.reduceBEq, if_true, if_false, Bool.false_eq_true, Option.getD_some, List.drop_succ_cons, List.drop_zero]
          simp only [Act.put, List.setIfInBounds_toArray, List.set_cons_succ, List.set_cons_zero]
          obtain ⟨s4, A4, l4, c4, B4, m4, k4, rfl⟩ := NumX.open hv
          have HV4 := Lib.hid hv
          clear hv
          replace HR := Lib.hid (HR.out.ext (staysNum 256) hX)
          replace HX := Lib.hid (HX.out.trans hX)
          clear hX KB HQ
          have hpj : i * 9 + k * 3 = (3 * i + k) * 3 := by omega
          obtain ⟨s2, A2, l2, c2, B2, m2, k2, z0, z1, z2, _⟩ := HR.out.cells hj3 hpj
          have f0 := HR.out.free (i * 9 + k * 3)
          have f1 := HR.out.free (i * 9 + k * 3 + 1)
          have f2 := HR.out.free (i * 9 + k * 3 + 2)
          have HPUT := Lib.hid (HR.out.put (staysNum 256) hj3 hpj HV4.out)
          clear hpj
          go_wp2
          go_roundg (3 - (k + 1))
          case rel =>
            refine ⟨k + 1, rfl, by omega, by go_num, Lib.hid (HPUT.out.congr (fun j _ => ?_)), Lib.hid (((HX.out.setCell (by simp only; omega) _).setCell (by simp only; omega) _).setCell (by simp only; omega) _)⟩
            by_cases e : j = 3 * i + k
            · rw [if_pos e, e, if_pos (by omega)]
            · rw [if_neg e]
              by_cases h2 : j < 3 * i + k
              · rw [if_pos h2, if_pos (by omega)]
              · rw [if_neg h2, if_neg (by omega)]
          case measure => omega
        · obtain rfl : k = 3 := by omega
          go_wp2
          go_roundg (S - (i + 1))
          case rel => exact ⟨i + 1, rfl, by omega, by go_num, Lib.hid (HR.out.congr (fun j _ => by rw [show 3 * (i + 1) = 3 * i + 3 by omega])), HX⟩
          case measure => omega
    · obtain rfl : i = S := by omega
      go_wp2
      go_ret2
      exact ⟨go, rfl, by omega, HR.out.shp (fun j hj => by rw [if_pos hj]), HX.out⟩

end Go.Proofs.Ytikhlcgnlbinfaa
namespace Go.Proofs.Ytikhlcgnlbinfaa
open Go.RowKit

theorem misfit_take {n : Nat} {ms : List Mt} {u : Nat → Rat} {k : Nat} {m : Mt} (h : ms[k]? = some m) : misfit n (ms.take (k + 1)) u = misfit n (ms.take k) u + wsq n u m := by
  unfold misfit
  rw [take_snoc h, sumM_append]
  simp only [sumM]
  grind

set_option maxRecDepth 100000 in
set_option maxHeartbeats 2000000 in
theorem misfit_r8 (gs gt ot S ct gm L M : Nat) (ma mb mx my mz md mw : Int) (un : Nat → Rat) (su : Bool) (Au Bu : Option Addr) (lu cu mu ku : Nat) (q : Rat) (w : World) (x0 : w.cell? ⟨gs, 0, none⟩ = some (.bool su)) (x1 : w.cell? ⟨gs, 1, none⟩ = some (.slice Au lu cu)) (x2 : w.cell? ⟨gs, 2, none⟩ = some (.slice Bu mu ku)) (v0 : w.cell? ⟨gm, 0, none⟩ = some (.int .i64 (ma))) (v1 : w.cell? ⟨gm, 1, none⟩ = some (.int .i64 (mb))) (v2 : w.cell? ⟨gm, 2, none⟩ = some (.int .i64 (mx))) (v3 : w.cell? ⟨gm, 3, none⟩ = some (.int .i64 (my))) (v4 : w.cell? ⟨gm, 4, none⟩ = some (.int .i64 (mz))) (v5 : w.cell? ⟨gm, 5, none⟩ = some (.int .i64 (md))) (v6 : w.cell? ⟨gm, 6, none⟩ = some (.int .i64 (mw))) (hS : ShP (fun w v q => NumX w v q L) w gt ot S un) (hm : VM S ⟨ma, mb, mx, my, mz, md, mw⟩) (hx : NumX w (.agg #[.bool su, .slice Au lu cu, .slice Bu mu ku]) q M) (hL : L ≤ 100000) (hM : M ≤ 1000000000) (a : Act) (Q : Exit → Act → World → Prop) (hsize : 35 ≤ a.tmps.size)
    (s6 : a.tmps[6]? = some (.slice (some ⟨gt, ot, none⟩) S ct))
    (s8 : a.tmps[8]? = some (.pointer (some ⟨gs, 0, none⟩)))
    (s10 : a.tmps[10]? = some (.pointer (some ⟨gm, 0, none⟩)))
    (hend : ∀ (xv0 xv1 xv2 xv3 xv4 xv5 : Value) (W : World), (xv0 = .agg #[.bool su, .slice Au lu cu, .slice Bu mu ku]) → (xv1 = .slice (some ⟨gt, ot, none⟩) S ct) → (xv2 = .agg #[.int .i64 (ma), .int .i64 (mb), .int .i64 (mx), .int .i64 (my), .int .i64 (mz), .int .i64 (md), .int .i64 (mw)]) → (NumX W xv3 (wsq (3 * S) un ⟨ma, mb, mx, my, mz, md, mw⟩) (12 * L + 30)) → (NumX W xv4 (q + wsq (3 * S) un ⟨ma, mb, mx, my, mz, md, mw⟩) (M + (12 * L + 30) + 1)) → (NumX W xv5 (q + wsq (3 * S) un ⟨ma, mb, mx, my, mz, md, mw⟩) (M + (12 * L + 30) + 1)) → Ext w W → wpList Try.prog (rops Try.f50 8).toArray Q ((rops Try.f50 8).drop 6) ((((((a.put (some 29) xv0).put (some 30) xv1).put (some 31) xv2).put (some 32) xv3).put (some 33) xv4).put (some 34) xv5) W) :
    (Code.region 8 (rops Try.f50 8).toArray true).wp Try.prog Q a w := by
  have hmono : ∀ (W W' : World) (j : Nat) (u : Value), Ext W W' → (fun (i : Nat) (v : Value) (W : World) => match i with
    | 0 => v = .agg #[.bool su, .slice Au lu cu, .slice Bu mu ku]
    | 1 => v = .slice (some ⟨gt, ot, none⟩) S ct
    | 2 => v = .agg #[.int .i64 (ma), .int .i64 (mb), .int .i64 (mx), .int .i64 (my), .int .i64 (mz), .int .i64 (md), .int .i64 (mw)]
    | 3 => NumX W v (wsq (3 * S) un ⟨ma, mb, mx, my, mz, md, mw⟩) (12 * L + 30)
    | 4 => NumX W v (q + wsq (3 * S) un ⟨ma, mb, mx, my, mz, md, mw⟩) (M + (12 * L + 30) + 1)
    | 5 => NumX W v (q + wsq (3 * S) un ⟨ma, mb, mx, my, mz, md, mw⟩) (M + (12 * L + 30) + 1)
    | _ => True) j u W → (fun (i : Nat) (v : Value) (W : World) => match i with
    | 0 => v = .agg #[.bool su, .slice Au lu cu, .slice Bu mu ku]
    | 1 => v = .slice (some ⟨gt, ot, none⟩) S ct
    | 2 => v = .agg #[.int .i64 (ma), .int .i64 (mb), .int .i64 (mx), .int .i64 (my), .int .i64 (mz), .int .i64 (md), .int .i64 (mw)]
    | 3 => NumX W v (wsq (3 * S) un ⟨ma, mb, mx, my, mz, md, mw⟩) (12 * L + 30)
    | 4 => NumX W v (q + wsq (3 * S) un ⟨ma, mb, mx, my, mz, md, mw⟩) (M + (12 * L + 30) + 1)
    | 5 => NumX W v (q + wsq (3 * S) un ⟨ma, mb, mx, my, mz, md, mw⟩) (M + (12 * L + 30) + 1)
    | _ => True) j u W' := by
    intro W W' j u hX h
    match j, h with
    | 0, h => exact h
    | 1, h => exact h
    | 2, h => exact h
    | 3, h => exact NumX.ext h hX
    | 4, h => exact NumX.ext h hX
    | 5, h => exact NumX.ext h hX
    | _ + 6, h => exact h
  have hsz : ∀ d, some d ∈ ([some 29, some 30, some 31, some 32, some 33, some 34] : List (Option Tmp)) → d < a.tmps.size := slots_lt (by decide) hsize
  refine wp_region_j 6 [some 29, some 30, some 31, some 32, some 33, some 34] [[], [], [], [1, 2], [0, 3], [4]] [[], [], [], [], [], []] (fun (i : Nat) (v : Value) (W : World) => match i with
    | 0 => v = .agg #[.bool su, .slice Au lu cu, .slice Bu mu ku]
    | 1 => v = .slice (some ⟨gt, ot, none⟩) S ct
    | 2 => v = .agg #[.int .i64 (ma), .int .i64 (mb), .int .i64 (mx), .int .i64 (my), .int .i64 (mz), .int .i64 (md), .int .i64 (mw)]
    | 3 => NumX W v (wsq (3 * S) un ⟨ma, mb, mx, my, mz, md, mw⟩) (12 * L + 30)
    | 4 => NumX W v (q + wsq (3 * S) un ⟨ma, mb, mx, my, mz, md, mw⟩) (M + (12 * L + 30) + 1)
    | 5 => NumX W v (q + wsq (3 * S) un ⟨ma, mb, mx, my, mz, md, mw⟩) (M + (12 * L + 30) + 1)
    | _ => True) (fun _ W => Ext w W) (by kernel_rfl) (by kernel_rfl) hsz (fun _ _ _ _ h => h) ((Ext.refl w).drew) ?_ ?_
  · clear hend
    simp only [rops, Try.f50, regOf, Option.bind_some, Nat.reduceBEq, if_true, if_false, Bool.false_eq_true, Option.getD_some]
    simp only [List.take_succ_cons, List.take_zero]
    refine ⟨?_, ?_, ?_, ?_, ?_, ?_, trivial⟩
    · intro done us W hJ hdep haft hnot b hb hb' K hK Q'
      have e8 := (hb' 8 (by simp)).trans s8
      clear hb hb'
      have z0 := Ext.cell hJ x0
      have z1 := Ext.cell hJ x1
      have z2 := Ext.cell hJ x2
      go_simp
      exact hK _ _ rfl (fun _ _ _ h => h) hJ
    · intro done us W hJ hdep haft hnot b hb hb' K hK Q'
      have e6 := (hb' 6 (by simp)).trans s6
      clear hb hb'
      go_simp
      exact hK _ _ rfl (fun _ _ _ h => h) hJ
    · intro done us W hJ hdep haft hnot b hb hb' K hK Q'
      have e10 := (hb' 10 (by simp)).trans s10
      clear hb hb'
      have z0 := Ext.cell hJ v0
      have z1 := Ext.cell hJ v1
      have z2 := Ext.cell hJ v2
      have z3 := Ext.cell hJ v3
      have z4 := Ext.cell hJ v4
      have z5 := Ext.cell hJ v5
      have z6 := Ext.cell hJ v6
      go_simp
      exact hK _ _ rfl (fun _ _ _ h => h) hJ
    · intro done us W hJ hdep haft hnot b hb hb' K hK Q'
      simp only [List.getD_cons_succ, List.getD_cons_zero, List.mem_cons, List.not_mem_nil, or_false, forall_eq_or_imp, forall_eq] at hdep
      have e30 := hb 1 30 rfl
      have e31 := hb 2 31 rfl
      have d1 := hdep.1
      have d2 := hdep.2
      rw [d1.1] at e30
      rw [d2.1] at e31
      clear hb hb' hdep d1 d2
      go_simp
      refine (weighted_any (m := ⟨ma, mb, mx, my, mz, md, mw⟩) (hS.ext (growsNum L) hJ) hm hL).mono ?_
      rintro e w' ⟨v, rfl, hv, hX⟩
      exact hK _ _ hv (fun j u _ h => hmono _ _ j u hX h) (Ext.trans hJ hX)
    · intro done us W hJ hdep haft hnot b hb hb' K hK Q'
      simp only [List.getD_cons_succ, List.getD_cons_zero, List.mem_cons, List.not_mem_nil, or_false, forall_eq_or_imp, forall_eq] at hdep
      have e29 := hb 0 29 rfl
      have e32 := hb 3 32 rfl
      have d0 := hdep.1
      have d3 := hdep.2
      rw [d0.1] at e29
      clear hb hb' hdep d0
      go_simp
      refine (addX (hx.ext hJ) d3.1 (by omega)).mono ?_
      rintro e w' ⟨v, rfl, hv, hX⟩
      exact hK _ _ hv (fun j u _ h => hmono _ _ j u hX h) (Ext.trans hJ hX)
    · intro done us W hJ hdep haft hnot b hb hb' K hK Q'
      simp only [List.getD_cons_succ, List.getD_cons_zero, List.mem_cons, List.not_mem_nil, or_false, forall_eq] at hdep
      have e33 := hb 4 33 rfl
      have d4 := hdep
      clear hb hb' hdep 
      go_simp
      refine (reducedX d4.1 (by omega)).mono ?_
      rintro e w' ⟨v, rfl, hv, hX⟩
      exact hK _ _ (hv.numx d4.1.fit) (fun j u _ h => hmono _ _ j u hX h) (Ext.trans hJ hX)
  · intro us W hV hJ
    exact hend (us 0) (us 1) (us 2) (us 3) (us 4) (us 5) W (hV 0 (by omega)) (hV 1 (by omega)) (hV 2 (by omega)) (hV 3 (by omega)) (hV 4 (by omega)) (hV 5 (by omega)) hJ
set_option maxRecDepth 100000 in
set_option maxHeartbeats 16000000 in
theorem misfit_ok (S : Nat) (A : Option Addr) (n c : Nat) (ms : List Mt) (gt ot ct : Nat) (u : Nat → Rat) (w : World) (h : MsAt w A n ms) (hv : VP (S : Int) ms) (hS : ShP RatG w gt ot S u) (hf : FitQW (misfit (3 * S) ms u)) :
    Calls Try.prog 50 #[.agg #[.int .i64 (S : Int), .slice A n c], .slice (some ⟨gt, ot, none⟩) S ct] w (fun e w' => ∃ v, e = .returned (.tuple #[v, .int .i64 0]) ∧ RatC w' v (misfit (3 * S) ms u) ∧ Ext w w') := by
  have H := Lib.hid h
  have HV := Lib.hid hv
  clear h hv
  have hXe : Ext w ((w.alloc (.cells #[.int .i64 (S : Int), .slice A n c] 76)).alloc (.cells #[.bool false, .slice none 0 0, .slice none 0 0] 97)) := ((Ext.refl w).alloc _).alloc _
  have kP : Blk ((w.alloc (.cells #[.int .i64 (S : Int), .slice A n c] 76)).alloc (.cells #[.bool false, .slice none 0 0, .slice none 0 0] 97)) w.heap.size 76 #[.int .i64 (S : Int), .slice A n c] := Blk.alloc (Blk.new w _ _) _
  have kR : Blk ((w.alloc (.cells #[.int .i64 (S : Int), .slice A n c] 76)).alloc (.cells #[.bool false, .slice none 0 0, .slice none 0 0] 97)) (w.heap.size + 1) 97 #[.bool false, .slice none 0 0, .slice none 0 0] := Blk.at_ (by simp)
  go_enter Try.func50, Try.ntmps50
  go_upto_region 1 with (fail)
  generalize (w.alloc (.cells #[.int .i64 (S : Int), .slice A n c] 76)).alloc (.cells #[.bool false, .slice none 0 0, .slice none 0 0] 97) = w1 at hXe kP kR ⊢
  have HX := Lib.hid hXe
  have HP := Lib.hid kP
  have HR := Lib.hid kR
  clear hXe kP kR
  have p0 := HP.out.cell 0
  have p1 := HP.out.cell 1
  simp only [List.getElem?_toArray, List.getElem?_cons_zero, List.getElem?_cons_succ] at p0 p1
  go_wp2_with fail
  have HS0 := Lib.hid hS
  have HF := Lib.hid hf
  have HVM := Lib.hid HV.out.2.2.2
  have HL := Lib.hid H.out.1
  have hn64 : n ≤ 64 := by have := HV.out.2.2.1; have := HL.out; omega
  clear hS hf
  refine (rdP_ok S A n c ms gt ot ct u _ (H.out.ext HX.out) HV.out (HS0.out.ext growsG HX.out)).mono ?_
  rintro e w2 ⟨go, rfl, hgo, hS, hX⟩
  have HS := Lib.hid hS
  replace HX := Lib.hid (HX.out.trans hX)
  replace HP := Lib.hid (HP.out.ext hX)
  replace HR := Lib.hid (HR.out.ext hX)
  clear hS hX p0 p1 hgo
  go_wp2_with fail
  refine (intX 0 _ (by omega) (by omega)).mono ?_
  rintro e w3 ⟨v3, rfl, hv, hX⟩
  obtain ⟨s0, A0, l0, c0, B0, m0, k0, rfl⟩ := NumX.open hv
  replace HX := Lib.hid (HX.out.trans hX)
  replace HP := Lib.hid (HP.out.ext hX)
  replace HR := Lib.hid (HR.out.ext hX)
  replace HS := Lib.hid (HS.out.ext (growsNum 256) hX)
  have HN := Lib.hid hv
  clear hv hX
  go_upto_region 5 with (fail)
  have hXa : Ext w3 (w3.alloc (.cells #[.bool s0, .slice A0 l0 c0, .slice B0 m0 k0] 217)) := (Ext.refl _).alloc _
  have kS := Blk.new w3 217 #[.bool s0, .slice A0 l0 c0, .slice B0 m0 k0]
  have hrl := HR.out.lt
  have hgl := HS.out.low (by have := HV.out.1; omega)
  replace HX := Lib.hid (HX.out.trans hXa)
  replace HP := Lib.hid (HP.out.ext hXa)
  replace HR := Lib.hid (HR.out.ext hXa)
  replace HS := Lib.hid (HS.out.ext (growsNum 256) hXa)
  replace HN : Hid (NumX _ (.agg #[.bool s0, .slice A0 l0 c0, .slice B0 m0 k0]) (misfit (3 * S) (ms.take 0) u) (2 + 0 * 3103)) := Lib.hid (HN.out.ext hXa)
  clear hXa
  generalize w3.alloc (.cells #[.bool s0, .slice A0 l0 c0, .slice B0 m0 k0] 217) = w4 at kS HX HP HR HS HN ⊢
  generalize w3.heap.size = gs at kS hrl hgl ⊢
  have KS := Lib.hid kS
  clear kS
  have p1 := HP.out.cell 1
  simp only [List.getElem?_toArray, List.getElem?_cons_zero, List.getElem?_cons_succ] at p1
  go_wp2_with fail
  clear p1
  go_loopg [25] n (fun f iv wr => ∃ (k : Nat) (s0 : Bool) (A0 B0 : Option Addr) (l0 c0 m0 k0 : Nat), f = n - k ∧ k ≤ n ∧ iv = .int .i64 (k : Int) ∧ Hid (NumX wr (.agg #[.bool s0, .slice A0 l0 c0, .slice B0 m0 k0]) (misfit (3 * S) (ms.take k) u) (2 + k * 3103)) ∧ Hid (Blk wr gs 217 #[.bool s0, .slice A0 l0 c0, .slice B0 m0 k0]) ∧ Hid (Blk wr (w.heap.size + 1) 97 #[.bool false, .slice none 0 0, .slice none 0 0]) ∧ Hid (Ext w wr) ∧ Hid (ShP (fun w v q => NumX w v q 256) wr go 0 S u))
  case atStart => exact ⟨0, s0, A0, B0, l0, c0, m0, k0, rfl, by omega, rfl, HN, KS, HR, HX, HS⟩
  case round =>
    clear HN KS HR HX HS
    obtain ⟨k, s0, A0, B0, l0, c0, m0, k0, rfl, hk, rfl, HN, KS, HR, HX, HS⟩ := hrel
    by_cases hlt : k < n
    · have q1 : decide (k < n) = true := decide_eq_true hlt
      obtain ⟨g, o, ⟨a, b, x, y, z, d, ww⟩, rfl, hm, hmem, x0, x1, x2, x3, x4, x5, x6⟩ := (H.out.ext HX.out).get hlt
      simp only at x0 x1 x2 x3 x4 x5 x6
      have HTK := Lib.hid (misfit_take (n := 3 * S) (u := u) hm)
      have HMM := Lib.hid (HVM.out _ hmem)
      clear hm hmem
      go_upto_region 8 with (fail)
      have hXa : Ext wr (wr.alloc (.cells #[.int .i64 (a), .int .i64 (b), .int .i64 (x), .int .i64 (y), .int .i64 (z), .int .i64 (d), .int .i64 (ww)] 90)) := (Ext.refl _).alloc _
      have kM := Blk.new wr 90 #[.int .i64 (a), .int .i64 (b), .int .i64 (x), .int .i64 (y), .int .i64 (z), .int .i64 (d), .int .i64 (ww)]
      replace HX := Lib.hid (HX.out.trans hXa)
      replace HR := Lib.hid (HR.out.ext hXa)
      replace KS := Lib.hid (KS.out.ext hXa)
      replace HN := Lib.hid (HN.out.ext hXa)
      replace HS := Lib.hid (HS.out.ext (growsNum 256) hXa)
      clear hXa x0 x1 x2 x3 x4 x5 x6
      generalize wr.heap.size = gm at kM ⊢
      generalize wr.alloc (.cells #[.int .i64 (a), .int .i64 (b), .int .i64 (x), .int .i64 (y), .int .i64 (z), .int .i64 (d), .int .i64 (ww)] 90) = w5 at kM HX HR KS HN HS ⊢
      refine misfit_r8 gs go 0 S S gm 256 (2 + k * 3103) a b x y z d ww u s0 A0 B0 l0 c0 m0 k0 _ w5 (KS.out.cell 0) (KS.out.cell 1) (KS.out.cell 2) (kM.cell 0) (kM.cell 1) (kM.cell 2) (kM.cell 3) (kM.cell 4) (kM.cell 5) (kM.cell 6) HS.out HMM.out HN.out (by omega) (by omega) _ _ (by simp) rfl rfl rfl ?_
      rintro xv0 xv1 xv2 xv3 xv4 xv5 W rfl rfl rfl _ _ hv hX
      simp only [rops, Try.f50, regOf, Option.bind_some, Nat.reduceBEq, if_true, if_false, Bool.false_eq_true, Option.getD_some, List.drop_succ_cons, List.drop_zero]
      simp only [Act.put, List.setIfInBounds_toArray, List.set_cons_succ, List.set_cons_zero]
      clear kM HN
      obtain ⟨s4, A4, l4, c4, B4, m4, k4, rfl⟩ := NumX.open hv
      have HN := Lib.hid hv
      replace HX := Lib.hid (HX.out.trans hX)
      replace HR := Lib.hid (HR.out.ext hX)
      replace KS := Lib.hid (KS.out.ext hX)
      replace HS := Lib.hid (HS.out.ext (growsNum 256) hX)
      clear hv hX
      obtain ⟨r0, r1, r2, f0, f1, f2⟩ := KS.out.three
      have HNI := Lib.hid (NoInts.three KS.out)
      go_wp2
      go_roundg (n - (k + 1))
      case rel =>
        refine ⟨k + 1, s4, A4, B4, l4, c4, m4, k4, rfl, by omega, by go_num, Lib.hid ?_, Lib.hid (((KS.out.set 0 _).set 1 _).set 2 _), Lib.hid (((HR.out.far (by simp only; omega) _).far (by simp only; omega) _).far (by simp only; omega) _), Lib.hid (Ext.boxed HX.out (by omega) _ _ _), Lib.hid (ShP.keeps (staysNum 256) HS.out ((((Keeps.refl [gs] W).setCell (.inl (by simp)) _).setCell (.inl (by simp)) _).setCell (.inl (by simp)) _) (fun g hg => by simp at hg; subst hg; exact HNI.out) (by simp; omega))⟩
        rw [HTK.out]
        exact (HN.out.mono (show 2 + k * 3103 + (12 * 256 + 30) + 1 ≤ 2 + (k + 1) * 3103 by omega)).boxed HNI.out _ _ _ _ _ _ _
      case measure => omega
    · obtain rfl : k = n := by omega
      have q1 : decide (k < k) = false := by simp
      have HTK : Hid (ms.take k = ms) := Lib.hid (List.take_of_length_le (by have := HL.out; omega))
      rw [HTK.out] at HN
      obtain ⟨r0, r1, r2, f0, f1, f2⟩ := KS.out.three
      clear f0 f1 f2
      go_wp2_with fail
      refine (doneG HN.out (by omega) HF.out).mono ?_
      rintro e w5 ⟨v5, rfl, hv, hX⟩
      obtain ⟨s4, A4, l4, c4, B4, m4, k4, rfl⟩ := RatC.open hv
      have HC := Lib.hid hv
      replace HX := Lib.hid (HX.out.trans hX)
      replace HR := Lib.hid (HR.out.ext hX)
      clear hv hX r0 r1 r2
      obtain ⟨r0, r1, r2, f0, f1, f2⟩ := HR.out.three
      have HNI := Lib.hid (NoInts.three HR.out)
      go_wp2
      refine bodyPost_ret (v := .tuple #[.agg #[.bool s4, .slice A4 l4 c4, .slice B4 m4 k4], .int .i64 0]) (by simp [results, Try.results50, go_sem, *]) rfl ?_
      exact ⟨_, rfl, staysC _ _ _ _ _ HC.out ((((Keeps.refl [w.heap.size + 1] w5).setCell (.inl (by simp)) _).setCell (.inl (by simp)) _).setCell (.inl (by simp)) _) (fun g hg => by simp at hg; subst hg; exact HNI.out), Ext.boxed HX.out (by omega) _ _ _⟩

end Go.Proofs.Ytikhlcgnlbinfaa
