/- Lemmas of the proof that follows (TopTransfer, part 13): walks of functions by contract, and plain lemmas. Conditions: none. -/
import Derived.Test.YtekhmfliaojabaaTopTransferL
namespace Go.Proofs.Ytekhmfliaojabaa
open Go.RowKit

set_option maxRecDepth 1000000 in
theorem links_t : transF [[1], [2]] [] 64 0 (snd0 0 1) (rcv0 0 1 0) [] = ([⟨0, [1], false⟩, ⟨1, [2], false⟩], 2) := by kernel_rfl
theorem links_r : transR [[1], [2]] 1 [] = ([⟨0, [1], false⟩, ⟨1, [2], false⟩], 2, 0) := by
  unfold transR
  rw [if_neg, links_t]
  rintro (h | h | ⟨x, hx, h⟩)
  · omega
  · omega
  · simp only [List.mem_cons, List.not_mem_nil, or_false] at hx
    rcases hx with rfl | rfl <;> simp at h
theorem lists_two {W : World} {v1 v2 : Value} {x1 x2 : List Int} (h1 : SlV .u8 W v1 x1) (h2 : SlV .u8 W v2 x2) {N : Nat} (hN : W.heap.size = N) : Lists .u8 (W.alloc (.cells #[v1, v2] 22)) (some ⟨N, 0, none⟩) 2 [x1, x2] :=
  ⟨rfl, [v1, v2], rfl, At.new' W [v1, v2] _ hN, fun j a zs ha hz => by
    match j with
    | 0 => simp at ha hz; subst ha hz; exact h1.ext ((Ext.refl W).alloc _)
    | 1 => simp at ha hz; subst ha hz; exact h2.ext ((Ext.refl W).alloc _)
    | j + 2 => simp at ha⟩
theorem slv_new (W : World) (x : Int) (hx : (Lit.int .u8 x).wf = true) {N : Nat} (hN : W.heap.size = N) : SlV .u8 (W.alloc (.cells #[.int .u8 x] 5)) (.slice (some ⟨N, 0, none⟩) 1 1) [x] :=
  ⟨_, 1, 1, rfl, ⟨rfl, by simpa using hx, At.new' W [.int .u8 x] _ hN⟩, by omega, by omega⟩


set_option maxRecDepth 100000 in
set_option maxHeartbeats 2000000 in
theorem links_any (w : World) : Calls Try.prog 67 #[] w fun e w' => e = .returned (.bool true) ∧ Ext w w' := by
  go_enter Try.func67, Try.ntmps67
  have h1 := slv_new w 1 (by rfl) rfl
  have hX1 : Ext w (w.alloc (.cells #[.int .u8 1] 5)) := (Ext.refl _).alloc _
  have hs1 : (w.alloc (.cells #[.int .u8 1] 5)).heap.size = w.heap.size + 1 := by simp
  go_wp2_with fail
  generalize w.alloc (.cells #[.int .u8 1] 5) = w1 at h1 hX1 hs1 ⊢
  have h2 := slv_new w1 2 (by rfl) hs1
  have hX2 : Ext w1 (w1.alloc (.cells #[.int .u8 2] 5)) := (Ext.refl _).alloc _
  have hs2 : (w1.alloc (.cells #[.int .u8 2] 5)).heap.size = w.heap.size + 1 + 1 := by simp [hs1]
  generalize w1.alloc (.cells #[.int .u8 2] 5) = w2 at h2 hX2 hs2 ⊢
  have h3 := lists_two (h1.ext hX2) h2 hs2
  have hX3 : Ext w2 (w2.alloc (.cells #[.slice (some ⟨w.heap.size, 0, none⟩) 1 1, .slice (some ⟨w.heap.size + 1, 0, none⟩) 1 1] 22)) := (Ext.refl _).alloc _
  generalize w2.alloc (.cells #[.slice (some ⟨w.heap.size, 0, none⟩) 1 1, .slice (some ⟨w.heap.size + 1, 0, none⟩) 1 1] 22) = w3 at h3 hX3 ⊢
  have HX := Lib.hid ((hX1.trans hX2).trans hX3)
  have H3 := Lib.hid h3
  clear h1 h2 h3 hX1 hX2 hX3 hs1 hs2
  refine (transferP_any _ 2 2 1 none 0 0 [[1], [2]] [] _ H3.out (by omega) ⟨rfl, [], rfl, At.nil, by simp⟩ (by omega) (by simp) ?_).mono ?_
  · intro x hx
    simp only [List.mem_cons, List.not_mem_nil, or_false] at hx
    rcases hx with rfl | rfl <;> exact ⟨by simp, by intro y hy; simp at hy; subst hy; rfl⟩
  rw [links_r]
  rintro e w5 ⟨A5, c5, rfl, hD, hX5⟩
  simp only [List.length_cons, List.length_nil, Nat.zero_add, Nat.reduceAdd] at hD ⊢
  replace HX := Lib.hid (HX.out.trans hX5)
  obtain ⟨b, o, x, A6, n6, c6, rfl, hx, a0, a1, a2, hI, hc6, hm6⟩ := hD.get (j := 1) (by omega)
  simp only [List.getElem?_cons_succ, List.getElem?_cons_zero, Option.some.injEq] at hx
  subst hx
  simp only at a0 a1 a2 hI
  obtain rfl : n6 = 1 := hI.1.symm
  obtain ⟨b', o', y, rfl, hy, _, hc⟩ := hI.get (j := 0) (by omega)
  simp only [List.getElem?_cons_zero, Option.some.injEq] at hy
  subst hy
  rw [Nat.one_mul] at a0 a1 a2
  rw [Nat.add_zero] at hc
  clear hD hI hX5 H3
  go_wp2
  go_ret
  exact ⟨rfl, HX.out⟩

set_option maxRecDepth 100000 in
set_option maxHeartbeats 2000000 in
theorem top_r25 (gd bb ob n c ix : Nat) (A5 : Option Addr) (n5 e5 : Nat) (A6 : Option Addr) (n6 e6 : Nat) (xs : List Int) (st : ByteArray) (w : World) (y0 : w.cell? ⟨gd, 0, none⟩ = some (.int .i64 (ix : Int))) (y1 : w.cell? ⟨gd, 1, none⟩ = some (.slice A5 n5 e5)) (y2 : w.cell? ⟨gd, 2, none⟩ = some (.bool false)) (z6 : w.cell? ⟨bb, ob + ix, none⟩ = some (.slice A6 n6 e6)) (hI5 : Ints .u8 w A5 n5 xs) (hI6 : Ints .u8 w A6 n6 xs) (hst : Hid (strOfNums xs = st)) (hin : ix < n) (a : Act) (Q : Exit → Act → World → Prop) (hsize : 125 ≤ a.tmps.size)
    (s0 : a.tmps[0]? = some (.slice (some ⟨bb, ob, none⟩) n c))
    (s14 : a.tmps[14]? = some (.int .i64 (ix : Int)))
    (s15 : a.tmps[15]? = some (.pointer (some ⟨gd, 0, none⟩)))
    (hend : ∀ (xv0 xv1 xv2 xv3 xv4 xv5 xv6 xv7 xv8 xv9 xv10 xv11 xv12 xv13 xv14 xv15 xv16 xv17 xv18 : Value) (W : World), (xv0 = .pointer (some ⟨gd, 0, none⟩)) → (xv1 = .int .i64 (ix : Int)) → (xv2 = .int .i64 (ix : Int)) → (xv3 = .bool false) → (xv4 = .bool false) → (xv5 = .pointer (some ⟨gd, 2, none⟩)) → (xv6 = .bool false) → (xv7 = .bool false) → (xv8 = .bool false) → (xv9 = .pointer (some ⟨gd, 1, none⟩)) → (xv10 = .slice A5 n5 e5) → (xv11 = .string st) → (xv12 = .slice (some ⟨bb, ob, none⟩) n c) → (xv13 = .int .i64 (ix : Int)) → (xv14 = .pointer (some ⟨bb, ob + ix, none⟩)) → (xv15 = .slice A6 n6 e6) → (xv16 = .string st) → (xv17 = .bool false) → (xv18 = .bool false) → Ext w W → wpList Try.prog (rops Try.f17 25).toArray Q ((rops Try.f17 25).drop 19) (((((((((((((((((((a.put (some 106) xv0).put (some 107) xv1).put (some 108) xv2).put (some 109) xv3).put (some 110) xv4).put (some 111) xv5).put (some 112) xv6).put (some 113) xv7).put (some 114) xv8).put (some 115) xv9).put (some 116) xv10).put (some 117) xv11).put (some 118) xv12).put (some 119) xv13).put (some 120) xv14).put (some 121) xv15).put (some 122) xv16).put (some 123) xv17).put (some 124) xv18) W) :
    (Code.region 25 (rops Try.f17 25).toArray true).wp Try.prog Q a w := by
  have hmono : ∀ (W W' : World) (j : Nat) (u : Value), Ext W W' → (fun (i : Nat) (v : Value) (W : World) => match i with
    | 0 => v = .pointer (some ⟨gd, 0, none⟩)
    | 1 => v = .int .i64 (ix : Int)
    | 2 => v = .int .i64 (ix : Int)
    | 3 => v = .bool false
    | 4 => v = .bool false
    | 5 => v = .pointer (some ⟨gd, 2, none⟩)
    | 6 => v = .bool false
    | 7 => v = .bool false
    | 8 => v = .bool false
    | 9 => v = .pointer (some ⟨gd, 1, none⟩)
    | 10 => v = .slice A5 n5 e5
    | 11 => v = .string st
    | 12 => v = .slice (some ⟨bb, ob, none⟩) n c
    | 13 => v = .int .i64 (ix : Int)
    | 14 => v = .pointer (some ⟨bb, ob + ix, none⟩)
    | 15 => v = .slice A6 n6 e6
    | 16 => v = .string st
    | 17 => v = .bool false
    | 18 => v = .bool false
    | _ => True) j u W → (fun (i : Nat) (v : Value) (W : World) => match i with
    | 0 => v = .pointer (some ⟨gd, 0, none⟩)
    | 1 => v = .int .i64 (ix : Int)
    | 2 => v = .int .i64 (ix : Int)
    | 3 => v = .bool false
    | 4 => v = .bool false
    | 5 => v = .pointer (some ⟨gd, 2, none⟩)
    | 6 => v = .bool false
    | 7 => v = .bool false
    | 8 => v = .bool false
    | 9 => v = .pointer (some ⟨gd, 1, none⟩)
    | 10 => v = .slice A5 n5 e5
    | 11 => v = .string st
    | 12 => v = .slice (some ⟨bb, ob, none⟩) n c
    | 13 => v = .int .i64 (ix : Int)
    | 14 => v = .pointer (some ⟨bb, ob + ix, none⟩)
    | 15 => v = .slice A6 n6 e6
    | 16 => v = .string st
    | 17 => v = .bool false
    | 18 => v = .bool false
    | _ => True) j u W' := by
    intro W W' j u hX h
    match j, h with
    | 0, h => exact h
    | 1, h => exact h
    | 2, h => exact h
    | 3, h => exact h
    | 4, h => exact h
    | 5, h => exact h
    | 6, h => exact h
    | 7, h => exact h
    | 8, h => exact h
    | 9, h => exact h
    | 10, h => exact h
    | 11, h => exact h
    | 12, h => exact h
    | 13, h => exact h
    | 14, h => exact h
    | 15, h => exact h
    | 16, h => exact h
    | 17, h => exact h
    | 18, h => exact h
    | _ + 19, h => exact h
  have hsz : ∀ d, some d ∈ ([some 106, some 107, some 108, some 109, some 110, some 111, some 112, some 113, some 114, some 115, some 116, some 117, some 118, some 119, some 120, some 121, some 122, some 123, some 124] : List (Option Tmp)) → d < a.tmps.size := slots_lt (by decide) hsize
  refine wp_region_j 19 [some 106, some 107, some 108, some 109, some 110, some 111, some 112, some 113, some 114, some 115, some 116, some 117, some 118, some 119, some 120, some 121, some 122, some 123, some 124] [[], [0], [], [1, 2], [3], [4], [4, 5], [4, 6], [7], [8], [8, 9], [8, 10], [8], [8], [8, 12, 13], [8, 14], [8, 15], [8, 11, 16], [8, 17]] [[], [], [], [], [], [], [], [], [], [], [], [], [], [], [], [], [], [], []] (fun (i : Nat) (v : Value) (W : World) => match i with
    | 0 => v = .pointer (some ⟨gd, 0, none⟩)
    | 1 => v = .int .i64 (ix : Int)
    | 2 => v = .int .i64 (ix : Int)
    | 3 => v = .bool false
    | 4 => v = .bool false
    | 5 => v = .pointer (some ⟨gd, 2, none⟩)
    | 6 => v = .bool false
    | 7 => v = .bool false
    | 8 => v = .bool false
    | 9 => v = .pointer (some ⟨gd, 1, none⟩)
    | 10 => v = .slice A5 n5 e5
    | 11 => v = .string st
    | 12 => v = .slice (some ⟨bb, ob, none⟩) n c
    | 13 => v = .int .i64 (ix : Int)
    | 14 => v = .pointer (some ⟨bb, ob + ix, none⟩)
    | 15 => v = .slice A6 n6 e6
    | 16 => v = .string st
    | 17 => v = .bool false
    | 18 => v = .bool false
    | _ => True) (fun _ W => Ext w W) (by kernel_rfl) (by kernel_rfl) hsz (fun _ _ _ _ h => h) ((Ext.refl w).drew) ?_ ?_
  · clear hend
    simp only [rops, Try.f17, regOf, Option.bind_some, Nat.reduceBEq, if_true, if_false, Bool.false_eq_true, Option.getD_some]
    simp only [List.take_succ_cons, List.take_zero]
    refine ⟨?_, ?_, ?_, ?_, ?_, ?_, ?_, ?_, ?_, ?_, ?_, ?_, ?_, ?_, ?_, ?_, ?_, ?_, ?_, trivial⟩
    · intro done us W hJ hdep haft hnot b hb hb' K hK Q'
      have e15 := (hb' 15 (by simp)).trans s15
      clear hb hb'
      go_simp
      exact hK _ _ rfl (fun _ _ _ h => h) hJ
    · intro done us W hJ hdep haft hnot b hb hb' K hK Q'
      simp only [List.getD_cons_succ, List.getD_cons_zero, List.mem_cons, List.not_mem_nil, or_false, forall_eq_or_imp, forall_eq] at hdep
      have e106 := hb 0 106 rfl
      have d0 := hdep
      rw [d0.1] at e106
      clear hb hb' hdep d0
      have q := Ext.cell hJ y0
      go_simp
      exact hK _ _ rfl (fun _ _ _ h => h) hJ
    · intro done us W hJ hdep haft hnot b hb hb' K hK Q'
      have e14 := (hb' 14 (by simp)).trans s14
      clear hb hb'
      go_simp
      exact hK _ _ rfl (fun _ _ _ h => h) hJ
    · intro done us W hJ hdep haft hnot b hb hb' K hK Q'
      simp only [List.getD_cons_succ, List.getD_cons_zero, List.mem_cons, List.not_mem_nil, or_false, forall_eq_or_imp, forall_eq] at hdep
      have e107 := hb 1 107 rfl
      have e108 := hb 2 108 rfl
      have d1 := hdep.1
      have d2 := hdep.2
      rw [d1.1] at e107
      rw [d2.1] at e108
      clear hb hb' hdep d1 d2
      go_simp
      exact hK _ _ rfl (fun _ _ _ h => h) hJ
    · intro done us W hJ hdep haft hnot b hb hb' K hK Q'
      simp only [List.getD_cons_succ, List.getD_cons_zero, List.mem_cons, List.not_mem_nil, or_false, forall_eq_or_imp, forall_eq] at hdep
      have e109 := hb 3 109 rfl
      have d3 := hdep
      rw [d3.1] at e109
      clear hb hb' hdep d3
      go_simp
      exact hK _ _ rfl (fun _ _ _ h => h) hJ
    · intro done us W hJ hdep haft hnot b hb hb' K hK Q'
      simp only [List.getD_cons_succ, List.getD_cons_zero, List.mem_cons, List.not_mem_nil, or_false, forall_eq_or_imp, forall_eq] at hdep
      have e15 := (hb' 15 (by simp)).trans s15
      have e110 := hb 4 110 rfl
      have d4 := hdep
      rw [d4.1] at e110
      clear hb hb' hdep d4
      go_simp
      exact hK _ _ rfl (fun _ _ _ h => h) hJ
    · intro done us W hJ hdep haft hnot b hb hb' K hK Q'
      simp only [List.getD_cons_succ, List.getD_cons_zero, List.mem_cons, List.not_mem_nil, or_false, forall_eq_or_imp, forall_eq] at hdep
      have e110 := hb 4 110 rfl
      have e111 := hb 5 111 rfl
      have d4 := hdep.1
      have d5 := hdep.2
      rw [d4.1] at e110
      rw [d5.1] at e111
      clear hb hb' hdep d4 d5
      have q := Ext.cell hJ y2
      go_simp
      exact hK _ _ rfl (fun _ _ _ h => h) hJ
    · intro done us W hJ hdep haft hnot b hb hb' K hK Q'
      simp only [List.getD_cons_succ, List.getD_cons_zero, List.mem_cons, List.not_mem_nil, or_false, forall_eq_or_imp, forall_eq] at hdep
      have e110 := hb 4 110 rfl
      have e112 := hb 6 112 rfl
      have d4 := hdep.1
      have d6 := hdep.2
      rw [d4.1] at e110
      rw [d6.1] at e112
      clear hb hb' hdep d4 d6
      go_simp
      exact hK _ _ rfl (fun _ _ _ h => h) hJ
    · intro done us W hJ hdep haft hnot b hb hb' K hK Q'
      simp only [List.getD_cons_succ, List.getD_cons_zero, List.mem_cons, List.not_mem_nil, or_false, forall_eq_or_imp, forall_eq] at hdep
      have e113 := hb 7 113 rfl
      have d7 := hdep
      rw [d7.1] at e113
      clear hb hb' hdep d7
      go_simp
      exact hK _ _ rfl (fun _ _ _ h => h) hJ
    · intro done us W hJ hdep haft hnot b hb hb' K hK Q'
      simp only [List.getD_cons_succ, List.getD_cons_zero, List.mem_cons, List.not_mem_nil, or_false, forall_eq_or_imp, forall_eq] at hdep
      have e15 := (hb' 15 (by simp)).trans s15
      have e114 := hb 8 114 rfl
      have d8 := hdep
      rw [d8.1] at e114
      clear hb hb' hdep d8
      go_simp
      exact hK _ _ rfl (fun _ _ _ h => h) hJ
    · intro done us W hJ hdep haft hnot b hb hb' K hK Q'
      simp only [List.getD_cons_succ, List.getD_cons_zero, List.mem_cons, List.not_mem_nil, or_false, forall_eq_or_imp, forall_eq] at hdep
      have e114 := hb 8 114 rfl
      have e115 := hb 9 115 rfl
      have d8 := hdep.1
      have d9 := hdep.2
      rw [d8.1] at e114
      rw [d9.1] at e115
      clear hb hb' hdep d8 d9
      have q := Ext.cell hJ y1
      go_simp
      exact hK _ _ rfl (fun _ _ _ h => h) hJ
    · intro done us W hJ hdep haft hnot b hb hb' K hK Q'
      simp only [List.getD_cons_succ, List.getD_cons_zero, List.mem_cons, List.not_mem_nil, or_false, forall_eq_or_imp, forall_eq] at hdep
      have e114 := hb 8 114 rfl
      have e116 := hb 10 116 rfl
      have d8 := hdep.1
      have d10 := hdep.2
      rw [d8.1] at e114
      rw [d10.1] at e116
      clear hb hb' hdep d8 d10
      have q := str_any W (c := e5) (Ints.ext hI5 hJ)
      rw [hst.out] at q
      go_simp
      exact hK _ _ rfl (fun _ _ _ h => h) hJ
    · intro done us W hJ hdep haft hnot b hb hb' K hK Q'
      simp only [List.getD_cons_succ, List.getD_cons_zero, List.mem_cons, List.not_mem_nil, or_false, forall_eq_or_imp, forall_eq] at hdep
      have e0 := (hb' 0 (by simp)).trans s0
      have e114 := hb 8 114 rfl
      have d8 := hdep
      rw [d8.1] at e114
      clear hb hb' hdep d8
      go_simp
      exact hK _ _ rfl (fun _ _ _ h => h) hJ
    · intro done us W hJ hdep haft hnot b hb hb' K hK Q'
      simp only [List.getD_cons_succ, List.getD_cons_zero, List.mem_cons, List.not_mem_nil, or_false, forall_eq_or_imp, forall_eq] at hdep
      have e14 := (hb' 14 (by simp)).trans s14
      have e114 := hb 8 114 rfl
      have d8 := hdep
      rw [d8.1] at e114
      clear hb hb' hdep d8
      go_simp
      exact hK _ _ rfl (fun _ _ _ h => h) hJ
    · intro done us W hJ hdep haft hnot b hb hb' K hK Q'
      simp only [List.getD_cons_succ, List.getD_cons_zero, List.mem_cons, List.not_mem_nil, or_false, forall_eq_or_imp, forall_eq] at hdep
      have e114 := hb 8 114 rfl
      have e118 := hb 12 118 rfl
      have e119 := hb 13 119 rfl
      have d8 := hdep.1
      have d12 := hdep.2.1
      have d13 := hdep.2.2
      rw [d8.1] at e114
      rw [d12.1] at e118
      rw [d13.1] at e119
      clear hb hb' hdep d8 d12 d13
      go_simp
      exact hK _ _ rfl (fun _ _ _ h => h) hJ
    · intro done us W hJ hdep haft hnot b hb hb' K hK Q'
      simp only [List.getD_cons_succ, List.getD_cons_zero, List.mem_cons, List.not_mem_nil, or_false, forall_eq_or_imp, forall_eq] at hdep
      have e114 := hb 8 114 rfl
      have e120 := hb 14 120 rfl
      have d8 := hdep.1
      have d14 := hdep.2
      rw [d8.1] at e114
      rw [d14.1] at e120
      clear hb hb' hdep d8 d14
      have q := Ext.cell hJ z6
      go_simp
      exact hK _ _ rfl (fun _ _ _ h => h) hJ
    · intro done us W hJ hdep haft hnot b hb hb' K hK Q'
      simp only [List.getD_cons_succ, List.getD_cons_zero, List.mem_cons, List.not_mem_nil, or_false, forall_eq_or_imp, forall_eq] at hdep
      have e114 := hb 8 114 rfl
      have e121 := hb 15 121 rfl
      have d8 := hdep.1
      have d15 := hdep.2
      rw [d8.1] at e114
      rw [d15.1] at e121
      clear hb hb' hdep d8 d15
      have q := str_any W (c := e6) (Ints.ext hI6 hJ)
      rw [hst.out] at q
      go_simp
      exact hK _ _ rfl (fun _ _ _ h => h) hJ
    · intro done us W hJ hdep haft hnot b hb hb' K hK Q'
      simp only [List.getD_cons_succ, List.getD_cons_zero, List.mem_cons, List.not_mem_nil, or_false, forall_eq_or_imp, forall_eq] at hdep
      have e114 := hb 8 114 rfl
      have e117 := hb 11 117 rfl
      have e122 := hb 16 122 rfl
      have d8 := hdep.1
      have d11 := hdep.2.1
      have d16 := hdep.2.2
      rw [d8.1] at e114
      rw [d11.1] at e117
      rw [d16.1] at e122
      clear hb hb' hdep d8 d11 d16
      go_simp
      exact hK _ _ rfl (fun _ _ _ h => h) hJ
    · intro done us W hJ hdep haft hnot b hb hb' K hK Q'
      simp only [List.getD_cons_succ, List.getD_cons_zero, List.mem_cons, List.not_mem_nil, or_false, forall_eq_or_imp, forall_eq] at hdep
      have e114 := hb 8 114 rfl
      have e123 := hb 17 123 rfl
      have d8 := hdep.1
      have d17 := hdep.2
      rw [d8.1] at e114
      rw [d17.1] at e123
      clear hb hb' hdep d8 d17
      go_simp
      exact hK _ _ rfl (fun _ _ _ h => h) hJ
  · intro us W hV hJ
    exact hend (us 0) (us 1) (us 2) (us 3) (us 4) (us 5) (us 6) (us 7) (us 8) (us 9) (us 10) (us 11) (us 12) (us 13) (us 14) (us 15) (us 16) (us 17) (us 18) W (hV 0 (by omega)) (hV 1 (by omega)) (hV 2 (by omega)) (hV 3 (by omega)) (hV 4 (by omega)) (hV 5 (by omega)) (hV 6 (by omega)) (hV 7 (by omega)) (hV 8 (by omega)) (hV 9 (by omega)) (hV 10 (by omega)) (hV 11 (by omega)) (hV 12 (by omega)) (hV 13 (by omega)) (hV 14 (by omega)) (hV 15 (by omega)) (hV 16 (by omega)) (hV 17 (by omega)) (hV 18 (by omega)) hJ

set_option maxRecDepth 100000 in
set_option maxHeartbeats 8000000 in
theorem topTransfer_walk (A : Option Addr) (n c : Nat) (win : Int) (B : Option Addr) (m d : Nat) (xss : List (List Int)) (rs : List (List Flt)) (w : World) (hL : Lists .u8 w A n xss ∧ n ≤ c ∧ c ≤ 9223372036854775807) (hR : FltLs w B m rs ∧ m ≤ d ∧ d ≤ 9223372036854775807) :
    Calls Try.prog 17 #[.slice A n c, .int .i64 win, .slice B m d] w fun e w' => e = .returned (.bool true) ∧ Ext w w' := by
  obtain ⟨hL, hnc, hcm⟩ := hL
  obtain ⟨hR, hmd, hdm⟩ := hR
  have HL := Lib.hid hL
  have HXL := Lib.hid hL.len
  have HR := Lib.hid hR
  have HRL := Lib.hid hR.1
  have HX := Lib.hid (Ext.refl w)
  clear hL hR
  by_cases hbad : 20 < n ∨ win < 1 ∨ 64 < win ∨ 70 < m
  · go_enter Try.func17, Try.ntmps17
    by_cases h1 : 20 < n
    · clear hbad
      go_wp2_with fail
      refine (links_any _).mono ?_
      rintro e w9 ⟨rfl, hX9⟩
      have HX9 := Lib.hid (HX.out.trans hX9)
      clear hX9
      go_wp2
      go_ret
      exact ⟨rfl, HX9.out⟩
    by_cases h2 : win < 1
    · clear hbad
      go_wp2_with fail
      refine (links_any _).mono ?_
      rintro e w9 ⟨rfl, hX9⟩
      have HX9 := Lib.hid (HX.out.trans hX9)
      clear hX9
      go_wp2
      go_ret
      exact ⟨rfl, HX9.out⟩
    by_cases h3 : 64 < win
    · clear hbad
      go_wp2_with fail
      refine (links_any _).mono ?_
      rintro e w9 ⟨rfl, hX9⟩
      have HX9 := Lib.hid (HX.out.trans hX9)
      clear hX9
      go_wp2
      go_ret
      exact ⟨rfl, HX9.out⟩
    have h4 : 70 < m := by omega
    clear hbad
    go_wp2_with fail
    refine (links_any _).mono ?_
    rintro e w9 ⟨rfl, hX9⟩
    have HX9 := Lib.hid (HX.out.trans hX9)
    clear hX9
    go_wp2
    go_ret
    exact ⟨rfl, HX9.out⟩
  have hn20 : n ≤ 20 := by omega
  have hw1 : 1 ≤ win := by omega
  have hw2 : win ≤ 64 := by omega
  have hm70 : m ≤ 70 := by omega
  clear hbad
  go_enter Try.func17, Try.ntmps17
  go_wp2_with fail
  go_loopg [35] n (fun f iv wr => ∃ k : Nat, f = n - k ∧ k ≤ n ∧ iv = .int .i64 (k : Int) ∧ Hid (∀ x ∈ xss.take k, x.length ≤ 200) ∧ w = wr)
  case atStart => exact ⟨0, rfl, by omega, rfl, Lib.hid (by simp), rfl⟩
  case round =>
    obtain ⟨k, rfl, hk, rfl, HA, rfl⟩ := hrel
    by_cases hlt : k < n
    · obtain ⟨b, off, A6, n6, c6, x, rfl, hx6, hc6, hI6, hn6, hm6⟩ := HL.out.get hlt
      have HXK := Lib.hid hx6
      have HI1 := Lib.hid hI6.1
      clear hx6 hI6
      by_cases h6 : 200 < n6
      · go_wp2_with fail
        refine (links_any _).mono ?_
        rintro e w9 ⟨rfl, hX9⟩
        have HX9 := Lib.hid (HX.out.trans hX9)
        clear hX9
        go_wp2
        go_ret
        exact ⟨rfl, HX9.out⟩
      · go_wp2
        go_roundg (n - (k + 1))
        case rel =>
          refine ⟨k + 1, rfl, by omega, by go_num, Lib.hid fun y hy => ?_, rfl⟩
          rw [List.take_add_one, HXK.out] at hy
          rcases List.mem_append.1 hy with hy | hy
          · exact HA.out y hy
          · simp at hy; subst hy; rw [HI1.out]; omega
        case measure => omega
    · have HXX : Hid (∀ x ∈ xss, x.length ≤ 200) := Lib.hid (by
        have h1 := HA.out
        rwa [List.take_of_length_le (by rw [HXL.out]; omega)] at h1)
      clear HA
      go_wp2_with fail
      go_loopg [9, 10] 64 (fun f qv iv wr => ∃ (k q : Nat), f = 64 - k ∧ k ≤ 64 ∧ q ≤ k ∧ qv = .int .i64 (q : Int) ∧ iv = .int .i64 (k : Int) ∧ Hid (q = quietN rs k) ∧ Hid (∀ j, j < k → (rs.getD j []).length ≤ 8) ∧ w = wr)
      case atStart => exact ⟨0, 0, rfl, by omega, by omega, rfl, rfl, Lib.hid rfl, Lib.hid (by intro j hj; omega), rfl⟩
      case round =>
        obtain ⟨k, q, rfl, hk, hqk, rfl, rfl, HQ, HS8, rfl⟩ := hrel
        by_cases hk64 : k < 64
        · by_cases hkm : k < m
          · obtain ⟨b, off, A6, n6, c6, fl, rfl, hf6, hc6, hF6⟩ := HR.out.get hkm
            have hfg : rs.getD k [] = fl := by simp [List.getD, hf6]
            have hl6 := hF6.1
            have HFG := Lib.hid hfg
            have HF6L := Lib.hid hl6
            clear hf6 hF6 hfg hl6
            by_cases h0 : n6 = 0
            · subst h0
              have HQ2 : Hid (q + 1 = quietN rs (k + 1)) := Lib.hid (by unfold quietN; rw [if_pos (by rw [HFG.out]; exact HF6L.out), ← HQ.out])
              go_wp2
              go_roundg (64 - (k + 1))
              case rel =>
                refine ⟨k + 1, q + 1, rfl, by omega, by omega, by go_num, by go_num, HQ2, Lib.hid fun j hj => ?_, rfl⟩
                rcases Nat.lt_or_ge j k with h | h
                · exact HS8.out j h
                · obtain rfl : j = k := by omega
                  rw [HFG.out, HF6L.out]; omega
              case measure => omega
            · have g0 : ((n6 : Int) == 0) = false := by simpa using h0
              by_cases h8 : 8 < n6
              · go_wp2_with fail
                refine (links_any _).mono ?_
                rintro e w9 ⟨rfl, hX9⟩
                have HX9 := Lib.hid (HX.out.trans hX9)
                clear hX9
                go_wp2
                go_ret
                exact ⟨rfl, HX9.out⟩
              · have HQ2 : Hid (q = quietN rs (k + 1)) := Lib.hid (by unfold quietN; rw [if_neg (by rw [HFG.out, HF6L.out]; exact h0), ← HQ.out]; rfl)
                go_wp2
                go_roundg (64 - (k + 1))
                case rel =>
                  refine ⟨k + 1, q, rfl, by omega, by omega, rfl, by go_num, HQ2, Lib.hid fun j hj => ?_, rfl⟩
                  rcases Nat.lt_or_ge j k with h | h
                  · exact HS8.out j h
                  · obtain rfl : j = k := by omega
                    rw [HFG.out, HF6L.out]; omega
                case measure => omega
          · have hfg : rs.getD k [] = [] := by simp [List.getD, List.getElem?_eq_none (by rw [HRL.out]; omega : rs.length ≤ k)]
            have HFG := Lib.hid hfg
            have HQ2 : Hid (q + 1 = quietN rs (k + 1)) := Lib.hid (by unfold quietN; rw [if_pos (by rw [hfg]; rfl), ← HQ.out])
            clear hfg
            go_wp2
            go_roundg (64 - (k + 1))
            case rel =>
              refine ⟨k + 1, q + 1, rfl, by omega, by omega, by go_num, by go_num, HQ2, Lib.hid fun j hj => ?_, rfl⟩
              rcases Nat.lt_or_ge j k with h | h
              · exact HS8.out j h
              · obtain rfl : j = k := by omega
                rw [HFG.out]; simp
            case measure => omega
        · obtain rfl : k = 64 := by omega
          have HR8 : Hid (∀ k, k < 64 → (rs.getD k []).length ≤ 1000) := Lib.hid fun j hj => by have := HS8.out j hj; omega
          have HBY : Hid (∀ x ∈ xss, x.length ≤ 1000000 ∧ ∀ y ∈ x, (Lit.int .u8 y).wf = true) := Lib.hid fun x hx => ⟨by have := HXX.out x hx; omega, lists_byte HL.out x hx⟩
          have HBD : Hid (¬ BadS 0 win) := Lib.hid (by unfold BadS; omega)
          clear hk64
          go_wp2_with fail
          refine (foreign_any A n c win B m d xss rs _ HL.out (by omega) HR.out (by omega) HR8.out HBY.out HBD.out).mono ?_
          rintro e w2 ⟨bq, rfl, hG, hX2⟩
          replace HX := Lib.hid (HX.out.trans hX2)
          have HG := Lib.hid hG
          clear hG hX2
          by_cases hbt : bq = true
          · subst hbt
            go_wp2_with fail
            refine (links_any _).mono ?_
            rintro e w9 ⟨rfl, hX9⟩
            have HX9 := Lib.hid (HX.out.trans hX9)
            clear hX9
            go_wp2
            go_ret
            exact ⟨rfl, HX9.out⟩
          have hbf : bq = false := by simpa using hbt
          subst hbf
          have hlaw := transR_top (fun x hx => ⟨by have := HXX.out x hx; omega, (HBY.out x hx).2⟩) (by rw [HXL.out]; omega) HBD.out (HG.out rfl)
          obtain ⟨L, N, hrt, hLn, hN64, hqu⟩ := hlaw
          have HRT := Lib.hid hrt
          have HQU := Lib.hid hqu
          rw [HXL.out] at hLn
          clear hrt hqu hbt HG
          go_wp2_with fail
          refine (transferP_any A n c win B m d xss rs _ (HL.out.ext HX.out) (by omega) (FltLs.ext HR.out HX.out) (by omega) HR8.out HBY.out).mono ?_
          rw [HRT.out]
          rintro e w3 ⟨A7, c7, rfl, hD7, hX3⟩
          simp only [wantTs_len] at hD7 ⊢
          have HD7 := Lib.hid hD7
          replace HX := Lib.hid (HX.out.trans hX3)
          clear hD7 hX3
          go_wp2_with fail
          go_loopg [101] L (fun f iv wr => ∃ k : Nat, f = L - k ∧ k ≤ L ∧ iv = .int .i64 (k : Int) ∧ Hid (Ext w3 wr))
          case atStart => exact ⟨0, rfl, by omega, rfl, Lib.hid (Ext.refl _)⟩
          case round =>
            obtain ⟨i, rfl, hi, rfl, HX3⟩ := hrel
            by_cases hil : i < L
            · obtain ⟨b7, o7, x7, A5, n5, c5, rfl, hx7, a0, a1, a2, hI5, hc5, hm5⟩ := (HD7.out.ext HX3.out).get hil
              rw [wantTs_get xss hil] at hx7
              injection hx7 with hx7
              subst hx7
              obtain ⟨bb, ob, A6, n6, c6, xs6, rfl, hx6, hc6, hI6, hn6, hm6⟩ := (HL.out.ext (HX.out.trans HX3.out)).get (by omega : i < n)
              have hbe : (wantT xss i).body = xs6 := by simp [wantT, List.getD, hx6]
              have hlo : (wantT xss i).lost = false := rfl
              have hsq : (wantT xss i).seq = (i : Int) := rfl
              rw [hbe] at hI5
              rw [hlo] at a2
              rw [hsq] at a0
              have HI5 := Lib.hid hI5
              have HI6 := Lib.hid hI6
              clear hbe hlo hsq hx6 hI5 hI6
              go_upto_region 25 with (fail)
              clear a0 a1 a2
              have hXa : Ext wr (wr.alloc (.cells #[.int .i64 (i : Int), .slice A5 n5 c5, .bool false] 72)) := (Ext.refl _).alloc _
              have kb := Blk.new wr 72 #[.int .i64 (i : Int), .slice A5 n5 c5, .bool false]
              obtain ⟨gd, hgd⟩ : ∃ gd, wr.heap.size = gd := ⟨_, rfl⟩
              generalize hwe : wr.alloc (.cells #[.int .i64 (i : Int), .slice A5 n5 c5, .bool false] 72) = w7 at hXa kb ⊢
              rw [hgd] at kb ⊢
              clear hwe hgd
              replace HI5 := Lib.hid (HI5.out.ext hXa)
              replace HI6 := Lib.hid (HI6.out.ext hXa)
              have hc6' := hXa.cell hc6
              have HX4 := Lib.hid (HX3.out.trans hXa)
              refine top_r25 gd bb ob n c i A5 n5 c5 A6 n6 c6 xs6 _ w7 (kb.cell 0) (kb.cell 1) (kb.cell 2) hc6' HI5.out HI6.out (Lib.hid rfl) (by omega) _ _ (by simp) rfl rfl rfl ?_
              rintro xv0 xv1 xv2 xv3 xv4 xv5 xv6 xv7 xv8 xv9 xv10 xv11 xv12 xv13 xv14 xv15 xv16 xv17 xv18 W rfl rfl rfl rfl rfl rfl rfl rfl rfl rfl rfl rfl rfl rfl rfl rfl rfl rfl rfl hXW
              simp only [rops, Try.f17, regOf, Option.bind_some, Nat.reduceBEq, if_true, if_false, Bool.false_eq_true, Option.getD_some, List.drop_succ_cons, List.drop_zero]
              simp only [Act.put, List.setIfInBounds_toArray, List.set_cons_succ, List.set_cons_zero]
              have HX5 := Lib.hid (HX4.out.trans hXW)
              clear hXW hXa kb hc6' hc6
              go_wp2
              go_roundg (L - (i + 1))
              case rel => exact ⟨i + 1, rfl, by omega, by go_num, HX5⟩
              case measure => omega
            · obtain rfl : i = L := by omega
              replace HX := Lib.hid (HX.out.trans HX3.out)
              obtain ⟨z, hz⟩ : ∃ z : Int, (q : Int) * win = z := ⟨_, rfl⟩
              have hz0 : 0 ≤ z ∧ z ≤ 4096 := by
                rw [← hz]
                have a1 : (q : Int) * win ≤ (q : Int) * 64 := Int.mul_le_mul_of_nonneg_left hw2 (by omega)
                have a2 : 0 ≤ (q : Int) * win := Int.mul_nonneg (by omega) (by omega)
                omega
              have hzl : i < n → z ≤ (i : Int) := fun h => by
                have h1 := HQU.out (by rw [HXL.out]; exact h)
                rw [← HQ.out, hz] at h1
                exact h1
              have hzw : IntKind.i64.wrap z = z := IntWalk.i64_in _ (by omega)
              have hqq : IntKind.i64.wrap ((q : Int) * win) = z := by rw [hz]; exact hzw
              clear hz
              by_cases hzn : z < (n : Int)
              · have g1 : decide (z < (n : Int)) = true := decide_eq_true hzn
                clear hzl hil
                go_wp2_with fail
                refine (links_any _).mono ?_
                rintro e w9 ⟨rfl, hX9⟩
                have HX9 := Lib.hid (HX.out.trans hX9)
                clear hX9
                go_wp2
                go_ret
                exact ⟨rfl, HX9.out⟩
              · have hin : i = n := by omega
                subst hin
                have g1 : decide (z < (i : Int)) = false := decide_eq_false hzn
                clear hzl hil
                go_wp2_with fail
                refine (links_any _).mono ?_
                rintro e w9 ⟨rfl, hX9⟩
                have HX9 := Lib.hid (HX.out.trans hX9)
                clear hX9
                go_wp2
                go_ret
                exact ⟨rfl, HX9.out⟩

end Go.Proofs.Ytekhmfliaojabaa
