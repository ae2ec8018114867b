/- Lemmas of the proof that follows (TopTransfer, part 5): walks of functions by contract, and plain lemmas. Conditions: none. -/
import Derived.Test.YtekhmfliaojabaaTopTransferD
namespace Go.Proofs.Ytekhmfliaojabaa
open Go.RowKit

theorem SndR.find_ {base : Nat} {w : World} {g : Nat} {v : Value} {s : Snd} (h : SndR base w g v s) (q : Nat) (hq : q < s.bodies.length) :
    ∃ gb c A n cc, v = .slice (some ⟨gb, 0, none⟩) s.bodies.length c ∧ w.cell? ⟨gb, q, none⟩ = some (.slice A n cc) ∧ OwnS .u8 5 base w A n cc (s.bodies.getD q []) := by
  obtain ⟨vs, ho, hF⟩ := h.row
  obtain ⟨A, c, rfl⟩ := own_slice ho
  obtain ⟨gb, rfl, _, _⟩ := own_block ho (by omega)
  have hx : s.bodies[q]? = some (s.bodies.getD q []) := by simp [List.getD, List.getElem?_eq_getElem hq]
  obtain ⟨u, hu, A', n, cc, rfl, hO⟩ := hF.get' hx
  have hl : q < vs.length := (List.getElem?_eq_some_iff.1 hu).1
  exact ⟨gb, c, A', n, cc, rfl, (ho.cellAt q (by have := ho.1; omega)).trans hu, hO⟩
theorem SndR.slice {base : Nat} {w : World} {g : Nat} {v : Value} {s : Snd} (h : SndR base w g v s) : ∃ A c, v = .slice A s.bodies.length c := by obtain ⟨vs, ho, _⟩ := h.row; exact own_slice ho
theorem SndR.put3 {base : Nat} {w : World} {g t : Nat} {s : Snd} {v : Value} {T : TypeId} {cs : Array Value} (h : SndR base w g v s) (hT : Blk w t T cs) (h1 : T ≠ 118) (h2 : T ≠ 5) (h3 : T ≠ 22) (x y z : Value) : SndR base (((w.setCell ⟨t, 0, none⟩ x).setCell ⟨t, 1, none⟩ y).setCell ⟨t, 2, none⟩ z) g v s := by
  have hn : ∀ T', T ≠ T' → ∀ k ∈ [t], NoRow T' w k := by intro T' hT' k hk; simp at hk; subst hk; exact NoRow.of_blk hT hT'
  exact h.keeps (Keeps.put3 [t] w (by simp) x y z) (hn _ h1) (hn _ h3) (hn _ h2)

set_option maxRecDepth 100000 in
set_option maxHeartbeats 2000000 in
theorem frameR_r1 (g gb nl c z : Nat) (st : Int) (Ab : Option Addr) (n cb : Nat) (xs : List Int) (w : World) (f0 : w.cell? ⟨g, 0, none⟩ = some (.int .i64 st)) (f3 : w.cell? ⟨g, 3, none⟩ = some (.slice (some ⟨gb, 0, none⟩) nl c)) (fz : w.cell? ⟨gb, z, none⟩ = some (.slice Ab n cb)) (hz : z < nl) (hI : Ints .u8 w Ab n xs) (hc1 : n ≤ cb) (hc2 : cb ≤ 9223372036854775807) (hn : n ≤ 1000000) (a : Act) (Q : Exit → Act → World → Prop) (hsize : 20 ≤ a.tmps.size)
    (s0 : a.tmps[0]? = some (.pointer (some ⟨g, 0, none⟩)))
    (s1 : a.tmps[1]? = some (.int .i64 (z : Int)))
    (hend : ∀ (xv0 xv1 xv2 xv3 xv4 xv5 xv6 xv7 xv8 xv9 xv10 xv11 xv12 xv13 xv14 : Value) (W : World), (xv0 = .pointer (some ⟨g, 0, none⟩)) → (xv1 = .pointer (some ⟨g, 0, none⟩)) → (xv2 = .pointer (some ⟨g, 0, none⟩)) → (xv3 = .int .i64 st) → (xv4 = .int .i64 (z : Int)) → (xv5 = .pointer (some ⟨g, 0, none⟩)) → (xv6 = .pointer (some ⟨g, 0, none⟩)) → (xv7 = .pointer (some ⟨g, 3, none⟩)) → (xv8 = .slice (some ⟨gb, 0, none⟩) nl c) → (xv9 = .int .i64 (z : Int)) → (xv10 = .pointer (some ⟨gb, z, none⟩)) → (xv11 = .slice Ab n cb) → (∃ A', xv12 = .slice A' 1 1 ∧ Lists .u8 W A' 1 [xs]) → (BodyV w.heap.size W xv13 (xs)) → (FrM w.heap.size W xv14 st z xs) → Ext w W → wpList Try.prog (rops Try.f76 1).toArray Q ((rops Try.f76 1).drop 15) (((((((((((((((a.put (some 5) xv0).put (some 6) xv1).put (some 7) xv2).put (some 8) xv3).put (some 9) xv4).put (some 10) xv5).put (some 11) xv6).put (some 12) xv7).put (some 13) xv8).put (some 14) xv9).put (some 15) xv10).put (some 16) xv11).put (some 17) xv12).put (some 18) xv13).put (some 19) xv14) W) :
    (Code.region 1 (rops Try.f76 1).toArray true).wp Try.prog Q a w := by
  have hmono : ∀ (W W' : World) (j : Nat) (u : Value), Ext W W' → (fun (i : Nat) (v : Value) (W : World) => match i with
    | 0 => v = .pointer (some ⟨g, 0, none⟩)
    | 1 => v = .pointer (some ⟨g, 0, none⟩)
    | 2 => v = .pointer (some ⟨g, 0, none⟩)
    | 3 => v = .int .i64 st
    | 4 => v = .int .i64 (z : Int)
    | 5 => v = .pointer (some ⟨g, 0, none⟩)
    | 6 => v = .pointer (some ⟨g, 0, none⟩)
    | 7 => v = .pointer (some ⟨g, 3, none⟩)
    | 8 => v = .slice (some ⟨gb, 0, none⟩) nl c
    | 9 => v = .int .i64 (z : Int)
    | 10 => v = .pointer (some ⟨gb, z, none⟩)
    | 11 => v = .slice Ab n cb
    | 12 => ∃ A', v = .slice A' 1 1 ∧ Lists .u8 W A' 1 [xs]
    | 13 => BodyV w.heap.size W v (xs)
    | 14 => FrM w.heap.size W v st z xs
    | _ => True) j u W → (fun (i : Nat) (v : Value) (W : World) => match i with
    | 0 => v = .pointer (some ⟨g, 0, none⟩)
    | 1 => v = .pointer (some ⟨g, 0, none⟩)
    | 2 => v = .pointer (some ⟨g, 0, none⟩)
    | 3 => v = .int .i64 st
    | 4 => v = .int .i64 (z : Int)
    | 5 => v = .pointer (some ⟨g, 0, none⟩)
    | 6 => v = .pointer (some ⟨g, 0, none⟩)
    | 7 => v = .pointer (some ⟨g, 3, none⟩)
    | 8 => v = .slice (some ⟨gb, 0, none⟩) nl c
    | 9 => v = .int .i64 (z : Int)
    | 10 => v = .pointer (some ⟨gb, z, none⟩)
    | 11 => v = .slice Ab n cb
    | 12 => ∃ A', v = .slice A' 1 1 ∧ Lists .u8 W A' 1 [xs]
    | 13 => BodyV w.heap.size W v (xs)
    | 14 => FrM w.heap.size W v st z xs
    | _ => True) j u W' := by
    intro W W' j u hX h
    match j, h with
    | 0, h => exact h
    | 1, h => exact h
    | 2, h => exact h
    | 3, h => exact h
    | 4, h => exact h
    | 5, h => exact h
    | 6, h => exact h
    | 7, h => exact h
    | 8, h => exact h
    | 9, h => exact h
    | 10, h => exact h
    | 11, h => exact h
    | 12, h => obtain ⟨A', h1, h2⟩ := h; exact ⟨A', h1, h2.ext hX⟩
    | 13, h => exact BodyV.ext h hX
    | 14, h => exact FrM.ext h hX
    | _ + 15, h => exact h
  have hsz : ∀ d, some d ∈ ([some 5, some 6, some 7, some 8, some 9, some 10, some 11, some 12, some 13, some 14, some 15, some 16, some 17, some 18, some 19] : List (Option Tmp)) → d < a.tmps.size := slots_lt (by decide) hsize
  refine wp_region_j 15 [some 5, some 6, some 7, some 8, some 9, some 10, some 11, some 12, some 13, some 14, some 15, some 16, some 17, some 18, some 19] [[], [0], [1], [2], [], [], [5], [6], [7], [], [8, 9], [10], [11], [12], [3, 4, 13]] [[], [], [], [], [], [], [], [], [], [], [], [], [], [], []] (fun (i : Nat) (v : Value) (W : World) => match i with
    | 0 => v = .pointer (some ⟨g, 0, none⟩)
    | 1 => v = .pointer (some ⟨g, 0, none⟩)
    | 2 => v = .pointer (some ⟨g, 0, none⟩)
    | 3 => v = .int .i64 st
    | 4 => v = .int .i64 (z : Int)
    | 5 => v = .pointer (some ⟨g, 0, none⟩)
    | 6 => v = .pointer (some ⟨g, 0, none⟩)
    | 7 => v = .pointer (some ⟨g, 3, none⟩)
    | 8 => v = .slice (some ⟨gb, 0, none⟩) nl c
    | 9 => v = .int .i64 (z : Int)
    | 10 => v = .pointer (some ⟨gb, z, none⟩)
    | 11 => v = .slice Ab n cb
    | 12 => ∃ A', v = .slice A' 1 1 ∧ Lists .u8 W A' 1 [xs]
    | 13 => BodyV w.heap.size W v (xs)
    | 14 => FrM w.heap.size W v st z xs
    | _ => True) (fun _ W => Ext w W) (by kernel_rfl) (by kernel_rfl) hsz (fun _ _ _ _ h => h) ((Ext.refl w).drew) ?_ ?_
  · clear hend
    simp only [rops, Try.f76, regOf, Option.bind_some, Nat.reduceBEq, if_true, if_false, Bool.false_eq_true, Option.getD_some]
    simp only [List.take_succ_cons, List.take_zero]
    refine ⟨?_, ?_, ?_, ?_, ?_, ?_, ?_, ?_, ?_, ?_, ?_, ?_, ?_, ?_, ?_, trivial⟩
    · intro done us W hJ hdep haft hnot b hb hb' K hK Q'
      have e0 := (hb' 0 (by simp)).trans s0
      clear hb hb'
      go_simp
      exact hK _ _ rfl (fun _ _ _ h => h) hJ
    · intro done us W hJ hdep haft hnot b hb hb' K hK Q'
      simp only [List.getD_cons_succ, List.getD_cons_zero, List.mem_cons, List.not_mem_nil, or_false, forall_eq_or_imp, forall_eq] at hdep
      have e5 := hb 0 5 rfl
      have d0 := hdep
      rw [d0.1] at e5
      clear hb hb' hdep d0
      go_simp
      exact hK _ _ rfl (fun _ _ _ h => h) hJ
    · intro done us W hJ hdep haft hnot b hb hb' K hK Q'
      simp only [List.getD_cons_succ, List.getD_cons_zero, List.mem_cons, List.not_mem_nil, or_false, forall_eq_or_imp, forall_eq] at hdep
      have e6 := hb 1 6 rfl
      have d1 := hdep
      rw [d1.1] at e6
      clear hb hb' hdep d1
      go_simp
      exact hK _ _ rfl (fun _ _ _ h => h) hJ
    · intro done us W hJ hdep haft hnot b hb hb' K hK Q'
      simp only [List.getD_cons_succ, List.getD_cons_zero, List.mem_cons, List.not_mem_nil, or_false, forall_eq_or_imp, forall_eq] at hdep
      have e7 := hb 2 7 rfl
      have d2 := hdep
      rw [d2.1] at e7
      clear hb hb' hdep d2
      have q := Ext.cell hJ f0
      go_simp
      exact hK _ _ rfl (fun _ _ _ h => h) hJ
    · intro done us W hJ hdep haft hnot b hb hb' K hK Q'
      have e1 := (hb' 1 (by simp)).trans s1
      clear hb hb'
      go_simp
      exact hK _ _ rfl (fun _ _ _ h => h) hJ
    · intro done us W hJ hdep haft hnot b hb hb' K hK Q'
      have e0 := (hb' 0 (by simp)).trans s0
      clear hb hb'
      go_simp
      exact hK _ _ rfl (fun _ _ _ h => h) hJ
    · intro done us W hJ hdep haft hnot b hb hb' K hK Q'
      simp only [List.getD_cons_succ, List.getD_cons_zero, List.mem_cons, List.not_mem_nil, or_false, forall_eq_or_imp, forall_eq] at hdep
      have e10 := hb 5 10 rfl
      have d5 := hdep
      rw [d5.1] at e10
      clear hb hb' hdep d5
      go_simp
      exact hK _ _ rfl (fun _ _ _ h => h) hJ
    · intro done us W hJ hdep haft hnot b hb hb' K hK Q'
      simp only [List.getD_cons_succ, List.getD_cons_zero, List.mem_cons, List.not_mem_nil, or_false, forall_eq_or_imp, forall_eq] at hdep
      have e11 := hb 6 11 rfl
      have d6 := hdep
      rw [d6.1] at e11
      clear hb hb' hdep d6
      go_simp
      exact hK _ _ rfl (fun _ _ _ h => h) hJ
    · intro done us W hJ hdep haft hnot b hb hb' K hK Q'
      simp only [List.getD_cons_succ, List.getD_cons_zero, List.mem_cons, List.not_mem_nil, or_false, forall_eq_or_imp, forall_eq] at hdep
      have e12 := hb 7 12 rfl
      have d7 := hdep
      rw [d7.1] at e12
      clear hb hb' hdep d7
      have q := Ext.cell hJ f3
      go_simp
      exact hK _ _ rfl (fun _ _ _ h => h) hJ
    · intro done us W hJ hdep haft hnot b hb hb' K hK Q'
      have e1 := (hb' 1 (by simp)).trans s1
      clear hb hb'
      go_simp
      exact hK _ _ rfl (fun _ _ _ h => h) hJ
    · intro done us W hJ hdep haft hnot b hb hb' K hK Q'
      simp only [List.getD_cons_succ, List.getD_cons_zero, List.mem_cons, List.not_mem_nil, or_false, forall_eq_or_imp, forall_eq] at hdep
      have e13 := hb 8 13 rfl
      have e14 := hb 9 14 rfl
      have d8 := hdep.1
      have d9 := hdep.2
      rw [d8.1] at e13
      rw [d9.1] at e14
      clear hb hb' hdep d8 d9
      go_simp
      exact hK _ _ rfl (fun _ _ _ h => h) hJ
    · intro done us W hJ hdep haft hnot b hb hb' K hK Q'
      simp only [List.getD_cons_succ, List.getD_cons_zero, List.mem_cons, List.not_mem_nil, or_false, forall_eq_or_imp, forall_eq] at hdep
      have e15 := hb 10 15 rfl
      have d10 := hdep
      rw [d10.1] at e15
      clear hb hb' hdep d10
      have q := Ext.cell hJ fz
      go_simp
      exact hK _ _ rfl (fun _ _ _ h => h) hJ
    · intro done us W hJ hdep haft hnot b hb hb' K hK Q'
      simp only [List.getD_cons_succ, List.getD_cons_zero, List.mem_cons, List.not_mem_nil, or_false, forall_eq_or_imp, forall_eq] at hdep
      have e16 := hb 11 16 rfl
      have d11 := hdep
      rw [d11.1] at e16
      clear hb hb' hdep d11
      have hl1 := lists_one (W := W) (v := .slice Ab n cb) (xs := xs) (⟨Ab, n, cb, rfl, hI.ext hJ, hc1, hc2⟩)
      go_simp
      exact hK _ _ ⟨_, rfl, hl1⟩ (fun j u _ h => hmono _ _ j u ((Ext.refl _).alloc _) h) (Ext.alloc hJ _)
    · intro done us W hJ hdep haft hnot b hb hb' K hK Q'
      simp only [List.getD_cons_succ, List.getD_cons_zero, List.mem_cons, List.not_mem_nil, or_false, forall_eq_or_imp, forall_eq] at hdep
      have e17 := hb 12 17 rfl
      have d12 := hdep
      clear hb hb' hdep 
      obtain ⟨A', e', hl⟩ := d12.1
      rw [e'] at e17
      go_simp
      refine (joined_any A' 1 1 _ W hl (by omega) (by rw [flat_one]; exact by rw [hI.1]; omega)).mono ?_
      rintro e w' ⟨A2, n2, c2, rfl, ho, hX⟩
      rw [flat_one] at ho
      exact hK _ _ ⟨A2, n2, c2, rfl, ho.mono (Ext.size hJ)⟩ (fun j u _ h => hmono _ _ j u hX h) (Ext.trans hJ hX)
    · intro done us W hJ hdep haft hnot b hb hb' K hK Q'
      simp only [List.getD_cons_succ, List.getD_cons_zero, List.mem_cons, List.not_mem_nil, or_false, forall_eq_or_imp, forall_eq] at hdep
      have e8 := hb 3 8 rfl
      have e9 := hb 4 9 rfl
      have e18 := hb 13 18 rfl
      have d3 := hdep.1
      have d4 := hdep.2.1
      have d13 := hdep.2.2
      rw [d3.1] at e8
      rw [d4.1] at e9
      clear hb hb' hdep d3 d4
      obtain ⟨A', n', c', e', ho⟩ := d13.1
      rw [e'] at e18
      go_simp
      exact hK _ _ ⟨A', n', c', rfl, ho⟩ (fun _ _ _ h => h) hJ
  · intro us W hV hJ
    exact hend (us 0) (us 1) (us 2) (us 3) (us 4) (us 5) (us 6) (us 7) (us 8) (us 9) (us 10) (us 11) (us 12) (us 13) (us 14) W (hV 0 (by omega)) (hV 1 (by omega)) (hV 2 (by omega)) (hV 3 (by omega)) (hV 4 (by omega)) (hV 5 (by omega)) (hV 6 (by omega)) (hV 7 (by omega)) (hV 8 (by omega)) (hV 9 (by omega)) (hV 10 (by omega)) (hV 11 (by omega)) (hV 12 (by omega)) (hV 13 (by omega)) (hV 14 (by omega)) hJ
set_option maxRecDepth 100000 in
set_option maxHeartbeats 2000000 in
theorem frameR_any (base g : Nat) (v : Value) (q : Nat) (s : Snd) (w : World) (h : SndR base w g v s) (h2 : q < s.bodies.length) :
    Calls Try.prog 76 #[.pointer (some ⟨g, 0, none⟩), .int .i64 (q : Int)] w (fun e w' => ∃ v, e = .returned v ∧ FrVO w.heap.size w' v ⟨s.stream, q, s.bodies.getD q []⟩ ∧ Ext w w') := by
  obtain ⟨gb, c, Ab, n, cb, rfl, hc, hO⟩ := h.find_ q h2
  have hb : n ≤ 1024 := by
    have hm := (h.ok.body (s.bodies.getD q []) (by simp [List.getD, List.getElem?_eq_getElem h2])).1
    have := hO.len
    omega
  have HC : Hid (w.cell? ⟨gb, q, none⟩ = some (.slice Ab n cb)) := hc
  have HI := Lib.hid hO.ints
  have hcap := hO.cap
  have HB := Lib.hid h.blk
  clear hO hc h
  have hXe : Ext w (w.alloc (.cells #[.int .i64 0, .int .i64 0, .slice none 0 0] 38)) := ((Ext.refl w).alloc _)
  have kt : Blk (w.alloc (.cells #[.int .i64 0, .int .i64 0, .slice none 0 0] 38)) w.heap.size 38 #[.int .i64 0, .int .i64 0, .slice none 0 0] := Blk.at_ (by simp)
  go_enter Try.func76, Try.ntmps76
  go_wp2_with fail
  generalize (w.alloc (.cells #[.int .i64 0, .int .i64 0, .slice none 0 0] 38)) = w1 at hXe kt ⊢
  have HX := Lib.hid hXe
  clear hXe
  have Kt := Lib.hid kt
  clear kt
  replace HI := Lib.hid (HI.out.ext HX.out)
  replace HB := Lib.hid (HB.out.ext HX.out)
  have HY := HX
  refine frameR_r1 g gb s.bodies.length c q s.stream Ab n cb (s.bodies.getD q []) w1 (HB.out.cell 0) (HB.out.cell 3) (HX.out.cell HC.out) h2 HI.out hcap.1 hcap.2 (by omega) _ _ (by simp) rfl rfl ?_
  rintro xv0 xv1 xv2 xv3 xv4 xv5 xv6 xv7 xv8 xv9 xv10 xv11 xv12 xv13 xv14 w2 rfl rfl rfl rfl rfl rfl rfl rfl rfl rfl rfl rfl _ _ ⟨A2, n2, c2, rfl, ho2⟩ hXW
  simp only [rops, Try.f76, regOf, Option.bind_some, Nat.reduceBEq, if_true, if_false, Bool.false_eq_true, Option.getD_some, List.drop_succ_cons, List.drop_zero]
  simp only [Act.put, List.setIfInBounds_toArray, List.set_cons_succ, List.set_cons_zero]
  replace HX := Lib.hid (HX.out.trans hXW)
  replace HI := Lib.hid (HI.out.ext hXW)
  replace HB := Lib.hid (HB.out.ext hXW)
  replace Kt := Lib.hid (Kt.out.ext hXW)
  clear hXW
  have HO := Lib.hid ho2
  clear ho2
  have ct0 : w2.cell? ⟨w.heap.size, 0, none⟩ = some (.int .i64 0) := Kt.out.cell 0
  have ft0 : w2.frozen? ⟨w.heap.size, 0, none⟩ = false := Kt.out.free 0
  have ct1 : w2.cell? ⟨w.heap.size, 1, none⟩ = some (.int .i64 0) := Kt.out.cell 1
  have ft1 : w2.frozen? ⟨w.heap.size, 1, none⟩ = false := Kt.out.free 1
  have ct2 : w2.cell? ⟨w.heap.size, 2, none⟩ = some (.slice none 0 0) := Kt.out.cell 2
  have ft2 : w2.frozen? ⟨w.heap.size, 2, none⟩ = false := Kt.out.free 2
  go_wp2
  refine bodyPost_ret (v := .agg #[.int .i64 s.stream, .int .i64 (q : Int), .slice A2 n2 c2]) (by simp [results, Try.results76, go_sem, *]) rfl ?_
  exact ⟨_, rfl, ⟨A2, n2, c2, rfl, (HO.out.put3 Kt.out (by decide) _ _ _).mono (by have := HY.out.size; omega)⟩, ((HX.out.setCell (Nat.le_refl _) _).setCell (Nat.le_refl _) _).setCell (Nat.le_refl _) _⟩

set_option maxRecDepth 100000 in
set_option maxHeartbeats 2000000 in
theorem offerR_r3n (g na nl z : Nat) (wn : Int) (A0 : Option Addr) (c0 : Nat) (w : World) (f1 : w.cell? ⟨g, 1, none⟩ = some (.int .i64 wn)) (f2 : w.cell? ⟨g, 2, none⟩ = some (.int .i64 (na : Int))) (f3 : w.cell? ⟨g, 3, none⟩ = some (.slice A0 nl c0)) (hz : Hid (nl = na + z)) (hn : nl ≤ 1000000) (hw : (z : Int) < wn) (a : Act) (Q : Exit → Act → World → Prop) (hsize : 25 ≤ a.tmps.size)
    (s0 : a.tmps[0]? = some (.pointer (some ⟨g, 0, none⟩)))
    (hend : ∀ (xv0 xv1 xv2 xv3 xv4 xv5 xv6 xv7 xv8 xv9 xv10 xv11 xv12 xv13 xv14 : Value) (W : World), (xv0 = .pointer (some ⟨g, 0, none⟩)) → (xv1 = .pointer (some ⟨g, 0, none⟩)) → (xv2 = .pointer (some ⟨g, 3, none⟩)) → (xv3 = .slice A0 nl c0) → (xv4 = .int .i64 (nl : Int)) → (xv5 = .pointer (some ⟨g, 0, none⟩)) → (xv6 = .pointer (some ⟨g, 0, none⟩)) → (xv7 = .pointer (some ⟨g, 2, none⟩)) → (xv8 = .int .i64 (na : Int)) → (xv9 = .int .i64 (z : Int)) → (xv10 = .pointer (some ⟨g, 0, none⟩)) → (xv11 = .pointer (some ⟨g, 0, none⟩)) → (xv12 = .pointer (some ⟨g, 1, none⟩)) → (xv13 = .int .i64 wn) → (xv14 = .bool false) → Ext w W → wpList Try.prog (rops Try.f37 3).toArray Q ((rops Try.f37 3).drop 15) (((((((((((((((a.put (some 10) xv0).put (some 11) xv1).put (some 12) xv2).put (some 13) xv3).put (some 14) xv4).put (some 15) xv5).put (some 16) xv6).put (some 17) xv7).put (some 18) xv8).put (some 19) xv9).put (some 20) xv10).put (some 21) xv11).put (some 22) xv12).put (some 23) xv13).put (some 24) xv14) W) :
    (Code.region 3 (rops Try.f37 3).toArray true).wp Try.prog Q a w := by
  have hmono : ∀ (W W' : World) (j : Nat) (u : Value), Ext W W' → (fun (i : Nat) (v : Value) (W : World) => match i with
    | 0 => v = .pointer (some ⟨g, 0, none⟩)
    | 1 => v = .pointer (some ⟨g, 0, none⟩)
    | 2 => v = .pointer (some ⟨g, 3, none⟩)
    | 3 => v = .slice A0 nl c0
    | 4 => v = .int .i64 (nl : Int)
    | 5 => v = .pointer (some ⟨g, 0, none⟩)
    | 6 => v = .pointer (some ⟨g, 0, none⟩)
    | 7 => v = .pointer (some ⟨g, 2, none⟩)
    | 8 => v = .int .i64 (na : Int)
    | 9 => v = .int .i64 (z : Int)
    | 10 => v = .pointer (some ⟨g, 0, none⟩)
    | 11 => v = .pointer (some ⟨g, 0, none⟩)
    | 12 => v = .pointer (some ⟨g, 1, none⟩)
    | 13 => v = .int .i64 wn
    | 14 => v = .bool false
    | _ => True) j u W → (fun (i : Nat) (v : Value) (W : World) => match i with
    | 0 => v = .pointer (some ⟨g, 0, none⟩)
    | 1 => v = .pointer (some ⟨g, 0, none⟩)
    | 2 => v = .pointer (some ⟨g, 3, none⟩)
    | 3 => v = .slice A0 nl c0
    | 4 => v = .int .i64 (nl : Int)
    | 5 => v = .pointer (some ⟨g, 0, none⟩)
    | 6 => v = .pointer (some ⟨g, 0, none⟩)
    | 7 => v = .pointer (some ⟨g, 2, none⟩)
    | 8 => v = .int .i64 (na : Int)
    | 9 => v = .int .i64 (z : Int)
    | 10 => v = .pointer (some ⟨g, 0, none⟩)
    | 11 => v = .pointer (some ⟨g, 0, none⟩)
    | 12 => v = .pointer (some ⟨g, 1, none⟩)
    | 13 => v = .int .i64 wn
    | 14 => v = .bool false
    | _ => True) j u W' := by
    intro W W' j u hX h
    match j, h with
    | 0, h => exact h
    | 1, h => exact h
    | 2, h => exact h
    | 3, h => exact h
    | 4, h => exact h
    | 5, h => exact h
    | 6, h => exact h
    | 7, h => exact h
    | 8, h => exact h
    | 9, h => exact h
    | 10, h => exact h
    | 11, h => exact h
    | 12, h => exact h
    | 13, h => exact h
    | 14, h => exact h
    | _ + 15, h => exact h
  have hsz : ∀ d, some d ∈ ([some 10, some 11, some 12, some 13, some 14, some 15, some 16, some 17, some 18, some 19, some 20, some 21, some 22, some 23, some 24] : List (Option Tmp)) → d < a.tmps.size := slots_lt (by decide) hsize
  refine wp_region_j 15 [some 10, some 11, some 12, some 13, some 14, some 15, some 16, some 17, some 18, some 19, some 20, some 21, some 22, some 23, some 24] [[], [0], [1], [2], [3], [], [5], [6], [7], [4, 8], [], [10], [11], [12], [9, 13]] [[], [], [], [], [], [], [], [], [], [], [], [], [], [], []] (fun (i : Nat) (v : Value) (W : World) => match i with
    | 0 => v = .pointer (some ⟨g, 0, none⟩)
    | 1 => v = .pointer (some ⟨g, 0, none⟩)
    | 2 => v = .pointer (some ⟨g, 3, none⟩)
    | 3 => v = .slice A0 nl c0
    | 4 => v = .int .i64 (nl : Int)
    | 5 => v = .pointer (some ⟨g, 0, none⟩)
    | 6 => v = .pointer (some ⟨g, 0, none⟩)
    | 7 => v = .pointer (some ⟨g, 2, none⟩)
    | 8 => v = .int .i64 (na : Int)
    | 9 => v = .int .i64 (z : Int)
    | 10 => v = .pointer (some ⟨g, 0, none⟩)
    | 11 => v = .pointer (some ⟨g, 0, none⟩)
    | 12 => v = .pointer (some ⟨g, 1, none⟩)
    | 13 => v = .int .i64 wn
    | 14 => v = .bool false
    | _ => True) (fun _ W => Ext w W) (by kernel_rfl) (by kernel_rfl) hsz (fun _ _ _ _ h => h) ((Ext.refl w).drew) ?_ ?_
  · clear hend
    simp only [rops, Try.f37, regOf, Option.bind_some, Nat.reduceBEq, if_true, if_false, Bool.false_eq_true, Option.getD_some]
    simp only [List.take_succ_cons, List.take_zero]
    refine ⟨?_, ?_, ?_, ?_, ?_, ?_, ?_, ?_, ?_, ?_, ?_, ?_, ?_, ?_, ?_, trivial⟩
    · intro done us W hJ hdep haft hnot b hb hb' K hK Q'
      have e0 := (hb' 0 (by simp)).trans s0
      clear hb hb'
      go_simp
      exact hK _ _ rfl (fun _ _ _ h => h) hJ
    · intro done us W hJ hdep haft hnot b hb hb' K hK Q'
      simp only [List.getD_cons_succ, List.getD_cons_zero, List.mem_cons, List.not_mem_nil, or_false, forall_eq_or_imp, forall_eq] at hdep
      have e10 := hb 0 10 rfl
      have d0 := hdep
      rw [d0.1] at e10
      clear hb hb' hdep d0
      go_simp
      exact hK _ _ rfl (fun _ _ _ h => h) hJ
    · intro done us W hJ hdep haft hnot b hb hb' K hK Q'
      simp only [List.getD_cons_succ, List.getD_cons_zero, List.mem_cons, List.not_mem_nil, or_false, forall_eq_or_imp, forall_eq] at hdep
      have e11 := hb 1 11 rfl
      have d1 := hdep
      rw [d1.1] at e11
      clear hb hb' hdep d1
      go_simp
      exact hK _ _ rfl (fun _ _ _ h => h) hJ
    · intro done us W hJ hdep haft hnot b hb hb' K hK Q'
      simp only [List.getD_cons_succ, List.getD_cons_zero, List.mem_cons, List.not_mem_nil, or_false, forall_eq_or_imp, forall_eq] at hdep
      have e12 := hb 2 12 rfl
      have d2 := hdep
      rw [d2.1] at e12
      clear hb hb' hdep d2
      have q := Ext.cell hJ f3
      go_simp
      exact hK _ _ rfl (fun _ _ _ h => h) hJ
    · intro done us W hJ hdep haft hnot b hb hb' K hK Q'
      simp only [List.getD_cons_succ, List.getD_cons_zero, List.mem_cons, List.not_mem_nil, or_false, forall_eq_or_imp, forall_eq] at hdep
      have e13 := hb 3 13 rfl
      have d3 := hdep
      rw [d3.1] at e13
      clear hb hb' hdep d3
      go_simp
      exact hK _ _ rfl (fun _ _ _ h => h) hJ
    · intro done us W hJ hdep haft hnot b hb hb' K hK Q'
      have e0 := (hb' 0 (by simp)).trans s0
      clear hb hb'
      go_simp
      exact hK _ _ rfl (fun _ _ _ h => h) hJ
    · intro done us W hJ hdep haft hnot b hb hb' K hK Q'
      simp only [List.getD_cons_succ, List.getD_cons_zero, List.mem_cons, List.not_mem_nil, or_false, forall_eq_or_imp, forall_eq] at hdep
      have e15 := hb 5 15 rfl
      have d5 := hdep
      rw [d5.1] at e15
      clear hb hb' hdep d5
      go_simp
      exact hK _ _ rfl (fun _ _ _ h => h) hJ
    · intro done us W hJ hdep haft hnot b hb hb' K hK Q'
      simp only [List.getD_cons_succ, List.getD_cons_zero, List.mem_cons, List.not_mem_nil, or_false, forall_eq_or_imp, forall_eq] at hdep
      have e16 := hb 6 16 rfl
      have d6 := hdep
      rw [d6.1] at e16
      clear hb hb' hdep d6
      go_simp
      exact hK _ _ rfl (fun _ _ _ h => h) hJ
    · intro done us W hJ hdep haft hnot b hb hb' K hK Q'
      simp only [List.getD_cons_succ, List.getD_cons_zero, List.mem_cons, List.not_mem_nil, or_false, forall_eq_or_imp, forall_eq] at hdep
      have e17 := hb 7 17 rfl
      have d7 := hdep
      rw [d7.1] at e17
      clear hb hb' hdep d7
      have q := Ext.cell hJ f2
      go_simp
      exact hK _ _ rfl (fun _ _ _ h => h) hJ
    · intro done us W hJ hdep haft hnot b hb hb' K hK Q'
      simp only [List.getD_cons_succ, List.getD_cons_zero, List.mem_cons, List.not_mem_nil, or_false, forall_eq_or_imp, forall_eq] at hdep
      have e14 := hb 4 14 rfl
      have e18 := hb 8 18 rfl
      have d4 := hdep.1
      have d8 := hdep.2
      rw [d4.1] at e14
      rw [d8.1] at e18
      clear hb hb' hdep d4 d8
      have qw : IntKind.i64.wrap ((nl : Int) - (na : Int)) = (z : Int) := (IntWalk.i64_in _ (by have := hz.out; omega)).trans (by have := hz.out; omega)
      go_simp
      exact hK _ _ rfl (fun _ _ _ h => h) hJ
    · intro done us W hJ hdep haft hnot b hb hb' K hK Q'
      have e0 := (hb' 0 (by simp)).trans s0
      clear hb hb'
      go_simp
      exact hK _ _ rfl (fun _ _ _ h => h) hJ
    · intro done us W hJ hdep haft hnot b hb hb' K hK Q'
      simp only [List.getD_cons_succ, List.getD_cons_zero, List.mem_cons, List.not_mem_nil, or_false, forall_eq_or_imp, forall_eq] at hdep
      have e20 := hb 10 20 rfl
      have d10 := hdep
      rw [d10.1] at e20
      clear hb hb' hdep d10
      go_simp
      exact hK _ _ rfl (fun _ _ _ h => h) hJ
    · intro done us W hJ hdep haft hnot b hb hb' K hK Q'
      simp only [List.getD_cons_succ, List.getD_cons_zero, List.mem_cons, List.not_mem_nil, or_false, forall_eq_or_imp, forall_eq] at hdep
      have e21 := hb 11 21 rfl
      have d11 := hdep
      rw [d11.1] at e21
      clear hb hb' hdep d11
      go_simp
      exact hK _ _ rfl (fun _ _ _ h => h) hJ
    · intro done us W hJ hdep haft hnot b hb hb' K hK Q'
      simp only [List.getD_cons_succ, List.getD_cons_zero, List.mem_cons, List.not_mem_nil, or_false, forall_eq_or_imp, forall_eq] at hdep
      have e22 := hb 12 22 rfl
      have d12 := hdep
      rw [d12.1] at e22
      clear hb hb' hdep d12
      have q := Ext.cell hJ f1
      go_simp
      exact hK _ _ rfl (fun _ _ _ h => h) hJ
    · intro done us W hJ hdep haft hnot b hb hb' K hK Q'
      simp only [List.getD_cons_succ, List.getD_cons_zero, List.mem_cons, List.not_mem_nil, or_false, forall_eq_or_imp, forall_eq] at hdep
      have e19 := hb 9 19 rfl
      have e23 := hb 13 23 rfl
      have d9 := hdep.1
      have d13 := hdep.2
      rw [d9.1] at e19
      rw [d13.1] at e23
      clear hb hb' hdep d9 d13
      go_simp
      exact hK _ _ (by first | rfl | (congr 1; exact decide_eq_false (by omega))) (fun _ _ _ h => h) hJ
  · intro us W hV hJ
    exact hend (us 0) (us 1) (us 2) (us 3) (us 4) (us 5) (us 6) (us 7) (us 8) (us 9) (us 10) (us 11) (us 12) (us 13) (us 14) W (hV 0 (by omega)) (hV 1 (by omega)) (hV 2 (by omega)) (hV 3 (by omega)) (hV 4 (by omega)) (hV 5 (by omega)) (hV 6 (by omega)) (hV 7 (by omega)) (hV 8 (by omega)) (hV 9 (by omega)) (hV 10 (by omega)) (hV 11 (by omega)) (hV 12 (by omega)) (hV 13 (by omega)) (hV 14 (by omega)) hJ
set_option maxRecDepth 100000 in
set_option maxHeartbeats 2000000 in
theorem offerR_r3y (g na nl z : Nat) (wn : Int) (A0 : Option Addr) (c0 : Nat) (w : World) (f1 : w.cell? ⟨g, 1, none⟩ = some (.int .i64 wn)) (f2 : w.cell? ⟨g, 2, none⟩ = some (.int .i64 (na : Int))) (f3 : w.cell? ⟨g, 3, none⟩ = some (.slice A0 nl c0)) (hz : Hid (nl = na + z)) (hn : nl ≤ 1000000) (hw : wn ≤ (z : Int)) (a : Act) (Q : Exit → Act → World → Prop) (hsize : 25 ≤ a.tmps.size)
    (s0 : a.tmps[0]? = some (.pointer (some ⟨g, 0, none⟩)))
    (hend : ∀ (xv0 xv1 xv2 xv3 xv4 xv5 xv6 xv7 xv8 xv9 xv10 xv11 xv12 xv13 xv14 : Value) (W : World), (xv0 = .pointer (some ⟨g, 0, none⟩)) → (xv1 = .pointer (some ⟨g, 0, none⟩)) → (xv2 = .pointer (some ⟨g, 3, none⟩)) → (xv3 = .slice A0 nl c0) → (xv4 = .int .i64 (nl : Int)) → (xv5 = .pointer (some ⟨g, 0, none⟩)) → (xv6 = .pointer (some ⟨g, 0, none⟩)) → (xv7 = .pointer (some ⟨g, 2, none⟩)) → (xv8 = .int .i64 (na : Int)) → (xv9 = .int .i64 (z : Int)) → (xv10 = .pointer (some ⟨g, 0, none⟩)) → (xv11 = .pointer (some ⟨g, 0, none⟩)) → (xv12 = .pointer (some ⟨g, 1, none⟩)) → (xv13 = .int .i64 wn) → (xv14 = .bool true) → Ext w W → wpList Try.prog (rops Try.f37 3).toArray Q ((rops Try.f37 3).drop 15) (((((((((((((((a.put (some 10) xv0).put (some 11) xv1).put (some 12) xv2).put (some 13) xv3).put (some 14) xv4).put (some 15) xv5).put (some 16) xv6).put (some 17) xv7).put (some 18) xv8).put (some 19) xv9).put (some 20) xv10).put (some 21) xv11).put (some 22) xv12).put (some 23) xv13).put (some 24) xv14) W) :
    (Code.region 3 (rops Try.f37 3).toArray true).wp Try.prog Q a w := by
  have hmono : ∀ (W W' : World) (j : Nat) (u : Value), Ext W W' → (fun (i : Nat) (v : Value) (W : World) => match i with
    | 0 => v = .pointer (some ⟨g, 0, none⟩)
    | 1 => v = .pointer (some ⟨g, 0, none⟩)
    | 2 => v = .pointer (some ⟨g, 3, none⟩)
    | 3 => v = .slice A0 nl c0
    | 4 => v = .int .i64 (nl : Int)
    | 5 => v = .pointer (some ⟨g, 0, none⟩)
    | 6 => v = .pointer (some ⟨g, 0, none⟩)
    | 7 => v = .pointer (some ⟨g, 2, none⟩)
    | 8 => v = .int .i64 (na : Int)
    | 9 => v = .int .i64 (z : Int)
    | 10 => v = .pointer (some ⟨g, 0, none⟩)
    | 11 => v = .pointer (some ⟨g, 0, none⟩)
    | 12 => v = .pointer (some ⟨g, 1, none⟩)
    | 13 => v = .int .i64 wn
    | 14 => v = .bool true
    | _ => True) j u W → (fun (i : Nat) (v : Value) (W : World) => match i with
    | 0 => v = .pointer (some ⟨g, 0, none⟩)
    | 1 => v = .pointer (some ⟨g, 0, none⟩)
    | 2 => v = .pointer (some ⟨g, 3, none⟩)
    | 3 => v = .slice A0 nl c0
    | 4 => v = .int .i64 (nl : Int)
    | 5 => v = .pointer (some ⟨g, 0, none⟩)
    | 6 => v = .pointer (some ⟨g, 0, none⟩)
    | 7 => v = .pointer (some ⟨g, 2, none⟩)
    | 8 => v = .int .i64 (na : Int)
    | 9 => v = .int .i64 (z : Int)
    | 10 => v = .pointer (some ⟨g, 0, none⟩)
    | 11 => v = .pointer (some ⟨g, 0, none⟩)
    | 12 => v = .pointer (some ⟨g, 1, none⟩)
    | 13 => v = .int .i64 wn
    | 14 => v = .bool true
    | _ => True) j u W' := by
    intro W W' j u hX h
    match j, h with
    | 0, h => exact h
    | 1, h => exact h
    | 2, h => exact h
    | 3, h => exact h
    | 4, h => exact h
    | 5, h => exact h
    | 6, h => exact h
    | 7, h => exact h
    | 8, h => exact h
    | 9, h => exact h
    | 10, h => exact h
    | 11, h => exact h
    | 12, h => exact h
    | 13, h => exact h
    | 14, h => exact h
    | _ + 15, h => exact h
  have hsz : ∀ d, some d ∈ ([some 10, some 11, some 12, some 13, some 14, some 15, some 16, some 17, some 18, some 19, some 20, some 21, some 22, some 23, some 24] : List (Option Tmp)) → d < a.tmps.size := slots_lt (by decide) hsize
  refine wp_region_j 15 [some 10, some 11, some 12, some 13, some 14, some 15, some 16, some 17, some 18, some 19, some 20, some 21, some 22, some 23, some 24] [[], [0], [1], [2], [3], [], [5], [6], [7], [4, 8], [], [10], [11], [12], [9, 13]] [[], [], [], [], [], [], [], [], [], [], [], [], [], [], []] (fun (i : Nat) (v : Value) (W : World) => match i with
    | 0 => v = .pointer (some ⟨g, 0, none⟩)
    | 1 => v = .pointer (some ⟨g, 0, none⟩)
    | 2 => v = .pointer (some ⟨g, 3, none⟩)
    | 3 => v = .slice A0 nl c0
    | 4 => v = .int .i64 (nl : Int)
    | 5 => v = .pointer (some ⟨g, 0, none⟩)
    | 6 => v = .pointer (some ⟨g, 0, none⟩)
    | 7 => v = .pointer (some ⟨g, 2, none⟩)
    | 8 => v = .int .i64 (na : Int)
    | 9 => v = .int .i64 (z : Int)
    | 10 => v = .pointer (some ⟨g, 0, none⟩)
    | 11 => v = .pointer (some ⟨g, 0, none⟩)
    | 12 => v = .pointer (some ⟨g, 1, none⟩)
    | 13 => v = .int .i64 wn
    | 14 => v = .bool true
    | _ => True) (fun _ W => Ext w W) (by kernel_rfl) (by kernel_rfl) hsz (fun _ _ _ _ h => h) ((Ext.refl w).drew) ?_ ?_
  · clear hend
    simp only [rops, Try.f37, regOf, Option.bind_some, Nat.reduceBEq, if_true, if_false, Bool.false_eq_true, Option.getD_some]
    simp only [List.take_succ_cons, List.take_zero]
    refine ⟨?_, ?_, ?_, ?_, ?_, ?_, ?_, ?_, ?_, ?_, ?_, ?_, ?_, ?_, ?_, trivial⟩
    · intro done us W hJ hdep haft hnot b hb hb' K hK Q'
      have e0 := (hb' 0 (by simp)).trans s0
      clear hb hb'
      go_simp
      exact hK _ _ rfl (fun _ _ _ h => h) hJ
    · intro done us W hJ hdep haft hnot b hb hb' K hK Q'
      simp only [List.getD_cons_succ, List.getD_cons_zero, List.mem_cons, List.not_mem_nil, or_false, forall_eq_or_imp, forall_eq] at hdep
      have e10 := hb 0 10 rfl
      have d0 := hdep
      rw [d0.1] at e10
      clear hb hb' hdep d0
      go_simp
      exact hK _ _ rfl (fun _ _ _ h => h) hJ
    · intro done us W hJ hdep haft hnot b hb hb' K hK Q'
      simp only [List.getD_cons_succ, List.getD_cons_zero, List.mem_cons, List.not_mem_nil, or_false, forall_eq_or_imp, forall_eq] at hdep
      have e11 := hb 1 11 rfl
      have d1 := hdep
      rw [d1.1] at e11
      clear hb hb' hdep d1
      go_simp
      exact hK _ _ rfl (fun _ _ _ h => h) hJ
    · intro done us W hJ hdep haft hnot b hb hb' K hK Q'
      simp only [List.getD_cons_succ, List.getD_cons_zero, List.mem_cons, List.not_mem_nil, or_false, forall_eq_or_imp, forall_eq] at hdep
      have e12 := hb 2 12 rfl
      have d2 := hdep
      rw [d2.1] at e12
      clear hb hb' hdep d2
      have q := Ext.cell hJ f3
      go_simp
      exact hK _ _ rfl (fun _ _ _ h => h) hJ
    · intro done us W hJ hdep haft hnot b hb hb' K hK Q'
      simp only [List.getD_cons_succ, List.getD_cons_zero, List.mem_cons, List.not_mem_nil, or_false, forall_eq_or_imp, forall_eq] at hdep
      have e13 := hb 3 13 rfl
      have d3 := hdep
      rw [d3.1] at e13
      clear hb hb' hdep d3
      go_simp
      exact hK _ _ rfl (fun _ _ _ h => h) hJ
    · intro done us W hJ hdep haft hnot b hb hb' K hK Q'
      have e0 := (hb' 0 (by simp)).trans s0
      clear hb hb'
      go_simp
      exact hK _ _ rfl (fun _ _ _ h => h) hJ
    · intro done us W hJ hdep haft hnot b hb hb' K hK Q'
      simp only [List.getD_cons_succ, List.getD_cons_zero, List.mem_cons, List.not_mem_nil, or_false, forall_eq_or_imp, forall_eq] at hdep
      have e15 := hb 5 15 rfl
      have d5 := hdep
      rw [d5.1] at e15
      clear hb hb' hdep d5
      go_simp
      exact hK _ _ rfl (fun _ _ _ h => h) hJ
    · intro done us W hJ hdep haft hnot b hb hb' K hK Q'
      simp only [List.getD_cons_succ, List.getD_cons_zero, List.mem_cons, List.not_mem_nil, or_false, forall_eq_or_imp, forall_eq] at hdep
      have e16 := hb 6 16 rfl
      have d6 := hdep
      rw [d6.1] at e16
      clear hb hb' hdep d6
      go_simp
      exact hK _ _ rfl (fun _ _ _ h => h) hJ
    · intro done us W hJ hdep haft hnot b hb hb' K hK Q'
      simp only [List.getD_cons_succ, List.getD_cons_zero, List.mem_cons, List.not_mem_nil, or_false, forall_eq_or_imp, forall_eq] at hdep
      have e17 := hb 7 17 rfl
      have d7 := hdep
      rw [d7.1] at e17
      clear hb hb' hdep d7
      have q := Ext.cell hJ f2
      go_simp
      exact hK _ _ rfl (fun _ _ _ h => h) hJ
    · intro done us W hJ hdep haft hnot b hb hb' K hK Q'
      simp only [List.getD_cons_succ, List.getD_cons_zero, List.mem_cons, List.not_mem_nil, or_false, forall_eq_or_imp, forall_eq] at hdep
      have e14 := hb 4 14 rfl
      have e18 := hb 8 18 rfl
      have d4 := hdep.1
      have d8 := hdep.2
      rw [d4.1] at e14
      rw [d8.1] at e18
      clear hb hb' hdep d4 d8
      have qw : IntKind.i64.wrap ((nl : Int) - (na : Int)) = (z : Int) := (IntWalk.i64_in _ (by have := hz.out; omega)).trans (by have := hz.out; omega)
      go_simp
      exact hK _ _ rfl (fun _ _ _ h => h) hJ
    · intro done us W hJ hdep haft hnot b hb hb' K hK Q'
      have e0 := (hb' 0 (by simp)).trans s0
      clear hb hb'
      go_simp
      exact hK _ _ rfl (fun _ _ _ h => h) hJ
    · intro done us W hJ hdep haft hnot b hb hb' K hK Q'
      simp only [List.getD_cons_succ, List.getD_cons_zero, List.mem_cons, List.not_mem_nil, or_false, forall_eq_or_imp, forall_eq] at hdep
      have e20 := hb 10 20 rfl
      have d10 := hdep
      rw [d10.1] at e20
      clear hb hb' hdep d10
      go_simp
      exact hK _ _ rfl (fun _ _ _ h => h) hJ
    · intro done us W hJ hdep haft hnot b hb hb' K hK Q'
      simp only [List.getD_cons_succ, List.getD_cons_zero, List.mem_cons, List.not_mem_nil, or_false, forall_eq_or_imp, forall_eq] at hdep
      have e21 := hb 11 21 rfl
      have d11 := hdep
      rw [d11.1] at e21
      clear hb hb' hdep d11
      go_simp
      exact hK _ _ rfl (fun _ _ _ h => h) hJ
    · intro done us W hJ hdep haft hnot b hb hb' K hK Q'
      simp only [List.getD_cons_succ, List.getD_cons_zero, List.mem_cons, List.not_mem_nil, or_false, forall_eq_or_imp, forall_eq] at hdep
      have e22 := hb 12 22 rfl
      have d12 := hdep
      rw [d12.1] at e22
      clear hb hb' hdep d12
      have q := Ext.cell hJ f1
      go_simp
      exact hK _ _ rfl (fun _ _ _ h => h) hJ
    · intro done us W hJ hdep haft hnot b hb hb' K hK Q'
      simp only [List.getD_cons_succ, List.getD_cons_zero, List.mem_cons, List.not_mem_nil, or_false, forall_eq_or_imp, forall_eq] at hdep
      have e19 := hb 9 19 rfl
      have e23 := hb 13 23 rfl
      have d9 := hdep.1
      have d13 := hdep.2
      rw [d9.1] at e19
      rw [d13.1] at e23
      clear hb hb' hdep d9 d13
      go_simp
      exact hK _ _ (by first | rfl | (congr 1; exact decide_eq_true (by omega))) (fun _ _ _ h => h) hJ
  · intro us W hV hJ
    exact hend (us 0) (us 1) (us 2) (us 3) (us 4) (us 5) (us 6) (us 7) (us 8) (us 9) (us 10) (us 11) (us 12) (us 13) (us 14) W (hV 0 (by omega)) (hV 1 (by omega)) (hV 2 (by omega)) (hV 3 (by omega)) (hV 4 (by omega)) (hV 5 (by omega)) (hV 6 (by omega)) (hV 7 (by omega)) (hV 8 (by omega)) (hV 9 (by omega)) (hV 10 (by omega)) (hV 11 (by omega)) (hV 12 (by omega)) (hV 13 (by omega)) (hV 14 (by omega)) hJ
set_option maxRecDepth 100000 in
set_option maxHeartbeats 2000000 in
theorem offerR_r5 (base g nl : Nat) (A0 : Option Addr) (c0 : Nat) (Ab : Option Addr) (n c : Nat) (xs : List Int) (bs : List (List Int)) (vs : List Value) (w : World) (f3 : w.cell? ⟨g, 3, none⟩ = some (.slice A0 nl c0)) (hI : Ints .u8 w Ab n xs) (hc1 : n ≤ c) (hc2 : c ≤ 9223372036854775807) (hn : n ≤ 1000000) (hnl : nl ≤ 1000000) (hown : w.ownsRow base 22 1 (.slice A0 nl c0) nl vs) (hF : F2 (BodyV base w) vs bs) (hb : base ≤ w.heap.size) (hLb : ∀ k ∈ (Value.slice A0 nl c0).ownBlock.toList, k < w.heap.size) (a : Act) (Q : Exit → Act → World → Prop) (hsize : 38 ≤ a.tmps.size)
    (s0 : a.tmps[0]? = some (.pointer (some ⟨g, 0, none⟩)))
    (s1 : a.tmps[1]? = some (.slice Ab n c))
    (hend : ∀ (xv0 xv1 xv2 xv3 xv4 xv5 xv6 xv7 xv8 xv9 xv10 xv11 : Value) (W : World), (xv0 = .pointer (some ⟨g, 0, none⟩)) → (xv1 = .pointer (some ⟨g, 0, none⟩)) → (xv2 = .pointer (some ⟨g, 0, none⟩)) → (xv3 = .pointer (some ⟨g, 3, none⟩)) → (xv4 = .slice A0 nl c0) → (xv5 = .slice Ab n c) → (∃ g', xv6 = .slice (some ⟨g', 0, none⟩) 1 1 ∧ w.heap.size ≤ g' ∧ Blk W g' 22 #[.slice Ab n c]) → (BodyV w.heap.size W xv7 xs) → (∃ g', xv8 = .slice (some ⟨g', 0, none⟩) 1 1 ∧ w.heap.size ≤ g' ∧ ∃ u, Blk W g' 22 #[u] ∧ BodyV w.heap.size W u xs) → (∃ vs', W.ownsRow base 22 1 xv9 (nl + 1) vs' ∧ F2 (BodyV base W) vs' (bs ++ [xs])) → (xv10 = .pointer (some ⟨g, 0, none⟩)) → (xv11 = .pointer (some ⟨g, 3, none⟩)) → Keeps ((Value.slice A0 nl c0).ownBlock.toList) w W → wpList Try.prog (rops Try.f37 5).toArray Q ((rops Try.f37 5).drop 12) ((((((((((((a.put (some 26) xv0).put (some 27) xv1).put (some 28) xv2).put (some 29) xv3).put (some 30) xv4).put (some 31) xv5).put (some 32) xv6).put (some 33) xv7).put (some 34) xv8).put (some 35) xv9).put (some 36) xv10).put (some 37) xv11) W) :
    (Code.region 5 (rops Try.f37 5).toArray true).wp Try.prog Q a w := by
  have hmono : ∀ (W W' : World) (j : Nat) (u : Value), Ext W W' → (fun (i : Nat) (v : Value) (W : World) => match i with
    | 0 => v = .pointer (some ⟨g, 0, none⟩)
    | 1 => v = .pointer (some ⟨g, 0, none⟩)
    | 2 => v = .pointer (some ⟨g, 0, none⟩)
    | 3 => v = .pointer (some ⟨g, 3, none⟩)
    | 4 => v = .slice A0 nl c0
    | 5 => v = .slice Ab n c
    | 6 => ∃ g', v = .slice (some ⟨g', 0, none⟩) 1 1 ∧ w.heap.size ≤ g' ∧ Blk W g' 22 #[.slice Ab n c]
    | 7 => BodyV w.heap.size W v xs
    | 8 => ∃ g', v = .slice (some ⟨g', 0, none⟩) 1 1 ∧ w.heap.size ≤ g' ∧ ∃ u, Blk W g' 22 #[u] ∧ BodyV w.heap.size W u xs
    | 9 => ∃ vs', W.ownsRow base 22 1 v (nl + 1) vs' ∧ F2 (BodyV base W) vs' (bs ++ [xs])
    | 10 => v = .pointer (some ⟨g, 0, none⟩)
    | 11 => v = .pointer (some ⟨g, 3, none⟩)
    | _ => True) j u W → (fun (i : Nat) (v : Value) (W : World) => match i with
    | 0 => v = .pointer (some ⟨g, 0, none⟩)
    | 1 => v = .pointer (some ⟨g, 0, none⟩)
    | 2 => v = .pointer (some ⟨g, 0, none⟩)
    | 3 => v = .pointer (some ⟨g, 3, none⟩)
    | 4 => v = .slice A0 nl c0
    | 5 => v = .slice Ab n c
    | 6 => ∃ g', v = .slice (some ⟨g', 0, none⟩) 1 1 ∧ w.heap.size ≤ g' ∧ Blk W g' 22 #[.slice Ab n c]
    | 7 => BodyV w.heap.size W v xs
    | 8 => ∃ g', v = .slice (some ⟨g', 0, none⟩) 1 1 ∧ w.heap.size ≤ g' ∧ ∃ u, Blk W g' 22 #[u] ∧ BodyV w.heap.size W u xs
    | 9 => ∃ vs', W.ownsRow base 22 1 v (nl + 1) vs' ∧ F2 (BodyV base W) vs' (bs ++ [xs])
    | 10 => v = .pointer (some ⟨g, 0, none⟩)
    | 11 => v = .pointer (some ⟨g, 3, none⟩)
    | _ => True) j u W' := by
    intro W W' j u hX h
    match j, h with
    | 0, h => exact h
    | 1, h => exact h
    | 2, h => exact h
    | 3, h => exact h
    | 4, h => exact h
    | 5, h => exact h
    | 6, h => obtain ⟨g', h1, h2, h3⟩ := h; exact ⟨g', h1, h2, h3.ext hX⟩
    | 7, h => exact BodyV.ext h hX
    | 8, h => obtain ⟨g', h1, h2, u, h3, h4⟩ := h; exact ⟨g', h1, h2, u, h3.ext hX, h4.ext hX⟩
    | 9, h => obtain ⟨vs', h1, h2⟩ := h; exact ⟨vs', World.ownsRow.ext' h1 hX, h2.imp fun _ _ _ h => h.ext hX⟩
    | 10, h => exact h
    | 11, h => exact h
    | _ + 12, h => exact h
  have hmonoK : ∀ (W W' : World) (j : Nat) (u : Value), Keeps ((Value.slice A0 nl c0).ownBlock.toList) W W' → (∀ k ∈ ((Value.slice A0 nl c0).ownBlock.toList), NoRow 5 W k) → j ≠ 9 → (fun (i : Nat) (v : Value) (W : World) => match i with
    | 0 => v = .pointer (some ⟨g, 0, none⟩)
    | 1 => v = .pointer (some ⟨g, 0, none⟩)
    | 2 => v = .pointer (some ⟨g, 0, none⟩)
    | 3 => v = .pointer (some ⟨g, 3, none⟩)
    | 4 => v = .slice A0 nl c0
    | 5 => v = .slice Ab n c
    | 6 => ∃ g', v = .slice (some ⟨g', 0, none⟩) 1 1 ∧ w.heap.size ≤ g' ∧ Blk W g' 22 #[.slice Ab n c]
    | 7 => BodyV w.heap.size W v xs
    | 8 => ∃ g', v = .slice (some ⟨g', 0, none⟩) 1 1 ∧ w.heap.size ≤ g' ∧ ∃ u, Blk W g' 22 #[u] ∧ BodyV w.heap.size W u xs
    | 9 => ∃ vs', W.ownsRow base 22 1 v (nl + 1) vs' ∧ F2 (BodyV base W) vs' (bs ++ [xs])
    | 10 => v = .pointer (some ⟨g, 0, none⟩)
    | 11 => v = .pointer (some ⟨g, 3, none⟩)
    | _ => True) j u W → (fun (i : Nat) (v : Value) (W : World) => match i with
    | 0 => v = .pointer (some ⟨g, 0, none⟩)
    | 1 => v = .pointer (some ⟨g, 0, none⟩)
    | 2 => v = .pointer (some ⟨g, 0, none⟩)
    | 3 => v = .pointer (some ⟨g, 3, none⟩)
    | 4 => v = .slice A0 nl c0
    | 5 => v = .slice Ab n c
    | 6 => ∃ g', v = .slice (some ⟨g', 0, none⟩) 1 1 ∧ w.heap.size ≤ g' ∧ Blk W g' 22 #[.slice Ab n c]
    | 7 => BodyV w.heap.size W v xs
    | 8 => ∃ g', v = .slice (some ⟨g', 0, none⟩) 1 1 ∧ w.heap.size ≤ g' ∧ ∃ u, Blk W g' 22 #[u] ∧ BodyV w.heap.size W u xs
    | 9 => ∃ vs', W.ownsRow base 22 1 v (nl + 1) vs' ∧ F2 (BodyV base W) vs' (bs ++ [xs])
    | 10 => v = .pointer (some ⟨g, 0, none⟩)
    | 11 => v = .pointer (some ⟨g, 3, none⟩)
    | _ => True) j u W' := by
    intro W W' j u hk hN hne h
    match j, h with
    | 0, h => exact h
    | 1, h => exact h
    | 2, h => exact h
    | 3, h => exact h
    | 4, h => exact h
    | 5, h => exact h
    | 6, h => obtain ⟨g', h1, h2, h3⟩ := h; exact ⟨g', h1, h2, h3.keeps hk (fun hl => by have := hLb _ hl; omega)⟩
    | 7, h => exact BodyV.keeps h hk hN
    | 8, h => obtain ⟨g', h1, h2, u, h3, h4⟩ := h; exact ⟨g', h1, h2, u, h3.keeps hk (fun hl => by have := hLb _ hl; omega), h4.keeps hk hN⟩
    | 9, h => exact absurd rfl hne
    | 10, h => exact h
    | 11, h => exact h
    | _ + 12, h => exact h
  have hsz : ∀ d, some d ∈ ([some 26, some 27, some 28, some 29, some 30, some 31, some 32, some 33, some 34, some 35, some 36, some 37] : List (Option Tmp)) → d < a.tmps.size := slots_lt (by decide) hsize
  refine wp_region_j 12 [some 26, some 27, some 28, some 29, some 30, some 31, some 32, some 33, some 34, some 35, some 36, some 37] [[], [], [1], [2], [3], [], [5], [6], [7], [4, 8], [0], [10]] [[], [], [], [], [9], [], [], [9], [9], [], [], []] (fun (i : Nat) (v : Value) (W : World) => match i with
    | 0 => v = .pointer (some ⟨g, 0, none⟩)
    | 1 => v = .pointer (some ⟨g, 0, none⟩)
    | 2 => v = .pointer (some ⟨g, 0, none⟩)
    | 3 => v = .pointer (some ⟨g, 3, none⟩)
    | 4 => v = .slice A0 nl c0
    | 5 => v = .slice Ab n c
    | 6 => ∃ g', v = .slice (some ⟨g', 0, none⟩) 1 1 ∧ w.heap.size ≤ g' ∧ Blk W g' 22 #[.slice Ab n c]
    | 7 => BodyV w.heap.size W v xs
    | 8 => ∃ g', v = .slice (some ⟨g', 0, none⟩) 1 1 ∧ w.heap.size ≤ g' ∧ ∃ u, Blk W g' 22 #[u] ∧ BodyV w.heap.size W u xs
    | 9 => ∃ vs', W.ownsRow base 22 1 v (nl + 1) vs' ∧ F2 (BodyV base W) vs' (bs ++ [xs])
    | 10 => v = .pointer (some ⟨g, 0, none⟩)
    | 11 => v = .pointer (some ⟨g, 3, none⟩)
    | _ => True) (fun done W => Keeps ((Value.slice A0 nl c0).ownBlock.toList) w W ∧ (¬ done 9 → Ext w W)) (by kernel_rfl) (by kernel_rfl) hsz (fun p q W h hj => ⟨hj.1, fun hn => hj.2 fun hp => hn ((h _).1 hp)⟩) ⟨Keeps.of_ext (Ext.refl w).drew _, fun _ => (Ext.refl w).drew⟩ ?_ ?_
  · clear hend
    simp only [rops, Try.f37, regOf, Option.bind_some, Nat.reduceBEq, if_true, if_false, Bool.false_eq_true, Option.getD_some]
    simp only [List.take_succ_cons, List.take_zero]
    refine ⟨?_, ?_, ?_, ?_, ?_, ?_, ?_, ?_, ?_, ?_, ?_, ?_, trivial⟩
    · intro done us W hJ hdep haft hnot b hb hb' K hK Q'
      have e0 := (hb' 0 (by simp)).trans s0
      clear hb hb'
      go_simp
      exact hK _ _ rfl (fun _ _ _ h => h) ⟨hJ.1, fun h => hJ.2 fun d => h (.inl d)⟩
    · intro done us W hJ hdep haft hnot b hb hb' K hK Q'
      have e0 := (hb' 0 (by simp)).trans s0
      clear hb hb'
      go_simp
      exact hK _ _ rfl (fun _ _ _ h => h) ⟨hJ.1, fun h => hJ.2 fun d => h (.inl d)⟩
    · intro done us W hJ hdep haft hnot b hb hb' K hK Q'
      simp only [List.getD_cons_succ, List.getD_cons_zero, List.mem_cons, List.not_mem_nil, or_false, forall_eq_or_imp, forall_eq] at hdep
      have e27 := hb 1 27 rfl
      have d1 := hdep
      rw [d1.1] at e27
      clear hb hb' hdep d1
      go_simp
      exact hK _ _ rfl (fun _ _ _ h => h) ⟨hJ.1, fun h => hJ.2 fun d => h (.inl d)⟩
    · intro done us W hJ hdep haft hnot b hb hb' K hK Q'
      simp only [List.getD_cons_succ, List.getD_cons_zero, List.mem_cons, List.not_mem_nil, or_false, forall_eq_or_imp, forall_eq] at hdep
      have e28 := hb 2 28 rfl
      have d2 := hdep
      rw [d2.1] at e28
      clear hb hb' hdep d2
      go_simp
      exact hK _ _ rfl (fun _ _ _ h => h) ⟨hJ.1, fun h => hJ.2 fun d => h (.inl d)⟩
    · intro done us W hJ hdep haft hnot b hb hb' K hK Q'
      simp only [List.getD_cons_succ, List.getD_cons_zero, List.mem_cons, List.not_mem_nil, or_false, forall_eq_or_imp, forall_eq] at hdep
      simp only [List.getD_cons_succ, List.getD_cons_zero, List.mem_cons, List.not_mem_nil, or_false, forall_eq_or_imp, forall_eq] at haft
      have e29 := hb 3 29 rfl
      have d3 := hdep
      rw [d3.1] at e29
      clear hb hb' hdep d3
      have hJE := hJ.2 haft
      have q := Ext.cell hJE f3
      go_simp
      exact hK _ _ rfl (fun _ _ _ h => h) ⟨hJ.1, fun h => hJ.2 fun d => h (.inl d)⟩
    · intro done us W hJ hdep haft hnot b hb hb' K hK Q'
      have e1 := (hb' 1 (by simp)).trans s1
      clear hb hb'
      go_simp
      exact hK _ _ rfl (fun _ _ _ h => h) ⟨hJ.1, fun h => hJ.2 fun d => h (.inl d)⟩
    · intro done us W hJ hdep haft hnot b hb hb' K hK Q'
      simp only [List.getD_cons_succ, List.getD_cons_zero, List.mem_cons, List.not_mem_nil, or_false, forall_eq_or_imp, forall_eq] at hdep
      have e31 := hb 5 31 rfl
      have d5 := hdep
      rw [d5.1] at e31
      clear hb hb' hdep d5
      have hb1 := Blk.new W 22 #[.slice Ab n c]
      have hX := (Ext.refl W).alloc (.cells #[.slice Ab n c] 22)
      have hs := hJ.1.size
      go_simp
      exact hK _ _ (⟨_, rfl, hs, hb1⟩) (fun j u _ h => hmono _ _ j u hX h) ⟨hJ.1.trans (Keeps.of_ext hX _), fun h => (hJ.2 fun d => h (.inl d)).trans hX⟩
    · intro done us W hJ hdep haft hnot b hb hb' K hK Q'
      simp only [List.getD_cons_succ, List.getD_cons_zero, List.mem_cons, List.not_mem_nil, or_false, forall_eq_or_imp, forall_eq] at hdep
      simp only [List.getD_cons_succ, List.getD_cons_zero, List.mem_cons, List.not_mem_nil, or_false, forall_eq_or_imp, forall_eq] at haft
      have e32 := hb 6 32 rfl
      have d6 := hdep
      clear hb hb' hdep 
      have hJE := hJ.2 haft
      obtain ⟨g', e', hg', hb1⟩ := d6.1
      rw [e'] at e32
      have hl : Lists .u8 W (some ⟨g', 0, none⟩) 1 [xs] := Lists.one (fun _ => ⟨g', 0, rfl, fun j u hu => by match j with | 0 => (simp at hu; subst hu; exact hb1.cell 0) | j + 1 => simp at hu⟩) ⟨Ab, n, c, rfl, hI.ext hJE, hc1, hc2⟩
      go_simp
      refine (joined_any _ 1 1 _ W hl (by omega) (by rw [flat_one, hI.1]; omega)).mono ?_
      rintro e w' ⟨A2, n2, c2, rfl, ho, hX⟩
      rw [flat_one] at ho
      exact hK _ _ (⟨A2, n2, c2, rfl, ho.mono (Ext.size hJE)⟩) (fun j u _ h => hmono _ _ j u hX h) ⟨hJ.1.trans (Keeps.of_ext hX _), fun h => (hJ.2 fun d => h (.inl d)).trans hX⟩
    · intro done us W hJ hdep haft hnot b hb hb' K hK Q'
      simp only [List.getD_cons_succ, List.getD_cons_zero, List.mem_cons, List.not_mem_nil, or_false, forall_eq_or_imp, forall_eq] at hdep
      simp only [List.getD_cons_succ, List.getD_cons_zero, List.mem_cons, List.not_mem_nil, or_false, forall_eq_or_imp, forall_eq] at haft
      have e33 := hb 7 33 rfl
      have d7 := hdep
      clear hb hb' hdep 
      have hJE := hJ.2 haft
      obtain ⟨A', n', c', e', ho⟩ := d7.1
      rw [e'] at e33
      have hb1 := Blk.new W 22 #[.slice A' n' c']
      have hX := (Ext.refl W).alloc (.cells #[.slice A' n' c'] 22)
      have hs := Ext.size hJE
      have hv : BodyV w.heap.size (W.alloc (.cells #[.slice A' n' c'] 22)) (.slice A' n' c') xs := ⟨A', n', c', rfl, ho.ext hX⟩
      go_simp
      exact hK _ _ (⟨_, rfl, hs, _, hb1, hv⟩) (fun j u _ h => hmono _ _ j u hX h) ⟨hJ.1.trans (Keeps.of_ext hX _), fun h => (hJ.2 fun d => h (.inl d)).trans hX⟩
    · intro done us W hJ hdep haft hnot b hb hb' K hK Q'
      simp only [List.getD_cons_succ, List.getD_cons_zero, List.mem_cons, List.not_mem_nil, or_false, forall_eq_or_imp, forall_eq] at hdep
      have e30 := hb 4 30 rfl
      have e34 := hb 8 34 rfl
      have d4 := hdep.1
      have d8 := hdep.2
      rw [d4.1] at e30
      clear hb hb' hdep d4
      have hJE := hJ.2 hnot
      obtain ⟨g', e', hg', u, hb1, hu⟩ := d8.1
      rw [e'] at e34
      have hoW := World.ownsRow.ext' hown hJE
      have hone : u.oneCell' = true := by obtain ⟨_, _, _, rfl, _⟩ := hu; rfl
      have hs := Ext.size hJE
      obtain ⟨v', W', q, ho, hG, _⟩ := run_app (P := Try.prog) W elL 22 base (.slice A0 nl c0) nl vs hoW (some ⟨g', 0, none⟩) 1 1 [u] rfl (fun _ => ⟨g', 0, rfl, fun j y hy => by match j with | 0 => (simp at hy; subst hy; exact hb1.cell 0) | j + 1 => simp at hy⟩) (by simpa using hone) (by omega) (by unfold maxLen; omega) (by omega)
      have hk : Keeps ((Value.slice A0 nl c0).ownBlock.toList) W W' := Keeps.of_grown hG (fun k hk => by rw [hk]; simp)
      have hN : ∀ k ∈ ((Value.slice A0 nl c0).ownBlock.toList), NoRow 5 W k := fun k hk => NoRow.of_own hoW (by simpa using hk) (by decide)
      have hF' : F2 (BodyV base W') (vs ++ [u]) (bs ++ [xs]) := (hF.imp fun _ _ _ h => (BodyV.ext h hJE).keeps hk hN).snoc ((hu.keeps hk hN).mono (by omega))
      exact jop_app rfl rfl e30 e34 q (hK _ _ ⟨_, ho, hF'⟩ (fun j u hd h => hmonoK _ _ j u hk hN (by intro e; subst e; exact hnot hd) h) ⟨hJ.1.trans hk, fun h => absurd (.inr rfl) h⟩)
    · intro done us W hJ hdep haft hnot b hb hb' K hK Q'
      simp only [List.getD_cons_succ, List.getD_cons_zero, List.mem_cons, List.not_mem_nil, or_false, forall_eq_or_imp, forall_eq] at hdep
      have e26 := hb 0 26 rfl
      have d0 := hdep
      rw [d0.1] at e26
      clear hb hb' hdep d0
      go_simp
      exact hK _ _ rfl (fun _ _ _ h => h) ⟨hJ.1, fun h => hJ.2 fun d => h (.inl d)⟩
    · intro done us W hJ hdep haft hnot b hb hb' K hK Q'
      simp only [List.getD_cons_succ, List.getD_cons_zero, List.mem_cons, List.not_mem_nil, or_false, forall_eq_or_imp, forall_eq] at hdep
      have e36 := hb 10 36 rfl
      have d10 := hdep
      rw [d10.1] at e36
      clear hb hb' hdep d10
      go_simp
      exact hK _ _ rfl (fun _ _ _ h => h) ⟨hJ.1, fun h => hJ.2 fun d => h (.inl d)⟩
  · intro us W hV hJ
    exact hend (us 0) (us 1) (us 2) (us 3) (us 4) (us 5) (us 6) (us 7) (us 8) (us 9) (us 10) (us 11) W (hV 0 (by omega)) (hV 1 (by omega)) (hV 2 (by omega)) (hV 3 (by omega)) (hV 4 (by omega)) (hV 5 (by omega)) (hV 6 (by omega)) (hV 7 (by omega)) (hV 8 (by omega)) (hV 9 (by omega)) (hV 10 (by omega)) (hV 11 (by omega)) (by simpa using hJ)
end Go.Proofs.Ytekhmfliaojabaa
namespace Go.Proofs.Ytekhmfliaojabaa
open Go.RowKit

theorem SndR.grow {base : Nat} {w : World} {g : Nat} {s : Snd} {v v' : Value} {xs : List Int} (hB : Blk w g 118 #[.int .i64 s.stream, .int .i64 s.window, .int .i64 s.acked, v])
    (hR : ∃ vs, w.ownsRow base 22 1 v' (s.bodies.length + 1) vs ∧ F2 (BodyV base w) vs (s.bodies ++ [xs])) (lo : base ≤ g) (ok : SndOk { s with bodies := s.bodies ++ [xs] }) :
    SndR base (w.setCell ⟨g, 3, none⟩ v') g v' { s with bodies := s.bodies ++ [xs] } := by
  have hK : Keeps [g] w (w.setCell ⟨g, 3, none⟩ v') := (Keeps.refl _ _).setCell (.inl (by simp)) _
  have hN : ∀ t, 118 ≠ t → ∀ k ∈ [g], NoRow t w k := by intro t ht k hk; simp at hk; subst hk; exact NoRow.of_blk hB ht
  obtain ⟨vs, h1, h2⟩ := hR
  refine ⟨?_, ⟨vs, ?_, h2.imp fun _ _ _ h => h.keeps hK (hN _ (by decide))⟩, lo, ok⟩
  · have := hB.set 3 v'
    simpa using this
  · have : w.ownsRow base 22 1 v' (s.bodies ++ [xs]).length vs := by rw [List.length_append]; exact h1
    refine ownsRow_keeps this hK fun k hv hl => ?_
    rcases h1.2 with ⟨rfl, _⟩ | ⟨g', cap, cur, rfl, _, hg, _⟩
    · simp [Value.ownBlock] at hv
    · simp [Value.ownBlock] at hv
      subst hv
      exact hN _ (show 118 ≠ 22 by decide) _ hl _ _ hg
theorem SndR.ack {base : Nat} {w : World} {g : Nat} {s : Snd} {v : Value} (h : SndR base w g v s) (z : Nat) (ok : SndOk { s with acked := z }) : SndR base (w.setCell ⟨g, 2, none⟩ (.int .i64 (z : Int))) g v { s with acked := z } := by
  have hB := h.blk
  have hK : Keeps [g] w (w.setCell ⟨g, 2, none⟩ (.int .i64 (z : Int))) := (Keeps.refl _ _).setCell (.inl (by simp)) _
  have hN : ∀ t, 118 ≠ t → ∀ k ∈ [g], NoRow t w k := by intro t ht k hk; simp at hk; subst hk; exact NoRow.of_blk hB ht
  obtain ⟨vs, h1, h2⟩ := h.row
  refine ⟨?_, ⟨vs, ?_, h2.imp fun _ _ _ h => h.keeps hK (hN _ (by decide))⟩, h.lo, ok⟩
  · have := hB.set 2 (.int .i64 (z : Int))
    simpa using this
  · refine ownsRow_keeps h1 hK fun k hv hl => ?_
    rcases h1.2 with ⟨rfl, _⟩ | ⟨g', cap, cur, rfl, _, hg, _⟩
    · simp [Value.ownBlock] at hv
    · simp [Value.ownBlock] at hv
      subst hv
      exact hN _ (show 118 ≠ 22 by decide) _ hl _ _ hg

set_option maxRecDepth 100000 in
set_option maxHeartbeats 2000000 in
theorem offerR_any (base g : Nat) (v : Value) (s : Snd) (Ab : Option Addr) (n c : Nat) (xs : List Int) (w : World) (h : SndR base w g v s) (hI : Ints .u8 w Ab n xs) (hc1 : n ≤ c) (hc2 : c ≤ 9223372036854775807) (hn : n ≤ 1000000) (h3 : s.bodies.length ≤ 1000000) :
    Calls Try.prog 37 #[.pointer (some ⟨g, 0, none⟩), .slice Ab n c] w (fun e w' => ∃ u v', e = .returned (.tuple #[u, .int .i64 (offerS s xs).2.2]) ∧ FrVO w.heap.size w' u (offerS s xs).2.1 ∧ SndR base w' g v' (offerS s xs).1 ∧ Keeps (g :: v.ownBlock.toList) w w') := by
  obtain ⟨A0, c0, rfl⟩ := h.slice
  have HS := Lib.hid h
  have HI := Lib.hid hI
  have HB := Lib.hid h.blk
  obtain ⟨lw0, lw1⟩ := h.ok.window
  have la := h.ok.acked
  have lb := h.base_le
  have HLb : Hid (∀ k ∈ (Value.slice A0 s.bodies.length c0).ownBlock.toList, k < w.heap.size) := Lib.hid (by obtain ⟨vs, ho, _⟩ := h.row; intro k hk; exact (ho.lt k (by simpa using hk)).2)
  have hgn := h.ne
  have HG := Lib.hid hgn
  clear h hI hgn
  have hXe : Ext w (w.alloc (.cells #[.int .i64 0, .int .i64 0, .slice none 0 0] 38)) := ((Ext.refl w).alloc _)
  have kt : Blk (w.alloc (.cells #[.int .i64 0, .int .i64 0, .slice none 0 0] 38)) w.heap.size 38 #[.int .i64 0, .int .i64 0, .slice none 0 0] := Blk.at_ (by simp)
  obtain ⟨z, hz⟩ : ∃ z, s.bodies.length = s.acked + z := ⟨s.bodies.length - s.acked, by omega⟩
  have HZ := Lib.hid hz
  have hz0 : s.acked + z ≤ s.bodies.length := by omega
  have hz1 : s.bodies.length ≤ s.acked + z := by omega
  clear hz
  by_cases hlen : 1024 < n
  · have hgt : decide ((1024 : Int) < (n : Int)) = true := decide_eq_true (by omega)
    go_enter Try.func37, Try.ntmps37
    go_upto_region 1 with (fail)
    generalize (w.alloc (.cells #[.int .i64 0, .int .i64 0, .slice none 0 0] 38)) = w1 at hXe kt ⊢
    have HX := Lib.hid hXe
    clear hXe
    have Kt := Lib.hid kt
    clear kt
    replace HS := Lib.hid (HS.out.ext HX.out)
    replace HI := Lib.hid (HI.out.ext HX.out)
    replace HB := Lib.hid (HB.out.ext HX.out)
    have ct0 : w1.cell? ⟨w.heap.size, 0, none⟩ = some (.int .i64 0) := Kt.out.cell 0
    have ft0 : w1.frozen? ⟨w.heap.size, 0, none⟩ = false := Kt.out.free 0
    have ct1 : w1.cell? ⟨w.heap.size, 1, none⟩ = some (.int .i64 0) := Kt.out.cell 1
    have ft1 : w1.frozen? ⟨w.heap.size, 1, none⟩ = false := Kt.out.free 1
    have ct2 : w1.cell? ⟨w.heap.size, 2, none⟩ = some (.slice none 0 0) := Kt.out.cell 2
    have ft2 : w1.frozen? ⟨w.heap.size, 2, none⟩ = false := Kt.out.free 2
    go_wp2
    refine bodyPost_ret (v := .tuple #[.agg #[.int .i64 0, .int .i64 0, .slice none 0 0], .int .i64 2]) (by simp [results, Try.results37, go_sem, *]) rfl ?_
    have e : offerS s xs = (s, fr0, 2) := by unfold offerS; rw [if_pos (by rw [HI.out.1]; exact hlen)]
    rw [e]
    exact ⟨_, _, rfl, ⟨none, 0, 0, rfl, World.ownsRow_nil _ _ _ _, rfl, by simp [fr0]⟩, HS.out.put3 Kt.out (by decide) (by decide) (by decide) _ _ _, (Keeps.of_ext HX.out _).fresh3 (Nat.le_refl _) _ _ _⟩

  · have hgt : decide ((1024 : Int) < (n : Int)) = false := decide_eq_false (by omega)
    go_enter Try.func37, Try.ntmps37
    go_upto_region 3 with (fail)
    generalize (w.alloc (.cells #[.int .i64 0, .int .i64 0, .slice none 0 0] 38)) = w1 at hXe kt ⊢
    have HX := Lib.hid hXe
    clear hXe
    have Kt := Lib.hid kt
    clear kt
    replace HS := Lib.hid (HS.out.ext HX.out)
    replace HI := Lib.hid (HI.out.ext HX.out)
    replace HB := Lib.hid (HB.out.ext HX.out)
    have hlx : ¬ 1024 < xs.length := by rw [HI.out.1]; exact hlen
    by_cases hw : s.window ≤ (z : Int)
    · have hfull : s.window ≤ (s.bodies.length : Int) - s.acked := by omega
      refine offerR_r3y g s.acked s.bodies.length z s.window A0 c0 _ (HB.out.cell 1) (HB.out.cell 2) (HB.out.cell 3) HZ h3 hw _ _ (by simp) rfl ?_
      rintro xv0 xv1 xv2 xv3 xv4 xv5 xv6 xv7 xv8 xv9 xv10 xv11 xv12 xv13 xv14 w2 rfl rfl rfl rfl rfl rfl rfl rfl rfl rfl rfl rfl rfl rfl rfl hXW
      simp only [rops, Try.f37, regOf, Option.bind_some, Nat.reduceBEq, if_true, if_false, Bool.false_eq_true, Option.getD_some, List.drop_succ_cons, List.drop_zero]
      simp only [Act.put, List.setIfInBounds_toArray, List.set_cons_succ, List.set_cons_zero]
      replace HX := Lib.hid (HX.out.trans hXW)
      replace HS := Lib.hid (HS.out.ext hXW)
      replace HI := Lib.hid (HI.out.ext hXW)
      replace HB := Lib.hid (HB.out.ext hXW)
      replace Kt := Lib.hid (Kt.out.ext hXW)
      clear hXW
      have ct0 : w2.cell? ⟨w.heap.size, 0, none⟩ = some (.int .i64 0) := Kt.out.cell 0
      have ft0 : w2.frozen? ⟨w.heap.size, 0, none⟩ = false := Kt.out.free 0
      have ct1 : w2.cell? ⟨w.heap.size, 1, none⟩ = some (.int .i64 0) := Kt.out.cell 1
      have ft1 : w2.frozen? ⟨w.heap.size, 1, none⟩ = false := Kt.out.free 1
      have ct2 : w2.cell? ⟨w.heap.size, 2, none⟩ = some (.slice none 0 0) := Kt.out.cell 2
      have ft2 : w2.frozen? ⟨w.heap.size, 2, none⟩ = false := Kt.out.free 2
      go_wp2
      refine bodyPost_ret (v := .tuple #[.agg #[.int .i64 0, .int .i64 0, .slice none 0 0], .int .i64 29]) (by simp [results, Try.results37, go_sem, *]) rfl ?_
      have e : offerS s xs = (s, fr0, 29) := by unfold offerS; rw [if_neg hlx, if_pos hfull]
      rw [e]
      exact ⟨_, _, rfl, ⟨none, 0, 0, rfl, World.ownsRow_nil _ _ _ _, rfl, by simp [fr0]⟩, HS.out.put3 Kt.out (by decide) (by decide) (by decide) _ _ _, (Keeps.of_ext HX.out _).fresh3 (Nat.le_refl _) _ _ _⟩
    · have hfull : ¬ s.window ≤ (s.bodies.length : Int) - s.acked := by omega
      refine offerR_r3n g s.acked s.bodies.length z s.window A0 c0 _ (HB.out.cell 1) (HB.out.cell 2) (HB.out.cell 3) HZ h3 (by omega) _ _ (by simp) rfl ?_
      rintro xv0 xv1 xv2 xv3 xv4 xv5 xv6 xv7 xv8 xv9 xv10 xv11 xv12 xv13 xv14 w2 rfl rfl rfl rfl rfl rfl rfl rfl rfl rfl rfl rfl rfl rfl rfl hXW
      simp only [rops, Try.f37, regOf, Option.bind_some, Nat.reduceBEq, if_true, if_false, Bool.false_eq_true, Option.getD_some, List.drop_succ_cons, List.drop_zero]
      simp only [Act.put, List.setIfInBounds_toArray, List.set_cons_succ, List.set_cons_zero]
      replace HX := Lib.hid (HX.out.trans hXW)
      replace HS := Lib.hid (HS.out.ext hXW)
      replace HI := Lib.hid (HI.out.ext hXW)
      replace HB := Lib.hid (HB.out.ext hXW)
      replace Kt := Lib.hid (Kt.out.ext hXW)
      clear hXW
      go_upto_region 5 with (fail)
      obtain ⟨vs, hown, hF⟩ := HS.out.row
      have hy2 := HX.out.size
      refine offerR_r5 base g s.bodies.length A0 c0 Ab n c xs s.bodies vs w2 (HB.out.cell 3) HI.out hc1 hc2 (by omega) h3 hown hF (by omega) (fun k hk => by have := HLb.out k hk; omega) _ _ (by simp) rfl rfl ?_
      rintro xv0 xv1 xv2 xv3 xv4 xv5 xv6 xv7 xv8 xv9 xv10 xv11 W4 rfl rfl rfl rfl rfl rfl _ _ _ ⟨vs', ho', hF'⟩ rfl rfl hK4
      simp only [rops, Try.f37, regOf, Option.bind_some, Nat.reduceBEq, if_true, if_false, Bool.false_eq_true, Option.getD_some, List.drop_succ_cons, List.drop_zero]
      simp only [Act.put, List.setIfInBounds_toArray, List.set_cons_succ, List.set_cons_zero]
      obtain ⟨A1, m1, c1, hm1, rfl⟩ := own_slice' ho'
      have hB4 := HB.out.keeps hK4 (fun hl => HG.out (Option.mem_toList.1 hl).symm)
      have hT4 := Kt.out.keeps hK4 (by intro hl; have := HLb.out _ hl; omega)
      have hK0 : Keeps (g :: (Value.slice A0 s.bodies.length c0).ownBlock.toList) w W4 := (Keeps.of_ext HX.out _).trans (hK4.mono fun k hk _ => by simp only [List.mem_cons]; exact .inr hk)
      have hgt : g ≠ w.heap.size := by have := HS.out.lt; intro e; subst e; exact absurd (show some _ = some _ from HB.out.symm.trans Kt.out) (by simp)
      have ho := offerS_ok (b := xs) HS.out.ok HI.out.2.1
      have eo : offerS s xs = ({ s with bodies := s.bodies ++ [xs] }, ⟨s.stream, s.bodies.length, xs⟩, 0) := by unfold offerS; rw [if_neg hlx, if_neg (by omega)]
      rw [eo] at ho
      have HE := Lib.hid eo
      have hS6 := SndR.grow hB4 ⟨vs', ho', hF'⟩ HS.out.lo ho
      have hT6 := hT4.far (p := ⟨g, 3, none⟩) (by simpa using hgt.symm) (.slice A1 m1 c1)
      have hK6 := hK0.setCell (p := ⟨g, 3, none⟩) (.inl (by simp)) (.slice A1 m1 c1)
      have HM1 := Lib.hid hm1
      have HS6 := Lib.hid hS6
      have HT6 := Lib.hid hT6
      have HK6 := Lib.hid hK6
      have f3 := hB4.cell 3
      have z3 := hB4.free 3
      clear hS6 hT6 hK6 hT4 hK4 hB4 hK0 ho eo ho' hF' hown hF hm1
      have hmz : (m1 : Int) - 1 = (s.bodies.length : Int) := by have := HM1.out; omega
      have hm2 : m1 ≤ 1000001 := by have := HM1.out; omega
      have qw : IntKind.i64.wrap ((m1 : Int) - 1) = (s.bodies.length : Int) := (IntWalk.i64_in _ (by omega)).trans hmz
      have HW := Lib.hid qw
      clear hmz qw
      have qw := HW.out
      go_wp2_with fail
      clear f3 z3
      have lhS : s.bodies.length < (s.bodies ++ [xs]).length := by simp
      refine (frameR_any base g _ s.bodies.length _ _ HS6.out lhS).mono ?_
      rintro e w7 ⟨v, rfl, ⟨A3, n3, c3, rfl, hO7⟩, hX7⟩
      have hS7 := Lib.hid (HS6.out.ext hX7)
      have hT7 := Lib.hid (HT6.out.ext hX7)
      have hK7 := Lib.hid (HK6.out.trans (Keeps.of_ext hX7 _))
      have HO7 := Lib.hid hO7
      have hz6 := Lib.hid HK6.out.size
      clear HS6 HT6 HK6 hX7 hO7
      have c0' := hT7.out.cell 0
      have c1' := hT7.out.cell 1
      have c2' := hT7.out.cell 2
      have f0 := hT7.out.free 0
      have f1 := hT7.out.free 1
      have f2 := hT7.out.free 2
      go_wp2
      refine bodyPost_ret (v := .tuple #[.agg #[.int .i64 s.stream, .int .i64 (s.bodies.length : Int), .slice A3 n3 c3], .int .i64 0]) (by simp [results, Try.results37, go_sem, *]) rfl ?_
      rw [HE.out]
      refine ⟨_, _, rfl, ⟨A3, n3, c3, rfl, ?_⟩, hS7.out.put3 hT7.out (by decide) (by decide) (by decide) _ _ _, hK7.out.fresh3 (Nat.le_refl _) _ _ _⟩
      have hg : (s.bodies ++ [xs]).getD s.bodies.length [] = xs := by simp [List.getD]
      rw [← hg]
      exact (HO7.out.put3 hT7.out (by decide) _ _ _).mono hz6.out
    



set_option maxRecDepth 100000 in
set_option maxHeartbeats 2000000 in
theorem ackR_any (base g : Nat) (v : Value) (s : Snd) (n : Int) (w : World) (h : SndR base w g v s) (h3 : s.bodies.length ≤ 1000000) :
    Calls Try.prog 39 #[.pointer (some ⟨g, 0, none⟩), .int .i64 n] w (fun e w' => e = .returned (.int .i64 (ackS s n).2) ∧ SndR base w' g v (ackS s n).1 ∧ Keeps (g :: v.ownBlock.toList) w w') := by
  obtain ⟨A0, c0, rfl⟩ := h.slice
  have HS := Lib.hid h
  have f2 := h.blk.cell 2
  have z2 := h.blk.free 2
  have f3 := h.blk.cell 3
  have HO := Lib.hid (ackS_ok n h.ok)
  clear h
  by_cases h1 : n < s.acked
  · have q1 : decide (n < (s.acked : Int)) = true := decide_eq_true h1
    have e : ackS s n = (s, 2) := by unfold ackS; rw [if_pos (.inl h1)]
    have HE := Lib.hid e
    clear e
    go_enter Try.func39, Try.ntmps39
    go_wp2
    go_ret
    rw [HE.out]
    exact ⟨rfl, HS.out, Keeps.refl _ _⟩
  · have q1 : decide (n < (s.acked : Int)) = false := decide_eq_false h1
    by_cases h2 : (s.bodies.length : Int) < n
    · have q2 : decide ((s.bodies.length : Int) < n) = true := decide_eq_true h2
      have e : ackS s n = (s, 2) := by unfold ackS; rw [if_pos (.inr h2)]
      have HE := Lib.hid e
      clear e
      go_enter Try.func39, Try.ntmps39
      go_wp2
      go_ret
      rw [HE.out]
      exact ⟨rfl, HS.out, Keeps.refl _ _⟩
    · have q2 : decide ((s.bodies.length : Int) < n) = false := decide_eq_false h2
      have e : ackS s n = ({ s with acked := n.toNat }, 0) := by unfold ackS; rw [if_neg (by omega)]
      have HE := Lib.hid e
      clear e
      go_enter Try.func39, Try.ntmps39
      go_wp2
      go_ret
      have ho := HO.out
      rw [HE.out] at ho ⊢
      refine ⟨rfl, ?_, (Keeps.refl _ _).setCell (.inl (by simp)) _⟩
      have := HS.out.ack n.toNat ho
      rw [show ((n.toNat : Nat) : Int) = n by omega] at this
      exact this


set_option maxRecDepth 100000 in
set_option maxHeartbeats 2000000 in
theorem pendR_any (base g : Nat) (v : Value) (s : Snd) (w : World) (h : SndR base w g v s) (h3 : s.bodies.length ≤ 1000000) :
    Calls Try.prog 42 #[.pointer (some ⟨g, 0, none⟩)] w (fun e w' => ∃ v, e = .returned v ∧ FrL w.heap.size w' v (pendS s) ∧ Ext w w') := by
  obtain ⟨A0, c0, rfl⟩ := h.slice
  have HS := Lib.hid h
  have la := h.ok.acked
  have f2 := h.blk.cell 2
  clear h
  go_enter Try.func42, Try.ntmps42
  go_wp2_with fail
  clear f2
  go_loopg [3, 4] (s.bodies.length - s.acked) (fun f v i wr => ∃ (k : Nat) (q : Nat) (fs : List Fr), f = s.bodies.length - s.acked - k ∧ s.acked + k ≤ s.bodies.length ∧ Hid (q = s.acked + k) ∧ i = .int .i64 (q : Int) ∧ Hid (fs = (pendS s).take k) ∧ Hid (FrL w.heap.size wr v fs) ∧ Hid (Ext w wr))
  case atStart => exact ⟨0, s.acked, [], rfl, by omega, Lib.hid rfl, rfl, Lib.hid (by simp), Lib.hid (FrL.nil _ _), Lib.hid (Ext.refl w)⟩
  case round =>
    obtain ⟨k, q, fs, rfl, hk, HQ, rfl, HF, HL, HX⟩ := hrel
    have hk0 : s.acked ≤ q := by have := HQ.out; omega
    have hk1 : q ≤ s.bodies.length := by have := HQ.out; omega
    have HR := Lib.hid (HS.out.ext HX.out)
    have hsl : ∃ A0 c0, u3 = .slice A0 fs.length c0 := by obtain ⟨vs0, hown0, _⟩ := HL.out; exact own_slice hown0
    obtain ⟨A5, c5, rfl⟩ := hsl
    have f3 := HR.out.blk.cell 3
    have hfl : fs.length ≤ k := by rw [HF.out, List.length_take]; omega
    by_cases hlt : q < s.bodies.length
    · have q3 : decide ((q : Int) < (s.bodies.length : Int)) = true := decide_eq_true (by omega)
      go_wp2_with fail
      refine (frameR_any base g _ q s _ HR.out hlt).mono ?_
      clear f3
      rintro e w1 ⟨_, rfl, ⟨A1, n1, c1, rfl, hO1⟩, hX1⟩
      have HX1 := Lib.hid hX1
      have HO1 := Lib.hid (hO1.mono HX.out.size)
      obtain ⟨vs, hown1, hcs1⟩ := HL.out.ext hX1
      have HC1 := Lib.hid hcs1
      clear hX1 hO1 hcs1
      go_wp2_with (at_builtin; refine wpList_app _ elF rfl _ _ rfl w.heap.size (.slice A5 fs.length c5) fs.length vs rfl (hown1.alloc _) _ 1 1 [.int .i64 s.stream, .int .i64 (q : Int), .slice A1 n1 c1] rfl rfl (At.new' _ [_, _, _] _ rfl) (by simp [Value.oneCell']) (by omega) (by unfold maxLen; omega) (by have := HX.out.size; have := HX1.out.size; simp; omega) ?_; intro v2 w2 hown2 hgr2 hdj; clear hdj)
      go_roundg (s.bodies.length - s.acked - (k + 1))
      case rel =>
        refine ⟨k + 1, q + 1, _, rfl, by have := HQ.out; omega, Lib.hid (by have := HQ.out; omega), by go_num, Lib.hid rfl, Lib.hid ?_, Lib.hid ((HX.out.trans HX1.out).push hown1 hgr2)⟩
        rw [pendS_take s (by have := HQ.out; omega), ← HQ.out, ← HF.out]
        exact FrL.snoc hown1 HC1.out HO1.out _ (by simpa using hown2) hgr2
      case measure => have := HQ.out; omega
    · have q3 : decide ((q : Int) < (s.bodies.length : Int)) = false := decide_eq_false (by omega)
      go_wp2
      go_ret
      refine ⟨_, rfl, ?_, HX.out⟩
      have e : fs = pendS s := by rw [HF.out, List.take_of_length_le]; rw [pendS_len]; have := HQ.out; omega
      rw [← e]
      exact HL.out

end Go.Proofs.Ytekhmfliaojabaa
namespace Go.Proofs.Ytekhmfliaojabaa
open Go.RowKit

/-- A slice of elements of k cells reads as 'xs'. -/
def Els {α : Type} (E : World → List Value → α → Prop) (w : World) (A : Option Addr) (n : Nat) (xs : List α) : Prop := xs.length = n ∧ ∃ vs, CsR (E w) vs xs ∧ At w A vs
theorem Els.get {α : Type} {E : World → List Value → α → Prop} {k : Nat} (hk : ∀ w cs x, E w cs x → cs.length = k) {w : World} {A : Option Addr} {n : Nat} {xs : List α} (h : Els E w A n xs) (hp : 0 < k) {j : Nat} (hj : j < n) :
    ∃ b off f cs, A = some ⟨b, off, none⟩ ∧ xs[j]? = some f ∧ E w cs f ∧ ∀ i u, cs[i]? = some u → w.cell? ⟨b, off + j * k + i, none⟩ = some u := by
  obtain ⟨h1, vs, h2, h3⟩ := h
  have hf : xs[j]? = some xs[j] := List.getElem?_eq_getElem (by omega)
  obtain ⟨cs, h4, h5⟩ := h2.get (hk w) hf
  have hl := hk _ _ _ h4
  obtain ⟨u, hu⟩ : ∃ u, cs[0]? = some u := ⟨cs[0], List.getElem?_eq_getElem (by omega)⟩
  obtain ⟨b, off, hA, hc⟩ := h3 (by intro e; subst e; have := h5 0 _ hu; simp at this)
  exact ⟨b, off, _, cs, hA, hf, h4, fun i u hi => by rw [Nat.add_assoc]; exact hc _ _ (h5 i u hi)⟩
theorem SendE.len (w : World) (cs : List Value) (f : Int × Int × List Int × List Int) (h : SendE w cs f) : cs.length = 4 := by obtain ⟨_, _, _, _, _, _, rfl, _⟩ := h; rfl
theorem CallE.len (w : World) (cs : List Value) (f : Int × Int × Int × List Int) (h : CallE w cs f) : cs.length = 4 := by obtain ⟨_, _, _, rfl, _⟩ := h; rfl
theorem FrameE.len (w : World) (cs : List Value) (f : Int × Int × List Int) (h : FrameE w cs f) : cs.length = 3 := by obtain ⟨_, _, _, rfl, _⟩ := h; rfl

/-- The first state of a sender. -/
def snd0 (st wn : Int) : Snd := ⟨st, wn, 0, []⟩
def BadS (st wn : Int) : Prop := st < 0 ∨ 255 < st ∨ wn < 1 ∨ 64 < wn
theorem snd0_ok {st wn : Int} (h : ¬ BadS st wn) : SndOk (snd0 st wn) := by
  unfold BadS at h
  exact ⟨by simp only [snd0]; omega, by simp only [snd0]; omega, by simp [snd0], by simp [snd0]; omega, by simp [snd0]⟩


set_option maxRecDepth 100000 in
set_option maxHeartbeats 1000000 in
theorem newP_bad (st wn : Int) (w : World) (h : BadS st wn) : Calls Try.prog 34 #[.int .i64 st, .int .i64 wn] w (fun e w' => e = .returned (.tuple #[.pointer none, .int .i64 2]) ∧ Ext w w') := by
  unfold BadS at h
  by_cases h1 : st < 0
  · have q1 : decide (st < 0) = true := decide_eq_true h1
    clear h
    go_enter Try.func34, Try.ntmps34
    go_wp2
    go_ret2
    exact ⟨rfl, Ext.refl _⟩
  · have q1 : decide (st < 0) = false := decide_eq_false h1
    by_cases h2 : 256 ≤ st
    · have q2 : decide (256 ≤ st) = true := decide_eq_true h2
      clear h
      go_enter Try.func34, Try.ntmps34
      go_wp2
      go_ret2
      exact ⟨rfl, Ext.refl _⟩
    · have q2 : decide (256 ≤ st) = false := decide_eq_false h2
      by_cases h3 : wn < 1
      · have q3 : decide (wn < 1) = true := decide_eq_true h3
        clear h
        go_enter Try.func34, Try.ntmps34
        go_wp2
        go_ret2
        exact ⟨rfl, Ext.refl _⟩
      · have q3 : decide (wn < 1) = false := decide_eq_false h3
        have q4 : decide (64 < wn) = true := decide_eq_true (by omega)
        clear h
        go_enter Try.func34, Try.ntmps34
        go_wp2
        go_ret2
        exact ⟨rfl, Ext.refl _⟩
set_option maxRecDepth 100000 in
set_option maxHeartbeats 1000000 in
theorem newP_any (st wn : Int) (w : World) (h : ¬ BadS st wn) : Calls Try.prog 34 #[.int .i64 st, .int .i64 wn] w (fun e w' => ∃ g m, e = .returned (.tuple #[.pointer (some ⟨g, 0, none⟩), .int .i64 0]) ∧ SndP w.heap.size w' g m (snd0 st wn) ∧ Ext w w') := by
  have HS := Lib.hid (snd0_ok h)
  unfold BadS at h
  have q1 : decide (st < 0) = false := decide_eq_false (by omega)
  have q2 : decide (256 ≤ st) = false := decide_eq_false (by omega)
  have q3 : decide (wn < 1) = false := decide_eq_false (by omega)
  have q4 : decide (64 < wn) = false := decide_eq_false (by omega)
  clear h
  go_enter Try.func34, Try.ntmps34
  have hmm := @run_makeMap Try.prog
  go_wp2
  go_ret2
  refine ⟨_, w.heap.size, rfl, ⟨?_, ⟨[], ?_, trivial⟩, ⟨by simp, Nat.le_refl _⟩, HS.out⟩, ((Ext.refl w).alloc _).alloc _⟩
  · exact Blk.at_ (by simp)
  · exact (MapL.made w Try.prog 3).ext ((Ext.refl _).alloc _)


set_option maxRecDepth 100000 in
set_option maxHeartbeats 1000000 in
theorem newR_any (st wn : Int) (w : World) (h : ¬ BadS st wn) : Calls Try.prog 35 #[.int .i64 st, .int .i64 wn] w (fun e w' => ∃ g v, e = .returned (.tuple #[.pointer (some ⟨g, 0, none⟩), .int .i64 0]) ∧ SndR w.heap.size w' g v (snd0 st wn) ∧ Ext w w') := by
  have HS := Lib.hid (snd0_ok h)
  unfold BadS at h
  have q1 : decide (st < 0) = false := decide_eq_false (by omega)
  have q2 : decide (255 < st) = false := decide_eq_false (by omega)
  have q3 : decide (wn < 1) = false := decide_eq_false (by omega)
  have q4 : decide (64 < wn) = false := decide_eq_false (by omega)
  clear h
  go_enter Try.func35, Try.ntmps35
  have hmm := @run_makeMap Try.prog
  go_wp2
  go_ret2
  refine ⟨_, .slice none 0 0, rfl, ⟨?_, ⟨[], World.ownsRow_nil _ _ _ _, trivial⟩, Nat.le_refl _, HS.out⟩, (Ext.refl w).alloc _⟩
  exact Blk.new _ _ _

end Go.Proofs.Ytekhmfliaojabaa
namespace Go.Proofs.Ytekhmfliaojabaa
open Go.RowKit

structure Dlv where
  seq : Int
  body : List Int
  lost : Bool
structure Rcv where
  stream : Int
  window : Int
  next : Int
  held : List Dlv

def findD (l : List Dlv) (s : Int) : Option Dlv := l.find? (fun d => d.seq == s)
/-- The error of a number. -/
def refuse (r : Rcv) (s : Int) : Int := if s < r.next then 26 else if (findD r.held s).isSome then 27 else if r.next + r.window ≤ s then 28 else 0
/-- The list without what has this number. -/
def wipe (l : List Dlv) (n : Int) : List Dlv := l.filter fun x => !(x.seq == n)
/-- What can be delivered from a number on, the number behind it, and what is left. -/
def deliv : Nat → Int → List Dlv → List Dlv × Int × List Dlv
  | 0, n, l => ([], n, l)
  | k + 1, n, l => match findD l n with
    | none => ([], n, l)
    | some d => (d :: (deliv k (n + 1) (wipe l n)).1, (deliv k (n + 1) (wipe l n)).2)
/-- A delivery is held; what can be delivered is. -/
def kept (r : Rcv) (d : Dlv) : List Dlv × Int × List Dlv := deliv (r.held.length + 1) r.next (r.held ++ [d])
def keepR (r : Rcv) (d : Dlv) : Rcv × List Dlv × Int :=
  if refuse r d.seq ≠ 0 then (r, [], refuse r d.seq) else ({ r with next := (kept r d).2.1, held := (kept r d).2.2 }, (kept r d).1, 0)
/-- A frame is taken. -/
def takeR (r : Rcv) (f : Fr) : Rcv × List Dlv × Int :=
  if ¬ FrOk f then (r, [], 20) else if f.stream ≠ r.stream then (r, [], 25) else keepR r ⟨f.seq, f.body, false⟩
/-- What holds of every receiver that was made by NewReceiver. -/
structure RcvOk (r : Rcv) : Prop where
  stream : 0 ≤ r.stream ∧ r.stream ≤ 255
  window : 1 ≤ r.window ∧ r.window ≤ 64
  next : 0 ≤ r.next ∧ r.next ≤ 4294967296
  seq : ∀ d ∈ r.held, r.next < d.seq ∧ d.seq < r.next + r.window ∧ d.seq ≤ 4294967295
  apart : (r.held.map Dlv.seq).Nodup
  body : ∀ d ∈ r.held, d.body.length ≤ 1024

section
variable {l : List Dlv} {n s : Int} {d : Dlv}
theorem findD_none : findD l s = none ↔ ∀ d ∈ l, d.seq ≠ s := by
  unfold findD; rw [List.find?_eq_none]
  constructor
  · intro h d hd e; exact h d hd (by simpa using e)
  · intro h d hd e; exact h d hd (by simpa using e)
theorem findD_mem (h : findD l s = some d) : d ∈ l ∧ d.seq = s := ⟨List.mem_of_find?_eq_some h, by simpa using List.find?_some h⟩
theorem wipe_mem {x : Dlv} : x ∈ wipe l n ↔ x ∈ l ∧ x.seq ≠ n := by simp [wipe, List.mem_filter]
theorem wipe_none (h : findD l n = none) : wipe l n = l := by
  unfold wipe; rw [List.filter_eq_self]; intro x hx; simpa using findD_none.1 h x hx
theorem wipe_len (hn : (l.map Dlv.seq).Nodup) (h : findD l n = some d) : (wipe l n).length + 1 = l.length := by
  induction l with
  | nil => simp [findD] at h
  | cons x l ih =>
    simp only [List.map_cons, List.nodup_cons] at hn
    by_cases e : x.seq = n
    · have : wipe (x :: l) n = wipe l n := by unfold wipe; rw [List.filter_cons_of_neg (by simp [e])]
      rw [this, wipe_none]
      · rfl
      · rw [findD_none]; intro y hy e'; exact hn.1 (by rw [e, ← e']; exact List.mem_map.2 ⟨y, hy, rfl⟩)
    · have : wipe (x :: l) n = x :: wipe l n := by unfold wipe; rw [List.filter_cons_of_pos (by simp [e])]
      rw [this, List.length_cons, List.length_cons]
      have : findD l n = some d := by unfold findD at h ⊢; rwa [List.find?_cons_of_neg (by simp [e])] at h
      rw [ih hn.2 this]
theorem wipe_lt (h : findD l n = some d) : (wipe l n).length < l.length := by
  have h1 := findD_mem h
  unfold wipe
  have := List.length_filter_lt_length_iff_exists (p := fun x : Dlv => !(x.seq == n)) (l := l)
  exact this.2 ⟨d, h1.1, by simp [h1.2]⟩
theorem wipe_nodup (hn : (l.map Dlv.seq).Nodup) : ((wipe l n).map Dlv.seq).Nodup := hn.sublist (List.filter_sublist.map _)
theorem deliv_none {f : Nat} (h : findD l n = none) : deliv f n l = ([], n, l) := by
  cases f with
  | zero => rfl
  | succ f => simp only [deliv, h]
theorem deliv_some {f : Nat} (h : findD l n = some d) : deliv (f + 1) n l = (d :: (deliv f (n + 1) (wipe l n)).1, (deliv f (n + 1) (wipe l n)).2) := by simp only [deliv, h]

/-- What holds behind a delivery. -/
theorem deliv_ok {f : Nat} {m : Int} (hf : l.length ≤ f) (hs : ∀ d ∈ l, n ≤ d.seq ∧ d.seq < m ∧ d.seq ≤ 4294967295) (hn : (l.map Dlv.seq).Nodup) (h0 : n ≤ 4294967296) :
    n ≤ (deliv f n l).2.1 ∧ (deliv f n l).2.1 ≤ 4294967296 ∧ (∀ d ∈ (deliv f n l).2.2, d ∈ l ∧ (deliv f n l).2.1 < d.seq) ∧ ((deliv f n l).2.2.map Dlv.seq).Nodup ∧ (∀ d ∈ (deliv f n l).1, d ∈ l) ∧ (deliv f n l).2.1 = n + (deliv f n l).1.length := by
  induction f generalizing n l with
  | zero =>
    obtain rfl : l = [] := List.eq_nil_of_length_eq_zero (by omega)
    simp [deliv]; exact h0
  | succ f ih =>
    cases h : findD l n with
    | none =>
      rw [deliv_none h]
      refine ⟨Int.le_refl _, h0, fun d hd => ⟨hd, ?_⟩, hn, by simp, by simp⟩
      have h1 := findD_none.1 h d hd
      have h2 := hs d hd
      simp only at h1 h2 ⊢
      omega
    | some d =>
      have h1 := findD_mem h
      have h2 := hs d h1.1
      rw [deliv_some h]
      have hw := wipe_lt h
      obtain ⟨i1, i2, i3, i4, i5, i6⟩ := ih (n := n + 1) (l := wipe l n) (by omega) (fun x hx => by
        obtain ⟨q1, q2⟩ := wipe_mem.1 hx
        have q3 := hs x q1
        omega) (wipe_nodup hn) (by omega)
      refine ⟨by simp only; omega, i2, fun x hx => ⟨(wipe_mem.1 (i3 x hx).1).1, (i3 x hx).2⟩, i4, fun x hx => ?_, ?_⟩
      · rcases List.mem_cons.1 hx with rfl | hx
        · exact h1.1
        · exact (wipe_mem.1 (i5 x hx)).1
      · simp only [List.length_cons]; rw [i6]; omega
end

theorem refuse_ok {r : Rcv} {s : Int} (h : refuse r s = 0) : r.next ≤ s ∧ findD r.held s = none ∧ s < r.next + r.window := by
  unfold refuse at h
  split at h
  · omega
  · split at h
    · omega
    · split at h
      · omega
      · rename_i h1 h2 h3
        exact ⟨by omega, by simpa using h2, by omega⟩
theorem keepR_ok {r : Rcv} {d : Dlv} (h : RcvOk r) (hd : d.seq ≤ 4294967295) (hb : d.body.length ≤ 1024) : RcvOk (keepR r d).1 := by
  unfold keepR
  split
  · exact h
  · rename_i hr
    obtain ⟨h1, h2, h3⟩ := refuse_ok (by simpa using hr)
    have hw := h.window
    have hn := h.next
    have hnd : ((r.held ++ [d]).map Dlv.seq).Nodup := by
      rw [List.map_append, List.nodup_append]
      refine ⟨h.apart, by simp, fun a ha b hb => ?_⟩
      simp at hb
      subst hb
      rintro rfl
      obtain ⟨x, hx, e⟩ := List.mem_map.1 ha
      exact findD_none.1 h2 x hx e
    obtain ⟨k1, k2, k3, k4, _, _⟩ := deliv_ok (f := r.held.length + 1) (l := r.held ++ [d]) (n := r.next) (m := r.next + r.window) (by simp) (fun x hx => by
      rcases List.mem_append.1 hx with hx | hx
      · have := h.seq x hx; omega
      · simp at hx; subst hx; exact ⟨h1, h3, hd⟩) hnd hn.2
    have e : kept r d = deliv (r.held.length + 1) r.next (r.held ++ [d]) := rfl
    rw [← e] at k1 k2 k3 k4
    refine ⟨h.stream, h.window, ⟨by simp only; omega, k2⟩, fun x hx => ?_, k4, fun x hx => ?_⟩
    · have q := k3 x hx
      simp only
      rcases List.mem_append.1 q.1 with hx1 | hx1
      · have := h.seq x hx1; omega
      · simp at hx1; subst hx1; omega
    · rcases List.mem_append.1 (k3 x hx).1 with hx1 | hx1
      · exact h.body x hx1
      · simp at hx1; subst hx1; exact hb
theorem takeR_ok {r : Rcv} (f : Fr) (h : RcvOk r) : RcvOk (takeR r f).1 := by
  unfold takeR
  split
  · exact h
  · rename_i hf
    split
    · exact h
    · have := Decidable.not_not.1 hf
      exact keepR_ok h this.2.2.2.1 this.2.2.2.2
/-- Distinct numbers below one another are no more than there is room. -/
theorem nodup_room {l : List Int} {a : Int} {k : Nat} (hn : l.Nodup) (h : ∀ x ∈ l, a ≤ x ∧ x < a + k) : l.length ≤ k := by
  induction k generalizing l with
  | zero =>
    cases l with
    | nil => simp
    | cons x l => have := h x (by simp); omega
  | succ k ih =>
    have h1 := ih (l := l.filter fun x => !(x == a + k)) (hn.sublist List.filter_sublist) (fun x hx => by
      obtain ⟨h1, h2⟩ := List.mem_filter.1 hx
      have h3 := h x h1
      have : x ≠ a + k := by simpa using h2
      omega)
    have h2 : l.length ≤ (l.filter fun x => !(x == a + k)).length + 1 := by
      clear h ih h1
      induction l with
      | nil => simp
      | cons x l ih =>
        have hn' := List.nodup_cons.1 hn
        by_cases e : x = a + k
        · rw [List.filter_cons_of_neg (by simp [e]), List.filter_eq_self.2]
          · simp
          · intro y hy
            have : y ≠ a + k := fun e' => hn'.1 (by rw [e, ← e']; exact hy)
            simpa using this
        · rw [List.filter_cons_of_pos (by simp [e])]
          have := ih hn'.2
          simp only [List.length_cons]; omega
    omega
theorem RcvOk.room {r : Rcv} (h : RcvOk r) : r.held.length ≤ 64 := by
  have := nodup_room (a := r.next) (k := 64) h.apart (fun x hx => by
    obtain ⟨d, hd, rfl⟩ := List.mem_map.1 hx
    have := h.seq d hd; have := h.window; omega)
  simpa using this

end Go.Proofs.Ytekhmfliaojabaa
namespace Go.Proofs.Ytekhmfliaojabaa
open Go.RowKit

theorem deliv_mono (f : Nat) (n : Int) (l : List Dlv) : n ≤ (deliv f n l).2.1 := by
  induction f generalizing n l with
  | zero => exact Int.le_refl _
  | succ f ih =>
    cases h : findD l n with
    | none => rw [deliv_none h]; exact Int.le_refl _
    | some d => rw [deliv_some h]; have := ih (n + 1) (wipe l n); simp only; omega
theorem deliv_consec (f : Nat) (n : Int) (l : List Dlv) (j : Nat) (d : Dlv) (h : (deliv f n l).1[j]? = some d) : d.seq = n + j ∧ d ∈ l := by
  induction f generalizing n l j with
  | zero => simp [deliv] at h
  | succ f ih =>
    cases hf : findD l n with
    | none => rw [deliv_none hf] at h; simp at h
    | some e =>
      rw [deliv_some hf] at h
      cases j with
      | zero =>
        simp at h
        subst h
        have := findD_mem hf
        exact ⟨by rw [this.2]; simp, this.1⟩
      | succ j =>
        simp only [List.getElem?_cons_succ] at h
        obtain ⟨h1, h2⟩ := ih (n + 1) (wipe l n) j h
        exact ⟨by rw [h1]; omega, (wipe_mem.1 h2).1⟩
theorem deliv_rest (f : Nat) (n : Int) (l : List Dlv) (d : Dlv) (hd : d ∈ l) : d.seq < (deliv f n l).2.1 ∨ d ∈ (deliv f n l).2.2 := by
  induction f generalizing n l with
  | zero => exact .inr hd
  | succ f ih =>
    cases hf : findD l n with
    | none => rw [deliv_none hf]; exact .inr hd
    | some e =>
      rw [deliv_some hf]
      by_cases hs : d.seq = n
      · left
        have := deliv_mono f (n + 1) (wipe l n)
        simp only; omega
      · exact ih (n + 1) (wipe l n) (wipe_mem.2 ⟨hd, hs⟩)

/-- What the map of bodies says of a receiver. -/
structure OnceI (r : Rcv) (l : List (Int × Value)) : Prop where
  keys : ∀ x, look l x ≠ none → x < r.next ∨ ∃ d ∈ r.held, d.seq = x
  held : ∀ d ∈ r.held, d.lost = false ∧ look l d.seq = some (.string (strOfNums d.body))
theorem OnceI.none_ {r : Rcv} {l : List (Int × Value)} (h : OnceI r l) {x : Int} (h1 : r.next ≤ x) (h2 : findD r.held x = none) : look l x = none := by
  apply Classical.byContradiction
  intro hc
  rcases h.keys x hc with hk | ⟨d, hd, e⟩
  · omega
  · exact findD_none.1 h2 d hd e
/-- What Take does with a frame that it refuses, and with one that it accepts. -/
theorem takeR_cases (r : Rcv) (f : Fr) : ((takeR r f).2.2 ≠ 0 ∧ takeR r f = (r, [], (takeR r f).2.2)) ∨
    ((takeR r f).2.2 = 0 ∧ FrOk f ∧ f.stream = r.stream ∧ refuse r f.seq = 0 ∧ takeR r f = ({ r with next := (deliv (r.held.length + 1) r.next (r.held ++ [⟨f.seq, f.body, false⟩])).2.1, held := (deliv (r.held.length + 1) r.next (r.held ++ [⟨f.seq, f.body, false⟩])).2.2 }, (deliv (r.held.length + 1) r.next (r.held ++ [⟨f.seq, f.body, false⟩])).1, 0)) := by
  unfold takeR
  by_cases h1 : FrOk f
  · rw [if_neg (fun h => h h1)]
    by_cases h2 : f.stream = r.stream
    · rw [if_neg (fun h => h h2)]
      unfold keepR
      by_cases h3 : refuse r f.seq = 0
      · right
        have e : ¬ refuse r (⟨f.seq, f.body, false⟩ : Dlv).seq ≠ 0 := fun h => h h3
        rw [if_neg e]
        exact ⟨rfl, h1, h2, h3, rfl⟩
      · left
        rw [if_pos (show refuse r (⟨f.seq, f.body, false⟩ : Dlv).seq ≠ 0 from h3)]
        exact ⟨h3, rfl⟩
    · left
      rw [if_pos h2]
      exact ⟨by simp, rfl⟩
  · left
    rw [if_pos h1]
    exact ⟨by simp, rfl⟩
/-- What holds behind a frame that was accepted. -/
theorem OnceI.took {r : Rcv} {l : List (Int × Value)} {f : Fr} (h : OnceI r l) (hr : refuse r f.seq = 0) (H : List Dlv) (hH : H = r.held ++ [⟨f.seq, f.body, false⟩]) (k : Nat) (r' : Rcv) (hr' : r' = { r with next := (deliv k r.next H).2.1, held := (deliv k r.next H).2.2 }) (ds : List Dlv) (hds : ds = (deliv k r.next H).1) (hrest : ∀ d ∈ (deliv k r.next H).2.2, d ∈ H) :
    look l f.seq = none ∧ OnceI r' (l ++ [(f.seq, .string (strOfNums f.body))]) ∧ ∀ (j : Nat) (d : Dlv), ds[j]? = some d → d.seq = r.next + j ∧ d.lost = false ∧ look (l ++ [(f.seq, .string (strOfNums f.body))]) d.seq = some (.string (strOfNums d.body)) := by
  obtain ⟨h1, h2, h3⟩ := refuse_ok hr
  have hl := h.none_ h1 h2
  have hb : ∀ d ∈ H, d.lost = false ∧ look (l ++ [(f.seq, .string (strOfNums f.body))]) d.seq = some (.string (strOfNums d.body)) := by
    intro d hd
    rw [look_snoc hl]
    rw [hH] at hd
    rcases List.mem_append.1 hd with hd | hd
    · obtain ⟨a, b⟩ := h.held d hd
      have hne : d.seq ≠ f.seq := findD_none.1 h2 d hd
      exact ⟨a, by rw [if_neg hne]; exact b⟩
    · simp at hd
      subst hd
      exact ⟨rfl, by simp⟩
  refine ⟨hl, ⟨fun x hx => ?_, fun d hd => ?_⟩, fun j d hd => ?_⟩
  · subst hr'
    simp only
    rw [look_snoc hl] at hx
    by_cases e : x = f.seq
    · have : (⟨f.seq, f.body, false⟩ : Dlv) ∈ H := by rw [hH]; simp
      rcases deliv_rest k r.next H _ this with h4 | h4
      · left; rw [e]; exact h4
      · right; exact ⟨_, h4, e.symm⟩
    · rw [if_neg e] at hx
      have hm := deliv_mono k r.next H
      rcases h.keys x hx with h4 | ⟨d, hd, e2⟩
      · left; omega
      · rcases deliv_rest k r.next H d (by rw [hH]; exact List.mem_append.2 (.inl hd)) with h5 | h5
        · left; rw [← e2]; exact h5
        · right; exact ⟨d, h5, e2⟩
  · subst hr'
    exact hb d (hrest d hd)
  · rw [hds] at hd
    obtain ⟨h4, h5⟩ := deliv_consec k r.next H j d hd
    obtain ⟨h6, h7⟩ := hb d h5
    exact ⟨h4, h6, h7⟩
theorem deliv_sub (f : Nat) (n : Int) (l : List Dlv) : ∀ d ∈ (deliv f n l).2.2, d ∈ l := by
  induction f generalizing n l with
  | zero => intro d hd; exact hd
  | succ f ih =>
    cases hf : findD l n with
    | none => rw [deliv_none hf]; intro d hd; exact hd
    | some e => rw [deliv_some hf]; intro d hd; exact (wipe_mem.1 (ih (n + 1) (wipe l n) d hd)).1
theorem deliv_next (f : Nat) (n : Int) (l : List Dlv) : (deliv f n l).2.1 = n + (deliv f n l).1.length := by
  induction f generalizing n l with
  | zero => simp [deliv]
  | succ f ih =>
    cases hf : findD l n with
    | none => rw [deliv_none hf]; simp
    | some e => rw [deliv_some hf]; simp only [List.length_cons]; rw [ih]; omega
theorem OnceI.step {r : Rcv} {l : List (Int × Value)} (h : OnceI r l) (f : Fr) {r' : Rcv} {ds : List Dlv} {er : Int} (e : takeR r f = (r', ds, er)) :
    (er ≠ 0 ∧ r' = r ∧ ds = []) ∨ (er = 0 ∧ r.next ≤ f.seq ∧ f.seq < r.next + r.window ∧ f.stream = r.stream ∧ f.seq ≤ 4294967295 ∧ look l f.seq = none ∧ OnceI r' (l ++ [(f.seq, .string (strOfNums f.body))]) ∧ r'.next = r.next + ds.length ∧ r'.stream = r.stream ∧ r'.window = r.window ∧
      ∀ (j : Nat) (d : Dlv), ds[j]? = some d → d.seq = r.next + j ∧ d.lost = false ∧ look (l ++ [(f.seq, .string (strOfNums f.body))]) d.seq = some (.string (strOfNums d.body))) := by
  rcases takeR_cases r f with ⟨h1, h2⟩ | ⟨h1, h2, h3, h4, h5⟩
  · left
    rw [e] at h1 h2
    injection h2 with h2 h6
    injection h6 with h6 h7
    exact ⟨h1, h2, h6⟩
  · right
    rw [e] at h1 h5
    injection h5 with h5 h6
    injection h6 with h6 h7
    obtain ⟨k1, k2, k3⟩ := refuse_ok h4
    obtain ⟨a, b, c⟩ := h.took h4 _ rfl _ r' h5 ds h6 (deliv_sub _ _ _)
    exact ⟨h7, k1, k3, h3, h2.2.2.2.1, a, b, by rw [h5, h6]; exact deliv_next _ _ _, by rw [h5], by rw [h5], c⟩
end Go.Proofs.Ytekhmfliaojabaa
namespace Go.Proofs.Ytekhmfliaojabaa
open Go.RowKit

/-- Records are offered until one is refused, or none is left. -/
def fillF (xss : List (List Int)) : Nat → Snd → Snd
  | 0, s => s
  | k + 1, s => if (offerS s (xss.getD s.bodies.length [])).2.2 = 0 then fillF xss k (offerS s (xss.getD s.bodies.length [])).1 else s
/-- Frames are taken one behind another. -/
def takes : Rcv → List Fr → Rcv × List Dlv
  | r, [] => (r, [])
  | r, f :: fs => ((takes (takeR r f).1 fs).1, (takeR r f).2.1 ++ (takes (takeR r f).1 fs).2)
theorem takes_append (r : Rcv) (fs gs : List Fr) : takes r (fs ++ gs) = ((takes (takes r fs).1 gs).1, (takes r fs).2 ++ (takes (takes r fs).1 gs).2) := by
  induction fs generalizing r with
  | nil => simp [takes]
  | cons f fs ih => simp only [List.cons_append, takes, ih, List.append_assoc]
theorem takes_snoc (r : Rcv) (fs : List Fr) (f : Fr) : takes r (fs ++ [f]) = ((takeR (takes r fs).1 f).1, (takes r fs).2 ++ (takeR (takes r fs).1 f).2.1) := by
  rw [takes_append]; simp [takes]
/-- What is sent: the encodings of the pending frames. -/
def sentF (s : Snd) : List (List Int) := (pendS s).map pck
/-- The frames in datagrams. -/
def framesF (gs : List (List Int)) : List Fr := gs.flatMap fun x => (scan x).1
theorem framesF_take {gs : List (List Int)} {k : Nat} {x : List Int} (h : gs[k]? = some x) : framesF (gs.take (k + 1)) = framesF (gs.take k) ++ (scan x).1 := by
  unfold framesF; rw [List.take_add_one, h]; simp
def roundF (xss : List (List Int)) (s : Snd) (r : Rcv) (fl : List Flt) : Snd × Rcv × List Dlv :=
  ((ackS (fillF xss (xss.length - s.bodies.length) s) (takes r (framesF (carry1 (sentF (fillF xss (xss.length - s.bodies.length) s)) fl))).1.next).1,
    takes r (framesF (carry1 (sentF (fillF xss (xss.length - s.bodies.length) s)) fl)))
/-- Rounds until all is delivered, or there have been enough. -/
def transF (xss : List (List Int)) (rounds : List (List Flt)) : Nat → Nat → Snd → Rcv → List Dlv → List Dlv × Nat
  | 0, n, _, _, out => (out, n)
  | k + 1, n, s, r, out => if r.next < xss.length then
      transF xss rounds k (n + 1) (roundF xss s r (rounds.getD n [])).1 (roundF xss s r (rounds.getD n [])).2.1 (out ++ (roundF xss s r (rounds.getD n [])).2.2)
    else (out, n)

theorem takeR_next (r : Rcv) (f : Fr) : (takeR r f).1.next = r.next + (takeR r f).2.1.length := by
  rcases takeR_cases r f with ⟨_, h⟩ | ⟨_, _, _, _, h⟩
  · rw [h]; simp
  · rw [h]; exact deliv_next _ _ _
theorem takes_next (r : Rcv) (fs : List Fr) : (takes r fs).1.next = r.next + (takes r fs).2.length := by
  induction fs generalizing r with
  | nil => simp [takes]
  | cons f fs ih => simp only [takes, List.length_append, ih, takeR_next]; omega
theorem offerS_zero {s : Snd} {b : List Int} (h : (offerS s b).2.2 = 0) : (offerS s b).1.bodies = s.bodies ++ [b] ∧ (offerS s b).1.acked = s.acked ∧ (offerS s b).1.stream = s.stream := by
  unfold offerS at h ⊢
  split at h
  · simp at h
  · split at h
    · simp at h
    · rename_i h1 h2
      rw [if_neg h1, if_neg h2]
      exact ⟨rfl, rfl, rfl⟩
theorem offerS_nz {s : Snd} {b : List Int} (h : (offerS s b).2.2 ≠ 0) : (offerS s b).1 = s := by
  unfold offerS at h ⊢
  split
  · rfl
  · split
    · rfl
    · rename_i h1 h2
      rw [if_neg h1, if_neg h2] at h
      exact absurd rfl h
/-- The sender of a transfer of these records: it holds a beginning of them. -/
structure SndT (xss : List (List Int)) (s : Snd) : Prop where
  ok : SndOk s
  st : s.stream = 0
  pre : s.bodies = xss.take s.bodies.length
theorem SndT.le {xss : List (List Int)} {s : Snd} (h : SndT xss s) : s.bodies.length ≤ xss.length := by
  have := congrArg List.length h.pre
  rw [List.length_take] at this; omega
theorem SndT.offer {xss : List (List Int)} {s : Snd} (h : SndT xss s) (hx : ∀ x ∈ xss, ∀ y ∈ x, (Lit.int .u8 y).wf = true) (hl : s.bodies.length < xss.length) : SndT xss (offerS s (xss.getD s.bodies.length [])).1 := by
  have hm : xss[s.bodies.length]? = some (xss.getD s.bodies.length []) := by simp [List.getD, List.getElem?_eq_getElem hl]
  have hk := offerS_ok (b := xss.getD s.bodies.length []) h.ok (hx _ (List.mem_of_getElem? hm))
  by_cases he : (offerS s (xss.getD s.bodies.length [])).2.2 = 0
  · obtain ⟨h1, h2, h3⟩ := offerS_zero he
    refine ⟨hk, h3.trans h.st, ?_⟩
    rw [h1, List.length_append, List.length_cons, List.length_nil, List.take_add_one, hm, ← h.pre]
    rfl
  · rw [offerS_nz he]; exact h
theorem SndT.fill {xss : List (List Int)} {s : Snd} (h : SndT xss s) (hx : ∀ x ∈ xss, ∀ y ∈ x, (Lit.int .u8 y).wf = true) (k : Nat) (hk : k ≤ xss.length - s.bodies.length) : SndT xss (fillF xss k s) := by
  induction k generalizing s with
  | zero => exact h
  | succ k ih =>
    unfold fillF
    split
    · rename_i he
      have h1 := (offerS_zero he).1
      exact ih (h.offer hx (by omega)) (by rw [h1]; simp; omega)
    · exact h
theorem SndT.ack {xss : List (List Int)} {s : Snd} (h : SndT xss s) (n : Int) : SndT xss (ackS s n).1 := by
  have hl : (ackS s n).1.bodies = s.bodies := by unfold ackS; split <;> rfl
  have hs : (ackS s n).1.stream = s.stream := by unfold ackS; split <;> rfl
  exact ⟨ackS_ok n h.ok, hs.trans h.st, by rw [hl]; exact h.pre⟩
theorem pendS_ok {s : Snd} (h : SndOk s) (hb : s.bodies.length ≤ 1000000) : ∀ f ∈ pendS s, FrOk f ∧ ∀ y ∈ f.body, 0 ≤ y ∧ y ≤ 255 := by
  intro f hf
  unfold pendS pendK at hf
  obtain ⟨p, hp, rfl⟩ := List.mem_map.1 hf
  have hg := keyed_ge hp
  obtain ⟨j, hj⟩ := List.getElem?_of_mem hp
  rw [keyed_get] at hj
  obtain ⟨x, hx, rfl⟩ := Option.map_eq_some_iff.1 hj
  have hm := h.body x (List.mem_of_mem_drop (List.mem_of_getElem? hx))
  have ha := h.acked
  rw [List.length_drop] at hg
  refine ⟨⟨h.stream.1, h.stream.2, ?_, ?_, hm.1⟩, fun y hy => u8_bounds (hm.2 y hy)⟩
  · simp only [frS] at hg ⊢; omega
  · simp only [frS] at hg ⊢; omega
theorem sentF_grams {s : Snd} (h : SndOk s) (hb : s.bodies.length ≤ 1000000) : Grams 64 1036 (sentF s) := by
  refine ⟨?_, fun x hx => ?_⟩
  · have e : (sentF s).length = s.bodies.length - s.acked := by unfold sentF pendS; rw [List.length_map, List.length_map, pendK_len]
    rw [e]
    have := h.room; have := h.window; have := h.acked; omega
  · obtain ⟨f, hf, rfl⟩ := List.mem_map.1 hx
    obtain ⟨h1, h2⟩ := pendS_ok h hb f hf
    exact ⟨by rw [pck_len]; have := h1.2.2.2.2; omega, fun y hy => by have := pck_byte h1 h2 y hy; simp [Lit.wf, IntKind.min, IntKind.max, IntKind.bits, IntKind.signed]; omega⟩
end Go.Proofs.Ytekhmfliaojabaa
