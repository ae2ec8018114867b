/- Lemmas of the proof that follows (Returns, part 10): walks of functions by contract, and plain lemmas. Conditions: none. -/
import Derived.Test.YtagcgldhhdecjaaReturnsI
namespace Go.Proofs.Ytagcgldhhdecjaa
open Go.RowKit

theorem echV_append (xs ys : List Ech) : echV (xs ++ ys) = echV xs ++ echV ys := by simp [echV]
theorem echV_one (es : List Ech) : ∀ u ∈ echV es, u.oneCell' = true := by
  intro u hu
  unfold echV at hu
  obtain ⟨e, _, he⟩ := List.mem_flatMap.1 hu
  simp [Ech.cells] at he
  rcases he with rfl | rfl | rfl | rfl | rfl <;> rfl

set_option maxRecDepth 100000 in
set_option maxHeartbeats 2000000 in
theorem echR_r13 (A : Option Addr) (n c gr nr cr k g3 base mv : Nat) (l : List Int) (lv dr : Int) (r1 r2 : Nat) (ms : List Ech) (N : Nat) (w : World) (p0 : w.cell? ⟨gr, k * 2, none⟩ = some (.int .i64 (r1 : Int))) (p1 : w.cell? ⟨gr, k * 2 + 1, none⟩ = some (.int .i64 (r2 : Int))) (d0 : w.cell? ⟨g3, 0, none⟩ = some (.int .i64 lv)) (d1 : w.cell? ⟨g3, 1, none⟩ = some (.int .i64 dr)) (hI : Ints .i64 w A n l) (hs : Smp l) (h1 : r1 < r2) (h2 : r2 ≤ n) (hmv : mv ≤ 1023) (hlv : 1 ≤ lv ∧ lv ≤ 1023) (hdr : 1 ≤ dr ∧ dr ≤ 1023) (hm : hunR l dr ((mv : Int) + lv) (r1, r2) = ms) (hN : ms.length = N) (hbs : base ≤ w.heap.size) (hk : k < nr) (_hnr : nr ≤ 1000) (a : Act) (Q : Exit → Act → World → Prop) (hsize : 60 ≤ a.tmps.size)
    (s0 : a.tmps[0]? = some (.slice A n c))
    (s3 : a.tmps[3]? = some (.pointer (some ⟨g3, 0, none⟩)))
    (s6 : a.tmps[6]? = some (.int .i64 (mv : Int)))
    (s9 : a.tmps[9]? = some (.slice (some ⟨gr, 0, none⟩) nr cr))
    (s11 : a.tmps[11]? = some (.int .i64 (k : Int)))
    (hend : ∀ (xv0 xv1 xv2 xv3 xv4 xv5 xv6 xv7 xv8 xv9 xv10 xv11 xv12 xv13 xv14 xv15 xv16 xv17 xv18 : Value) (W : World), (xv0 = .slice A n c) → (xv1 = .slice (some ⟨gr, 0, none⟩) nr cr) → (xv2 = .int .i64 (k : Int)) → (xv3 = .pointer (some ⟨gr, k * 2, none⟩)) → (xv4 = .pointer (some ⟨gr, k * 2, none⟩)) → (xv5 = .int .i64 (r1 : Int)) → (xv6 = .slice (some ⟨gr, 0, none⟩) nr cr) → (xv7 = .int .i64 (k : Int)) → (xv8 = .pointer (some ⟨gr, k * 2, none⟩)) → (xv9 = .pointer (some ⟨gr, k * 2 + 1, none⟩)) → (xv10 = .int .i64 (r2 : Int)) → (xv11 = .int .i64 (mv : Int)) → (xv12 = .pointer (some ⟨g3, 0, none⟩)) → (xv13 = .int .i64 (lv)) → (xv14 = .int .i64 ((mv : Int) + lv)) → (xv15 = .pointer (some ⟨g3, 1, none⟩)) → (xv16 = .int .i64 (dr)) → (∃ A' c', xv17 = .slice A' N c' ∧ EcL base W xv17 ms) → (∃ A' c', xv18 = .slice A' N c' ∧ EcL base W xv18 ms) → Ext w W → wpList Try.prog (rops Try.f26 13).toArray Q ((rops Try.f26 13).drop 19) (((((((((((((((((((a.put (some 42) xv0).put (some 43) xv1).put (some 44) xv2).put (some 45) xv3).put (some 46) xv4).put (some 47) xv5).put (some 48) xv6).put (some 49) xv7).put (some 50) xv8).put (some 51) xv9).put (some 52) xv10).put (some 53) xv11).put (some 54) xv12).put (some 55) xv13).put (some 56) xv14).put (some 57) xv15).put (some 58) xv16).put (some 59) xv17).put (some 12) xv18) W) :
    (Code.region 13 (rops Try.f26 13).toArray true).wp Try.prog Q a w := by
  have hmono : ∀ (W W' : World) (j : Nat) (u : Value), Ext W W' → (fun (i : Nat) (v : Value) (W : World) => match i with
    | 0 => v = .slice A n c
    | 1 => v = .slice (some ⟨gr, 0, none⟩) nr cr
    | 2 => v = .int .i64 (k : Int)
    | 3 => v = .pointer (some ⟨gr, k * 2, none⟩)
    | 4 => v = .pointer (some ⟨gr, k * 2, none⟩)
    | 5 => v = .int .i64 (r1 : Int)
    | 6 => v = .slice (some ⟨gr, 0, none⟩) nr cr
    | 7 => v = .int .i64 (k : Int)
    | 8 => v = .pointer (some ⟨gr, k * 2, none⟩)
    | 9 => v = .pointer (some ⟨gr, k * 2 + 1, none⟩)
    | 10 => v = .int .i64 (r2 : Int)
    | 11 => v = .int .i64 (mv : Int)
    | 12 => v = .pointer (some ⟨g3, 0, none⟩)
    | 13 => v = .int .i64 (lv)
    | 14 => v = .int .i64 ((mv : Int) + lv)
    | 15 => v = .pointer (some ⟨g3, 1, none⟩)
    | 16 => v = .int .i64 (dr)
    | 17 => ∃ A' c', v = .slice A' N c' ∧ EcL base W v ms
    | 18 => ∃ A' c', v = .slice A' N c' ∧ EcL base W v ms
    | _ => True) j u W → (fun (i : Nat) (v : Value) (W : World) => match i with
    | 0 => v = .slice A n c
    | 1 => v = .slice (some ⟨gr, 0, none⟩) nr cr
    | 2 => v = .int .i64 (k : Int)
    | 3 => v = .pointer (some ⟨gr, k * 2, none⟩)
    | 4 => v = .pointer (some ⟨gr, k * 2, none⟩)
    | 5 => v = .int .i64 (r1 : Int)
    | 6 => v = .slice (some ⟨gr, 0, none⟩) nr cr
    | 7 => v = .int .i64 (k : Int)
    | 8 => v = .pointer (some ⟨gr, k * 2, none⟩)
    | 9 => v = .pointer (some ⟨gr, k * 2 + 1, none⟩)
    | 10 => v = .int .i64 (r2 : Int)
    | 11 => v = .int .i64 (mv : Int)
    | 12 => v = .pointer (some ⟨g3, 0, none⟩)
    | 13 => v = .int .i64 (lv)
    | 14 => v = .int .i64 ((mv : Int) + lv)
    | 15 => v = .pointer (some ⟨g3, 1, none⟩)
    | 16 => v = .int .i64 (dr)
    | 17 => ∃ A' c', v = .slice A' N c' ∧ EcL base W v ms
    | 18 => ∃ A' c', v = .slice A' N c' ∧ EcL base W v ms
    | _ => True) j u W' := by
    intro W W' j u hX h
    match j, h with
    | 0, h => exact h
    | 1, h => exact h
    | 2, h => exact h
    | 3, h => exact h
    | 4, h => exact h
    | 5, h => exact h
    | 6, h => exact h
    | 7, h => exact h
    | 8, h => exact h
    | 9, h => exact h
    | 10, h => exact h
    | 11, h => exact h
    | 12, h => exact h
    | 13, h => exact h
    | 14, h => exact h
    | 15, h => exact h
    | 16, h => exact h
    | 17, h => obtain ⟨A', c', h1', h2'⟩ := h; exact ⟨A', c', h1', h2'.ext hX⟩
    | 18, h => obtain ⟨A', c', h1', h2'⟩ := h; exact ⟨A', c', h1', h2'.ext hX⟩
    | _ + 19, h => exact h
  have hsz : ∀ d, some d ∈ ([some 42, some 43, some 44, some 45, some 46, some 47, some 48, some 49, some 50, some 51, some 52, some 53, some 54, some 55, some 56, some 57, some 58, some 59, some 12] : List (Option Tmp)) → d < a.tmps.size := slots_lt (by decide) hsize
  refine wp_region_j 19 [some 42, some 43, some 44, some 45, some 46, some 47, some 48, some 49, some 50, some 51, some 52, some 53, some 54, some 55, some 56, some 57, some 58, some 59, some 12] [[], [], [], [1, 2], [3], [4], [], [], [6, 7], [8], [9], [], [], [12], [11, 13], [], [15], [0, 5, 10, 14, 16], [17]] [[], [], [], [], [], [], [], [], [], [], [], [], [], [], [], [], [], [], []] (fun (i : Nat) (v : Value) (W : World) => match i with
    | 0 => v = .slice A n c
    | 1 => v = .slice (some ⟨gr, 0, none⟩) nr cr
    | 2 => v = .int .i64 (k : Int)
    | 3 => v = .pointer (some ⟨gr, k * 2, none⟩)
    | 4 => v = .pointer (some ⟨gr, k * 2, none⟩)
    | 5 => v = .int .i64 (r1 : Int)
    | 6 => v = .slice (some ⟨gr, 0, none⟩) nr cr
    | 7 => v = .int .i64 (k : Int)
    | 8 => v = .pointer (some ⟨gr, k * 2, none⟩)
    | 9 => v = .pointer (some ⟨gr, k * 2 + 1, none⟩)
    | 10 => v = .int .i64 (r2 : Int)
    | 11 => v = .int .i64 (mv : Int)
    | 12 => v = .pointer (some ⟨g3, 0, none⟩)
    | 13 => v = .int .i64 (lv)
    | 14 => v = .int .i64 ((mv : Int) + lv)
    | 15 => v = .pointer (some ⟨g3, 1, none⟩)
    | 16 => v = .int .i64 (dr)
    | 17 => ∃ A' c', v = .slice A' N c' ∧ EcL base W v ms
    | 18 => ∃ A' c', v = .slice A' N c' ∧ EcL base W v ms
    | _ => True) (fun _ W => Ext w W) (by kernel_rfl) (by kernel_rfl) hsz (fun _ _ _ _ h => h) ((Ext.refl w).drew) ?_ ?_
  · clear hend
    simp only [rops, Try.f26, regOf, Option.bind_some, Nat.reduceBEq, if_true, if_false, Bool.false_eq_true, Option.getD_some]
    simp only [List.take_succ_cons, List.take_zero]
    refine ⟨?_, ?_, ?_, ?_, ?_, ?_, ?_, ?_, ?_, ?_, ?_, ?_, ?_, ?_, ?_, ?_, ?_, ?_, ?_, trivial⟩
    · intro done us W hJ hdep haft hnot b hb hb' K hK Q'
      have e0 := (hb' 0 (by simp)).trans s0
      clear hb hb'
      go_simp
      exact hK _ _ rfl (fun _ _ _ h => h) hJ
    · intro done us W hJ hdep haft hnot b hb hb' K hK Q'
      have e9 := (hb' 9 (by simp)).trans s9
      clear hb hb'
      go_simp
      exact hK _ _ rfl (fun _ _ _ h => h) hJ
    · intro done us W hJ hdep haft hnot b hb hb' K hK Q'
      have e11 := (hb' 11 (by simp)).trans s11
      clear hb hb'
      go_simp
      exact hK _ _ rfl (fun _ _ _ h => h) hJ
    · intro done us W hJ hdep haft hnot b hb hb' K hK Q'
      simp only [List.getD_cons_succ, List.getD_cons_zero, List.mem_cons, List.not_mem_nil, or_false, forall_eq_or_imp, forall_eq] at hdep
      have e43 := hb 1 43 rfl
      have e44 := hb 2 44 rfl
      have d1 := hdep.1
      have d2 := hdep.2
      rw [d1.1] at e43
      rw [d2.1] at e44
      clear hb hb' hdep d1 d2
      go_simp
      exact hK _ _ rfl (fun _ _ _ h => h) hJ
    · intro done us W hJ hdep haft hnot b hb hb' K hK Q'
      simp only [List.getD_cons_succ, List.getD_cons_zero, List.mem_cons, List.not_mem_nil, or_false, forall_eq] at hdep
      have e45 := hb 3 45 rfl
      have d3 := hdep
      rw [d3.1] at e45
      clear hb hb' hdep d3
      go_simp
      exact hK _ _ rfl (fun _ _ _ h => h) hJ
    · intro done us W hJ hdep haft hnot b hb hb' K hK Q'
      simp only [List.getD_cons_succ, List.getD_cons_zero, List.mem_cons, List.not_mem_nil, or_false, forall_eq] at hdep
      have e46 := hb 4 46 rfl
      have d4 := hdep
      rw [d4.1] at e46
      clear hb hb' hdep d4
      have q := Ext.cell hJ p0
      go_simp
      exact hK _ _ rfl (fun _ _ _ h => h) hJ
    · intro done us W hJ hdep haft hnot b hb hb' K hK Q'
      have e9 := (hb' 9 (by simp)).trans s9
      clear hb hb'
      go_simp
      exact hK _ _ rfl (fun _ _ _ h => h) hJ
    · intro done us W hJ hdep haft hnot b hb hb' K hK Q'
      have e11 := (hb' 11 (by simp)).trans s11
      clear hb hb'
      go_simp
      exact hK _ _ rfl (fun _ _ _ h => h) hJ
    · intro done us W hJ hdep haft hnot b hb hb' K hK Q'
      simp only [List.getD_cons_succ, List.getD_cons_zero, List.mem_cons, List.not_mem_nil, or_false, forall_eq_or_imp, forall_eq] at hdep
      have e48 := hb 6 48 rfl
      have e49 := hb 7 49 rfl
      have d6 := hdep.1
      have d7 := hdep.2
      rw [d6.1] at e48
      rw [d7.1] at e49
      clear hb hb' hdep d6 d7
      go_simp
      exact hK _ _ rfl (fun _ _ _ h => h) hJ
    · intro done us W hJ hdep haft hnot b hb hb' K hK Q'
      simp only [List.getD_cons_succ, List.getD_cons_zero, List.mem_cons, List.not_mem_nil, or_false, forall_eq] at hdep
      have e50 := hb 8 50 rfl
      have d8 := hdep
      rw [d8.1] at e50
      clear hb hb' hdep d8
      go_simp
      exact hK _ _ rfl (fun _ _ _ h => h) hJ
    · intro done us W hJ hdep haft hnot b hb hb' K hK Q'
      simp only [List.getD_cons_succ, List.getD_cons_zero, List.mem_cons, List.not_mem_nil, or_false, forall_eq] at hdep
      have e51 := hb 9 51 rfl
      have d9 := hdep
      rw [d9.1] at e51
      clear hb hb' hdep d9
      have q := Ext.cell hJ p1
      go_simp
      exact hK _ _ rfl (fun _ _ _ h => h) hJ
    · intro done us W hJ hdep haft hnot b hb hb' K hK Q'
      have e6 := (hb' 6 (by simp)).trans s6
      clear hb hb'
      go_simp
      exact hK _ _ rfl (fun _ _ _ h => h) hJ
    · intro done us W hJ hdep haft hnot b hb hb' K hK Q'
      have e3 := (hb' 3 (by simp)).trans s3
      clear hb hb'
      go_simp
      exact hK _ _ rfl (fun _ _ _ h => h) hJ
    · intro done us W hJ hdep haft hnot b hb hb' K hK Q'
      simp only [List.getD_cons_succ, List.getD_cons_zero, List.mem_cons, List.not_mem_nil, or_false, forall_eq] at hdep
      have e54 := hb 12 54 rfl
      have d12 := hdep
      rw [d12.1] at e54
      clear hb hb' hdep d12
      have q := Ext.cell hJ d0
      go_simp
      exact hK _ _ rfl (fun _ _ _ h => h) hJ
    · intro done us W hJ hdep haft hnot b hb hb' K hK Q'
      simp only [List.getD_cons_succ, List.getD_cons_zero, List.mem_cons, List.not_mem_nil, or_false, forall_eq_or_imp, forall_eq] at hdep
      have e53 := hb 11 53 rfl
      have e55 := hb 13 55 rfl
      have d11 := hdep.1
      have d13 := hdep.2
      rw [d11.1] at e53
      rw [d13.1] at e55
      clear hb hb' hdep d11 d13
      have qw : IntKind.i64.wrap ((mv : Int) + lv) = (mv : Int) + lv := IntWalk.i64_in _ (by omega)
      go_simp
      exact hK _ _ rfl (fun _ _ _ h => h) hJ
    · intro done us W hJ hdep haft hnot b hb hb' K hK Q'
      have e3 := (hb' 3 (by simp)).trans s3
      clear hb hb'
      go_simp
      exact hK _ _ rfl (fun _ _ _ h => h) hJ
    · intro done us W hJ hdep haft hnot b hb hb' K hK Q'
      simp only [List.getD_cons_succ, List.getD_cons_zero, List.mem_cons, List.not_mem_nil, or_false, forall_eq] at hdep
      have e57 := hb 15 57 rfl
      have d15 := hdep
      rw [d15.1] at e57
      clear hb hb' hdep d15
      have q := Ext.cell hJ d1
      go_simp
      exact hK _ _ rfl (fun _ _ _ h => h) hJ
    · intro done us W hJ hdep haft hnot b hb hb' K hK Q'
      simp only [List.getD_cons_succ, List.getD_cons_zero, List.mem_cons, List.not_mem_nil, or_false, forall_eq_or_imp, forall_eq] at hdep
      have e42 := hb 0 42 rfl
      have e47 := hb 5 47 rfl
      have e52 := hb 10 52 rfl
      have e56 := hb 14 56 rfl
      have e58 := hb 16 58 rfl
      have d0 := hdep.1
      have d5 := hdep.2.1
      have d10 := hdep.2.2.1
      have d14 := hdep.2.2.2.1
      have d16 := hdep.2.2.2.2
      rw [d0.1] at e42
      rw [d5.1] at e47
      rw [d10.1] at e52
      rw [d14.1] at e56
      rw [d16.1] at e58
      clear hb hb' hdep d0 d5 d10 d14 d16
      go_simp
      refine (run_any A n c l r1 r2 ((mv : Int) + lv) dr W (hI.ext hJ) hs h1 h2 (by omega) (by omega)).mono ?_
      rintro e w' ⟨v', rfl, hE, hX⟩
      rw [hm] at hE
      obtain ⟨A', c', rfl⟩ := own_slice hE
      exact hK _ _ ⟨A', c', by rw [hN], World.ownsRow.mono' hE (Nat.le_trans hbs hJ.size)⟩ (fun j u _ h => hmono _ _ j u hX h) (Ext.trans hJ hX)
    · intro done us W hJ hdep haft hnot b hb hb' K hK Q'
      simp only [List.getD_cons_succ, List.getD_cons_zero, List.mem_cons, List.not_mem_nil, or_false, forall_eq] at hdep
      have e59 := hb 17 59 rfl
      have d17 := hdep
      clear hb hb' hdep 
      obtain ⟨A', c', e', ho⟩ := d17.1
      rw [e'] at e59
      go_simp
      exact hK _ _ ⟨A', c', rfl, e' ▸ ho⟩ (fun _ _ _ h => h) hJ
  · intro us W hV hJ
    exact hend (us 0) (us 1) (us 2) (us 3) (us 4) (us 5) (us 6) (us 7) (us 8) (us 9) (us 10) (us 11) (us 12) (us 13) (us 14) (us 15) (us 16) (us 17) (us 18) W (hV 0 (by omega)) (hV 1 (by omega)) (hV 2 (by omega)) (hV 3 (by omega)) (hV 4 (by omega)) (hV 5 (by omega)) (hV 6 (by omega)) (hV 7 (by omega)) (hV 8 (by omega)) (hV 9 (by omega)) (hV 10 (by omega)) (hV 11 (by omega)) (hV 12 (by omega)) (hV 13 (by omega)) (hV 14 (by omega)) (hV 15 (by omega)) (hV 16 (by omega)) (hV 17 (by omega)) (hV 18 (by omega)) hJ
set_option maxRecDepth 100000 in
set_option maxHeartbeats 8000000 in
theorem echoesR_any (A : Option Addr) (n c : Nat) (l : List Int) (d : Det) (w : World) (h : Ints .i64 w A n l) :
    Calls Try.prog 26 #[.slice A n c, .agg #[.int .i64 d.level, .int .i64 d.drop, .int .i64 d.step, .int .i64 d.delay]] w (RetEc w (echoesF l d)) := by
  obtain ⟨lv, dr, st, de⟩ := d
  simp only
  have hXb := (Ext.refl w).alloc (.cells #[.int .i64 lv, .int .i64 dr, .int .i64 st, .int .i64 de] 33)
  have hBb := Blk.new w 33 #[.int .i64 lv, .int .i64 dr, .int .i64 st, .int .i64 de]
  have hIb := h.ext hXb
  have HL := Lib.hid h.1
  have H0 := Lib.hid h
  have hfar : ∀ q, A = some q → 0 < n → q.block < w.heap.size := fun q hq hn => by
    obtain ⟨b, off, x, hA, _, _, hc⟩ := h.get hn
    rw [hA] at hq
    injection hq with hq
    subst hq
    exact World.block_lt_of_cell? _ _ hc
  clear h
  by_cases hd : ¬ DetOk ⟨lv, dr, st, de⟩
  · have q : Hid (decide (DetOk ⟨lv, dr, st, de⟩) = false) := Lib.hid (decide_eq_false hd)
    have HB : Hid (echoesF l ⟨lv, dr, st, de⟩ = ([], 31)) := Lib.hid (by unfold echoesF; rw [if_pos hd])
    clear hd
    go_enter Try.func26, Try.ntmps26
    go_wp2_with fail
    refine (detR_any ⟨lv, dr, st, de⟩ _).mono ?_
    rw [q.out]
    rintro e w1 ⟨rfl, hX⟩
    go_wp2
    go_ret2
    exact ⟨_, by rw [HB.out]; rfl, by rw [HB.out]; exact EcL.nil _ _, hXb.trans hX⟩
  have hd' := Decidable.not_not.1 hd
  have q : Hid (decide (DetOk ⟨lv, dr, st, de⟩) = true) := Lib.hid (decide_eq_true hd')
  obtain ⟨l1, l2, d1, d2, _, _, _, _⟩ := hd'
  simp only at l1 l2 d1 d2
  by_cases hn : n = 0
  · subst hn
    have HB : Hid (echoesF l ⟨lv, dr, st, de⟩ = ([], 0)) := Lib.hid (by unfold echoesF; rw [if_neg hd, if_pos (List.eq_nil_of_length_eq_zero HL.out)])
    clear hd
    go_enter Try.func26, Try.ntmps26
    go_wp2_with fail
    refine (detR_any ⟨lv, dr, st, de⟩ _).mono ?_
    rw [q.out]
    rintro e w1 ⟨rfl, hX⟩
    go_wp2
    go_ret2
    exact ⟨_, by rw [HB.out]; rfl, by rw [HB.out]; exact EcL.nil _ _, hXb.trans hX⟩
  have hne : l ≠ [] := by intro e; subst e; have := HL.out; simp at this; omega
  have g0 : ((n : Int) == 0) = false := by simpa using hn
  by_cases hs : ¬ Smp l
  · have HB : Hid (echoesF l ⟨lv, dr, st, de⟩ = ([], 2)) := Lib.hid (by unfold echoesF; rw [if_neg hd, if_neg hne, if_pos hs])
    have HF : Hid (baseF l = (0, 2)) := Lib.hid (by unfold baseF; rw [if_pos (.inr hs)])
    clear hd hs hne hfar
    go_enter Try.func26, Try.ntmps26
    go_wp2_with fail
    refine (detR_any ⟨lv, dr, st, de⟩ _).mono ?_
    rw [q.out]
    rintro e w1 ⟨rfl, hX⟩
    go_wp2_with fail
    refine (baseR_any A n c l _ (hIb.ext hX)).mono ?_
    rw [HF.out]
    rintro e _ ⟨rfl, rfl⟩
    go_wp2
    go_ret2
    exact ⟨_, by rw [HB.out]; rfl, by rw [HB.out]; exact EcL.nil _ _, hXb.trans hX⟩
  have hs' := Decidable.not_not.1 hs
  have HF : Hid (baseF l = ((medV l : Int), 0)) := Lib.hid (by unfold baseF; rw [if_neg]; rintro (h | h); exact hne h; exact hs h)
  have HR0 : ∀ x, Hid (runsF l x = (runsP x 0 l none, 0)) := fun x => Lib.hid (by unfold runsF; rw [if_pos hs'])
  have HB : Hid (echoesF l ⟨lv, dr, st, de⟩ = ((allE l ⟨lv, dr, st, de⟩).take 15, 0)) := Lib.hid (by unfold echoesF; rw [if_neg hd, if_neg hne, if_neg hs])
  have HA : Hid (allE l ⟨lv, dr, st, de⟩ = (runsP (medV l + lv) 0 l none).flatMap (hunR l dr (medV l + lv))) := Lib.hid rfl
  have HSM := Lib.hid hs'
  have hn256 : n ≤ 256 := by have := hs'.1; have := HL.out; omega
  have hmed := medV_le l
  generalize medV l = mv at HF HA hmed
  have HFAR : Hid (∀ q, A = some q → q.block < w.heap.size) := Lib.hid fun q hq => hfar q hq (by omega)
  clear hd hs hs' hne hfar
  go_enter Try.func26, Try.ntmps26
  go_wp2_with fail
  refine (detR_any ⟨lv, dr, st, de⟩ _).mono ?_
  rw [q.out]
  rintro e w1 ⟨rfl, hX⟩
  have hX1 := hXb.trans hX
  replace hIb := hIb.ext hX
  replace hBb := hBb.ext hX
  clear hX hXb
  go_wp2_with fail
  refine (baseR_any A n c l _ hIb).mono ?_
  rw [HF.out]
  rintro e _ ⟨rfl, rfl⟩
  have c0 := hBb.cell 0
  have c1 := hBb.cell 1
  simp only [List.getElem?_toArray, List.getElem?_cons_zero, List.getElem?_cons_succ] at c0 c1
  go_wp2_with fail
  refine (runsR_any A n c l _ _ hIb).mono ?_
  rw [(HR0 _).out]
  clear HR0
  generalize hrs : runsP ((mv : Int) + lv) 0 l none = rs at HA ⊢
  rintro e w3 ⟨vr, rfl, hP, hX3⟩
  simp only at hP ⊢
  have hrl : rs.length ≤ n := by have := runsP_len ((mv : Int) + lv) 0 l none; rw [hrs] at this; have h2 := HL.out; simp only [Option.toList_none, List.length_nil, Nat.add_zero] at this; omega
  have HRS := Lib.hid hrs
  obtain ⟨Ar, cr, rfl⟩ := own_slice hP
  replace hX1 := hX1.trans hX3
  replace hBb := hBb.ext hX3
  clear hX3 c0 c1 hrs hIb
  have HX := Lib.hid hX1
  have HBD := Lib.hid hBb
  have HP := Lib.hid hP
  clear hX1 hBb hP
  generalize w1.heap.size = B2 at HP
  obtain ⟨nr, hnr⟩ : ∃ nr, rs.length = nr := ⟨_, rfl⟩
  rw [hnr] at hrl HP ⊢
  have HNR := Lib.hid hnr
  clear hnr
  go_wp2_with fail
  go_loopg [8, 11] nr (fun f ov iv wr => ∃ (k : Nat) (out : List Ech), f = nr - k ∧ k ≤ nr ∧ out.length ≤ k * 257 ∧ iv = .int .i64 (k : Int) ∧ Hid (EcL w.heap.size wr ov out) ∧ Hid (out = (rs.take k).flatMap (hunR l dr (mv + lv))) ∧ Hid (Ext w wr) ∧ Hid (PrL B2 wr (.slice Ar nr cr) rs) ∧ Hid (Blk wr w.heap.size 33 #[.int .i64 lv, .int .i64 dr, .int .i64 st, .int .i64 de]))
  case atStart => exact ⟨0, [], rfl, by omega, by simp, rfl, Lib.hid (EcL.nil _ _), Lib.hid rfl, HX, HP, HBD⟩
  case round =>
    clear HX HP HBD
    obtain ⟨k, out, rfl, hk, hol, rfl, HE, HO, HX, HP, HBD⟩ := hrel
    have hE := HE.out
    obtain ⟨A1, c1, hso⟩ := own_slice hE
    subst hso
    obtain ⟨oz, hoz⟩ : ∃ oz, out.length = oz := ⟨_, rfl⟩
    rw [hoz] at hol ⊢
    have HE2 : Hid (EcL w.heap.size wr (.slice A1 oz c1) out) := Lib.hid (by rw [hoz] at hE; exact hE)
    have HOZ := Lib.hid hoz
    have hcap := own_cap hE
    clear HE hE
    by_cases hlt : k < nr
    · obtain ⟨gr, cr', ⟨r1, r2⟩, hve, hr, p0, p1⟩ := HP.out.get (by rw [HNR.out]; exact hlt)
      injection hve with hve hve2 hve3
      subst hve
      clear hve2 hve3
      simp only at p0 p1
      have hrr := runsP_in (lv := (mv : Int) + lv) (l := l) (i := 0) (st := none) (fun a ha => by cases ha) (r1, r2) (by rw [HRS.out]; exact List.mem_of_getElem? hr)
      simp only [Nat.zero_add] at hrr
      obtain ⟨hr1, hr2⟩ := hrr
      rw [HL.out] at hr2
      have hml := hunR_len l dr ((mv : Int) + lv) (r1, r2)
      simp only at hml
      obtain ⟨ms, hms⟩ : ∃ ms, hunR l dr ((mv : Int) + lv) (r1, r2) = ms := ⟨_, rfl⟩
      obtain ⟨N, hN⟩ : ∃ N, ms.length = N := ⟨_, rfl⟩
      rw [hms, hN] at hml
      have HO2 : Hid (out ++ ms = (rs.take (k + 1)).flatMap (hunR l dr (mv + lv))) := Lib.hid (by
        rw [HO.out, List.take_add_one, hr, ← hms]
        simp)
      have hd0 := HBD.out.cell 0
      have hd1 := HBD.out.cell 1
      simp only [List.getElem?_toArray, List.getElem?_cons_zero, List.getElem?_cons_succ] at hd0 hd1
      have HMS := Lib.hid hms
      have HNN := Lib.hid hN
      clear hr hms hN hoz hcap
      have q1 : decide (k < nr) = true := decide_eq_true hlt
      go_upto_region 13 with (fail)
      refine echR_r13 A n c gr nr cr k w.heap.size w.heap.size mv l lv dr r1 r2 ms N wr p0 p1 hd0 hd1 (H0.out.ext HX.out) HSM.out hr1 hr2 hmed ⟨l1, l2⟩ ⟨d1, d2⟩ HMS.out HNN.out HX.out.size hlt (by omega) _ _ (by simp) rfl rfl rfl rfl rfl ?_
      rintro xv0 xv1 xv2 xv3 xv4 xv5 xv6 xv7 xv8 xv9 xv10 xv11 xv12 xv13 xv14 xv15 xv16 xv17 xv18 W rfl rfl rfl rfl rfl rfl rfl rfl rfl rfl rfl rfl rfl rfl rfl rfl rfl ⟨A8, c8, rfl, _⟩ ⟨A9, c9, rfl, hM⟩ hXW
      simp only [rops, Try.f26, regOf, Option.bind_some, Nat.reduceBEq, if_true, if_false, Bool.false_eq_true, Option.getD_some, List.drop_succ_cons, List.drop_zero]
      simp only [Act.put, List.setIfInBounds_toArray, List.set_cons_succ, List.set_cons_zero]
      replace HX := Lib.hid (HX.out.trans hXW)
      replace HP := Lib.hid (HP.out.ext hXW)
      replace HBD := Lib.hid (HBD.out.ext hXW)
      have hown : W.ownsRow w.heap.size 42 5 (.slice A1 oz c1) oz (echV out) := by
        have h1 := HE2.out.ext hXW
        unfold EcL at h1
        rw [HOZ.out] at h1
        exact h1
      have hat : At W A9 (echV ms) := by
        unfold EcL at hM
        rw [HNN.out] at hM
        exact At.of_own hM
      have hsz := HX.out.size
      have hel : (echV ms).length = N * 5 := by rw [echV_len, HNN.out]
      clear hXW hM hd0 hd1 p0 p1 HE2
      go_wp2_with (at_builtin; refine wpList_app _ elE rfl _ _ rfl w.heap.size (.slice A1 oz c1) oz (echV out) rfl hown _ N c9 (echV ms) rfl hel hat (echV_one ms) (by omega) (by unfold maxLen; omega) (by omega) ?_; intro v5 w5 hown5 hgr5 _; have HX5 := Lib.hid (HX.out.app hown hgr5); have HK5 := Lib.hid (Keeps.of_grown (L := (Value.slice A1 oz c1).ownBlock.toList) hgr5 (fun k hk => by rw [hk]; simp)); have HOW5 := Lib.hid hown5; clear hown5 hgr5)
      go_roundg (nr - (k + 1))
      case rel =>
        refine ⟨k + 1, out ++ ms, rfl, by omega, by rw [List.length_append, HOZ.out, HNN.out]; omega, by go_num, Lib.hid ?_, HO2, HX5, Lib.hid (row_away HP.out HK5.out fun k hk => NoRow.of_own hown (by simpa using hk) (by decide)), Lib.hid (blk_away HBD.out HK5.out fun k hk => NoRow.of_own hown (by simpa using hk) (by decide))⟩
        unfold EcL
        rw [echV_append, List.length_append, HOZ.out, HNN.out]
        exact HOW5.out
      case measure => omega
    · obtain rfl : k = nr := by omega
      have HE : Hid (out = allE l ⟨lv, dr, st, de⟩) := Lib.hid (by rw [HO.out, HA.out, List.take_of_length_le (Nat.le_of_eq HNR.out)])
      have hcap' : oz ≤ c1 ∧ c1 ≤ 9223372036854775807 := by rw [← hoz]; exact hcap
      obtain ⟨hcap1, hcap2⟩ := hcap'
      clear hcap hoz
      by_cases h15 : 15 < oz
      · go_wp2
        go_ret2
        refine ⟨.slice A1 15 c1, by rw [HB.out]; rfl, ?_, HX.out⟩
        rw [HB.out, ← HE.out]
        exact EcL.front HE2.out HOZ.out (by omega)
      · go_wp2
        go_ret2
        refine ⟨.slice A1 oz c1, by rw [HB.out]; rfl, ?_, HX.out⟩
        rw [HB.out, ← HE.out, List.take_of_length_le (by have := HOZ.out; omega)]
        exact HE2.out
end Go.Proofs.Ytagcgldhhdecjaa
namespace Go.Proofs.Ytagcgldhhdecjaa
open Go.RowKit

def WithE (n : Nat) (e : Ech) : Prop := 0 ≤ e.frm ∧ e.frm < n ∧ e.frm < e.til ∧ e.til ≤ n
instance (n : Nat) (e : Ech) : Decidable (WithE n e) := inferInstanceAs (Decidable (_ ∧ _))
theorem partE_iff {l : List Int} {n : Nat} {e : Ech} (h : l.length = n) : PartE l e ↔ Smp l ∧ WithE n e := by
  unfold PartE WithE
  rw [h]
set_option maxRecDepth 100000 in
set_option maxHeartbeats 2000000 in
theorem withR_any (A : Option Addr) (n c : Nat) (f t p lv tp : Int) (w : World) :
    Calls Try.prog 67 #[.slice A n c, .agg #[.int .i64 f, .int .i64 t, .int .i64 p, .int .i64 lv, .int .i64 tp]] w (fun e w' => e = .returned (.bool (decide (WithE n ⟨f, t, p, lv, tp⟩))) ∧ Ext w w') := by
  go_enter Try.func67, Try.ntmps67
  go_wp2
  all_goals
    go_ret
    refine ⟨?_, (Ext.refl w).alloc _⟩
    first
    | (have q : decide (WithE n ⟨f, t, p, lv, tp⟩) = false := decide_eq_false (by unfold WithE; simp only; omega)
       rw [q]; rfl)
    | (have q : decide (WithE n ⟨f, t, p, lv, tp⟩) = decide (t ≤ (n : Int)) := by
         rw [decide_eq_decide]; unfold WithE; simp only; omega
       rw [q]; rfl)
set_option maxRecDepth 100000 in
set_option maxHeartbeats 4000000 in
theorem energyR_any (A : Option Addr) (n c : Nat) (l : List Int) (f t p lv tp : Int) (w : World) (h : Ints .i64 w A n l) (hcap : n ≤ c ∧ c ≤ 9223372036854775807) :
    Calls Try.prog 35 #[.slice A n c, .agg #[.int .i64 f, .int .i64 t, .int .i64 p, .int .i64 lv, .int .i64 tp]] w (fun e w' => e = .returned (.tuple #[.int .i64 (energyF l ⟨f, t, p, lv, tp⟩).1, .int .i64 (energyF l ⟨f, t, p, lv, tp⟩).2]) ∧ Ext w w') := by
  have hXb := (Ext.refl w).alloc (.cells #[.int .i64 f, .int .i64 t, .int .i64 p, .int .i64 lv, .int .i64 tp] 42)
  have hBb := Blk.new w 42 #[.int .i64 f, .int .i64 t, .int .i64 p, .int .i64 lv, .int .i64 tp]
  have hIb := h.ext hXb
  have HL := Lib.hid h.1
  clear h
  by_cases hp : ¬ PartE l ⟨f, t, p, lv, tp⟩
  · have q : Hid (decide (PartE l ⟨f, t, p, lv, tp⟩) = false) := Lib.hid (decide_eq_false hp)
    have HB : Hid (energyF l ⟨f, t, p, lv, tp⟩ = (0, 2)) := Lib.hid (by unfold energyF; rw [if_pos hp])
    rw [partE_iff HL.out] at hp
    by_cases hsw : l = [] ∨ ¬ Smp l
    · have HF : Hid (baseF l = (0, 2)) := Lib.hid (by unfold baseF; rw [if_pos hsw])
      clear hp hsw q
      go_enter Try.func35, Try.ntmps35
      go_wp2_with fail
      refine (baseR_any A n c l _ hIb).mono ?_
      rw [HF.out]
      rintro e _ ⟨rfl, rfl⟩
      go_wp2
      go_ret2
      exact ⟨by rw [HB.out]; rfl, hXb⟩
    · have HF : Hid (baseF l = ((medV l : Int), 0)) := Lib.hid (by unfold baseF; rw [if_neg hsw])
      have hw : ¬ WithE n ⟨f, t, p, lv, tp⟩ := fun h => hp ⟨Decidable.not_not.1 fun h' => hsw (.inr h'), h⟩
      have q2 : Hid (decide (WithE n ⟨f, t, p, lv, tp⟩) = false) := Lib.hid (decide_eq_false hw)
      clear hp hsw q hw
      go_enter Try.func35, Try.ntmps35
      go_wp2_with fail
      refine (baseR_any A n c l _ hIb).mono ?_
      rw [HF.out]
      rintro e _ ⟨rfl, rfl⟩
      go_wp2_with fail
      refine (withR_any A n c f t p lv tp _).mono ?_
      rw [q2.out]
      rintro e w1 ⟨rfl, hX⟩
      go_wp2
      go_ret2
      exact ⟨by rw [HB.out]; rfl, hXb.trans hX⟩
  have hp' := Decidable.not_not.1 hp
  have q : Hid (decide (PartE l ⟨f, t, p, lv, tp⟩) = true) := Lib.hid (decide_eq_true hp')
  have HB : Hid (energyF l ⟨f, t, p, lv, tp⟩ = (enerN l (medV l) (t - f).toNat f.toNat, 0)) := Lib.hid (by unfold energyF; rw [if_neg hp])
  obtain ⟨hs, h1, h2, h3, h4⟩ := hp'
  simp only at h1 h2 h3 h4
  rw [HL.out] at h2 h4
  have hne : l ≠ [] := by intro e; subst e; have := HL.out; simp at this; omega
  have HF : Hid (baseF l = ((medV l : Int), 0)) := Lib.hid (by unfold baseF; rw [if_neg]; rintro (h | h); exact hne h; exact h hs)
  have hn256 : n ≤ 256 := by have := hs.1; have := HL.out; omega
  have HSM := Lib.hid hs
  have hmed := medV_le l
  generalize medV l = mv at HF HB hmed
  obtain ⟨fr, rfl⟩ : ∃ x : Nat, f = x := ⟨f.toNat, by omega⟩
  obtain ⟨tn, rfl⟩ : ∃ x : Nat, t = x := ⟨t.toNat, by omega⟩
  rw [show ((tn : Int) - fr).toNat = tn - fr by omega, show ((fr : Int)).toNat = fr by omega] at HB
  obtain ⟨b, off, x0, hA, _, _, _⟩ := hIb.get (j := fr) (by omega)
  subst hA
  have qW : Hid (decide (WithE n ⟨fr, tn, p, lv, tp⟩) = true) := Lib.hid (decide_eq_true ((partE_iff HL.out).1 (Decidable.not_not.1 hp)).2)
  clear hp hs hne
  go_enter Try.func35, Try.ntmps35
  go_wp2_with fail
  refine (baseR_any _ n c l _ hIb).mono ?_
  rw [HF.out]
  rintro e _ ⟨rfl, rfl⟩
  go_wp2_with fail
  refine (withR_any _ n c fr tn p lv tp _).mono ?_
  rw [qW.out]
  rintro e w2 ⟨rfl, hX⟩
  replace hXb := hXb.trans hX
  replace hIb := hIb.ext hX
  replace hBb := hBb.ext hX
  clear hX
  have c0 := hBb.cell 0
  have c1 := hBb.cell 1
  simp only [List.getElem?_toArray, List.getElem?_cons_zero, List.getElem?_cons_succ] at c0 c1
  have HI := Lib.hid hIb
  have HX := Lib.hid hXb
  clear hIb hXb hBb
  go_wp2_with fail
  go_loopg [8, 9] (tn - fr) (fun f2 sv iv wr => ∃ (k : Nat) (s : Int), f2 = tn - fr - k ∧ k ≤ tn - fr ∧ -261888 ≤ s ∧ s ≤ 261888 ∧ sv = .int .i64 s ∧ iv = .int .i64 ((fr + k : Nat) : Int) ∧ Hid (enerN l mv k fr = s) ∧ w2 = wr)
  case atStart => exact ⟨0, 0, rfl, by omega, by omega, by omega, rfl, by go_num, Lib.hid rfl, rfl⟩
  case round =>
    obtain ⟨k, s, rfl, hk, hs1, hs2, rfl, rfl, HS, rfl⟩ := hrel
    by_cases hlt : k < tn - fr
    · obtain ⟨b', off', x, e, hx, _, hc⟩ := HI.out.get (j := fr + k) (by omega)
      injection e with e
      injection e with e1 e2
      subst e1 e2
      have bx := HSM.out.2 x (List.mem_of_getElem? hx)
      obtain ⟨bx1, bx2⟩ := bx
      have HS2 := Lib.hid (enerN_snoc l mv k fr)
      have hbd := enerN_bound (l := l) (b := (mv : Int)) HSM.out.2 (by omega) (k + 1) fr
      rw [HS2.out, HS.out, getD_at hx] at hbd
      have HS3 : Hid (enerN l mv (k + 1) fr = s + (x - mv)) := Lib.hid (by rw [HS2.out, HS.out, getD_at hx])
      clear hx
      obtain ⟨y, hy⟩ : ∃ y, s + (x - (mv : Int)) = y := ⟨_, rfl⟩
      rw [hy] at hbd HS3
      have qw1 : IntKind.i64.wrap (x - (mv : Int)) = x - mv := IntWalk.i64_in _ (by omega)
      have qw2 : IntKind.i64.wrap (s + (x - (mv : Int))) = s + (x - mv) := IntWalk.i64_in _ (by omega)
      go_wp2
      go_roundg (tn - fr - (k + 1))
      case rel => exact ⟨k + 1, s + (x - mv), by omega, by omega, by omega, by omega, by go_num, by go_num, by rw [hy]; exact HS3, rfl⟩
      case measure => omega
    · obtain rfl : k = tn - fr := by omega
      go_wp2
      go_ret2
      exact ⟨by rw [HB.out, HS.out]; rfl, HX.out⟩

set_option maxRecDepth 100000 in
set_option maxHeartbeats 8000000 in
theorem timeR_any (A : Option Addr) (n c : Nat) (l : List Int) (f t p lv tp : Int) (w : World) (h : Ints .i64 w A n l) :
    Calls Try.prog 33 #[.slice A n c, .agg #[.int .i64 f, .int .i64 t, .int .i64 p, .int .i64 lv, .int .i64 tp]] w (fun e w' => e = .returned (.tuple #[.agg #[.int .i64 (timeF l ⟨f, t, p, lv, tp⟩).1.1, .int .i64 (timeF l ⟨f, t, p, lv, tp⟩).1.2], .int .i64 (timeF l ⟨f, t, p, lv, tp⟩).2]) ∧ Ext w w') := by
  have hX0 := ((Ext.refl w).alloc (.cells #[.int .i64 f, .int .i64 t, .int .i64 p, .int .i64 lv, .int .i64 tp] 42)).alloc (.cells #[.int .i64 0, .int .i64 0] 44)
  have hB1 := (Blk.new w 42 #[.int .i64 f, .int .i64 t, .int .i64 p, .int .i64 lv, .int .i64 tp]).alloc (.cells #[.int .i64 0, .int .i64 0] 44)
  have hB2 := Blk.new (w.alloc (.cells #[.int .i64 f, .int .i64 t, .int .i64 p, .int .i64 lv, .int .i64 tp] 42)) 44 #[.int .i64 0, .int .i64 0]
  have es : (w.alloc (.cells #[.int .i64 f, .int .i64 t, .int .i64 p, .int .i64 lv, .int .i64 tp] 42)).heap.size = w.heap.size + 1 := by simp
  rw [es] at hB2
  have hI := h.ext hX0
  have HL := Lib.hid h.1
  clear h es
  by_cases hp : ¬ PartE l ⟨f, t, p, lv, tp⟩
  · have q : Hid (decide (PartE l ⟨f, t, p, lv, tp⟩) = false) := Lib.hid (decide_eq_false hp)
    have HB : Hid (timeF l ⟨f, t, p, lv, tp⟩ = ((0, 0), 2)) := Lib.hid (by unfold timeF; rw [if_pos hp])
    rw [partE_iff HL.out] at hp
    by_cases hs : ¬ Smp l
    · have qs : Hid (decide (Smp l) = false) := Lib.hid (decide_eq_false hs)
      clear hp q hs
      go_enter Try.func33, Try.ntmps33
      go_wp2_with fail
      refine (samplesR_any A n c l _ hI).mono ?_
      rw [qs.out]
      rintro e _ ⟨rfl, rfl⟩
      have s0 := hB2.cell 0
      have s1 := hB2.cell 1
      have z0 := hB2.free 0
      have z1 := hB2.free 1
      simp only [List.getElem?_toArray, List.getElem?_cons_zero, List.getElem?_cons_succ] at s0 s1
      go_wp2
      refine bodyPost_ret (v := .tuple #[.agg #[.int .i64 0, .int .i64 0], .int .i64 2]) (by simp [results, Try.results33, go_sem, *]) rfl ?_
      exact ⟨by rw [HB.out], hX0⟩
    have hw : ¬ WithE n ⟨f, t, p, lv, tp⟩ := fun h => hp ⟨Decidable.not_not.1 hs, h⟩
    have qs : Hid (decide (Smp l) = true) := Lib.hid (decide_eq_true (Decidable.not_not.1 hs))
    have q2 : Hid (decide (WithE n ⟨f, t, p, lv, tp⟩) = false) := Lib.hid (decide_eq_false hw)
    clear hp hs q hw
    go_enter Try.func33, Try.ntmps33
    go_wp2_with fail
    refine (samplesR_any A n c l _ hI).mono ?_
    rw [qs.out]
    rintro e _ ⟨rfl, rfl⟩
    go_wp2_with fail
    refine (withR_any A n c f t p lv tp _).mono ?_
    rw [q2.out]
    rintro e w1 ⟨rfl, hX⟩
    have HX := Lib.hid (hX0.trans hX)
    have s0 := (hB2.ext hX).cell 0
    have s1 := (hB2.ext hX).cell 1
    have z0 := (hB2.ext hX).free 0
    have z1 := (hB2.ext hX).free 1
    simp only [List.getElem?_toArray, List.getElem?_cons_zero, List.getElem?_cons_succ] at s0 s1
    go_wp2
    refine bodyPost_ret (v := .tuple #[.agg #[.int .i64 0, .int .i64 0], .int .i64 2]) (by simp [results, Try.results33, go_sem, *]) rfl ?_
    exact ⟨by rw [HB.out], (HX.out.setCell (by simp) _).setCell (by simp) _⟩
  have hp' := Decidable.not_not.1 hp
  have q : Hid (decide (PartE l ⟨f, t, p, lv, tp⟩) = true) := Lib.hid (decide_eq_true hp')
  obtain ⟨hs, h1, h2, h3, h4⟩ := hp'
  simp only at h1 h2 h3 h4
  rw [HL.out] at h2 h4
  have hn256 : n ≤ 256 := by have := hs.1; have := HL.out; omega
  have HSM := Lib.hid hs
  obtain ⟨fr, rfl⟩ : ∃ x : Nat, f = x := ⟨f.toNat, by omega⟩
  obtain ⟨tn, rfl⟩ : ∃ x : Nat, t = x := ⟨t.toNat, by omega⟩
  have HB : Hid (timeF l ⟨fr, tn, p, lv, tp⟩ = if (crossE l ⟨fr, tn, p, lv, tp⟩ : Int) = tn then ((0, 0), 2) else if crossE l ⟨fr, tn, p, lv, tp⟩ = 0 ∨ lv ≤ l.getD (crossE l ⟨fr, tn, p, lv, tp⟩ - 1) 0 then ((0, 0), 32)
      else ((256 * ((crossE l ⟨fr, tn, p, lv, tp⟩ : Int) - 1) + 256 * (lv - l.getD (crossE l ⟨fr, tn, p, lv, tp⟩ - 1) 0 - 1) / (l.getD (crossE l ⟨fr, tn, p, lv, tp⟩) 0 - l.getD (crossE l ⟨fr, tn, p, lv, tp⟩ - 1) 0),
        256 * ((crossE l ⟨fr, tn, p, lv, tp⟩ : Int) - 1) + (256 * (lv - l.getD (crossE l ⟨fr, tn, p, lv, tp⟩ - 1) 0) + l.getD (crossE l ⟨fr, tn, p, lv, tp⟩) 0 - l.getD (crossE l ⟨fr, tn, p, lv, tp⟩ - 1) 0 - 1) / (l.getD (crossE l ⟨fr, tn, p, lv, tp⟩) 0 - l.getD (crossE l ⟨fr, tn, p, lv, tp⟩ - 1) 0)), 0)) := Lib.hid (by unfold timeF; rw [if_neg hp])
  have HU0 : Hid (upTo l lv (tn - fr) fr = crossE l ⟨fr, tn, p, lv, tp⟩) := Lib.hid (by unfold crossE; simp only; congr 1; omega)
  generalize crossE l ⟨fr, tn, p, lv, tp⟩ = cr at HB HU0
  generalize timeF l ⟨fr, tn, p, lv, tp⟩ = R at HB ⊢
  obtain ⟨b, off, x0, hA, _, _, _⟩ := hI.get (j := fr) (by omega)
  subst hA
  have qW : Hid (decide (WithE n ⟨fr, tn, p, lv, tp⟩) = true) := Lib.hid (decide_eq_true ((partE_iff HL.out).1 (Decidable.not_not.1 hp)).2)
  have qS : Hid (decide (Smp l) = true) := Lib.hid (decide_eq_true hs)
  clear hp hs
  go_enter Try.func33, Try.ntmps33
  go_wp2_with fail
  refine (samplesR_any _ n c l _ hI).mono ?_
  rw [qS.out]
  rintro e _ ⟨rfl, rfl⟩
  go_wp2_with fail
  refine (withR_any _ n c fr tn p lv tp _).mono ?_
  rw [qW.out]
  rintro e w1 ⟨rfl, hX⟩
  have HX := Lib.hid (hX0.trans hX)
  have HI := Lib.hid (hI.ext hX)
  have HB1 := Lib.hid (hB1.ext hX)
  have HB2 := Lib.hid (hB2.ext hX)
  have e0 := HB1.out.cell 0
  simp only [List.getElem?_toArray, List.getElem?_cons_zero, List.getElem?_cons_succ] at e0
  clear hX hX0 hI hB1 hB2
  go_wp2_with fail
  clear e0
  go_loopg [6] (tn - fr) (fun f2 iv wr => ∃ z : Nat, f2 = tn - z ∧ fr ≤ z ∧ z ≤ tn ∧ iv = .int .i64 (z : Int) ∧ Hid (upTo l lv (tn - z) z = cr) ∧ Hid (Ext w1 wr))
  case atStart => exact ⟨fr, rfl, by omega, by omega, rfl, HU0, Lib.hid (Ext.refl _)⟩
  case round =>
    obtain ⟨z, rfl, hz1, hz2, rfl, HU, HXr⟩ := hrel
    have e1 := (HB1.out.ext HXr.out).cell 1
    have e3 := (HB1.out.ext HXr.out).cell 3
    simp only [List.getElem?_toArray, List.getElem?_cons_zero, List.getElem?_cons_succ] at e1 e3
    by_cases hzt : z < tn
    · obtain ⟨b', off', x, e, hx, _, cx⟩ := (HI.out.ext HXr.out).get (j := z) (by omega)
      injection e with e
      injection e with e1' e2'
      subst e1' e2'
      have HXx := Lib.hid (getD_at hx)
      obtain ⟨bx1, bx2⟩ := HSM.out.2 x (List.mem_of_getElem? hx)
      clear hx
      by_cases hxl : x < lv
      · have q1 : decide (x < lv) = true := decide_eq_true hxl
        have HU2 : Hid (upTo l lv (tn - (z + 1)) (z + 1) = cr) := Lib.hid (by
          have h := HU.out
          rw [show tn - z = tn - (z + 1) + 1 by omega, upTo, HXx.out, if_pos hxl] at h
          exact h)
        clear hxl
        go_wp2_with fail
        go_region
        go_wp2
        go_roundg (tn - (z + 1))
        case rel => exact ⟨z + 1, rfl, by omega, by omega, by go_num, HU2, Lib.hid HXr.out.drew⟩
        case measure => omega
      · have q1 : decide (x < lv) = false := decide_eq_false hxl
        have HC : Hid (cr = z) := Lib.hid (by
          have h := HU.out
          rw [show tn - z = tn - (z + 1) + 1 by omega, upTo, HXx.out, if_neg hxl] at h
          exact h.symm)
        have gz : ((z : Int) == (tn : Int)) = false := by simp; omega
        have hlx : lv ≤ x := by omega
        have HHL := Lib.hid hlx
        clear hxl hlx
        go_wp2_with fail
        go_region
        go_wp2_with fail
        have s0 := (HB2.out.ext HXr.out).cell 0
        have s1 := (HB2.out.ext HXr.out).cell 1
        have y0' := (HB2.out.ext HXr.out).free 0
        have y1' := (HB2.out.ext HXr.out).free 1
        simp only [List.getElem?_toArray, List.getElem?_cons_zero, List.getElem?_cons_succ] at s0 s1
        by_cases hz0 : z = 0
        · subst hz0
          go_region
          go_wp2
          refine bodyPost_ret (v := .tuple #[.agg #[.int .i64 0, .int .i64 0], .int .i64 32]) (by simp [results, Try.results33, go_sem, *]) rfl ?_
          exact ⟨by rw [HB.out, HC.out]; rw [if_neg (by omega), if_pos (.inl rfl)], (((HX.out.trans HXr.out).drew.drew).setCell (by simp) _).setCell (by simp) _⟩
        · obtain ⟨y0, rfl⟩ : ∃ y0, z = y0 + 1 := ⟨z - 1, by omega⟩
          obtain ⟨b', off', y, e, hy, _, cy⟩ := (HI.out.ext HXr.out).get (j := y0) (by omega)
          injection e with e
          injection e with e1' e2'
          subst e1' e2'
          have HYy := Lib.hid (getD_at hy)
          obtain ⟨by1, by2⟩ := HSM.out.2 y (List.mem_of_getElem? hy)
          clear hy
          have gz0 : ((y0 : Int) + 1 == 0) = false := by simp; omega
          by_cases hyl : lv ≤ y
          · have q2 : decide (lv ≤ y) = true := decide_eq_true hyl
            have HYL := Lib.hid hyl
            clear hyl
            go_region
            go_wp2
            refine bodyPost_ret (v := .tuple #[.agg #[.int .i64 0, .int .i64 0], .int .i64 32]) (by simp [results, Try.results33, go_sem, *]) rfl ?_
            exact ⟨by rw [HB.out, HC.out]; rw [if_neg (by omega), if_pos (.inr (by rw [Nat.add_sub_cancel, HYy.out]; exact HYL.out))], (((HX.out.trans HXr.out).drew.drew).setCell (by simp) _).setCell (by simp) _⟩
          · have q2 : decide (lv ≤ y) = false := decide_eq_false hyl
            have hxy : y < x := by have := HHL.out; omega
            have hly : y < lv := by omega
            have hlx := HHL.out
            obtain ⟨Q1, hQ1⟩ : ∃ Q, 256 * (lv - y - 1) / (x - y) = Q := ⟨_, rfl⟩
            obtain ⟨Q2, hQ2⟩ : ∃ Q, (256 * (lv - y) + x - y - 1) / (x - y) = Q := ⟨_, rfl⟩
            have b1 : 0 ≤ Q1 := by rw [← hQ1]; exact Int.ediv_nonneg (by omega) (by omega)
            have b2 : Q1 ≤ 256 * (lv - y - 1) := by rw [← hQ1]; exact Int.ediv_le_self _ (by omega)
            have b3 : 0 ≤ Q2 := by rw [← hQ2]; exact Int.ediv_nonneg (by omega) (by omega)
            have b4 : Q2 ≤ 256 * (lv - y) + x - y - 1 := by rw [← hQ2]; exact Int.ediv_le_self _ (by omega)
            have t1 : (256 * (lv - y - 1)).tdiv (x - y) = Q1 := by rw [Int.tdiv_eq_ediv_of_nonneg (by omega)]; exact hQ1
            have t2 : (256 * (lv - y) + x - y - 1).tdiv (x - y) = Q2 := by rw [Int.tdiv_eq_ediv_of_nonneg (by omega)]; exact hQ2
            have t3 : (256 * (lv - y) + (x - y) - 1).tdiv (x - y) = Q2 := by rw [show 256 * (lv - y) + (x - y) - 1 = 256 * (lv - y) + x - y - 1 by omega]; exact t2
            have t4 : (256 * (lv - y) + (x - y) - 1) / (x - y) = Q2 := by rw [show 256 * (lv - y) + (x - y) - 1 = 256 * (lv - y) + x - y - 1 by omega]; exact hQ2
            have HQ1 := Lib.hid hQ1
            clear t2
            have HQ2 := Lib.hid hQ2
            clear hQ1 hQ2 hyl
            go_region
            go_wp2_with fail
            go_region
            go_wp2_with fail
            go_region
            go_wp2
            have eR : R = ((256 * (y0 : Int) + Q1, 256 * (y0 : Int) + Q2), 0) := by
              rw [HB.out, HC.out, if_neg (by omega), if_neg (by rw [Nat.add_sub_cancel, HYy.out]; omega), Nat.add_sub_cancel, HYy.out, HXx.out, HQ1.out, HQ2.out, show ((y0 + 1 : Nat) : Int) - 1 = y0 by omega]
            refine bodyPost_ret (v := .tuple #[.agg #[.int .i64 (256 * (y0 : Int) + Q1), .int .i64 (256 * (y0 : Int) + Q2)], .int .i64 0]) (by simp [results, Try.results33, go_sem, *]) rfl ?_
            exact ⟨by rw [eR], ((((HX.out.trans HXr.out).setCell (by simp) _).setCell (by simp) _).drew).drew.drew.drew⟩
    · obtain rfl : z = tn := by omega
      have HC : Hid (cr = z) := Lib.hid (by
        have h := HU.out
        rw [Nat.sub_self, upTo] at h
        exact h.symm)
      have s0 := (HB2.out.ext HXr.out).cell 0
      have s1 := (HB2.out.ext HXr.out).cell 1
      have y0' := (HB2.out.ext HXr.out).free 0
      have y1' := (HB2.out.ext HXr.out).free 1
      simp only [List.getElem?_toArray, List.getElem?_cons_zero, List.getElem?_cons_succ] at s0 s1
      go_wp2_with fail
      go_region
      go_wp2
      refine bodyPost_ret (v := .tuple #[.agg #[.int .i64 0, .int .i64 0], .int .i64 2]) (by simp [results, Try.results33, go_sem, *]) rfl ?_
      exact ⟨by rw [HB.out, HC.out]; rw [if_pos rfl], (((HX.out.trans HXr.out).drew).setCell (by simp) _).setCell (by simp) _⟩
end Go.Proofs.Ytagcgldhhdecjaa
