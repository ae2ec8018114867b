/- Lemmas of the proof that follows (TopTransfer, part 10): walks of functions by contract, and plain lemmas. Conditions: none. -/
import Derived.Test.YtekhmfliaojabaaTopTransferI
namespace Go.Proofs.Ytekhmfliaojabaa
open Go.RowKit

set_option maxRecDepth 100000 in
set_option maxHeartbeats 2000000 in
theorem round_r0 (gt gs ln : Nat) (A : Option Addr) (n c : Nat) (fb : Bool) (w : World) (y0 : w.cell? ⟨gt, 0, none⟩ = some (.pointer (some ⟨gs, 0, none⟩))) (y2 : w.cell? ⟨gt, 2, none⟩ = some (.slice A n c)) (y3 : w.cell? ⟨gs, 3, none⟩ = some (.int .i64 (ln : Int))) (hfb : Hid (decide ((ln : Int) < (n : Int)) = fb)) (a : Act) (Q : Exit → Act → World → Prop) (hsize : 33 ≤ a.tmps.size)
    (s0 : a.tmps[0]? = some (.pointer (some ⟨gt, 0, none⟩)))
    (hend : ∀ (xv0 xv1 xv2 xv3 xv4 xv5 xv6 xv7 xv8 xv9 xv10 xv11 xv12 : Value) (W : World), (xv0 = .pointer (some ⟨gt, 0, none⟩)) → (xv1 = .pointer (some ⟨gt, 0, none⟩)) → (xv2 = .pointer (some ⟨gt, 0, none⟩)) → (xv3 = .pointer (some ⟨gs, 0, none⟩)) → (xv4 = .pointer (some ⟨gs, 0, none⟩)) → (xv5 = .pointer (some ⟨gs, 3, none⟩)) → (xv6 = .int .i64 (ln : Int)) → (xv7 = .pointer (some ⟨gt, 0, none⟩)) → (xv8 = .pointer (some ⟨gt, 0, none⟩)) → (xv9 = .pointer (some ⟨gt, 2, none⟩)) → (xv10 = .slice A n c) → (xv11 = .int .i64 (n : Int)) → (xv12 = .bool fb) → Ext w W → wpList Try.prog (rops Try.f86 0).toArray Q ((rops Try.f86 0).drop 13) (((((((((((((a.put (some 20) xv0).put (some 21) xv1).put (some 22) xv2).put (some 23) xv3).put (some 24) xv4).put (some 25) xv5).put (some 26) xv6).put (some 27) xv7).put (some 28) xv8).put (some 29) xv9).put (some 30) xv10).put (some 31) xv11).put (some 32) xv12) W) :
    (Code.region 0 (rops Try.f86 0).toArray true).wp Try.prog Q a w := by
  have hmono : ∀ (W W' : World) (j : Nat) (u : Value), Ext W W' → (fun (i : Nat) (v : Value) (W : World) => match i with
    | 0 => v = .pointer (some ⟨gt, 0, none⟩)
    | 1 => v = .pointer (some ⟨gt, 0, none⟩)
    | 2 => v = .pointer (some ⟨gt, 0, none⟩)
    | 3 => v = .pointer (some ⟨gs, 0, none⟩)
    | 4 => v = .pointer (some ⟨gs, 0, none⟩)
    | 5 => v = .pointer (some ⟨gs, 3, none⟩)
    | 6 => v = .int .i64 (ln : Int)
    | 7 => v = .pointer (some ⟨gt, 0, none⟩)
    | 8 => v = .pointer (some ⟨gt, 0, none⟩)
    | 9 => v = .pointer (some ⟨gt, 2, none⟩)
    | 10 => v = .slice A n c
    | 11 => v = .int .i64 (n : Int)
    | 12 => v = .bool fb
    | _ => True) j u W → (fun (i : Nat) (v : Value) (W : World) => match i with
    | 0 => v = .pointer (some ⟨gt, 0, none⟩)
    | 1 => v = .pointer (some ⟨gt, 0, none⟩)
    | 2 => v = .pointer (some ⟨gt, 0, none⟩)
    | 3 => v = .pointer (some ⟨gs, 0, none⟩)
    | 4 => v = .pointer (some ⟨gs, 0, none⟩)
    | 5 => v = .pointer (some ⟨gs, 3, none⟩)
    | 6 => v = .int .i64 (ln : Int)
    | 7 => v = .pointer (some ⟨gt, 0, none⟩)
    | 8 => v = .pointer (some ⟨gt, 0, none⟩)
    | 9 => v = .pointer (some ⟨gt, 2, none⟩)
    | 10 => v = .slice A n c
    | 11 => v = .int .i64 (n : Int)
    | 12 => v = .bool fb
    | _ => True) j u W' := by
    intro W W' j u hX h
    match j, h with
    | 0, h => exact h
    | 1, h => exact h
    | 2, h => exact h
    | 3, h => exact h
    | 4, h => exact h
    | 5, h => exact h
    | 6, h => exact h
    | 7, h => exact h
    | 8, h => exact h
    | 9, h => exact h
    | 10, h => exact h
    | 11, h => exact h
    | 12, h => exact h
    | _ + 13, h => exact h
  have hsz : ∀ d, some d ∈ ([some 20, some 21, some 22, some 23, some 24, some 25, some 26, some 27, some 28, some 29, some 30, some 31, some 32] : List (Option Tmp)) → d < a.tmps.size := slots_lt (by decide) hsize
  refine wp_region_j 13 [some 20, some 21, some 22, some 23, some 24, some 25, some 26, some 27, some 28, some 29, some 30, some 31, some 32] [[], [0], [1], [2], [3], [4], [5], [], [7], [8], [9], [10], [6, 11]] [[], [], [], [], [], [], [], [], [], [], [], [], []] (fun (i : Nat) (v : Value) (W : World) => match i with
    | 0 => v = .pointer (some ⟨gt, 0, none⟩)
    | 1 => v = .pointer (some ⟨gt, 0, none⟩)
    | 2 => v = .pointer (some ⟨gt, 0, none⟩)
    | 3 => v = .pointer (some ⟨gs, 0, none⟩)
    | 4 => v = .pointer (some ⟨gs, 0, none⟩)
    | 5 => v = .pointer (some ⟨gs, 3, none⟩)
    | 6 => v = .int .i64 (ln : Int)
    | 7 => v = .pointer (some ⟨gt, 0, none⟩)
    | 8 => v = .pointer (some ⟨gt, 0, none⟩)
    | 9 => v = .pointer (some ⟨gt, 2, none⟩)
    | 10 => v = .slice A n c
    | 11 => v = .int .i64 (n : Int)
    | 12 => v = .bool fb
    | _ => True) (fun _ W => Ext w W) (by kernel_rfl) (by kernel_rfl) hsz (fun _ _ _ _ h => h) ((Ext.refl w).drew) ?_ ?_
  · clear hend
    simp only [rops, Try.f86, regOf, Option.bind_some, Nat.reduceBEq, if_true, if_false, Bool.false_eq_true, Option.getD_some]
    simp only [List.take_succ_cons, List.take_zero]
    refine ⟨?_, ?_, ?_, ?_, ?_, ?_, ?_, ?_, ?_, ?_, ?_, ?_, ?_, trivial⟩
    · intro done us W hJ hdep haft hnot b hb hb' K hK Q'
      have e0 := (hb' 0 (by simp)).trans s0
      clear hb hb'
      go_simp
      exact hK _ _ rfl (fun _ _ _ h => h) hJ
    · intro done us W hJ hdep haft hnot b hb hb' K hK Q'
      simp only [List.getD_cons_succ, List.getD_cons_zero, List.mem_cons, List.not_mem_nil, or_false, forall_eq_or_imp, forall_eq] at hdep
      have e20 := hb 0 20 rfl
      have d0 := hdep
      rw [d0.1] at e20
      clear hb hb' hdep d0
      go_simp
      exact hK _ _ rfl (fun _ _ _ h => h) hJ
    · intro done us W hJ hdep haft hnot b hb hb' K hK Q'
      simp only [List.getD_cons_succ, List.getD_cons_zero, List.mem_cons, List.not_mem_nil, or_false, forall_eq_or_imp, forall_eq] at hdep
      have e21 := hb 1 21 rfl
      have d1 := hdep
      rw [d1.1] at e21
      clear hb hb' hdep d1
      go_simp
      exact hK _ _ rfl (fun _ _ _ h => h) hJ
    · intro done us W hJ hdep haft hnot b hb hb' K hK Q'
      simp only [List.getD_cons_succ, List.getD_cons_zero, List.mem_cons, List.not_mem_nil, or_false, forall_eq_or_imp, forall_eq] at hdep
      have e22 := hb 2 22 rfl
      have d2 := hdep
      rw [d2.1] at e22
      clear hb hb' hdep d2
      have q := Ext.cell hJ y0
      go_simp
      exact hK _ _ rfl (fun _ _ _ h => h) hJ
    · intro done us W hJ hdep haft hnot b hb hb' K hK Q'
      simp only [List.getD_cons_succ, List.getD_cons_zero, List.mem_cons, List.not_mem_nil, or_false, forall_eq_or_imp, forall_eq] at hdep
      have e23 := hb 3 23 rfl
      have d3 := hdep
      rw [d3.1] at e23
      clear hb hb' hdep d3
      go_simp
      exact hK _ _ rfl (fun _ _ _ h => h) hJ
    · intro done us W hJ hdep haft hnot b hb hb' K hK Q'
      simp only [List.getD_cons_succ, List.getD_cons_zero, List.mem_cons, List.not_mem_nil, or_false, forall_eq_or_imp, forall_eq] at hdep
      have e24 := hb 4 24 rfl
      have d4 := hdep
      rw [d4.1] at e24
      clear hb hb' hdep d4
      go_simp
      exact hK _ _ rfl (fun _ _ _ h => h) hJ
    · intro done us W hJ hdep haft hnot b hb hb' K hK Q'
      simp only [List.getD_cons_succ, List.getD_cons_zero, List.mem_cons, List.not_mem_nil, or_false, forall_eq_or_imp, forall_eq] at hdep
      have e25 := hb 5 25 rfl
      have d5 := hdep
      rw [d5.1] at e25
      clear hb hb' hdep d5
      have q := Ext.cell hJ y3
      go_simp
      exact hK _ _ rfl (fun _ _ _ h => h) hJ
    · intro done us W hJ hdep haft hnot b hb hb' K hK Q'
      have e0 := (hb' 0 (by simp)).trans s0
      clear hb hb'
      go_simp
      exact hK _ _ rfl (fun _ _ _ h => h) hJ
    · intro done us W hJ hdep haft hnot b hb hb' K hK Q'
      simp only [List.getD_cons_succ, List.getD_cons_zero, List.mem_cons, List.not_mem_nil, or_false, forall_eq_or_imp, forall_eq] at hdep
      have e27 := hb 7 27 rfl
      have d7 := hdep
      rw [d7.1] at e27
      clear hb hb' hdep d7
      go_simp
      exact hK _ _ rfl (fun _ _ _ h => h) hJ
    · intro done us W hJ hdep haft hnot b hb hb' K hK Q'
      simp only [List.getD_cons_succ, List.getD_cons_zero, List.mem_cons, List.not_mem_nil, or_false, forall_eq_or_imp, forall_eq] at hdep
      have e28 := hb 8 28 rfl
      have d8 := hdep
      rw [d8.1] at e28
      clear hb hb' hdep d8
      go_simp
      exact hK _ _ rfl (fun _ _ _ h => h) hJ
    · intro done us W hJ hdep haft hnot b hb hb' K hK Q'
      simp only [List.getD_cons_succ, List.getD_cons_zero, List.mem_cons, List.not_mem_nil, or_false, forall_eq_or_imp, forall_eq] at hdep
      have e29 := hb 9 29 rfl
      have d9 := hdep
      rw [d9.1] at e29
      clear hb hb' hdep d9
      have q := Ext.cell hJ y2
      go_simp
      exact hK _ _ rfl (fun _ _ _ h => h) hJ
    · intro done us W hJ hdep haft hnot b hb hb' K hK Q'
      simp only [List.getD_cons_succ, List.getD_cons_zero, List.mem_cons, List.not_mem_nil, or_false, forall_eq_or_imp, forall_eq] at hdep
      have e30 := hb 10 30 rfl
      have d10 := hdep
      rw [d10.1] at e30
      clear hb hb' hdep d10
      go_simp
      exact hK _ _ rfl (fun _ _ _ h => h) hJ
    · intro done us W hJ hdep haft hnot b hb hb' K hK Q'
      simp only [List.getD_cons_succ, List.getD_cons_zero, List.mem_cons, List.not_mem_nil, or_false, forall_eq_or_imp, forall_eq] at hdep
      have e26 := hb 6 26 rfl
      have e31 := hb 11 31 rfl
      have d6 := hdep.1
      have d11 := hdep.2
      rw [d6.1] at e26
      rw [d11.1] at e31
      clear hb hb' hdep d6 d11
      go_simp
      exact hK _ _ (by first | rfl | exact congrArg Value.bool hfb.out | (congr 1; exact hfb.out) | (have h9 := hfb.out; simp at h9 ⊢; first | exact h9 | omega)) (fun _ _ _ h => h) hJ
  · intro us W hV hJ
    exact hend (us 0) (us 1) (us 2) (us 3) (us 4) (us 5) (us 6) (us 7) (us 8) (us 9) (us 10) (us 11) (us 12) W (hV 0 (by omega)) (hV 1 (by omega)) (hV 2 (by omega)) (hV 3 (by omega)) (hV 4 (by omega)) (hV 5 (by omega)) (hV 6 (by omega)) (hV 7 (by omega)) (hV 8 (by omega)) (hV 9 (by omega)) (hV 10 (by omega)) (hV 11 (by omega)) (hV 12 (by omega)) hJ

theorem arr3 {cs : Array Value} (h : cs.size = 3) : ∃ a b c, cs = #[a, b, c] := by
  obtain ⟨l⟩ := cs
  match l, h with
  | [a, b, c], _ => exact ⟨a, b, c, rfl⟩
theorem blk_put3 {W : World} {g g' : Nat} {T : TypeId} {cs cs' : Array Value} (hB : Blk W g T cs) (hB' : Blk W g' T cs') (hc : cs'.size = 3) (x y z : Value) :
    ∃ ds, ds.size = 3 ∧ Blk (((W.setCell ⟨g, 0, none⟩ x).setCell ⟨g, 1, none⟩ y).setCell ⟨g, 2, none⟩ z) g' T ds := by
  by_cases e : g' = g
  · subst e
    exact ⟨_, by simpa using hc, ((hB'.set 0 x).set 1 y).set 2 z⟩
  · exact ⟨cs', hc, ((hB'.far (by exact e) x).far (by exact e) y).far (by exact e) z⟩

set_option maxRecDepth 100000 in
set_option maxHeartbeats 2000000 in
theorem round_r1 (w0 : World) (gt gs ms gr mr bb ob n c : Nat) (out : Value) (b1 b2 : Nat) (s : Snd) (r : Rcv) (ds : List Dlv) (A6 : Option Addr) (n6 c6 : Nat) (xs : List Int) (w : World) (hT0 : TrP w0 w gt gs ms gr mr (some ⟨bb, ob, none⟩) n c out b1 b2 s r ds) (hc0 : w0.cell? ⟨bb, ob + s.bodies.length, none⟩ = some (.slice A6 n6 c6)) (hlt : s.bodies.length < n) (hI : Ints .u8 w0 A6 n6 xs) (hn6 : n6 ≤ 1000000) (hsl : s.bodies.length ≤ 1000000) (a : Act) (Q : Exit → Act → World → Prop) (hsize : 54 ≤ a.tmps.size)
    (s0 : a.tmps[0]? = some (.pointer (some ⟨gt, 0, none⟩)))
    (hend : ∀ (xv0 xv1 xv2 xv3 xv4 xv5 xv6 xv7 xv8 xv9 xv10 xv11 xv12 xv13 xv14 xv15 xv16 xv17 xv18 xv19 xv20 xv21 xv22 xv23 : Value) (W : World), (xv0 = .pointer (some ⟨gt, 0, none⟩)) → (xv1 = .pointer (some ⟨gt, 0, none⟩)) → (xv2 = .pointer (some ⟨gt, 0, none⟩)) → (xv3 = .pointer (some ⟨gs, 0, none⟩)) → (xv4 = .pointer (some ⟨gt, 0, none⟩)) → (xv5 = .pointer (some ⟨gt, 0, none⟩)) → (xv6 = .pointer (some ⟨gt, 2, none⟩)) → (xv7 = .slice (some ⟨bb, ob, none⟩) n c) → (xv8 = .pointer (some ⟨gt, 0, none⟩)) → (xv9 = .pointer (some ⟨gt, 0, none⟩)) → (xv10 = .pointer (some ⟨gt, 0, none⟩)) → (xv11 = .pointer (some ⟨gs, 0, none⟩)) → (xv12 = .pointer (some ⟨gs, 0, none⟩)) → (xv13 = .pointer (some ⟨gs, 3, none⟩)) → ((xv14 = .int .i64 (s.bodies.length : Int))) → ((xv15 = .pointer (some ⟨bb, ob + s.bodies.length, none⟩))) → ((xv16 = .slice A6 n6 c6)) → ((∃ x y Z m l, xv17 = .tuple #[.agg #[.int .i64 x, .int .i64 y, .slice Z m l], .int .i64 (offerS s xs).2.2])) → ((∃ x y Z m l, xv18 = .tuple #[.agg #[.int .i64 x, .int .i64 y, .slice Z m l], .int .i64 (offerS s xs).2.2])) → (∃ x y Z m l, xv19 = .agg #[.int .i64 x, .int .i64 y, .slice Z m l]) → ((xv20 = .int .i64 (offerS s xs).2.2)) → (∃ g cs, xv21 = .pointer (some ⟨g, 0, none⟩) ∧ w0.heap.size ≤ g ∧ cs.size = 3 ∧ Blk W g 38 cs) → (True) → ((xv23 = .int .i64 (offerS s xs).2.2)) → TrP w0 W gt gs ms gr mr (some ⟨bb, ob, none⟩) n c out b1 b2 (offerS s xs).1 r ds → wpList Try.prog (rops Try.f86 1).toArray Q ((rops Try.f86 1).drop 24) ((((((((((((((((((((((((a.put (some 34) xv0).put (some 35) xv1).put (some 36) xv2).put (some 37) xv3).put (some 38) xv4).put (some 39) xv5).put (some 40) xv6).put (some 41) xv7).put (some 42) xv8).put (some 43) xv9).put (some 44) xv10).put (some 45) xv11).put (some 46) xv12).put (some 47) xv13).put (some 48) xv14).put (some 49) xv15).put (some 50) xv16).put (some 51) xv17).put (some 33) xv18).put (some 52) xv19).put (some 53) xv20).put (some 4) xv21).put (none) xv22).put (some 5) xv23) W) :
    (Code.region 1 (rops Try.f86 1).toArray true).wp Try.prog Q a w := by
  have hst : ∀ (W W' : World) (j : Nat) (u : Value), (∀ g cs, Blk W g 38 cs → cs.size = 3 → ∃ cs', cs'.size = 3 ∧ Blk W' g 38 cs') → (fun (i : Nat) (v : Value) (W : World) => match i with
    | 0 => v = .pointer (some ⟨gt, 0, none⟩)
    | 1 => v = .pointer (some ⟨gt, 0, none⟩)
    | 2 => v = .pointer (some ⟨gt, 0, none⟩)
    | 3 => v = .pointer (some ⟨gs, 0, none⟩)
    | 4 => v = .pointer (some ⟨gt, 0, none⟩)
    | 5 => v = .pointer (some ⟨gt, 0, none⟩)
    | 6 => v = .pointer (some ⟨gt, 2, none⟩)
    | 7 => v = .slice (some ⟨bb, ob, none⟩) n c
    | 8 => v = .pointer (some ⟨gt, 0, none⟩)
    | 9 => v = .pointer (some ⟨gt, 0, none⟩)
    | 10 => v = .pointer (some ⟨gt, 0, none⟩)
    | 11 => v = .pointer (some ⟨gs, 0, none⟩)
    | 12 => v = .pointer (some ⟨gs, 0, none⟩)
    | 13 => v = .pointer (some ⟨gs, 3, none⟩)
    | 14 => (v = .int .i64 (s.bodies.length : Int))
    | 15 => (v = .pointer (some ⟨bb, ob + s.bodies.length, none⟩))
    | 16 => (v = .slice A6 n6 c6)
    | 17 => (∃ x y Z m l, v = .tuple #[.agg #[.int .i64 x, .int .i64 y, .slice Z m l], .int .i64 (offerS s xs).2.2])
    | 18 => (∃ x y Z m l, v = .tuple #[.agg #[.int .i64 x, .int .i64 y, .slice Z m l], .int .i64 (offerS s xs).2.2])
    | 19 => ∃ x y Z m l, v = .agg #[.int .i64 x, .int .i64 y, .slice Z m l]
    | 20 => (v = .int .i64 (offerS s xs).2.2)
    | 21 => ∃ g cs, v = .pointer (some ⟨g, 0, none⟩) ∧ w0.heap.size ≤ g ∧ cs.size = 3 ∧ Blk W g 38 cs
    | 22 => True
    | 23 => (v = .int .i64 (offerS s xs).2.2)
    | _ => True) j u W → (fun (i : Nat) (v : Value) (W : World) => match i with
    | 0 => v = .pointer (some ⟨gt, 0, none⟩)
    | 1 => v = .pointer (some ⟨gt, 0, none⟩)
    | 2 => v = .pointer (some ⟨gt, 0, none⟩)
    | 3 => v = .pointer (some ⟨gs, 0, none⟩)
    | 4 => v = .pointer (some ⟨gt, 0, none⟩)
    | 5 => v = .pointer (some ⟨gt, 0, none⟩)
    | 6 => v = .pointer (some ⟨gt, 2, none⟩)
    | 7 => v = .slice (some ⟨bb, ob, none⟩) n c
    | 8 => v = .pointer (some ⟨gt, 0, none⟩)
    | 9 => v = .pointer (some ⟨gt, 0, none⟩)
    | 10 => v = .pointer (some ⟨gt, 0, none⟩)
    | 11 => v = .pointer (some ⟨gs, 0, none⟩)
    | 12 => v = .pointer (some ⟨gs, 0, none⟩)
    | 13 => v = .pointer (some ⟨gs, 3, none⟩)
    | 14 => (v = .int .i64 (s.bodies.length : Int))
    | 15 => (v = .pointer (some ⟨bb, ob + s.bodies.length, none⟩))
    | 16 => (v = .slice A6 n6 c6)
    | 17 => (∃ x y Z m l, v = .tuple #[.agg #[.int .i64 x, .int .i64 y, .slice Z m l], .int .i64 (offerS s xs).2.2])
    | 18 => (∃ x y Z m l, v = .tuple #[.agg #[.int .i64 x, .int .i64 y, .slice Z m l], .int .i64 (offerS s xs).2.2])
    | 19 => ∃ x y Z m l, v = .agg #[.int .i64 x, .int .i64 y, .slice Z m l]
    | 20 => (v = .int .i64 (offerS s xs).2.2)
    | 21 => ∃ g cs, v = .pointer (some ⟨g, 0, none⟩) ∧ w0.heap.size ≤ g ∧ cs.size = 3 ∧ Blk W g 38 cs
    | 22 => True
    | 23 => (v = .int .i64 (offerS s xs).2.2)
    | _ => True) j u W' := by
    intro W W' j u hX h
    match j, h with
    | 0, h => exact h
    | 1, h => exact h
    | 2, h => exact h
    | 3, h => exact h
    | 4, h => exact h
    | 5, h => exact h
    | 6, h => exact h
    | 7, h => exact h
    | 8, h => exact h
    | 9, h => exact h
    | 10, h => exact h
    | 11, h => exact h
    | 12, h => exact h
    | 13, h => exact h
    | 14, h => exact h
    | 15, h => exact h
    | 16, h => exact h
    | 17, h => exact h
    | 18, h => exact h
    | 19, h => exact h
    | 20, h => exact h
    | 21, h => obtain ⟨g, cs, h1, h2, h3, h4⟩ := h; obtain ⟨cs', h5, h6⟩ := hX g cs h4 h3; exact ⟨g, cs', h1, h2, h5, h6⟩
    | 22, h => exact h
    | 23, h => exact h
    | _ + 24, h => exact h
  have hsz : ∀ d, some d ∈ ([some 34, some 35, some 36, some 37, some 38, some 39, some 40, some 41, some 42, some 43, some 44, some 45, some 46, some 47, some 48, some 49, some 50, some 51, some 33, some 52, some 53, some 4, none, some 5] : List (Option Tmp)) → d < a.tmps.size := slots_lt (by decide) hsize
  refine wp_region_j 24 [some 34, some 35, some 36, some 37, some 38, some 39, some 40, some 41, some 42, some 43, some 44, some 45, some 46, some 47, some 48, some 49, some 50, some 51, some 33, some 52, some 53, some 4, none, some 5] [[], [0], [1], [2], [], [4], [5], [6], [], [8], [9], [10], [11], [12], [13], [7, 14], [15], [3, 16], [17], [18], [18], [], [19, 21], [20]] [[], [], [], [], [], [], [], [], [], [], [], [], [], [], [], [], [], [], [], [], [], [], [], []] (fun (i : Nat) (v : Value) (W : World) => match i with
    | 0 => v = .pointer (some ⟨gt, 0, none⟩)
    | 1 => v = .pointer (some ⟨gt, 0, none⟩)
    | 2 => v = .pointer (some ⟨gt, 0, none⟩)
    | 3 => v = .pointer (some ⟨gs, 0, none⟩)
    | 4 => v = .pointer (some ⟨gt, 0, none⟩)
    | 5 => v = .pointer (some ⟨gt, 0, none⟩)
    | 6 => v = .pointer (some ⟨gt, 2, none⟩)
    | 7 => v = .slice (some ⟨bb, ob, none⟩) n c
    | 8 => v = .pointer (some ⟨gt, 0, none⟩)
    | 9 => v = .pointer (some ⟨gt, 0, none⟩)
    | 10 => v = .pointer (some ⟨gt, 0, none⟩)
    | 11 => v = .pointer (some ⟨gs, 0, none⟩)
    | 12 => v = .pointer (some ⟨gs, 0, none⟩)
    | 13 => v = .pointer (some ⟨gs, 3, none⟩)
    | 14 => (v = .int .i64 (s.bodies.length : Int))
    | 15 => (v = .pointer (some ⟨bb, ob + s.bodies.length, none⟩))
    | 16 => (v = .slice A6 n6 c6)
    | 17 => (∃ x y Z m l, v = .tuple #[.agg #[.int .i64 x, .int .i64 y, .slice Z m l], .int .i64 (offerS s xs).2.2])
    | 18 => (∃ x y Z m l, v = .tuple #[.agg #[.int .i64 x, .int .i64 y, .slice Z m l], .int .i64 (offerS s xs).2.2])
    | 19 => ∃ x y Z m l, v = .agg #[.int .i64 x, .int .i64 y, .slice Z m l]
    | 20 => (v = .int .i64 (offerS s xs).2.2)
    | 21 => ∃ g cs, v = .pointer (some ⟨g, 0, none⟩) ∧ w0.heap.size ≤ g ∧ cs.size = 3 ∧ Blk W g 38 cs
    | 22 => True
    | 23 => (v = .int .i64 (offerS s xs).2.2)
    | _ => True) (fun done W => (done 17 → TrP w0 W gt gs ms gr mr (some ⟨bb, ob, none⟩) n c out b1 b2 (offerS s xs).1 r ds) ∧ (¬ done 17 → TrP w0 W gt gs ms gr mr (some ⟨bb, ob, none⟩) n c out b1 b2 s r ds) ∧ (done 17 → done 16) ∧ (done 16 → done 15) ∧ (done 15 → done 14)) (by kernel_rfl) (by kernel_rfl) hsz (fun p q W h hj => by have e : p = q := funext fun k => propext (h k); subst e; exact hj) ⟨fun h => h.elim, fun _ => hT0.grow (Ext.refl _).drew, fun h => h.elim, fun h => h.elim, fun h => h.elim⟩ ?_ ?_
  · clear hend
    simp only [rops, Try.f86, regOf, Option.bind_some, Nat.reduceBEq, if_true, if_false, Bool.false_eq_true, Option.getD_some]
    simp only [List.take_succ_cons, List.take_zero]
    refine ⟨?_, ?_, ?_, ?_, ?_, ?_, ?_, ?_, ?_, ?_, ?_, ?_, ?_, ?_, ?_, ?_, ?_, ?_, ?_, ?_, ?_, ?_, ?_, ?_, trivial⟩
    · intro done us W hJ hdep haft hnot b hb hb' K hK Q'
      have e0 := (hb' 0 (by simp)).trans s0
      clear hb hb'
      go_simp
      exact hK _ _ rfl (fun _ _ _ h => h) ⟨fun d => hJ.1 (d.resolve_right (by decide)), fun d => hJ.2.1 (fun e => d (.inl e)), fun d => .inl (hJ.2.2.1 (d.resolve_right (by decide))), fun d => .inl (hJ.2.2.2.1 (d.resolve_right (by decide))), fun d => .inl (hJ.2.2.2.2 (d.resolve_right (by decide)))⟩
    · intro done us W hJ hdep haft hnot b hb hb' K hK Q'
      simp only [List.getD_cons_succ, List.getD_cons_zero, List.mem_cons, List.not_mem_nil, or_false, forall_eq_or_imp, forall_eq] at hdep
      have e34 := hb 0 34 rfl
      have d0 := hdep
      rw [d0.1] at e34
      clear hb hb' hdep d0
      go_simp
      exact hK _ _ rfl (fun _ _ _ h => h) ⟨fun d => hJ.1 (d.resolve_right (by decide)), fun d => hJ.2.1 (fun e => d (.inl e)), fun d => .inl (hJ.2.2.1 (d.resolve_right (by decide))), fun d => .inl (hJ.2.2.2.1 (d.resolve_right (by decide))), fun d => .inl (hJ.2.2.2.2 (d.resolve_right (by decide)))⟩
    · intro done us W hJ hdep haft hnot b hb hb' K hK Q'
      simp only [List.getD_cons_succ, List.getD_cons_zero, List.mem_cons, List.not_mem_nil, or_false, forall_eq_or_imp, forall_eq] at hdep
      have e35 := hb 1 35 rfl
      have d1 := hdep
      rw [d1.1] at e35
      clear hb hb' hdep d1
      go_simp
      exact hK _ _ rfl (fun _ _ _ h => h) ⟨fun d => hJ.1 (d.resolve_right (by decide)), fun d => hJ.2.1 (fun e => d (.inl e)), fun d => .inl (hJ.2.2.1 (d.resolve_right (by decide))), fun d => .inl (hJ.2.2.2.1 (d.resolve_right (by decide))), fun d => .inl (hJ.2.2.2.2 (d.resolve_right (by decide)))⟩
    · intro done us W hJ hdep haft hnot b hb hb' K hK Q'
      simp only [List.getD_cons_succ, List.getD_cons_zero, List.mem_cons, List.not_mem_nil, or_false, forall_eq_or_imp, forall_eq] at hdep
      have e36 := hb 2 36 rfl
      have d2 := hdep
      rw [d2.1] at e36
      clear hb hb' hdep d2
      have hB : Blk W gt 132 #[.pointer (some ⟨gs, 0, none⟩), .pointer (some ⟨gr, 0, none⟩), .slice (some ⟨bb, ob, none⟩) n c, out] := by rcases Classical.em (done 17) with d | d; exact (hJ.1 d).blk; exact (hJ.2.1 d).blk
      have q := hB.cell 0
      clear hB
      go_simp
      exact hK _ _ rfl (fun _ _ _ h => h) ⟨fun d => hJ.1 (d.resolve_right (by decide)), fun d => hJ.2.1 (fun e => d (.inl e)), fun d => .inl (hJ.2.2.1 (d.resolve_right (by decide))), fun d => .inl (hJ.2.2.2.1 (d.resolve_right (by decide))), fun d => .inl (hJ.2.2.2.2 (d.resolve_right (by decide)))⟩
    · intro done us W hJ hdep haft hnot b hb hb' K hK Q'
      have e0 := (hb' 0 (by simp)).trans s0
      clear hb hb'
      go_simp
      exact hK _ _ rfl (fun _ _ _ h => h) ⟨fun d => hJ.1 (d.resolve_right (by decide)), fun d => hJ.2.1 (fun e => d (.inl e)), fun d => .inl (hJ.2.2.1 (d.resolve_right (by decide))), fun d => .inl (hJ.2.2.2.1 (d.resolve_right (by decide))), fun d => .inl (hJ.2.2.2.2 (d.resolve_right (by decide)))⟩
    · intro done us W hJ hdep haft hnot b hb hb' K hK Q'
      simp only [List.getD_cons_succ, List.getD_cons_zero, List.mem_cons, List.not_mem_nil, or_false, forall_eq_or_imp, forall_eq] at hdep
      have e38 := hb 4 38 rfl
      have d4 := hdep
      rw [d4.1] at e38
      clear hb hb' hdep d4
      go_simp
      exact hK _ _ rfl (fun _ _ _ h => h) ⟨fun d => hJ.1 (d.resolve_right (by decide)), fun d => hJ.2.1 (fun e => d (.inl e)), fun d => .inl (hJ.2.2.1 (d.resolve_right (by decide))), fun d => .inl (hJ.2.2.2.1 (d.resolve_right (by decide))), fun d => .inl (hJ.2.2.2.2 (d.resolve_right (by decide)))⟩
    · intro done us W hJ hdep haft hnot b hb hb' K hK Q'
      simp only [List.getD_cons_succ, List.getD_cons_zero, List.mem_cons, List.not_mem_nil, or_false, forall_eq_or_imp, forall_eq] at hdep
      have e39 := hb 5 39 rfl
      have d5 := hdep
      rw [d5.1] at e39
      clear hb hb' hdep d5
      go_simp
      exact hK _ _ rfl (fun _ _ _ h => h) ⟨fun d => hJ.1 (d.resolve_right (by decide)), fun d => hJ.2.1 (fun e => d (.inl e)), fun d => .inl (hJ.2.2.1 (d.resolve_right (by decide))), fun d => .inl (hJ.2.2.2.1 (d.resolve_right (by decide))), fun d => .inl (hJ.2.2.2.2 (d.resolve_right (by decide)))⟩
    · intro done us W hJ hdep haft hnot b hb hb' K hK Q'
      simp only [List.getD_cons_succ, List.getD_cons_zero, List.mem_cons, List.not_mem_nil, or_false, forall_eq_or_imp, forall_eq] at hdep
      have e40 := hb 6 40 rfl
      have d6 := hdep
      rw [d6.1] at e40
      clear hb hb' hdep d6
      have hB : Blk W gt 132 #[.pointer (some ⟨gs, 0, none⟩), .pointer (some ⟨gr, 0, none⟩), .slice (some ⟨bb, ob, none⟩) n c, out] := by rcases Classical.em (done 17) with d | d; exact (hJ.1 d).blk; exact (hJ.2.1 d).blk
      have q := hB.cell 2
      clear hB
      go_simp
      exact hK _ _ rfl (fun _ _ _ h => h) ⟨fun d => hJ.1 (d.resolve_right (by decide)), fun d => hJ.2.1 (fun e => d (.inl e)), fun d => .inl (hJ.2.2.1 (d.resolve_right (by decide))), fun d => .inl (hJ.2.2.2.1 (d.resolve_right (by decide))), fun d => .inl (hJ.2.2.2.2 (d.resolve_right (by decide)))⟩
    · intro done us W hJ hdep haft hnot b hb hb' K hK Q'
      have e0 := (hb' 0 (by simp)).trans s0
      clear hb hb'
      go_simp
      exact hK _ _ rfl (fun _ _ _ h => h) ⟨fun d => hJ.1 (d.resolve_right (by decide)), fun d => hJ.2.1 (fun e => d (.inl e)), fun d => .inl (hJ.2.2.1 (d.resolve_right (by decide))), fun d => .inl (hJ.2.2.2.1 (d.resolve_right (by decide))), fun d => .inl (hJ.2.2.2.2 (d.resolve_right (by decide)))⟩
    · intro done us W hJ hdep haft hnot b hb hb' K hK Q'
      simp only [List.getD_cons_succ, List.getD_cons_zero, List.mem_cons, List.not_mem_nil, or_false, forall_eq_or_imp, forall_eq] at hdep
      have e42 := hb 8 42 rfl
      have d8 := hdep
      rw [d8.1] at e42
      clear hb hb' hdep d8
      go_simp
      exact hK _ _ rfl (fun _ _ _ h => h) ⟨fun d => hJ.1 (d.resolve_right (by decide)), fun d => hJ.2.1 (fun e => d (.inl e)), fun d => .inl (hJ.2.2.1 (d.resolve_right (by decide))), fun d => .inl (hJ.2.2.2.1 (d.resolve_right (by decide))), fun d => .inl (hJ.2.2.2.2 (d.resolve_right (by decide)))⟩
    · intro done us W hJ hdep haft hnot b hb hb' K hK Q'
      simp only [List.getD_cons_succ, List.getD_cons_zero, List.mem_cons, List.not_mem_nil, or_false, forall_eq_or_imp, forall_eq] at hdep
      have e43 := hb 9 43 rfl
      have d9 := hdep
      rw [d9.1] at e43
      clear hb hb' hdep d9
      go_simp
      exact hK _ _ rfl (fun _ _ _ h => h) ⟨fun d => hJ.1 (d.resolve_right (by decide)), fun d => hJ.2.1 (fun e => d (.inl e)), fun d => .inl (hJ.2.2.1 (d.resolve_right (by decide))), fun d => .inl (hJ.2.2.2.1 (d.resolve_right (by decide))), fun d => .inl (hJ.2.2.2.2 (d.resolve_right (by decide)))⟩
    · intro done us W hJ hdep haft hnot b hb hb' K hK Q'
      simp only [List.getD_cons_succ, List.getD_cons_zero, List.mem_cons, List.not_mem_nil, or_false, forall_eq_or_imp, forall_eq] at hdep
      have e44 := hb 10 44 rfl
      have d10 := hdep
      rw [d10.1] at e44
      clear hb hb' hdep d10
      have hB : Blk W gt 132 #[.pointer (some ⟨gs, 0, none⟩), .pointer (some ⟨gr, 0, none⟩), .slice (some ⟨bb, ob, none⟩) n c, out] := by rcases Classical.em (done 17) with d | d; exact (hJ.1 d).blk; exact (hJ.2.1 d).blk
      have q := hB.cell 0
      clear hB
      go_simp
      exact hK _ _ rfl (fun _ _ _ h => h) ⟨fun d => hJ.1 (d.resolve_right (by decide)), fun d => hJ.2.1 (fun e => d (.inl e)), fun d => .inl (hJ.2.2.1 (d.resolve_right (by decide))), fun d => .inl (hJ.2.2.2.1 (d.resolve_right (by decide))), fun d => .inl (hJ.2.2.2.2 (d.resolve_right (by decide)))⟩
    · intro done us W hJ hdep haft hnot b hb hb' K hK Q'
      simp only [List.getD_cons_succ, List.getD_cons_zero, List.mem_cons, List.not_mem_nil, or_false, forall_eq_or_imp, forall_eq] at hdep
      have e45 := hb 11 45 rfl
      have d11 := hdep
      rw [d11.1] at e45
      clear hb hb' hdep d11
      go_simp
      exact hK _ _ rfl (fun _ _ _ h => h) ⟨fun d => hJ.1 (d.resolve_right (by decide)), fun d => hJ.2.1 (fun e => d (.inl e)), fun d => .inl (hJ.2.2.1 (d.resolve_right (by decide))), fun d => .inl (hJ.2.2.2.1 (d.resolve_right (by decide))), fun d => .inl (hJ.2.2.2.2 (d.resolve_right (by decide)))⟩
    · intro done us W hJ hdep haft hnot b hb hb' K hK Q'
      simp only [List.getD_cons_succ, List.getD_cons_zero, List.mem_cons, List.not_mem_nil, or_false, forall_eq_or_imp, forall_eq] at hdep
      have e46 := hb 12 46 rfl
      have d12 := hdep
      rw [d12.1] at e46
      clear hb hb' hdep d12
      go_simp
      exact hK _ _ rfl (fun _ _ _ h => h) ⟨fun d => hJ.1 (d.resolve_right (by decide)), fun d => hJ.2.1 (fun e => d (.inl e)), fun d => .inl (hJ.2.2.1 (d.resolve_right (by decide))), fun d => .inl (hJ.2.2.2.1 (d.resolve_right (by decide))), fun d => .inl (hJ.2.2.2.2 (d.resolve_right (by decide)))⟩
    · intro done us W hJ hdep haft hnot b hb hb' K hK Q'
      simp only [List.getD_cons_succ, List.getD_cons_zero, List.mem_cons, List.not_mem_nil, or_false, forall_eq_or_imp, forall_eq] at hdep
      have e47 := hb 13 47 rfl
      have d13 := hdep
      rw [d13.1] at e47
      clear hb hb' hdep d13
      have h17 : ¬ done 17 := fun d => hnot (hJ.2.2.2.2 (hJ.2.2.2.1 (hJ.2.2.1 d)))
      have q := (hJ.2.1 h17).snd.blk.cell 3
      go_simp
      exact hK _ _ rfl (fun _ _ _ h => h) ⟨fun d => hJ.1 (d.resolve_right (by decide)), fun d => hJ.2.1 (fun e => d (.inl e)), fun d => .inl (hJ.2.2.1 (d.resolve_right (by decide))), fun d => .inl (hJ.2.2.2.1 (d.resolve_right (by decide))), fun d => .inl (hJ.2.2.2.2 (d.resolve_right (by decide)))⟩
    · intro done us W hJ hdep haft hnot b hb hb' K hK Q'
      simp only [List.getD_cons_succ, List.getD_cons_zero, List.mem_cons, List.not_mem_nil, or_false, forall_eq_or_imp, forall_eq] at hdep
      have e41 := hb 7 41 rfl
      have e48 := hb 14 48 rfl
      have d7 := hdep.1
      have d14 := hdep.2
      rw [d7.1] at e41
      clear hb hb' hdep d7
      rw [d14.1] at e48
      go_simp
      exact hK _ _ rfl (fun _ _ _ h => h) ⟨fun d => hJ.1 (d.resolve_right (by decide)), fun d => hJ.2.1 (fun e => d (.inl e)), fun d => .inl (hJ.2.2.1 (d.resolve_right (by decide))), fun d => .inl (hJ.2.2.2.1 (d.resolve_right (by decide))), fun _ => .inl d14.2⟩
    · intro done us W hJ hdep haft hnot b hb hb' K hK Q'
      simp only [List.getD_cons_succ, List.getD_cons_zero, List.mem_cons, List.not_mem_nil, or_false, forall_eq_or_imp, forall_eq] at hdep
      have e49 := hb 15 49 rfl
      have d15 := hdep
      clear hb hb' hdep 
      rw [d15.1] at e49
      have hE : Ext w0 W := by rcases Classical.em (done 17) with d | d; exact (hJ.1 d).ext; exact (hJ.2.1 d).ext
      have q := hE.cell hc0
      clear hE
      go_simp
      exact hK _ _ rfl (fun _ _ _ h => h) ⟨fun d => hJ.1 (d.resolve_right (by decide)), fun d => hJ.2.1 (fun e => d (.inl e)), fun d => .inl (hJ.2.2.1 (d.resolve_right (by decide))), fun _ => .inl d15.2, fun d => .inl (hJ.2.2.2.2 (d.resolve_right (by decide)))⟩
    · intro done us W hJ hdep haft hnot b hb hb' K hK Q'
      simp only [List.getD_cons_succ, List.getD_cons_zero, List.mem_cons, List.not_mem_nil, or_false, forall_eq_or_imp, forall_eq] at hdep
      have e37 := hb 3 37 rfl
      have e50 := hb 16 50 rfl
      have d3 := hdep.1
      have d16 := hdep.2
      rw [d3.1] at e37
      clear hb hb' hdep d3
      rw [d16.1] at e50
      have hT := hJ.2.1 hnot
      go_simp
      refine (offerP_any b1 gs ms s A6 n6 c6 xs W hT.snd (hI.ext hT.ext) hn6 hsl).mono ?_
      rintro e w' ⟨v, rfl, ⟨Af, nf, cf, rfl, _⟩, hS', hk⟩
      exact hK _ _ ⟨_, _, _, _, _, rfl⟩ (fun j u hd h => hst W w' j u (fun g cs hB hc => ⟨cs, hc, hB.away hk (hT.snd.far _ (by decide))⟩) h) ⟨fun _ => hT.sent hk hS', fun d => absurd (.inr rfl) d, fun _ => .inl d16.2, fun d => .inl (hJ.2.2.2.1 (d.resolve_right (by decide))), fun d => .inl (hJ.2.2.2.2 (d.resolve_right (by decide)))⟩
    · intro done us W hJ hdep haft hnot b hb hb' K hK Q'
      simp only [List.getD_cons_succ, List.getD_cons_zero, List.mem_cons, List.not_mem_nil, or_false, forall_eq_or_imp, forall_eq] at hdep
      have e51 := hb 17 51 rfl
      have d17 := hdep
      clear hb hb' hdep 
      obtain ⟨x, y, Z, m, l, e'⟩ := d17.1
      rw [e'] at e51
      go_simp
      exact hK _ _ ⟨x, y, Z, m, l, rfl⟩ (fun _ _ _ h => h) ⟨fun d => hJ.1 (d.resolve_right (by decide)), fun d => hJ.2.1 (fun e => d (.inl e)), fun d => .inl (hJ.2.2.1 (d.resolve_right (by decide))), fun d => .inl (hJ.2.2.2.1 (d.resolve_right (by decide))), fun d => .inl (hJ.2.2.2.2 (d.resolve_right (by decide)))⟩
    · intro done us W hJ hdep haft hnot b hb hb' K hK Q'
      simp only [List.getD_cons_succ, List.getD_cons_zero, List.mem_cons, List.not_mem_nil, or_false, forall_eq_or_imp, forall_eq] at hdep
      have e33 := hb 18 33 rfl
      have d18 := hdep
      clear hb hb' hdep 
      obtain ⟨x, y, Z, m, l, e'⟩ := d18.1
      rw [e'] at e33
      go_simp
      exact hK _ _ ⟨x, y, Z, m, l, rfl⟩ (fun _ _ _ h => h) ⟨fun d => hJ.1 (d.resolve_right (by decide)), fun d => hJ.2.1 (fun e => d (.inl e)), fun d => .inl (hJ.2.2.1 (d.resolve_right (by decide))), fun d => .inl (hJ.2.2.2.1 (d.resolve_right (by decide))), fun d => .inl (hJ.2.2.2.2 (d.resolve_right (by decide)))⟩
    · intro done us W hJ hdep haft hnot b hb hb' K hK Q'
      simp only [List.getD_cons_succ, List.getD_cons_zero, List.mem_cons, List.not_mem_nil, or_false, forall_eq_or_imp, forall_eq] at hdep
      have e33 := hb 18 33 rfl
      have d18 := hdep
      clear hb hb' hdep 
      obtain ⟨x, y, Z, m, l, e'⟩ := d18.1
      rw [e'] at e33
      go_simp
      exact hK _ _ rfl (fun _ _ _ h => h) ⟨fun d => hJ.1 (d.resolve_right (by decide)), fun d => hJ.2.1 (fun e => d (.inl e)), fun d => .inl (hJ.2.2.1 (d.resolve_right (by decide))), fun d => .inl (hJ.2.2.2.1 (d.resolve_right (by decide))), fun d => .inl (hJ.2.2.2.2 (d.resolve_right (by decide)))⟩
    · intro done us W hJ hdep haft hnot b hb hb' K hK Q'
      clear hb hb'
      have hE : Ext w0 W := by rcases Classical.em (done 17) with d | d; exact (hJ.1 d).ext; exact (hJ.2.1 d).ext
      have hs := hE.size
      have hb := Blk.new W 38 #[.int .i64 0, .int .i64 0, .slice none 0 0]
      have hX := (Ext.refl W).alloc (.cells #[.int .i64 0, .int .i64 0, .slice none 0 0] 38)
      clear hE
      have hfin := hK (.pointer (some ⟨W.heap.size, 0, none⟩)) (W.alloc (.cells #[.int .i64 0, .int .i64 0, .slice none 0 0] 38)) ⟨_, _, rfl, hs, rfl, hb⟩ (fun j u hd h => hst W _ j u (fun g cs hB hc => ⟨cs, hc, hB.ext hX⟩) h) ⟨fun d => (hJ.1 (d.resolve_right (by decide))).grow hX, fun d => (hJ.2.1 (fun e => d (.inl e))).grow hX, fun d => .inl (hJ.2.2.1 (d.resolve_right (by decide))), fun d => .inl (hJ.2.2.2.1 (d.resolve_right (by decide))), fun d => .inl (hJ.2.2.2.2 (d.resolve_right (by decide)))⟩
      go_simp
      exact hfin
    · intro done us W hJ hdep haft hnot b hb hb' K hK Q'
      simp only [List.getD_cons_succ, List.getD_cons_zero, List.mem_cons, List.not_mem_nil, or_false, forall_eq_or_imp, forall_eq] at hdep
      have e4 := hb 21 4 rfl
      have e52 := hb 19 52 rfl
      have d19 := hdep.1
      have d21 := hdep.2
      clear hb hb' hdep 
      obtain ⟨x, y, Z, m, l, e'⟩ := d19.1
      rw [e'] at e52
      obtain ⟨g, cs, e2, hg, hcs, hB⟩ := d21.1
      rw [e2] at e4
      obtain ⟨a0, a1, a2, rfl⟩ := arr3 hcs
      have q0 := hB.cell 0
      have q1 := hB.cell 1
      have q2 := hB.cell 2
      have z0 := hB.free 0
      have z1 := hB.free 1
      have z2 := hB.free 2
      have hfin := hK undef (((W.setCell ⟨g, 0, none⟩ (.int .i64 x)).setCell ⟨g, 1, none⟩ (.int .i64 y)).setCell ⟨g, 2, none⟩ (.slice Z m l)) trivial (fun j u hd h => hst W _ j u (fun g' cs' hB' hc' => blk_put3 hB hB' hc' _ _ _) h) ⟨fun d => (hJ.1 (d.resolve_right (by decide))).put3 hB hg _ _ _, fun d => (hJ.2.1 (fun e => d (.inl e))).put3 hB hg _ _ _, fun d => .inl (hJ.2.2.1 (d.resolve_right (by decide))), fun d => .inl (hJ.2.2.2.1 (d.resolve_right (by decide))), fun d => .inl (hJ.2.2.2.2 (d.resolve_right (by decide)))⟩
      go_simp
      exact hfin
    · intro done us W hJ hdep haft hnot b hb hb' K hK Q'
      simp only [List.getD_cons_succ, List.getD_cons_zero, List.mem_cons, List.not_mem_nil, or_false, forall_eq_or_imp, forall_eq] at hdep
      have e53 := hb 20 53 rfl
      have d20 := hdep
      clear hb hb' hdep 
      rw [d20.1] at e53
      go_simp
      exact hK _ _ rfl (fun _ _ _ h => h) ⟨fun d => hJ.1 (d.resolve_right (by decide)), fun d => hJ.2.1 (fun e => d (.inl e)), fun d => .inl (hJ.2.2.1 (d.resolve_right (by decide))), fun d => .inl (hJ.2.2.2.1 (d.resolve_right (by decide))), fun d => .inl (hJ.2.2.2.2 (d.resolve_right (by decide)))⟩
  · intro us W hV hJ
    exact hend (us 0) (us 1) (us 2) (us 3) (us 4) (us 5) (us 6) (us 7) (us 8) (us 9) (us 10) (us 11) (us 12) (us 13) (us 14) (us 15) (us 16) (us 17) (us 18) (us 19) (us 20) (us 21) (us 22) (us 23) W (hV 0 (by omega)) (hV 1 (by omega)) (hV 2 (by omega)) (hV 3 (by omega)) (hV 4 (by omega)) (hV 5 (by omega)) (hV 6 (by omega)) (hV 7 (by omega)) (hV 8 (by omega)) (hV 9 (by omega)) (hV 10 (by omega)) (hV 11 (by omega)) (hV 12 (by omega)) (hV 13 (by omega)) (hV 14 (by omega)) (hV 15 (by omega)) (hV 16 (by omega)) (hV 17 (by omega)) (hV 18 (by omega)) (hV 19 (by omega)) (hV 20 (by omega)) (hV 21 (by omega)) (hV 22 (by omega)) (hV 23 (by omega)) (hJ.1 (by decide))
set_option maxRecDepth 100000 in
set_option maxHeartbeats 2000000 in
theorem round_r18 (w0 : World) (gt gs ms gr mr gf : Nat) (A : Option Addr) (n c : Nat) (out : Value) (b1 b2 : Nat) (s : Snd) (r : Rcv) (ds : List Dlv) (f : Fr) (A6 : Option Addr) (n6 c6 : Nat) (w : World) (hT0 : TrP w0 w gt gs ms gr mr A n c out b1 b2 s r ds) (hF : Blk w gf 38 #[.int .i64 f.stream, .int .i64 f.seq, .slice A6 n6 c6]) (hI : Ints .u8 w A6 n6 f.body) (a : Act) (Q : Exit → Act → World → Prop) (hsize : 107 ≤ a.tmps.size)
    (s0 : a.tmps[0]? = some (.pointer (some ⟨gt, 0, none⟩)))
    (s17 : a.tmps[17]? = some (.pointer (some ⟨gf, 0, none⟩)))
    (hend : ∀ (xv0 xv1 xv2 xv3 xv4 xv5 xv6 xv7 xv8 xv9 xv10 : Value) (W : World), (xv0 = .pointer (some ⟨gt, 0, none⟩)) → (xv1 = .pointer (some ⟨gt, 0, none⟩)) → (xv2 = .pointer (some ⟨gt, 1, none⟩)) → (xv3 = .pointer (some ⟨gr, 0, none⟩)) → (xv4 = .agg #[.int .i64 f.stream, .int .i64 f.seq, .slice A6 n6 c6]) → (∃ u, xv5 = .tuple #[u, .int .i64 (takeR r f).2.2] ∧ DlL w.heap.size b2 W u (takeR r f).2.1) → (∃ u, xv6 = .tuple #[u, .int .i64 (takeR r f).2.2] ∧ DlL w.heap.size b2 W u (takeR r f).2.1) → (DlL w.heap.size b2 W xv7 (takeR r f).2.1) → ((xv8 = .int .i64 (takeR r f).2.2)) → (DlL w.heap.size b2 W xv9 (takeR r f).2.1) → ((xv10 = .int .i64 (takeR r f).2.2)) → TrP w0 W gt gs ms gr mr A n c out b1 b2 s (takeR r f).1 ds ∧ Keeps [gr, mr] w W → wpList Try.prog (rops Try.f86 18).toArray Q ((rops Try.f86 18).drop 11) (((((((((((a.put (some 99) xv0).put (some 100) xv1).put (some 101) xv2).put (some 102) xv3).put (some 103) xv4).put (some 104) xv5).put (some 98) xv6).put (some 105) xv7).put (some 106) xv8).put (some 18) xv9).put (some 19) xv10) W) :
    (Code.region 18 (rops Try.f86 18).toArray true).wp Try.prog Q a w := by
  have hsz : ∀ d, some d ∈ ([some 99, some 100, some 101, some 102, some 103, some 104, some 98, some 105, some 106, some 18, some 19] : List (Option Tmp)) → d < a.tmps.size := slots_lt (by decide) hsize
  refine wp_region_j 11 [some 99, some 100, some 101, some 102, some 103, some 104, some 98, some 105, some 106, some 18, some 19] [[], [0], [1], [2], [], [3, 4], [5], [6], [6], [7], [8]] [[], [], [], [], [], [], [], [], [], [], []] (fun (i : Nat) (v : Value) (W : World) => match i with
    | 0 => v = .pointer (some ⟨gt, 0, none⟩)
    | 1 => v = .pointer (some ⟨gt, 0, none⟩)
    | 2 => v = .pointer (some ⟨gt, 1, none⟩)
    | 3 => v = .pointer (some ⟨gr, 0, none⟩)
    | 4 => v = .agg #[.int .i64 f.stream, .int .i64 f.seq, .slice A6 n6 c6]
    | 5 => ∃ u, v = .tuple #[u, .int .i64 (takeR r f).2.2] ∧ DlL w.heap.size b2 W u (takeR r f).2.1
    | 6 => ∃ u, v = .tuple #[u, .int .i64 (takeR r f).2.2] ∧ DlL w.heap.size b2 W u (takeR r f).2.1
    | 7 => DlL w.heap.size b2 W v (takeR r f).2.1
    | 8 => (v = .int .i64 (takeR r f).2.2)
    | 9 => DlL w.heap.size b2 W v (takeR r f).2.1
    | 10 => (v = .int .i64 (takeR r f).2.2)
    | _ => True) (fun done W => (done 5 → TrP w0 W gt gs ms gr mr A n c out b1 b2 s (takeR r f).1 ds) ∧ (¬ done 5 → TrP w0 W gt gs ms gr mr A n c out b1 b2 s r ds) ∧ Blk W gf 38 #[.int .i64 f.stream, .int .i64 f.seq, .slice A6 n6 c6] ∧ (done 6 → done 5) ∧ (done 7 → done 6) ∧ (done 8 → done 6) ∧ (done 9 → done 7) ∧ (done 10 → done 8) ∧ Keeps [gr, mr] w W ∧ (¬ done 5 → Ext w W)) (by kernel_rfl) (by kernel_rfl) hsz (fun p q W h hj => by have e : p = q := funext fun k => propext (h k); subst e; exact hj) ⟨fun h => h.elim, fun _ => hT0.grow (Ext.refl _).drew, hF.drew, fun h => h.elim, fun h => h.elim, fun h => h.elim, fun h => h.elim, fun h => h.elim, Keeps.of_ext (Ext.refl _).drew _, fun _ => (Ext.refl _).drew⟩ ?_ ?_
  · clear hend
    simp only [rops, Try.f86, regOf, Option.bind_some, Nat.reduceBEq, if_true, if_false, Bool.false_eq_true, Option.getD_some]
    simp only [List.take_succ_cons, List.take_zero]
    refine ⟨?_, ?_, ?_, ?_, ?_, ?_, ?_, ?_, ?_, ?_, ?_, trivial⟩
    · intro done us W hJ hdep haft hnot b hb hb' K hK Q'
      have e0 := (hb' 0 (by simp)).trans s0
      clear hb hb'
      go_simp
      exact hK _ _ rfl (fun _ _ _ h => h) ⟨fun d => hJ.1 (d.resolve_right (by decide)), fun d => hJ.2.1 (fun e => d (.inl e)), hJ.2.2.1, fun d => .inl (hJ.2.2.2.1 (d.resolve_right (by decide))), fun d => .inl (hJ.2.2.2.2.1 (d.resolve_right (by decide))), fun d => .inl (hJ.2.2.2.2.2.1 (d.resolve_right (by decide))), fun d => .inl (hJ.2.2.2.2.2.2.1 (d.resolve_right (by decide))), fun d => .inl (hJ.2.2.2.2.2.2.2.1 (d.resolve_right (by decide))), hJ.2.2.2.2.2.2.2.2.1, fun d => hJ.2.2.2.2.2.2.2.2.2 (fun e => d (.inl e))⟩
    · intro done us W hJ hdep haft hnot b hb hb' K hK Q'
      simp only [List.getD_cons_succ, List.getD_cons_zero, List.mem_cons, List.not_mem_nil, or_false, forall_eq_or_imp, forall_eq] at hdep
      have e99 := hb 0 99 rfl
      have d0 := hdep
      rw [d0.1] at e99
      clear hb hb' hdep d0
      go_simp
      exact hK _ _ rfl (fun _ _ _ h => h) ⟨fun d => hJ.1 (d.resolve_right (by decide)), fun d => hJ.2.1 (fun e => d (.inl e)), hJ.2.2.1, fun d => .inl (hJ.2.2.2.1 (d.resolve_right (by decide))), fun d => .inl (hJ.2.2.2.2.1 (d.resolve_right (by decide))), fun d => .inl (hJ.2.2.2.2.2.1 (d.resolve_right (by decide))), fun d => .inl (hJ.2.2.2.2.2.2.1 (d.resolve_right (by decide))), fun d => .inl (hJ.2.2.2.2.2.2.2.1 (d.resolve_right (by decide))), hJ.2.2.2.2.2.2.2.2.1, fun d => hJ.2.2.2.2.2.2.2.2.2 (fun e => d (.inl e))⟩
    · intro done us W hJ hdep haft hnot b hb hb' K hK Q'
      simp only [List.getD_cons_succ, List.getD_cons_zero, List.mem_cons, List.not_mem_nil, or_false, forall_eq_or_imp, forall_eq] at hdep
      have e100 := hb 1 100 rfl
      have d1 := hdep
      rw [d1.1] at e100
      clear hb hb' hdep d1
      go_simp
      exact hK _ _ rfl (fun _ _ _ h => h) ⟨fun d => hJ.1 (d.resolve_right (by decide)), fun d => hJ.2.1 (fun e => d (.inl e)), hJ.2.2.1, fun d => .inl (hJ.2.2.2.1 (d.resolve_right (by decide))), fun d => .inl (hJ.2.2.2.2.1 (d.resolve_right (by decide))), fun d => .inl (hJ.2.2.2.2.2.1 (d.resolve_right (by decide))), fun d => .inl (hJ.2.2.2.2.2.2.1 (d.resolve_right (by decide))), fun d => .inl (hJ.2.2.2.2.2.2.2.1 (d.resolve_right (by decide))), hJ.2.2.2.2.2.2.2.2.1, fun d => hJ.2.2.2.2.2.2.2.2.2 (fun e => d (.inl e))⟩
    · intro done us W hJ hdep haft hnot b hb hb' K hK Q'
      simp only [List.getD_cons_succ, List.getD_cons_zero, List.mem_cons, List.not_mem_nil, or_false, forall_eq_or_imp, forall_eq] at hdep
      have e101 := hb 2 101 rfl
      have d2 := hdep
      rw [d2.1] at e101
      clear hb hb' hdep d2
      have hB : Blk W gt 132 #[.pointer (some ⟨gs, 0, none⟩), .pointer (some ⟨gr, 0, none⟩), .slice A n c, out] := by rcases Classical.em (done 5) with d | d; exact (hJ.1 d).blk; exact (hJ.2.1 d).blk
      have q := hB.cell 1
      clear hB
      go_simp
      exact hK _ _ rfl (fun _ _ _ h => h) ⟨fun d => hJ.1 (d.resolve_right (by decide)), fun d => hJ.2.1 (fun e => d (.inl e)), hJ.2.2.1, fun d => .inl (hJ.2.2.2.1 (d.resolve_right (by decide))), fun d => .inl (hJ.2.2.2.2.1 (d.resolve_right (by decide))), fun d => .inl (hJ.2.2.2.2.2.1 (d.resolve_right (by decide))), fun d => .inl (hJ.2.2.2.2.2.2.1 (d.resolve_right (by decide))), fun d => .inl (hJ.2.2.2.2.2.2.2.1 (d.resolve_right (by decide))), hJ.2.2.2.2.2.2.2.2.1, fun d => hJ.2.2.2.2.2.2.2.2.2 (fun e => d (.inl e))⟩
    · intro done us W hJ hdep haft hnot b hb hb' K hK Q'
      have e17 := (hb' 17 (by simp)).trans s17
      clear hb hb'
      have q0 := hJ.2.2.1.cell 0
      have q1 := hJ.2.2.1.cell 1
      have q2 := hJ.2.2.1.cell 2
      go_simp
      exact hK _ _ rfl (fun _ _ _ h => h) ⟨fun d => hJ.1 (d.resolve_right (by decide)), fun d => hJ.2.1 (fun e => d (.inl e)), hJ.2.2.1, fun d => .inl (hJ.2.2.2.1 (d.resolve_right (by decide))), fun d => .inl (hJ.2.2.2.2.1 (d.resolve_right (by decide))), fun d => .inl (hJ.2.2.2.2.2.1 (d.resolve_right (by decide))), fun d => .inl (hJ.2.2.2.2.2.2.1 (d.resolve_right (by decide))), fun d => .inl (hJ.2.2.2.2.2.2.2.1 (d.resolve_right (by decide))), hJ.2.2.2.2.2.2.2.2.1, fun d => hJ.2.2.2.2.2.2.2.2.2 (fun e => d (.inl e))⟩
    · intro done us W hJ hdep haft hnot b hb hb' K hK Q'
      simp only [List.getD_cons_succ, List.getD_cons_zero, List.mem_cons, List.not_mem_nil, or_false, forall_eq_or_imp, forall_eq] at hdep
      have e102 := hb 3 102 rfl
      have e103 := hb 4 103 rfl
      have d3 := hdep.1
      have d4 := hdep.2
      rw [d3.1] at e102
      rw [d4.1] at e103
      clear hb hb' hdep d3 d4
      have hT := hJ.2.1 hnot
      have h6 : ¬ done 6 := fun d => hnot (hJ.2.2.2.1 d)
      have h7 : ¬ done 7 := fun d => h6 (hJ.2.2.2.2.1 d)
      have h8 : ¬ done 8 := fun d => h6 (hJ.2.2.2.2.2.1 d)
      have h9 : ¬ done 9 := fun d => h7 (hJ.2.2.2.2.2.2.1 d)
      have h10 : ¬ done 10 := fun d => h8 (hJ.2.2.2.2.2.2.2.1 d)
      go_simp
      refine (takeP_any b2 gr mr r f A6 n6 c6 W hT.rcv (Ints.ext hI (hJ.2.2.2.2.2.2.2.2.2 hnot))).mono ?_
      rintro e w' ⟨u, rfl, hd', hr', hk⟩
      exact hK _ _ ⟨u, rfl, hd'.mono hJ.2.2.2.2.2.2.2.2.1.size⟩ (fun j u hd h => by
        match j, h, hd with
        | 0, h, _ => exact h
        | 1, h, _ => exact h
        | 2, h, _ => exact h
        | 3, h, _ => exact h
        | 4, h, _ => exact h
        | 5, _, hd => exact absurd hd hnot
        | 6, _, hd => exact absurd hd h6
        | 7, _, hd => exact absurd hd h7
        | 8, _, hd => exact absurd hd h8
        | 9, _, hd => exact absurd hd h9
        | 10, _, hd => exact absurd hd h10
        | _ + 11, h, _ => exact h) ⟨fun _ => hT.took hk hr', fun d => absurd (.inr rfl) d, hJ.2.2.1.away hk (hT.rcv.q.far _ (by decide)), fun d => .inl (hJ.2.2.2.1 (d.resolve_right (by decide))), fun d => .inl (hJ.2.2.2.2.1 (d.resolve_right (by decide))), fun d => .inl (hJ.2.2.2.2.2.1 (d.resolve_right (by decide))), fun d => .inl (hJ.2.2.2.2.2.2.1 (d.resolve_right (by decide))), fun d => .inl (hJ.2.2.2.2.2.2.2.1 (d.resolve_right (by decide))), hJ.2.2.2.2.2.2.2.2.1.trans hk, fun d => absurd (.inr rfl) d⟩
    · intro done us W hJ hdep haft hnot b hb hb' K hK Q'
      simp only [List.getD_cons_succ, List.getD_cons_zero, List.mem_cons, List.not_mem_nil, or_false, forall_eq_or_imp, forall_eq] at hdep
      have e104 := hb 5 104 rfl
      have d5 := hdep
      clear hb hb' hdep 
      obtain ⟨u, e', hd'⟩ := d5.1
      rw [e'] at e104
      go_simp
      exact hK _ _ ⟨u, rfl, hd'⟩ (fun _ _ _ h => h) ⟨fun d => hJ.1 (d.resolve_right (by decide)), fun d => hJ.2.1 (fun e => d (.inl e)), hJ.2.2.1, fun _ => .inl d5.2, fun d => .inl (hJ.2.2.2.2.1 (d.resolve_right (by decide))), fun d => .inl (hJ.2.2.2.2.2.1 (d.resolve_right (by decide))), fun d => .inl (hJ.2.2.2.2.2.2.1 (d.resolve_right (by decide))), fun d => .inl (hJ.2.2.2.2.2.2.2.1 (d.resolve_right (by decide))), hJ.2.2.2.2.2.2.2.2.1, fun d => hJ.2.2.2.2.2.2.2.2.2 (fun e => d (.inl e))⟩
    · intro done us W hJ hdep haft hnot b hb hb' K hK Q'
      simp only [List.getD_cons_succ, List.getD_cons_zero, List.mem_cons, List.not_mem_nil, or_false, forall_eq_or_imp, forall_eq] at hdep
      have e98 := hb 6 98 rfl
      have d6 := hdep
      clear hb hb' hdep 
      obtain ⟨u, e', hd'⟩ := d6.1
      rw [e'] at e98
      go_simp
      exact hK _ _ hd' (fun _ _ _ h => h) ⟨fun d => hJ.1 (d.resolve_right (by decide)), fun d => hJ.2.1 (fun e => d (.inl e)), hJ.2.2.1, fun d => .inl (hJ.2.2.2.1 (d.resolve_right (by decide))), fun _ => .inl d6.2, fun d => .inl (hJ.2.2.2.2.2.1 (d.resolve_right (by decide))), fun d => .inl (hJ.2.2.2.2.2.2.1 (d.resolve_right (by decide))), fun d => .inl (hJ.2.2.2.2.2.2.2.1 (d.resolve_right (by decide))), hJ.2.2.2.2.2.2.2.2.1, fun d => hJ.2.2.2.2.2.2.2.2.2 (fun e => d (.inl e))⟩
    · intro done us W hJ hdep haft hnot b hb hb' K hK Q'
      simp only [List.getD_cons_succ, List.getD_cons_zero, List.mem_cons, List.not_mem_nil, or_false, forall_eq_or_imp, forall_eq] at hdep
      have e98 := hb 6 98 rfl
      have d6 := hdep
      clear hb hb' hdep 
      obtain ⟨u, e', hd'⟩ := d6.1
      rw [e'] at e98
      go_simp
      exact hK _ _ rfl (fun _ _ _ h => h) ⟨fun d => hJ.1 (d.resolve_right (by decide)), fun d => hJ.2.1 (fun e => d (.inl e)), hJ.2.2.1, fun d => .inl (hJ.2.2.2.1 (d.resolve_right (by decide))), fun d => .inl (hJ.2.2.2.2.1 (d.resolve_right (by decide))), fun _ => .inl d6.2, fun d => .inl (hJ.2.2.2.2.2.2.1 (d.resolve_right (by decide))), fun d => .inl (hJ.2.2.2.2.2.2.2.1 (d.resolve_right (by decide))), hJ.2.2.2.2.2.2.2.2.1, fun d => hJ.2.2.2.2.2.2.2.2.2 (fun e => d (.inl e))⟩
    · intro done us W hJ hdep haft hnot b hb hb' K hK Q'
      simp only [List.getD_cons_succ, List.getD_cons_zero, List.mem_cons, List.not_mem_nil, or_false, forall_eq_or_imp, forall_eq] at hdep
      have e105 := hb 7 105 rfl
      have d7 := hdep
      clear hb hb' hdep 
      have hv := d7.1
      go_simp
      exact hK _ _ hv (fun _ _ _ h => h) ⟨fun d => hJ.1 (d.resolve_right (by decide)), fun d => hJ.2.1 (fun e => d (.inl e)), hJ.2.2.1, fun d => .inl (hJ.2.2.2.1 (d.resolve_right (by decide))), fun d => .inl (hJ.2.2.2.2.1 (d.resolve_right (by decide))), fun d => .inl (hJ.2.2.2.2.2.1 (d.resolve_right (by decide))), fun _ => .inl d7.2, fun d => .inl (hJ.2.2.2.2.2.2.2.1 (d.resolve_right (by decide))), hJ.2.2.2.2.2.2.2.2.1, fun d => hJ.2.2.2.2.2.2.2.2.2 (fun e => d (.inl e))⟩
    · intro done us W hJ hdep haft hnot b hb hb' K hK Q'
      simp only [List.getD_cons_succ, List.getD_cons_zero, List.mem_cons, List.not_mem_nil, or_false, forall_eq_or_imp, forall_eq] at hdep
      have e106 := hb 8 106 rfl
      have d8 := hdep
      clear hb hb' hdep 
      rw [d8.1] at e106
      go_simp
      exact hK _ _ rfl (fun _ _ _ h => h) ⟨fun d => hJ.1 (d.resolve_right (by decide)), fun d => hJ.2.1 (fun e => d (.inl e)), hJ.2.2.1, fun d => .inl (hJ.2.2.2.1 (d.resolve_right (by decide))), fun d => .inl (hJ.2.2.2.2.1 (d.resolve_right (by decide))), fun d => .inl (hJ.2.2.2.2.2.1 (d.resolve_right (by decide))), fun d => .inl (hJ.2.2.2.2.2.2.1 (d.resolve_right (by decide))), fun _ => .inl d8.2, hJ.2.2.2.2.2.2.2.2.1, fun d => hJ.2.2.2.2.2.2.2.2.2 (fun e => d (.inl e))⟩
  · intro us W hV hJ
    exact hend (us 0) (us 1) (us 2) (us 3) (us 4) (us 5) (us 6) (us 7) (us 8) (us 9) (us 10) W (hV 0 (by omega)) (hV 1 (by omega)) (hV 2 (by omega)) (hV 3 (by omega)) (hV 4 (by omega)) (hV 5 (by omega)) (hV 6 (by omega)) (hV 7 (by omega)) (hV 8 (by omega)) (hV 9 (by omega)) (hV 10 (by omega)) ⟨hJ.1 (by decide), hJ.2.2.2.2.2.2.2.2.1⟩
set_option maxRecDepth 100000 in
set_option maxHeartbeats 2000000 in
theorem round_r23 (w0 : World) (gt gs ms gr mr : Nat) (A : Option Addr) (n c : Nat) (out : Value) (b1 b2 : Nat) (s : Snd) (r : Rcv) (ds : List Dlv) (w : World) (hT0 : TrP w0 w gt gs ms gr mr A n c out b1 b2 s r ds) (hsl : s.bodies.length ≤ 1000000) (a : Act) (Q : Exit → Act → World → Prop) (hsize : 130 ≤ a.tmps.size)
    (s0 : a.tmps[0]? = some (.pointer (some ⟨gt, 0, none⟩)))
    (hend : ∀ (xv0 xv1 xv2 xv3 xv4 xv5 xv6 xv7 xv8 xv9 : Value) (W : World), (xv0 = .pointer (some ⟨gt, 0, none⟩)) → (xv1 = .pointer (some ⟨gt, 0, none⟩)) → (xv2 = .pointer (some ⟨gt, 0, none⟩)) → (xv3 = .pointer (some ⟨gs, 0, none⟩)) → (xv4 = .pointer (some ⟨gt, 0, none⟩)) → (xv5 = .pointer (some ⟨gt, 0, none⟩)) → (xv6 = .pointer (some ⟨gt, 1, none⟩)) → (xv7 = .pointer (some ⟨gr, 0, none⟩)) → (xv8 = .int .i64 r.next) → (xv9 = .int .i64 (ackS s r.next).2) → TrP w0 W gt gs ms gr mr A n c out b1 b2 (ackS s r.next).1 r ds → wpList Try.prog (rops Try.f86 23).toArray Q ((rops Try.f86 23).drop 10) ((((((((((a.put (some 120) xv0).put (some 121) xv1).put (some 122) xv2).put (some 123) xv3).put (some 124) xv4).put (some 125) xv5).put (some 126) xv6).put (some 127) xv7).put (some 128) xv8).put (some 129) xv9) W) :
    (Code.region 23 (rops Try.f86 23).toArray true).wp Try.prog Q a w := by
  have hsz : ∀ d, some d ∈ ([some 120, some 121, some 122, some 123, some 124, some 125, some 126, some 127, some 128, some 129] : List (Option Tmp)) → d < a.tmps.size := slots_lt (by decide) hsize
  refine wp_region_j 10 [some 120, some 121, some 122, some 123, some 124, some 125, some 126, some 127, some 128, some 129] [[], [0], [1], [2], [], [4], [5], [6], [7], [3, 8]] [[], [], [], [], [], [], [], [], [], []] (fun (i : Nat) (v : Value) (W : World) => match i with
    | 0 => v = .pointer (some ⟨gt, 0, none⟩)
    | 1 => v = .pointer (some ⟨gt, 0, none⟩)
    | 2 => v = .pointer (some ⟨gt, 0, none⟩)
    | 3 => v = .pointer (some ⟨gs, 0, none⟩)
    | 4 => v = .pointer (some ⟨gt, 0, none⟩)
    | 5 => v = .pointer (some ⟨gt, 0, none⟩)
    | 6 => v = .pointer (some ⟨gt, 1, none⟩)
    | 7 => v = .pointer (some ⟨gr, 0, none⟩)
    | 8 => v = .int .i64 r.next
    | 9 => v = .int .i64 (ackS s r.next).2
    | _ => True) (fun done W => (done 9 → TrP w0 W gt gs ms gr mr A n c out b1 b2 (ackS s r.next).1 r ds) ∧ (¬ done 9 → TrP w0 W gt gs ms gr mr A n c out b1 b2 s r ds)) (by kernel_rfl) (by kernel_rfl) hsz (fun p q W h hj => by have e : p = q := funext fun k => propext (h k); subst e; exact hj) ⟨fun h => h.elim, fun _ => hT0.grow (Ext.refl _).drew⟩ ?_ ?_
  · clear hend
    simp only [rops, Try.f86, regOf, Option.bind_some, Nat.reduceBEq, if_true, if_false, Bool.false_eq_true, Option.getD_some]
    simp only [List.take_succ_cons, List.take_zero]
    refine ⟨?_, ?_, ?_, ?_, ?_, ?_, ?_, ?_, ?_, ?_, trivial⟩
    · intro done us W hJ hdep haft hnot b hb hb' K hK Q'
      have e0 := (hb' 0 (by simp)).trans s0
      clear hb hb'
      go_simp
      exact hK _ _ rfl (fun _ _ _ h => h) ⟨fun d => hJ.1 (d.resolve_right (by decide)), fun d => hJ.2 (fun e => d (.inl e))⟩
    · intro done us W hJ hdep haft hnot b hb hb' K hK Q'
      simp only [List.getD_cons_succ, List.getD_cons_zero, List.mem_cons, List.not_mem_nil, or_false, forall_eq_or_imp, forall_eq] at hdep
      have e120 := hb 0 120 rfl
      have d0 := hdep
      rw [d0.1] at e120
      clear hb hb' hdep d0
      go_simp
      exact hK _ _ rfl (fun _ _ _ h => h) ⟨fun d => hJ.1 (d.resolve_right (by decide)), fun d => hJ.2 (fun e => d (.inl e))⟩
    · intro done us W hJ hdep haft hnot b hb hb' K hK Q'
      simp only [List.getD_cons_succ, List.getD_cons_zero, List.mem_cons, List.not_mem_nil, or_false, forall_eq_or_imp, forall_eq] at hdep
      have e121 := hb 1 121 rfl
      have d1 := hdep
      rw [d1.1] at e121
      clear hb hb' hdep d1
      go_simp
      exact hK _ _ rfl (fun _ _ _ h => h) ⟨fun d => hJ.1 (d.resolve_right (by decide)), fun d => hJ.2 (fun e => d (.inl e))⟩
    · intro done us W hJ hdep haft hnot b hb hb' K hK Q'
      simp only [List.getD_cons_succ, List.getD_cons_zero, List.mem_cons, List.not_mem_nil, or_false, forall_eq_or_imp, forall_eq] at hdep
      have e122 := hb 2 122 rfl
      have d2 := hdep
      rw [d2.1] at e122
      clear hb hb' hdep d2
      have hB : Blk W gt 132 #[.pointer (some ⟨gs, 0, none⟩), .pointer (some ⟨gr, 0, none⟩), .slice A n c, out] := by rcases Classical.em (done 9) with d | d; exact (hJ.1 d).blk; exact (hJ.2 d).blk
      have q := hB.cell 0
      clear hB
      go_simp
      exact hK _ _ rfl (fun _ _ _ h => h) ⟨fun d => hJ.1 (d.resolve_right (by decide)), fun d => hJ.2 (fun e => d (.inl e))⟩
    · intro done us W hJ hdep haft hnot b hb hb' K hK Q'
      have e0 := (hb' 0 (by simp)).trans s0
      clear hb hb'
      go_simp
      exact hK _ _ rfl (fun _ _ _ h => h) ⟨fun d => hJ.1 (d.resolve_right (by decide)), fun d => hJ.2 (fun e => d (.inl e))⟩
    · intro done us W hJ hdep haft hnot b hb hb' K hK Q'
      simp only [List.getD_cons_succ, List.getD_cons_zero, List.mem_cons, List.not_mem_nil, or_false, forall_eq_or_imp, forall_eq] at hdep
      have e124 := hb 4 124 rfl
      have d4 := hdep
      rw [d4.1] at e124
      clear hb hb' hdep d4
      go_simp
      exact hK _ _ rfl (fun _ _ _ h => h) ⟨fun d => hJ.1 (d.resolve_right (by decide)), fun d => hJ.2 (fun e => d (.inl e))⟩
    · intro done us W hJ hdep haft hnot b hb hb' K hK Q'
      simp only [List.getD_cons_succ, List.getD_cons_zero, List.mem_cons, List.not_mem_nil, or_false, forall_eq_or_imp, forall_eq] at hdep
      have e125 := hb 5 125 rfl
      have d5 := hdep
      rw [d5.1] at e125
      clear hb hb' hdep d5
      go_simp
      exact hK _ _ rfl (fun _ _ _ h => h) ⟨fun d => hJ.1 (d.resolve_right (by decide)), fun d => hJ.2 (fun e => d (.inl e))⟩
    · intro done us W hJ hdep haft hnot b hb hb' K hK Q'
      simp only [List.getD_cons_succ, List.getD_cons_zero, List.mem_cons, List.not_mem_nil, or_false, forall_eq_or_imp, forall_eq] at hdep
      have e126 := hb 6 126 rfl
      have d6 := hdep
      rw [d6.1] at e126
      clear hb hb' hdep d6
      have hB : Blk W gt 132 #[.pointer (some ⟨gs, 0, none⟩), .pointer (some ⟨gr, 0, none⟩), .slice A n c, out] := by rcases Classical.em (done 9) with d | d; exact (hJ.1 d).blk; exact (hJ.2 d).blk
      have q := hB.cell 1
      clear hB
      go_simp
      exact hK _ _ rfl (fun _ _ _ h => h) ⟨fun d => hJ.1 (d.resolve_right (by decide)), fun d => hJ.2 (fun e => d (.inl e))⟩
    · intro done us W hJ hdep haft hnot b hb hb' K hK Q'
      simp only [List.getD_cons_succ, List.getD_cons_zero, List.mem_cons, List.not_mem_nil, or_false, forall_eq_or_imp, forall_eq] at hdep
      have e127 := hb 7 127 rfl
      have d7 := hdep
      rw [d7.1] at e127
      clear hb hb' hdep d7
      have hR : RcvP b2 W gr mr r := by rcases Classical.em (done 9) with d | d; exact (hJ.1 d).rcv; exact (hJ.2 d).rcv
      go_simp
      refine (nextP_any b2 gr mr r W hR).mono ?_
      rintro e _ ⟨rfl, rfl⟩
      exact hK _ _ rfl (fun _ _ _ h => h) ⟨fun d => hJ.1 (d.resolve_right (by decide)), fun d => hJ.2 (fun e => d (.inl e))⟩
    · intro done us W hJ hdep haft hnot b hb hb' K hK Q'
      simp only [List.getD_cons_succ, List.getD_cons_zero, List.mem_cons, List.not_mem_nil, or_false, forall_eq_or_imp, forall_eq] at hdep
      have e123 := hb 3 123 rfl
      have e128 := hb 8 128 rfl
      have d3 := hdep.1
      have d8 := hdep.2
      rw [d3.1] at e123
      rw [d8.1] at e128
      clear hb hb' hdep d3 d8
      have hT := hJ.2 hnot
      go_simp
      refine (ackP_any b1 gs ms s r.next W hT.snd hsl).mono ?_
      rintro e w' ⟨rfl, hS', hk⟩
      exact hK _ _ rfl (fun j u _ h => by match j, h with
        | 0, h => exact h
        | 1, h => exact h
        | 2, h => exact h
        | 3, h => exact h
        | 4, h => exact h
        | 5, h => exact h
        | 6, h => exact h
        | 7, h => exact h
        | 8, h => exact h
        | 9, h => exact h
        | _ + 10, h => exact h) ⟨fun _ => hT.sent hk hS', fun d => absurd (.inr rfl) d⟩
  · intro us W hV hJ
    exact hend (us 0) (us 1) (us 2) (us 3) (us 4) (us 5) (us 6) (us 7) (us 8) (us 9) W (hV 0 (by omega)) (hV 1 (by omega)) (hV 2 (by omega)) (hV 3 (by omega)) (hV 4 (by omega)) (hV 5 (by omega)) (hV 6 (by omega)) (hV 7 (by omega)) (hV 8 (by omega)) (hV 9 (by omega)) (hJ.1 (by decide))
end Go.Proofs.Ytekhmfliaojabaa
namespace Go.Proofs.Ytekhmfliaojabaa
open Go.RowKit

theorem F2.of_get {α β : Type} {R : α → β → Prop} {l : List α} {m : List β} (hl : l.length = m.length) (h : ∀ (j : Nat) a b, l[j]? = some a → m[j]? = some b → R a b) : F2 R l m := by
  induction l generalizing m with
  | nil => cases m with
    | nil => trivial
    | cons => simp at hl
  | cons x l ih => cases m with
    | nil => simp at hl
    | cons y m => exact ⟨h 0 x y rfl rfl, ih (by simpa using hl) fun j a b ha hb => h (j + 1) a b (by simpa using ha) (by simpa using hb)⟩
theorem scn_len (f : Nat) (xs : List Int) : (scn f xs).1.length ≤ f := by
  induction f generalizing xs with
  | zero => simp [scn]
  | succ f ih =>
    unfold scn
    split
    · simp
    · split
      · have := ih (xs.drop (12 + szN xs)); simp only [preS, List.length_append, List.length_cons, List.length_nil]; omega
      · have := ih (xs.drop 1); simp only [preS, List.nil_append]; omega
theorem scan_len (xs : List Int) : (scan xs).1.length ≤ xs.length := scn_len _ _
/-- Datagrams in a row of their own. -/
def Dgs (base : Nat) (w : World) (v : Value) (n : Nat) (gs : List (List Int)) : Prop := ∃ vs, w.ownsRow base 22 1 v n vs ∧ F2 (BodyV base w) vs gs
section
variable {base : Nat} {w w' : World} {v : Value} {n : Nat} {gs : List (List Int)} {L : List Nat}
theorem Dgs.ext (h : Dgs base w v n gs) (he : Ext w w') : Dgs base w' v n gs := by obtain ⟨vs, h1, h2⟩ := h; exact ⟨vs, World.ownsRow.ext' h1 he, h2.imp fun _ _ _ h => h.ext he⟩
theorem Dgs.keeps (h : Dgs base w v n gs) (hk : Keeps L w w') (n1 : ∀ k ∈ L, NoRow 22 w k) (n2 : ∀ k ∈ L, NoRow 5 w k) : Dgs base w' v n gs := by
  obtain ⟨vs, h1, h2⟩ := h; exact ⟨vs, ownsRow_away h1 hk n1, h2.imp fun _ _ _ h => h.keeps hk n2⟩
theorem Dgs.slice (h : Dgs base w v n gs) : ∃ A c, v = .slice A n c := by obtain ⟨vs, h1, _⟩ := h; exact own_slice h1
theorem Dgs.len (h : Dgs base w v n gs) : gs.length = n := by obtain ⟨vs, h1, h2⟩ := h; have := h1.1; have := h2.len; omega
theorem Dgs.get (h : Dgs base w v n gs) {j : Nat} (hj : j < n) : ∃ g c xs A m cc, v = .slice (some ⟨g, 0, none⟩) n c ∧ gs[j]? = some xs ∧ w.cell? ⟨g, j, none⟩ = some (.slice A m cc) ∧ OwnS .u8 5 base w A m cc xs := by
  obtain ⟨vs, h1, h2⟩ := h
  obtain ⟨A, c, rfl⟩ := own_slice h1
  obtain ⟨g, rfl, _, _⟩ := own_block h1 (by omega)
  have hjl : j < vs.length := by have := h1.1; omega
  have hv : vs[j]? = some vs[j] := List.getElem?_eq_getElem hjl
  obtain ⟨xs, hx, A', m, cc, e, hO⟩ := h2.get hv
  refine ⟨g, c, xs, A', m, cc, rfl, hx, ?_, hO⟩
  have := h1.cellAt j (by omega)
  rw [this, hv, e]
theorem FrO.keeps {cs : List Value} {f : Fr} (h : FrO base w cs f) (hk : Keeps L w w') (hn : ∀ k ∈ L, NoRow 5 w k) : FrO base w' cs f := by obtain ⟨A, n, c, h1, h2⟩ := h; exact ⟨A, n, c, h1, h2.keeps hk hn⟩
theorem FrL.keeps {fs : List Fr} (h : FrL base w v fs) (hk : Keeps L w w') (n1 : ∀ k ∈ L, NoRow 38 w k) (n2 : ∀ k ∈ L, NoRow 5 w k) : FrL base w' v fs := by
  obtain ⟨vs, h1, h2⟩ := h; exact ⟨vs, ownsRow_away h1 hk n1, h2.imp fun _ _ h => h.keeps hk n2⟩
theorem FrL.mono {b' : Nat} {fs : List Fr} (h : FrL base w v fs) (hb : b' ≤ base) : FrL b' w v fs := by
  obtain ⟨vs, h1, h2⟩ := h; exact ⟨vs, World.ownsRow.mono' h1 hb, h2.imp fun _ _ ⟨A, n, c, e, hO⟩ => ⟨A, n, c, e, hO.mono hb⟩⟩
end


set_option maxRecDepth 100000 in
set_option maxHeartbeats 16000000 in
theorem roundP_any (w0 : World) (gt gs ms gr mr : Nat) (A : Option Addr) (n c : Nat) (xss : List (List Int)) (out : Value) (b1 b2 : Nat) (s : Snd) (r : Rcv) (ds : List Dlv) (Fa : Option Addr) (mf df : Nat) (fl : List Flt) (w : World)
    (hT : TrP w0 w gt gs ms gr mr A n c out b1 b2 s r ds) (hL : Lists .u8 w0 A n xss) (hn : n ≤ 1000) (hF : Flts w0 Fa mf fl) (hm : mf ≤ 1000) (hS : SndT xss s) (hds : r.next = (ds.length : Int)) (hx : ∀ x ∈ xss, x.length ≤ 1000000 ∧ ∀ y ∈ x, (Lit.int .u8 y).wf = true) :
    Calls Try.prog 86 #[.pointer (some ⟨gt, 0, none⟩), .slice Fa mf df] w fun e w' => e = .returned (.tuple #[]) ∧ ∃ out', TrP w0 w' gt gs ms gr mr A n c out' b1 b2 (roundF xss s r fl).1 (roundF xss s r fl).2.1 (ds ++ (roundF xss s r fl).2.2) := by
  have HT := Lib.hid hT
  have HL := Lib.hid hL
  have HXL := Lib.hid hL.len
  have HF := Lib.hid hF
  have HS := Lib.hid hS
  have HXX := Lib.hid hx
  have HDS := Lib.hid hds
  obtain ⟨sF, hsF⟩ : ∃ sF, fillF xss (xss.length - s.bodies.length) s = sF := ⟨_, rfl⟩
  have hRF : roundF xss s r fl = ((ackS sF (takes r (framesF (carry1 (sentF sF) fl))).1.next).1, takes r (framesF (carry1 (sentF sF) fl))) := by unfold roundF; rw [hsF]
  have HRF := Lib.hid hRF
  have HSF : Hid (fillF xss (n - s.bodies.length) s = sF) := Lib.hid (by rw [← hL.len]; exact hsF)
  clear hT hL hF hS hx hsF hRF hds
  go_enter Try.func86, Try.ntmps86
  go_upto_block 0 with (fail)
  go_cut [] (fun W => Hid (TrP w0 W gt gs ms gr mr A n c out b1 b2 sF r ds) ∧ Hid (SndT xss sF))
  case first =>
    go_wp2_with fail
    go_loopg [] (n - s.bodies.length) (fun f wr => ∃ s1 : Snd, f = n - s1.bodies.length ∧ Hid (TrP w0 wr gt gs ms gr mr A n c out b1 b2 s1 r ds) ∧ Hid (SndT xss s1) ∧ Hid (fillF xss (n - s1.bodies.length) s1 = sF))
    case atStart => exact ⟨s, rfl, HT, HS, HSF⟩
    case round =>
      clear HT HS HSF
      obtain ⟨s1, rfl, HT, HS, HSF⟩ := hrel
      have hsl : s1.bodies.length ≤ n := by have h1 := HS.out.le; have h2 := HXL.out; omega
      by_cases hlt : s1.bodies.length < n
      · obtain ⟨bb, ob, A6, n6, c6, xs, rfl, hx6, hc6, hI6, hn6, hm6⟩ := HL.out.get hlt
        have hxg : xss.getD s1.bodies.length [] = xs := by simp [List.getD, hx6]
        have h6 := HXX.out xs (List.mem_of_getElem? hx6)
        have h6n : n6 ≤ 1000000 := by have := hI6.1; omega
        have hSO := HS.out.offer (fun x hx => (HXX.out x hx).2) (by have h2 := HXL.out; omega)
        rw [hxg] at hSO
        have HSO := Lib.hid hSO
        have HXG := Lib.hid hxg
        clear h6 hx6 hxg hSO
        go_upto_region 0 with (fail)
        refine round_r0 gt gs s1.bodies.length _ n c true _ (HT.out.blk.cell 0) (HT.out.blk.cell 2) (HT.out.snd.blk.cell 3) (Lib.hid (decide_eq_true (by omega))) _ _ (by simp) rfl ?_
        rintro xv0 xv1 xv2 xv3 xv4 xv5 xv6 xv7 xv8 xv9 xv10 xv11 xv12 w2 rfl rfl rfl rfl rfl rfl rfl rfl rfl rfl rfl rfl rfl hXW
        simp only [rops, Try.f86, regOf, Option.bind_some, Nat.reduceBEq, if_true, if_false, Bool.false_eq_true, Option.getD_some, List.drop_succ_cons, List.drop_zero]
        simp only [Act.put, List.setIfInBounds_toArray, List.set_cons_succ, List.set_cons_zero]
        replace HT := Lib.hid (HT.out.grow hXW)
        clear hXW
        go_upto_region 1 with (fail)
        refine round_r1 w0 gt gs ms gr mr bb ob n c out b1 b2 s1 r ds A6 n6 c6 xs _ HT.out hc6 hlt hI6 h6n (by omega) _ _ (by simp) rfl ?_
        rintro xv0 xv1 xv2 xv3 xv4 xv5 xv6 xv7 xv8 xv9 xv10 xv11 xv12 xv13 xv14 xv15 xv16 xv17 xv18 xv19 xv20 xv21 xv22 xv23 w3 rfl rfl rfl rfl rfl rfl rfl rfl rfl rfl rfl rfl rfl rfl rfl rfl rfl ⟨_, _, _, _, _, rfl⟩ ⟨_, _, _, _, _, rfl⟩ ⟨_, _, _, _, _, rfl⟩ rfl ⟨_, _, rfl, _, _, _⟩ _ rfl hT3
        simp only [rops, Try.f86, regOf, Option.bind_some, Nat.reduceBEq, if_true, if_false, Bool.false_eq_true, Option.getD_some, List.drop_succ_cons, List.drop_zero]
        simp only [Act.put, List.setIfInBounds_toArray, List.set_cons_succ, List.set_cons_zero]
        replace HT := Lib.hid hT3
        clear hT3 hc6 hI6
        by_cases he : (offerS s1 xs).2.2 = 0
        · have hb1 := (offerS_zero he).1
          have hbl : (offerS s1 xs).1.bodies.length = s1.bodies.length + 1 := by rw [hb1]; simp
          have HBL := Lib.hid hbl
          have HSF2 : Hid (fillF xss (n - (s1.bodies.length + 1)) (offerS s1 xs).1 = sF) := Lib.hid (by
            have h1 := HSF.out
            rw [show n - s1.bodies.length = (n - (s1.bodies.length + 1)) + 1 by omega] at h1
            unfold fillF at h1
            rw [HXG.out, if_pos he] at h1
            exact h1)
          rw [he]
          clear he hb1 hbl
          go_wp2
          go_roundg (n - (s1.bodies.length + 1))
          case rel => exact ⟨_, by rw [HBL.out], HT, HSO, Lib.hid (by rw [HBL.out]; exact HSF2.out)⟩
          case measure => omega
        · have hs1 : (offerS s1 xs).1 = s1 := offerS_nz he
          have hsf : sF = s1 := by
            have h1 := HSF.out
            rw [show n - s1.bodies.length = (n - (s1.bodies.length + 1)) + 1 by omega] at h1
            unfold fillF at h1
            rw [HXG.out, if_neg he] at h1
            exact h1.symm
          have hne : ((offerS s1 xs).2.2 != 0) = true := by simpa using he
          have HS1 := Lib.hid hs1
          subst hsf
          clear he hs1
          go_wp2
          go_meet
          have h1 := HT.out
          rw [HS1.out] at h1
          exact ⟨Lib.hid h1, HS⟩
      · go_upto_region 0 with (fail)
        refine round_r0 gt gs s1.bodies.length _ n c false _ (HT.out.blk.cell 0) (HT.out.blk.cell 2) (HT.out.snd.blk.cell 3) (Lib.hid (decide_eq_false (by omega))) _ _ (by simp) rfl ?_
        rintro xv0 xv1 xv2 xv3 xv4 xv5 xv6 xv7 xv8 xv9 xv10 xv11 xv12 w2 rfl rfl rfl rfl rfl rfl rfl rfl rfl rfl rfl rfl rfl hXW
        simp only [rops, Try.f86, regOf, Option.bind_some, Nat.reduceBEq, if_true, if_false, Bool.false_eq_true, Option.getD_some, List.drop_succ_cons, List.drop_zero]
        simp only [Act.put, List.setIfInBounds_toArray, List.set_cons_succ, List.set_cons_zero]
        replace HT := Lib.hid (HT.out.grow hXW)
        clear hXW
        have hsf : sF = s1 := by
          have h1 := HSF.out
          rw [show n - s1.bodies.length = 0 by omega] at h1
          exact h1.symm
        subst hsf
        go_wp2
        go_meet
        exact ⟨HT, HS⟩
  case rest =>
    clear HT HS HSF
    obtain ⟨HT, HS⟩ := hcut
    have HSZ : Hid (w0.heap.size ≤ wc.heap.size) := Lib.hid HT.out.ext.size
    have hbl : sF.bodies.length ≤ n := by have h1 := HS.out.le; have h2 := HXL.out; omega
    have HGR := Lib.hid (sentF_grams HS.out.ok (by omega))
    have hpl : (pendS sF).length ≤ 64 := by
      have h1 := HGR.out.1
      unfold sentF at h1
      rw [List.length_map] at h1
      exact h1
    have HPO := Lib.hid (pendS_ok HS.out.ok (by omega))
    obtain ⟨N, hN⟩ : ∃ N, (pendS sF).length = N := ⟨_, rfl⟩
    have HN := Lib.hid hN
    rw [hN] at hpl
    clear hN
    have y0 := HT.out.blk.cell 0
    go_wp2_with fail
    clear y0
    refine (pendP_any b1 gs ms sF _ HT.out.snd (by omega)).mono ?_
    rintro e w2 ⟨v, rfl, hv, hX2⟩
    obtain ⟨A4, c4, rfl, hf4, _, _⟩ := hv.frs
    rw [HN.out] at hf4 ⊢
    have HF4 := Lib.hid hf4
    replace HT := Lib.hid (HT.out.grow hX2)
    have HSZ2 := Lib.hid (Nat.le_trans HSZ.out hX2.size)
    clear hv hf4 hX2
    go_wp2_with fail
    go_loopg [6, 62] N (fun f vd iv wr => ∃ k : Nat, f = N - k ∧ k ≤ N ∧ iv = .int .i64 (k : Int) ∧ Hid (Dgs w2.heap.size wr vd k ((pendS sF).take k |>.map pck)) ∧ Hid (TrP w0 wr gt gs ms gr mr A n c out b1 b2 sF r ds) ∧ Hid (Ext w2 wr))
    case atStart => exact ⟨0, rfl, by omega, rfl, Lib.hid ⟨[], World.ownsRow_nil _ _ _ _, trivial⟩, HT, Lib.hid (Ext.refl _)⟩
    case round =>
      clear HT
      obtain ⟨k, rfl, hk, rfl, HD, HT, HX⟩ := hrel
      obtain ⟨A8, c8, hsl⟩ := HD.out.slice
      subst hsl
      by_cases hlt : k < N
      · obtain ⟨b, off, f, A5, n5, c5, rfl, hf, a0, a1, a2, hI5, hc5, hm5⟩ := (HF4.out.ext HX.out).get hlt
        obtain ⟨hok, hby⟩ := HPO.out f (List.mem_of_getElem? hf)
        have h5 : n5 ≤ 1024 := by have h1 := hI5.1; have h2 := hok.2.2.2.2; omega
        have HFI := Lib.hid hf
        have HOK := Lib.hid hok
        have HI5 := Lib.hid hI5
        clear hf hok hby hI5
        go_upto_region 7 with (fail)
        clear a0 a1 a2
        have hXa : Ext wr (wr.alloc (.cells #[.int .i64 f.stream, .int .i64 f.seq, .slice A5 n5 c5] 38)) := (Ext.refl _).alloc _
        have kb := Blk.new wr 38 #[.int .i64 f.stream, .int .i64 f.seq, .slice A5 n5 c5]
        generalize wr.alloc (.cells #[.int .i64 f.stream, .int .i64 f.seq, .slice A5 n5 c5] 38) = w3 at hXa kb ⊢
        replace HT := Lib.hid (HT.out.grow hXa)
        replace HD := Lib.hid (HD.out.ext hXa)
        replace HX := Lib.hid (HX.out.trans hXa)
        have hpk : packO ⟨f.stream, f.seq, f.body⟩ = (pck f, 0) := by unfold packO; rw [if_pos HOK.out]
        have hP := pack_any f.stream f.seq A5 n5 c5 f.body w3 (HI5.out.ext hXa)
        rw [hpk] at hP
        have f0 := kb.cell 0
        have f1 := kb.cell 1
        have f2 := kb.cell 2
        clear hpk hXa
        go_wp2_with fail
        refine hP.mono ?_
        rintro e w4 ⟨A6, n6, c6, rfl, hO6, hX4⟩
        simp only at hO6 ⊢
        have hs3 := HX.out.size
        replace HT := Lib.hid (HT.out.grow hX4)
        replace HX := Lib.hid (HX.out.trans hX4)
        obtain ⟨vs, hown, hF2⟩ := HD.out.ext hX4
        have HF2 := Lib.hid hF2
        have HO6 := Lib.hid (hO6.mono hs3)
        have hs4 := HX.out.size
        clear hP hO6 hX4 f0 f1 f2 hF2 HD kb
        go_wp2_with (at_builtin; refine wpList_app _ elL rfl _ _ rfl w2.heap.size (.slice A8 k c8) k vs rfl (hown.alloc _) _ 1 1 [.slice A6 n6 c6] rfl rfl (At.new' _ [_] _ rfl) (by simp [Value.oneCell']) (by omega) (by unfold maxLen; omega) (by simp; omega) ?_; intro v5 w5 hown5 hgr5 _)
        go_roundg (N - (k + 1))
        case rel =>
          have hXb : Ext w4 (w4.alloc (.cells #[.slice A6 n6 c6] 22)) := (Ext.refl _).alloc _
          have hown0 := World.ownsRow.ext' hown hXb
          have hk5 : Keeps (Value.slice A8 k c8).ownBlock.toList (w4.alloc (.cells #[.slice A6 n6 c6] 22)) w5 := Keeps.of_grown hgr5 fun k hk => by rw [hk]; simp
          have hn5 : ∀ k' ∈ (Value.slice A8 k c8).ownBlock.toList, NoRow 5 (w4.alloc (.cells #[.slice A6 n6 c6] 22)) k' := fun k' hk' => NoRow.of_own hown0 (Option.mem_toList.1 hk') (by decide)
          refine ⟨k + 1, rfl, by omega, by go_num, Lib.hid ⟨_, hown5, ?_⟩, Lib.hid ((HT.out.grow hXb).row hown0 HSZ2.out hgr5), Lib.hid ((HX.out.trans hXb).grown hgr5 fun k' hk' => (hown0.lt k' hk').1)⟩
          rw [List.take_add_one, HFI.out, Option.toList_some, List.map_append]
          refine (HF2.out.imp fun p q _ h => (h.ext hXb).keeps hk5 hn5).snoc ?_
          exact BodyV.keeps ⟨A6, n6, c6, rfl, HO6.out.ext hXb⟩ hk5 hn5
        case measure => omega
      · obtain rfl : k = N := by omega
        have HD1 : Hid (Dgs w2.heap.size wr (.slice A8 k c8) k (sentF sF)) := Lib.hid (by
          have h1 := HD.out
          rw [List.take_of_length_le (by rw [HN.out]; omega)] at h1
          exact h1)
        have hLs : Lists .u8 wr A8 k (sentF sF) := by
          obtain ⟨vs, h1, h2⟩ := HD1.out
          have h3 := h1.1
          exact (bodies_lv h2).lists (by omega) (At.of_own h1)
        have hgr : Grams k 1000000 (sentF sF) := ⟨by rw [HD1.out.len]; omega, fun x hx => ⟨by have := (HGR.out.2 x hx).1; omega, (HGR.out.2 x hx).2⟩⟩
        have hgr2 : Grams k 1036 (sentF sF) := ⟨by rw [HD1.out.len]; omega, HGR.out.2⟩
        have hcg := hgr2.carry fl
        rw [HF.out.1] at hcg
        obtain ⟨gs', hgs'⟩ : ∃ gs', carry1 (sentF sF) fl = gs' := ⟨_, rfl⟩
        rw [hgs'] at hcg
        have HGS := Lib.hid hgs'
        have HCG := Lib.hid hcg
        have hC := carry_any A8 k c8 Fa mf df (sentF sF) fl wr hLs (by omega) (HF.out.ext HT.out.ext) (by omega) hgr
        rw [hgs'] at hC
        clear hgr hgr2 hcg hgs' hLs HD
        go_wp2_with fail
        refine hC.mono ?_
        rintro e w5 ⟨A9, n9, c9, vs9, rfl, hH, hX5⟩
        have HD9 : Hid (Dgs w2.heap.size w5 (.slice A9 n9 c9) n9 gs') := Lib.hid ⟨vs9, World.ownsRow.mono' hH.own HX.out.size, F2.of_get hH.deck.len fun j a b ha hb => by
          obtain ⟨A', c', h1, h2⟩ := hH.deck.row j a b ha hb
          exact ⟨A', _, c', h1, h2.mono HX.out.size⟩⟩
        have h9l : n9 ≤ 2000 := by have h1 := hH.len; have h2 := HCG.out.1; omega
        replace HT := Lib.hid (HT.out.grow hX5)
        replace HX := Lib.hid (HX.out.trans hX5)
        clear hC hH hX5 HD1
        go_wp2_with fail
        go_loopg [82] n9 (fun f jv wr => ∃ (j : Nat) (r1 : Rcv) (es : List Dlv) (out1 : Value), f = n9 - j ∧ j ≤ n9 ∧ jv = .int .i64 (j : Int) ∧ Hid (takes r (framesF (gs'.take j)) = (r1, es)) ∧ Hid (TrP w0 wr gt gs ms gr mr A n c out1 b1 b2 sF r1 (ds ++ es)) ∧ Hid (Dgs w2.heap.size wr (.slice A9 n9 c9) n9 gs') ∧ w2.heap.size ≤ wr.heap.size)
        case atStart => exact ⟨0, r, [], out, rfl, by omega, rfl, Lib.hid (by simp [framesF, takes]), Lib.hid (by rw [List.append_nil]; exact HT.out), HD9, HX.out.size⟩
        case round =>
          clear HT HD9 HX
          obtain ⟨j, r1, es, out1, rfl, hj, rfl, HTK, HT, HD, hsw⟩ := hrel
          by_cases hjl : j < n9
          · obtain ⟨g9, c9', x, A6, n6, c6, e, hx, hcx, hO6⟩ := HD.out.get hjl
            injection e with e1 e2 e3
            subst e1 e3
            have hg6 := HCG.out.2 x (List.mem_of_getElem? hx)
            have hl6 := hO6.len
            have h6 : n6 ≤ 1036 := by omega
            obtain ⟨fs, sk, lf, hsc⟩ : ∃ fs sk lf, scan x = (fs, sk, lf) := ⟨_, _, _, rfl⟩
            have hS := scan_any A6 n6 c6 x wr hO6.ints hO6.cap.1 hO6.cap.2 (by omega)
            rw [hsc] at hS
            have HXJ := Lib.hid hx
            have HSC := Lib.hid hsc
            have hfsl : fs.length ≤ 1036 := by
              have h1 := scan_len x
              rw [hsc] at h1
              simp only at h1
              omega
            clear hx hg6 hl6 hsc
            go_wp2_with fail
            refine hS.mono ?_
            rintro e w6 ⟨A7, n7, c7, us, rfl, hu1, hu2, hu3, hX6⟩
            simp only at hu2 hu3 ⊢
            subst hu3
            have HFL : Hid (FrL wr.heap.size w6 (.slice A7 fs.length c7) fs) := Lib.hid ⟨us, hu1, hu2⟩
            replace HT := Lib.hid (HT.out.grow hX6)
            replace HD := Lib.hid (HD.out.ext hX6)
            have hsw6 := Nat.le_trans hsw hX6.size
            clear hS hu1 hu2 hX6 hcx hO6
            go_wp2_with fail
            go_loopg [94] fs.length (fun f iv wq => ∃ (i : Nat) (r2 : Rcv) (es2 : List Dlv) (out2 : Value), f = fs.length - i ∧ i ≤ fs.length ∧ iv = .int .i64 (i : Int) ∧ Hid (takes r1 (fs.take i) = (r2, es2)) ∧ Hid (TrP w0 wq gt gs ms gr mr A n c out2 b1 b2 sF r2 (ds ++ es ++ es2)) ∧ Hid (Dgs w2.heap.size wq (.slice (some ⟨g9, 0, none⟩) n9 c9) n9 gs') ∧ Hid (FrL wr.heap.size wq (.slice A7 fs.length c7) fs) ∧ w2.heap.size ≤ wq.heap.size)
            case atStart => exact ⟨0, r1, [], out1, rfl, by omega, rfl, Lib.hid (by simp [takes]), Lib.hid (by rw [List.append_nil]; exact HT.out), HD, HFL, hsw6⟩
            case round =>
              clear HT HD HFL hsw6
              obtain ⟨i, r2, es2, out2, rfl, hi, rfl, HTK2, HT, HD, HFL, hsq⟩ := hrel
              by_cases hil : i < fs.length
              · obtain ⟨A7', c7', e, hfr, _, _⟩ := HFL.out.frs
                injection e with e1 e2 e3
                subst e1 e3
                obtain ⟨b, off, f, A5, n5, c5, rfl, hf, a0, a1, a2, hI5, hc5, hm5⟩ := hfr.get hil
                have HFI := Lib.hid hf
                have HI5 := Lib.hid hI5
                clear hf hI5 hfr
                go_upto_region 18 with (fail)
                clear a0 a1 a2
                have hXa : Ext wr (wr.alloc (.cells #[.int .i64 f.stream, .int .i64 f.seq, .slice A5 n5 c5] 38)) := (Ext.refl _).alloc _
                have kb := Blk.new wr 38 #[.int .i64 f.stream, .int .i64 f.seq, .slice A5 n5 c5]
                generalize hwe : wr.alloc (.cells #[.int .i64 f.stream, .int .i64 f.seq, .slice A5 n5 c5] 38) = w7 at hXa kb ⊢
                clear hwe
                replace HT := Lib.hid (HT.out.grow hXa)
                replace HD := Lib.hid (HD.out.ext hXa)
                replace HFL := Lib.hid (HFL.out.ext hXa)
                have hs7 := Nat.le_trans hsq hXa.size
                refine round_r18 w0 gt gs ms gr mr wr.heap.size A n c out2 b1 b2 sF r2 (ds ++ es ++ es2) f A5 n5 c5 w7 HT.out kb (HI5.out.ext hXa) _ _ (by simp) rfl rfl ?_
                rintro xv0 xv1 xv2 xv3 xv4 xv5 xv6 xv7 xv8 xv9 xv10 w8 rfl rfl rfl rfl rfl _ _ _ rfl hdl rfl ⟨hT8, hk8⟩
                simp only [rops, Try.f86, regOf, Option.bind_some, Nat.reduceBEq, if_true, if_false, Bool.false_eq_true, Option.getD_some, List.drop_succ_cons, List.drop_zero]
                simp only [Act.put, List.setIfInBounds_toArray, List.set_cons_succ, List.set_cons_zero]
                have HD8 := Lib.hid (HD.out.keeps hk8 (HT.out.rcv.q.far _ (by decide)) (HT.out.rcv.q.far _ (by decide)))
                have HFL8 := Lib.hid (HFL.out.keeps hk8 (HT.out.rcv.q.far _ (by decide)) (HT.out.rcv.q.far _ (by decide)))
                have hs8 := Nat.le_trans hs7 hk8.size
                have HT8 := Lib.hid hT8
                have HDL := Lib.hid hdl
                have hsx : w0.heap.size ≤ w7.heap.size := HT.out.ext.size
                have HTK3 : Hid (takes r1 (fs.take (i + 1)) = ((takeR r2 f).1, es2 ++ (takeR r2 f).2.1)) := Lib.hid (by
                  rw [List.take_add_one, HFI.out, Option.toList_some, takes_snoc, HTK2.out])
                have HRO2 := Lib.hid HT.out.rcv.ok
                have hol : (ds ++ es ++ es2).length ≤ 4294967296 := by
                  have h1 := takes_next r1 (fs.take i)
                  rw [HTK2.out] at h1
                  have h2 := takes_next r (framesF (gs'.take j))
                  rw [HTK.out] at h2
                  have h3 := HT.out.rcv.ok.next
                  simp only at h1 h2
                  simp only [List.length_append]
                  have h4 := HDS.out
                  omega
                have HOL := Lib.hid hol
                clear hT8 hk8 hdl HT HD HFL HTK2 hXa kb hol
                rcases takeR_cases r2 f with ⟨hne, heq⟩ | ⟨he0, _, _, _, heq⟩
                · have hb0 : ((takeR r2 f).2.2 == 0) = false := by simpa using hne
                  have hz1 : (takeR r2 f).1 = r2 := congrArg (fun x => x.1) heq
                  have hz2 : (takeR r2 f).2.1 = [] := congrArg (fun x => x.2.1) heq
                  have HZ := Lib.hid (And.intro hz1 hz2)
                  clear hne heq hz1 hz2
                  go_wp2
                  go_roundg (fs.length - (i + 1))
                  case rel =>
                    refine ⟨i + 1, _, _, out2, rfl, by omega, by go_num, HTK3, Lib.hid ?_, HD8, HFL8, hs8⟩
                    rw [HZ.out.2, List.append_nil]
                    exact HT8.out
                  case measure => omega
                · have hb0 : ((takeR r2 f).2.2 == 0) = true := by simpa using he0
                  have htl := takeR_len r2 f HRO2.out
                  clear he0 heq
                  obtain ⟨r3, hr3⟩ : ∃ r3, (takeR r2 f).1 = r3 := ⟨_, rfl⟩
                  obtain ⟨es3, hes3⟩ : ∃ es3, (takeR r2 f).2.1 = es3 := ⟨_, rfl⟩
                  rw [hr3] at HT8 HTK3
                  rw [hes3] at HTK3 HDL htl
                  clear hr3 hes3
                  obtain ⟨D, hD⟩ : ∃ D, ds ++ es ++ es2 = D := ⟨_, rfl⟩
                  rw [hD] at HT8
                  have hDl : D.length ≤ 4294967296 := by rw [← hD]; exact HOL.out
                  have HDD := Lib.hid hD
                  clear hD
                  obtain ⟨A3, c3, hsl⟩ := HDL.out.slice
                  subst hsl
                  obtain ⟨us, hu1, hu2⟩ := HDL.out
                  obtain ⟨A1, c1, hso⟩ := HT8.out.outL.slice
                  subst hso
                  obtain ⟨vs, hv1, hv2⟩ := HT8.out.outL
                  have HV1 := Lib.hid hv1
                  have HV2 := Lib.hid hv2
                  have HU2 := Lib.hid hu2
                  have hsz8 := HT8.out.ext.size
                  have y3 := HT8.out.blk.cell 3
                  clear hv2
                  go_wp2_with (at_builtin; (refine wpList_app _ elD rfl _ _ rfl w0.heap.size (.slice A1 D.length c1) D.length vs rfl hv1 A3 es3.length c3 us rfl hu1.1 (At.of_own hu1) (hu2.one (fun _ _ h => h.one)) (by omega) (by unfold maxLen; omega) hsz8 ?_; intro v9 w9 hown9 hgr9 _; have hk9 : Keeps (Value.slice A1 D.length c1).ownBlock.toList w8 w9 := Keeps.of_grown hgr9 (fun k hk => by rw [hk]; simp); have hn9 : ∀ t, 72 ≠ t → ∀ k ∈ (Value.slice A1 D.length c1).ownBlock.toList, NoRow t w8 k := (fun t ht k hk => NoRow.of_own HV1.out (Option.mem_toList.1 hk) ht); have hB9 := HT8.out.blk.away hk9 (hn9 _ (by decide)); have HT9 := Lib.hid (HT8.out.more HV1.out HV2.out HU2.out hown9 hgr9); have hkk : Keeps [gt] w9 (w9.setCell ⟨gt, 3, none⟩ v9) := (Keeps.refl _ _).setCell (.inl (by simp)) _; have hnn : ∀ t, 132 ≠ t → ∀ k ∈ [gt], NoRow t w9 k := (by intro t ht k hk; simp at hk; subst hk; exact NoRow.of_blk hB9 ht); have HD9 := Lib.hid ((HD8.out.keeps hk9 (hn9 _ (by decide)) (hn9 _ (by decide))).keeps hkk (hnn _ (by decide)) (hnn _ (by decide))); have HFL9 := Lib.hid ((HFL8.out.keeps hk9 (hn9 _ (by decide)) (hn9 _ (by decide))).keeps hkk (hnn _ (by decide)) (hnn _ (by decide))); have hs9 := Nat.le_trans (Nat.le_trans hs8 hk9.size) hkk.size; obtain ⟨A0, c0, hsv⟩ := own_slice hown9; subst hsv; clear y3 hv1 hu1 hu2; have y3 := hB9.cell 3; have z3 := hB9.free 3; clear hk9 hn9 hkk hnn hown9 hgr9 hB9))
                  go_roundg (fs.length - (i + 1))
                  case rel =>
                    refine ⟨i + 1, r3, es2 ++ es3, .slice A0 (D.length + es3.length) c0, rfl, by omega, by go_num, HTK3, Lib.hid ?_, HD9, HFL9, hs9⟩
                    have e9 : ds ++ es ++ (es2 ++ es3) = D ++ es3 := by rw [← HDD.out]; simp
                    rw [e9]
                    exact HT9.out
                  case measure => omega
              · obtain rfl : i = fs.length := by omega
                go_wp2
                go_roundg (n9 - (j + 1))
                case rel =>
                  refine ⟨j + 1, r2, es ++ es2, out2, rfl, by omega, by go_num, Lib.hid ?_, Lib.hid (by rw [← List.append_assoc]; exact HT.out), HD, hsq⟩
                  have h1 := HTK2.out
                  rw [List.take_of_length_le (Nat.le_refl _)] at h1
                  rw [framesF_take HXJ.out, takes_append, HTK.out, HSC.out]
                  simp only
                  rw [h1]
                case measure => omega
          · obtain rfl : j = n9 := by omega
            have htk : takes r (framesF gs') = (r1, es) := by
              have h1 := HTK.out
              rwa [List.take_of_length_le (by rw [HD.out.len]; omega)] at h1
            have hrf : roundF xss s r fl = ((ackS sF r1.next).1, r1, es) := by rw [HRF.out, HGS.out, htk]
            have HRF2 := Lib.hid hrf
            clear htk hrf
            go_upto_region 23 with (fail)
            refine round_r23 w0 gt gs ms gr mr A n c out1 b1 b2 sF r1 (ds ++ es) _ HT.out (by omega) _ _ (by simp) rfl ?_
            rintro xv0 xv1 xv2 xv3 xv4 xv5 xv6 xv7 xv8 xv9 w8 rfl rfl rfl rfl rfl rfl rfl rfl rfl rfl hT8
            simp only [rops, Try.f86, regOf, Option.bind_some, Nat.reduceBEq, if_true, if_false, Bool.false_eq_true, Option.getD_some, List.drop_succ_cons, List.drop_zero]
            simp only [Act.put, List.setIfInBounds_toArray, List.set_cons_succ, List.set_cons_zero]
            have HT9 := Lib.hid hT8
            clear hT8
            go_wp2
            refine bodyPost_end (v := .tuple #[]) (by simp [results, Try.results86, go_sem]) rfl ?_
            rw [HRF2.out]
            exact ⟨rfl, out1, HT9.out⟩

end Go.Proofs.Ytekhmfliaojabaa
namespace Go.Proofs.Ytekhmfliaojabaa
open Go.RowKit

/-- A slice of slices of faults reads as 'rs'. -/
def FltLs (w : World) (A : Option Addr) (n : Nat) (rs : List (List Flt)) : Prop := rs.length = n ∧ ∃ vs : List Value, vs.length = n ∧ At w A vs ∧ ∀ (j : Nat) v fl, vs[j]? = some v → rs[j]? = some fl → ∃ A' n' c', v = .slice A' n' c' ∧ Flts w A' n' fl ∧ n' ≤ c' ∧ c' ≤ 9223372036854775807
theorem FltLs.get {w : World} {A : Option Addr} {n : Nat} {rs : List (List Flt)} (h : FltLs w A n rs) {j : Nat} (hj : j < n) : ∃ b off A' n' c' fl, A = some ⟨b, off, none⟩ ∧ rs[j]? = some fl ∧ w.cell? ⟨b, off + j, none⟩ = some (.slice A' n' c') ∧ Flts w A' n' fl := by
  obtain ⟨hl, vs, h1, h2, h3⟩ := h
  obtain ⟨b, off, v, hA, hv, hc⟩ := h2.get (j := j) (by omega)
  have hx : rs[j]? = some rs[j] := List.getElem?_eq_getElem (by omega)
  obtain ⟨A', n', c', rfl, hi, _⟩ := h3 j v _ hv hx
  exact ⟨b, off, A', n', c', _, hA, hx, hc, hi⟩
/-- What a transfer answers. -/
def transR (xss : List (List Int)) (win : Int) (rs : List (List Flt)) : List Dlv × Nat × Int :=
  if win < 1 ∨ 64 < win ∨ ∃ x ∈ xss, 1024 < x.length then ([], 0, 2) else ((transF xss rs 64 0 (snd0 0 win) (rcv0 0 win 0) []).1, (transF xss rs 64 0 (snd0 0 win) (rcv0 0 win 0) []).2, 0)
theorem SndT.round {xss : List (List Int)} {s : Snd} (h : SndT xss s) (hx : ∀ x ∈ xss, ∀ y ∈ x, (Lit.int .u8 y).wf = true) (r : Rcv) (fl : List Flt) : SndT xss (roundF xss s r fl).1 := (h.fill hx _ (Nat.le_refl _)).ack _
theorem roundF_next (xss : List (List Int)) (s : Snd) (r : Rcv) (fl : List Flt) : (roundF xss s r fl).2.1.next = r.next + (roundF xss s r fl).2.2.length := takes_next _ _
theorem sndT0 (xss : List (List Int)) {win : Int} (h : ¬ BadS 0 win) : SndT xss (snd0 0 win) := ⟨snd0_ok h, rfl, by simp [snd0]⟩
theorem transF_stop (xss : List (List Int)) (rs : List (List Flt)) (k n : Nat) (s : Snd) (r : Rcv) (out : List Dlv) (h : ¬ r.next < xss.length) : transF xss rs k n s r out = (out, n) := by
  cases k with
  | zero => rfl
  | succ k => unfold transF; rw [if_neg h]
/-- What Transfer leaves. -/
def RetT (w : World) (r : List Dlv × Nat × Int) (e : Ending) (w' : World) : Prop := ∃ A c, e = .returned (.tuple #[.slice A r.1.length c, .int .i64 (r.2.1 : Int), .int .i64 r.2.2]) ∧ Dls w' A r.1.length r.1 ∧ Ext w w'


set_option maxRecDepth 100000 in
set_option maxHeartbeats 8000000 in
theorem transferP_any (A : Option Addr) (n c : Nat) (win : Int) (B : Option Addr) (m d : Nat) (xss : List (List Int)) (rs : List (List Flt)) (w : World) (hL : Lists .u8 w A n xss) (hn : n ≤ 200) (hR : FltLs w B m rs) (hm : m ≤ 1000) (hr8 : ∀ k, k < 64 → (rs.getD k []).length ≤ 1000) (hx : ∀ x ∈ xss, x.length ≤ 1000000 ∧ ∀ y ∈ x, (Lit.int .u8 y).wf = true) :
    Calls Try.prog 65 #[.slice A n c, .int .i64 win, .slice B m d] w (RetT w (transR xss win rs)) := by
  have HL := Lib.hid hL
  have HXL := Lib.hid hL.len
  have HR := Lib.hid hR
  have HRL := Lib.hid hR.1
  have HXX := Lib.hid hx
  have HR8 := Lib.hid hr8
  clear hL hR hx hr8
  by_cases hbad : BadS 0 win
  · have HE : Hid (transR xss win rs = ([], 0, 2)) := Lib.hid (by unfold transR; rw [if_pos]; unfold BadS at hbad; omega)
    go_enter Try.func65, Try.ntmps65
    go_wp2_with fail
    refine (newP_bad 0 win _ hbad).mono ?_
    rintro e w1 ⟨rfl, hX1⟩
    have HX := Lib.hid hX1
    clear hX1 hbad
    go_wp2
    go_ret3
    rw [HE.out]
    exact ⟨none, 0, rfl, Dls.nil _ _, HX.out⟩
  have hwin : 1 ≤ win ∧ win ≤ 64 := by unfold BadS at hbad; omega
  obtain ⟨hw1, hw2⟩ := hwin
  go_enter Try.func65, Try.ntmps65
  go_wp2_with fail
  refine (newP_any 0 win _ hbad).mono ?_
  rintro e w1 ⟨gs, ms, rfl, hS, hX1⟩
  have HS := Lib.hid hS
  have HX := Lib.hid hX1
  have hz1 := Nat.le_refl w.heap.size
  clear hS hX1
  go_wp2_with fail
  go_loopg [31] n (fun f iv wr => ∃ k : Nat, f = n - k ∧ k ≤ n ∧ iv = .int .i64 (k : Int) ∧ Hid (∀ x ∈ xss.take k, x.length ≤ 1024) ∧ w1 = wr)
  case atStart => exact ⟨0, rfl, by omega, rfl, Lib.hid (by simp), rfl⟩
  case round =>
    obtain ⟨k, rfl, hk, rfl, HA, rfl⟩ := hrel
    by_cases hlt : k < n
    · obtain ⟨b, off, A6, n6, c6, x, rfl, hx6, hc6, hI6, hn6, hm6⟩ := (HL.out.ext HX.out).get hlt
      have HXK := Lib.hid hx6
      have HI1 := Lib.hid hI6.1
      clear hx6 hI6
      by_cases h6 : 1024 < n6
      · have HE : Hid (transR xss win rs = ([], 0, 2)) := Lib.hid (by unfold transR; rw [if_pos (.inr (.inr ⟨x, List.mem_of_getElem? HXK.out, by rw [HI1.out]; exact h6⟩))])
        go_wp2
        go_ret3
        rw [HE.out]
        exact ⟨none, 0, rfl, Dls.nil _ _, HX.out⟩
      · go_wp2
        go_roundg (n - (k + 1))
        case rel =>
          refine ⟨k + 1, rfl, by omega, by go_num, Lib.hid fun y hy => ?_, rfl⟩
          rw [List.take_add_one, HXK.out] at hy
          rcases List.mem_append.1 hy with hy | hy
          · exact HA.out y hy
          · simp at hy; subst hy; rw [HI1.out]; omega
        case measure => omega
    · have HE : Hid (transR xss win rs = ((transF xss rs 64 0 (snd0 0 win) (rcv0 0 win 0) []).1, (transF xss rs 64 0 (snd0 0 win) (rcv0 0 win 0) []).2, 0)) := Lib.hid (by
        unfold transR
        rw [if_neg]
        rintro (h | h | ⟨x, hx, h⟩)
        · omega
        · omega
        · have := HA.out x (by rw [List.take_of_length_le (by rw [HXL.out]; omega)]; exact hx)
          omega)
      have hSl := HS.out.lt
      go_wp2_with fail
      refine (newQ_any 0 win 0 _ (by unfold BadR; omega)).mono ?_
      rintro e w2 ⟨gr, mr, rfl, hQ, hX2⟩
      have hlo2 := hQ.q.lo
      have hz2 := HX.out.size
      have HQ := Lib.hid hQ
      replace HS := Lib.hid (HS.out.ext hX2)
      replace HX := Lib.hid (HX.out.trans hX2)
      have HNE : Hid (ms ≠ mr) := Lib.hid (by omega)
      clear hQ hX2 hlo2 hSl
      go_upto_region 14 with (fail)
      have hXa : Ext w2 (w2.alloc (.cells #[.pointer (some ⟨gs, 0, none⟩), .pointer (some ⟨gr, 0, none⟩), .slice A n c, .slice none 0 0] 132)) := (Ext.refl _).alloc _
      have kb := Blk.new w2 132 #[.pointer (some ⟨gs, 0, none⟩), .pointer (some ⟨gr, 0, none⟩), .slice A n c, .slice none 0 0]
      have hz3 := HX.out.size
      generalize w2.alloc (.cells #[.pointer (some ⟨gs, 0, none⟩), .pointer (some ⟨gr, 0, none⟩), .slice A n c, .slice none 0 0] 132) = w3 at hXa kb ⊢
      obtain ⟨gt, hgt⟩ : ∃ gt, w2.heap.size = gt := ⟨_, rfl⟩
      rw [hgt] at kb hz3 ⊢
      have HT0 : Hid (TrP w w3 gt gs ms gr mr A n c (.slice none 0 0) w.heap.size w1.heap.size (snd0 0 win) (rcv0 0 win 0) []) := Lib.hid ⟨kb, hz3, HS.out.ext hXa, HQ.out.ext hXa, DlL.nil _ _ _, hz1, hz2, HNE.out, HX.out.trans hXa⟩
      have HST0 := Lib.hid (sndT0 xss hbad)
      clear hXa kb HS HQ HX hgt
      go_wp2_with fail
      go_loopg [15] 64 (fun f nv wr => ∃ (k : Nat) (s : Snd) (r : Rcv) (ds : List Dlv) (out : Value), f = 64 - k ∧ k ≤ 64 ∧ nv = .int .i64 (k : Int) ∧ Hid (TrP w wr gt gs ms gr mr A n c out w.heap.size w1.heap.size s r ds) ∧ Hid (SndT xss s) ∧ Hid (r.next = (ds.length : Int)) ∧ Hid (transF xss rs (64 - k) k s r ds = transF xss rs 64 0 (snd0 0 win) (rcv0 0 win 0) []))
      case atStart => exact ⟨0, _, _, [], _, rfl, by omega, rfl, HT0, HST0, Lib.hid rfl, Lib.hid rfl⟩
      case round =>
        clear HT0 HST0
        obtain ⟨k, s, r, ds, out, rfl, hk, rfl, HT, HS, HD, HTR⟩ := hrel
        obtain ⟨A5, c5, hso⟩ := HT.out.outL.slice
        subst hso
        by_cases hnx : r.next < n
        · have q1 : decide (r.next < (n : Int)) = true := decide_eq_true hnx
          have HNX : Hid (r.next < (xss.length : Int)) := Lib.hid (by rw [HXL.out]; exact hnx)
          by_cases hk64 : k < 64
          · have HTR2 : Hid (transF xss rs (64 - (k + 1)) (k + 1) (roundF xss s r (rs.getD k [])).1 (roundF xss s r (rs.getD k [])).2.1 (ds ++ (roundF xss s r (rs.getD k [])).2.2) = transF xss rs 64 0 (snd0 0 win) (rcv0 0 win 0) []) := Lib.hid (by
              have h1 := HTR.out
              rw [show 64 - k = (64 - (k + 1)) + 1 by omega] at h1
              unfold transF at h1
              rw [if_pos HNX.out] at h1
              exact h1)
            have HS2 := Lib.hid (HS.out.round (fun x hx => (HXX.out x hx).2) r (rs.getD k []))
            have HD2 : Hid ((roundF xss s r (rs.getD k [])).2.1.next = ((ds ++ (roundF xss s r (rs.getD k [])).2.2).length : Int)) := Lib.hid (by rw [roundF_next, HD.out, List.length_append]; omega)
            clear hnx
            by_cases hkm : k < m
            · obtain ⟨b, off, A6, n6, c6, fl, rfl, hf6, hc6, hF6⟩ := HR.out.get hkm
              have hfg : rs.getD k [] = fl := by simp [List.getD, hf6]
              have hf8 := HR8.out k hk64
              rw [hfg] at hf8
              have hn6 : n6 ≤ 1000 := by have := hF6.1; omega
              rw [hfg] at HTR2 HS2 HD2
              have hcr := HT.out.ext.cell hc6
              clear hf6 hfg hf8 hc6
              go_wp2_with fail
              refine (nextP_any _ gr mr r _ HT.out.rcv).mono ?_
              rintro e _ ⟨rfl, rfl⟩
              go_wp2_with fail
              refine (roundP_any w gt gs ms gr mr A n c xss _ _ _ s r ds A6 n6 c6 fl _ HT.out HL.out (by omega) hF6 hn6 HS.out HD.out HXX.out).mono ?_
              rintro e w5 ⟨rfl, out5, hT5⟩
              have HT5 := Lib.hid hT5
              clear hT5 hcr hF6
              go_wp2
              go_roundg (64 - (k + 1))
              case rel => exact ⟨k + 1, _, _, _, out5, rfl, by omega, by go_num, HT5, HS2, HD2, HTR2⟩
              case measure => omega
            · have hfg : rs.getD k [] = [] := by simp [List.getD, List.getElem?_eq_none (by rw [HRL.out]; omega : rs.length ≤ k)]
              rw [hfg] at HTR2 HS2 HD2
              clear hfg
              go_wp2_with fail
              refine (nextP_any _ gr mr r _ HT.out.rcv).mono ?_
              rintro e _ ⟨rfl, rfl⟩
              go_wp2_with fail
              refine (roundP_any w gt gs ms gr mr A n c xss _ _ _ s r ds none 0 0 [] _ HT.out HL.out (by omega) (Flts.nil _ _) (by omega) HS.out HD.out HXX.out).mono ?_
              rintro e w5 ⟨rfl, out5, hT5⟩
              have HT5 := Lib.hid hT5
              clear hT5
              go_wp2
              go_roundg (64 - (k + 1))
              case rel => exact ⟨k + 1, _, _, _, out5, rfl, by omega, by go_num, HT5, HS2, HD2, HTR2⟩
              case measure => omega
          · obtain rfl : k = 64 := by omega
            have HTE : Hid (transF xss rs 64 0 (snd0 0 win) (rcv0 0 win 0) [] = (ds, 64)) := HTR.out.symm
            have y3 := HT.out.blk.cell 3
            go_wp2_with fail
            refine (nextP_any _ gr mr r _ HT.out.rcv).mono ?_
            rintro e _ ⟨rfl, rfl⟩
            go_wp2
            go_ret3
            rw [HE.out, HTE.out]
            obtain ⟨A', c', e, h, _⟩ := HT.out.outL.dls
            injection e with e1 e2 e3
            subst e1 e3
            exact ⟨_, _, rfl, h, HT.out.ext⟩
        · have q1 : decide (r.next < (n : Int)) = false := decide_eq_false hnx
          have HTE : Hid (transF xss rs 64 0 (snd0 0 win) (rcv0 0 win 0) [] = (ds, k)) := Lib.hid (by rw [← HTR.out, transF_stop]; rw [HXL.out]; exact hnx)
          have y3 := HT.out.blk.cell 3
          clear hnx
          go_wp2_with fail
          refine (nextP_any _ gr mr r _ HT.out.rcv).mono ?_
          rintro e _ ⟨rfl, rfl⟩
          go_wp2
          go_ret3
          rw [HE.out, HTE.out]
          obtain ⟨A', c', e, h, _⟩ := HT.out.outL.dls
          injection e with e1 e2 e3
          subst e1 e3
          exact ⟨_, _, rfl, h, HT.out.ext⟩

end Go.Proofs.Ytekhmfliaojabaa
namespace Go.Proofs.Ytekhmfliaojabaa
open Go.ChangeShapes Go.WideShapes Go.ChangeAt Go.RowKit Go.Joins

theorem fltLs_open {W : World} {H : Type} {enc : TypeId × Value → H} {a : Option Addr} {len cap : Nat} {d : DataW H} {p : List MemPlace} {b : Nat} {sp : Nat → Bool} {hd : Bool}
    (h : DataW.Trod enc Try.prog W b sp hd 106 (.slice a len cap) d p) : ∃ rs, FltLs W a len rs ∧ len ≤ cap ∧ cap ≤ 9223372036854775807 := by
  obtain ⟨fuel, hf⟩ := h
  obtain ⟨rs, vs, h1, h2, h3, h4, h5⟩ := slice_trod (k := 1) (R := fun cs fl => ∃ v, cs = [v] ∧ ∃ A n c, v = Value.slice A n c ∧ Flts W A n fl ∧ n ≤ c ∧ c ≤ 9223372036854775807) Try.underlying106 (by kernel_rfl) (fun cs x h => by obtain ⟨v, rfl, _⟩ := h; rfl) (fun fuel cs z hl hz => by
    obtain ⟨A, n, c, rfl⟩ := slice_form Try.underlying33 hz
    obtain ⟨xs, hI, h1, h2⟩ := flts_open hz
    exact ⟨xs, _, rfl, A, n, c, rfl, hI, h1, h2⟩) hf
  have hvl := h2.len (k := 1) (fun cs x h => by obtain ⟨v, rfl, _⟩ := h; rfl)
  refine ⟨rs, ⟨h1, vs, by omega, h3, fun j v xs hv hx => ?_⟩, h4, h5⟩
  obtain ⟨cs, ⟨v', rfl, hs⟩, hg⟩ := h2.get (k := 1) (fun cs x h => by obtain ⟨v, rfl, _⟩ := h; rfl) hx
  have := hg 0 v' rfl
  rw [Nat.mul_one, Nat.add_zero, hv] at this
  exact (Option.some.inj this) ▸ hs
end Go.Proofs.Ytekhmfliaojabaa
namespace Go.Proofs.Ytekhmfliaojabaa
open Go.RowKit

theorem SndR.keepsA {base : Nat} {w w' : World} {g : Nat} {v : Value} {s : Snd} {L : List Nat} (h : SndR base w g v s) (hk : Keeps L w w') (n1 : g ∉ L) (n2 : ∀ k, v.ownBlock = some k → k ∉ L) (n3 : ∀ k ∈ L, NoRow 5 w k) : SndR base w' g v s := by
  obtain ⟨h1, ⟨l, h2, h3⟩, h4, h5⟩ := h
  exact ⟨h1.keeps hk n1, ⟨l, ownsRow_keeps h2 hk n2, h3.imp fun _ _ _ h => h.keeps hk n3⟩, h4, h5⟩
theorem SndR.row_lt {base : Nat} {w : World} {g : Nat} {v : Value} {s : Snd} (h : SndR base w g v s) : ∀ k, v.ownBlock = some k → base ≤ k ∧ k < w.heap.size := by obtain ⟨vs, h1, _⟩ := h.row; exact fun k hk => h1.lt k hk
structure TrE (w0 w : World) (gs : Nat) (vs : Value) (gr : Nat) (vr out : Value) (b1 b2 : Nat) (s : Snd) (r : Rcv) (ds : List Dlv) : Prop where
  snd : SndR b1 w gs vs s
  rcv : RecR b2 w gr vr r
  outL : DlL w0.heap.size b2 w out ds
  ne : RowNe out vr
  l1 : w0.heap.size ≤ b1
  l2 : w0.heap.size ≤ b2
  ext : Ext w0 w
section
variable {w0 w w' : World} {gs gr : Nat} {vs vr vs' vr' out : Value} {b1 b2 : Nat} {s s' : Snd} {r r' : Rcv} {ds : List Dlv}
theorem TrE.grow (h : TrE w0 w gs vs gr vr out b1 b2 s r ds) (he : Ext w w') : TrE w0 w' gs vs gr vr out b1 b2 s r ds := ⟨h.snd.ext he, h.rcv.ext he, h.outL.ext he, h.ne, h.l1, h.l2, h.ext.trans he⟩
theorem TrE.sent (h : TrE w0 w gs vs gr vr out b1 b2 s r ds) (hk : Keeps (gs :: vs.ownBlock.toList) w w') (hs : SndR b1 w' gs vs' s') : TrE w0 w' gs vs' gr vr out b1 b2 s' r ds :=
  ⟨hs, ⟨h.rcv.q.keeps hk (h.snd.far _ (by decide) (by decide)) (h.snd.far _ (by decide) (by decide)) (h.snd.far _ (by decide) (by decide)), h.rcv.ok⟩, h.outL.keeps hk (h.snd.far _ (by decide) (by decide)) (h.snd.far _ (by decide) (by decide)), h.ne, h.l1, h.l2, hk.ext h.ext (h.snd.new h.l1)⟩
theorem TrE.took (h : TrE w0 w gs vs gr vr out b1 b2 s r ds) (hk : Keeps (gr :: vr.ownBlock.toList) w w') (hr : RecR b2 w' gr vr' r') (hn : NewRow gr vr w vr') : TrE w0 w' gs vs gr vr' out b1 b2 s r' ds := by
  have hg : ∀ k, out.ownBlock = some k → k ∉ gr :: vr.ownBlock.toList := fun k ho hl => by
    simp only [List.mem_cons, Option.mem_toList] at hl
    rcases hl with rfl | hl
    · exact h.rcv.q.g_ne h.outL (Option.mem_toList.2 ho)
    · exact h.ne k ho hl
  refine ⟨h.snd.keeps hk (h.rcv.q.far _ (by decide) (by decide)) (h.rcv.q.far _ (by decide) (by decide)) (h.rcv.q.far _ (by decide) (by decide)), hr, h.outL.keepsA hk hg (h.rcv.q.far _ (by decide) (by decide)), fun k ho hv => ?_, h.l1, h.l2, hk.ext h.ext (h.rcv.q.new h.l2)⟩
  rcases hn k hv with h1 | h1
  · exact hg k ho h1
  · have := (h.outL.lt k ho).2
    omega
theorem TrE.row {base size m : Nat} {v : Value} {us : List Value} (h : TrE w0 w gs vs gr vr out b1 b2 s r ds) (hv : w.ownsRow base 22 size v m us) (hb : w0.heap.size ≤ base) (hl : ∀ k, vs.ownBlock = some k → k < base) (hg : w.grownBy w' v.ownBlock) : TrE w0 w' gs vs gr vr out b1 b2 s r ds := by
  have hk : Keeps v.ownBlock.toList w w' := Keeps.of_grown hg fun k hk => by rw [hk]; simp
  have hn : ∀ t, 22 ≠ t → ∀ k ∈ v.ownBlock.toList, NoRow t w k := fun t ht k hk => NoRow.of_own hv (Option.mem_toList.1 hk) ht
  have hge : ∀ k ∈ v.ownBlock.toList, base ≤ k := fun k hk => (hv.lt k (Option.mem_toList.1 hk)).1
  exact ⟨h.snd.keepsA hk (fun hl' => hn _ (show 22 ≠ 118 by decide) gs hl' _ _ h.snd.blk) (fun k h1 h2 => by have := hl k h1; have := hge k h2; omega) (hn _ (by decide)), ⟨h.rcv.q.keeps hk (hn _ (by decide)) (hn _ (by decide)) (hn _ (by decide)), h.rcv.ok⟩, h.outL.keeps hk (hn _ (by decide)) (hn _ (by decide)), h.ne, h.l1, h.l2, hk.ext h.ext fun k hk => by have := hge k hk; omega⟩
theorem TrE.more {v' : Value} {w1 : World} {es : List Dlv} {cs us : List Value} (h : TrE w0 w gs vs gr vr out b1 b2 s r ds) (hv : w.ownsRow w0.heap.size 72 3 out ds.length cs) (hc : CsR (DlO b2 w) cs ds) (hu : CsR (DlO b2 w) us es)
    (hown : w1.ownsRow w0.heap.size 72 3 v' (ds.length + es.length) (cs ++ us)) (hgr : w.grownBy w1 out.ownBlock) (hdj : v'.ownBlock = out.ownBlock ∨ v'.ownBlock = some w.heap.size) : TrE w0 w1 gs vs gr vr v' b1 b2 s r (ds ++ es) := by
  have hk : Keeps out.ownBlock.toList w w1 := Keeps.of_grown hgr fun k hk => by rw [hk]; simp
  have hn : ∀ t, 72 ≠ t → ∀ k ∈ out.ownBlock.toList, NoRow t w k := fun t ht k hk => NoRow.of_own hv (Option.mem_toList.1 hk) ht
  refine ⟨h.snd.keeps hk (hn _ (by decide)) (hn _ (by decide)) (hn _ (by decide)), ⟨h.rcv.q.keepsA hk (h.rcv.q.g_ne h.outL) h.ne.list (hn _ (by decide)), h.rcv.ok⟩, DlL.append hv hc hu hown hgr, fun k ho hr => ?_, h.l1, h.l2, h.ext.grown hgr fun k hk => (hv.lt k hk).1⟩
  rcases hdj with e | e
  · exact h.ne k (e ▸ ho) hr
  · rw [e] at ho
    injection ho with ho
    have := (h.rcv.q.row.lt k hr).2
    omega
end
end Go.Proofs.Ytekhmfliaojabaa
