/- Lemmas of the proof that follows (Circles, part 10): walks of functions by contract, and plain lemmas. Conditions: none. -/
import Derived.Test.YteoijnaljkagfaaCirclesI
namespace Go.Proofs.Yteoijnaljkagfaa
open Go.RowKit

set_option maxRecDepth 100000 in
set_option maxHeartbeats 2000000 in
theorem open_ExactCircles (gv : Nat) (a1 a2 b1 b2 c1 c2 d1 d2 : Int) (w : World) (h0 : w.cell? ⟨gv, 0, none⟩ = some (.int .i64 a1)) (h1 : w.cell? ⟨gv, 1, none⟩ = some (.int .i64 a2)) (h2 : w.cell? ⟨gv, 2, none⟩ = some (.int .i64 b1)) (h3 : w.cell? ⟨gv, 3, none⟩ = some (.int .i64 b2)) (h4 : w.cell? ⟨gv, 4, none⟩ = some (.int .i64 c1)) (h5 : w.cell? ⟨gv, 5, none⟩ = some (.int .i64 c2)) (h6 : w.cell? ⟨gv, 6, none⟩ = some (.int .i64 d1)) (h7 : w.cell? ⟨gv, 7, none⟩ = some (.int .i64 d2)) (a : Act) (Q : Exit → Act → World → Prop) (hsize : 17 ≤ a.tmps.size)
    (s1 : a.tmps[1]? = some (.pointer (some ⟨gv, 0, none⟩)))
    (hend : ∀ (xv0 xv1 xv2 xv3 xv4 xv5 xv6 xv7 xv8 xv9 xv10 xv11 xv12 xv13 xv14 xv15 : Value) (W : World), (xv0 = .pointer (some ⟨gv, 0, none⟩)) → (xv1 = .agg #[.int .i64 a1, .int .i64 a2]) → (xv2 = .pointer (some ⟨gv, 2, none⟩)) → (xv3 = .agg #[.int .i64 b1, .int .i64 b2]) → (xv4 = .pointer (some ⟨gv, 4, none⟩)) → (xv5 = .agg #[.int .i64 c1, .int .i64 c2]) → (xv6 = .pointer (some ⟨gv, 6, none⟩)) → (xv7 = .agg #[.int .i64 d1, .int .i64 d2]) → (∃ g, xv8 = .pointer (some ⟨g, 0, none⟩) ∧ w.heap.size ≤ g ∧ Blk W g 23 #[.int .i64 a1, .int .i64 a2]) → (∃ g, xv9 = .pointer (some ⟨g, 0, none⟩) ∧ w.heap.size ≤ g ∧ Blk W g 23 #[.int .i64 b1, .int .i64 b2]) → (∃ g, xv10 = .pointer (some ⟨g, 0, none⟩) ∧ w.heap.size ≤ g ∧ Blk W g 23 #[.int .i64 c1, .int .i64 c2]) → (∃ g, xv11 = .pointer (some ⟨g, 0, none⟩) ∧ w.heap.size ≤ g ∧ Blk W g 23 #[.int .i64 d1, .int .i64 d2]) → (xv8 ≠ xv9) → (xv8 ≠ xv10) → (xv8 ≠ xv11) → (xv9 ≠ xv10) → (xv9 ≠ xv11) → (xv10 ≠ xv11) → Ext w W → wpList Try.prog (rops Try.f9 1).toArray Q [] ((((((((((((((((a.put (some 9) xv0).put (some 10) xv1).put (some 11) xv2).put (some 12) xv3).put (some 13) xv4).put (some 14) xv5).put (some 15) xv6).put (some 16) xv7).put (some 3) xv8).put (some 4) xv9).put (some 5) xv10).put (some 6) xv11).put (none) xv12).put (none) xv13).put (none) xv14).put (none) xv15) W) :
    (Code.region 1 (rops Try.f9 1).toArray true).wp Try.prog Q a w := by
  have hsz : ∀ d, some d ∈ ([some 9, some 10, some 11, some 12, some 13, some 14, some 15, some 16, some 3, some 4, some 5, some 6, none, none, none, none] : List (Option Tmp)) → d < a.tmps.size := slots_lt (by decide) hsize
  refine wp_region_g 16 [some 9, some 10, some 11, some 12, some 13, some 14, some 15, some 16, some 3, some 4, some 5, some 6, none, none, none, none] [[], [0], [], [2], [], [4], [], [6], [], [], [], [], [1, 8], [3, 9], [5, 10], [7, 11]] [[], [], [], [], [], [], [], [], [12], [13], [14], [15], [], [], [], []] (fun (done : Nat → Prop) (us : Nat → Value) (W : World) => Ext w W ∧ (done 0 → us 0 = .pointer (some ⟨gv, 0, none⟩)) ∧ (done 1 → us 1 = .agg #[.int .i64 a1, .int .i64 a2]) ∧ (done 2 → us 2 = .pointer (some ⟨gv, 2, none⟩)) ∧ (done 3 → us 3 = .agg #[.int .i64 b1, .int .i64 b2]) ∧ (done 4 → us 4 = .pointer (some ⟨gv, 4, none⟩)) ∧ (done 5 → us 5 = .agg #[.int .i64 c1, .int .i64 c2]) ∧ (done 6 → us 6 = .pointer (some ⟨gv, 6, none⟩)) ∧ (done 7 → us 7 = .agg #[.int .i64 d1, .int .i64 d2]) ∧ Loc w W 23 #[.int .i64 0, .int .i64 0] #[.int .i64 a1, .int .i64 a2] (done 8) (done 12) (us 8) ∧ Loc w W 23 #[.int .i64 0, .int .i64 0] #[.int .i64 b1, .int .i64 b2] (done 9) (done 13) (us 9) ∧ Loc w W 23 #[.int .i64 0, .int .i64 0] #[.int .i64 c1, .int .i64 c2] (done 10) (done 14) (us 10) ∧ Loc w W 23 #[.int .i64 0, .int .i64 0] #[.int .i64 d1, .int .i64 d2] (done 11) (done 15) (us 11) ∧ Far (done 8) (done 9) (us 8) (us 9) ∧ Far (done 8) (done 10) (us 8) (us 10) ∧ Far (done 8) (done 11) (us 8) (us 11) ∧ Far (done 9) (done 10) (us 9) (us 10) ∧ Far (done 9) (done 11) (us 9) (us 11) ∧ Far (done 10) (done 11) (us 10) (us 11)) (by kernel_rfl) (by kernel_rfl) hsz (fun p q us W h => by have e : p = q := funext fun k => propext (h k); rw [e]; exact id) (fun us => ⟨(Ext.refl w).drew, fun h => h.elim, fun h => h.elim, fun h => h.elim, fun h => h.elim, fun h => h.elim, fun h => h.elim, fun h => h.elim, fun h => h.elim, Loc.unmade id, Loc.unmade id, Loc.unmade id, Loc.unmade id, fun h => h.elim, fun h => h.elim, fun h => h.elim, fun h => h.elim, fun h => h.elim, fun h => h.elim⟩) ?_ ?_
  · clear hend
    simp only [rops, Try.f9, regOf, Option.bind_some, Nat.reduceBEq, if_true, if_false, Bool.false_eq_true, Option.getD_some]
    simp only [List.take_succ_cons, List.take_zero]
    refine ⟨?_, ?_, ?_, ?_, ?_, ?_, ?_, ?_, ?_, ?_, ?_, ?_, ?_, ?_, ?_, ?_, trivial⟩
    · intro done us W hJ hdep haft hnot b hb hb' K hK Q'
      obtain ⟨hX0, cc0, cc1, cc2, cc3, cc4, cc5, cc6, cc7, ll8, ll9, ll10, ll11, f8_9, f8_10, f8_11, f9_10, f9_11, f10_11⟩ := hJ
      have e1 := (hb' 1 (by simp)).trans s1
      clear hb hb'
      have hfin := hK (.pointer (some ⟨gv, 0, none⟩)) _ ⟨hX0, fun _ => rfl, fun h => cc1 (h.resolve_right (by decide)), fun h => cc2 (h.resolve_right (by decide)), fun h => cc3 (h.resolve_right (by decide)), fun h => cc4 (h.resolve_right (by decide)), fun h => cc5 (h.resolve_right (by decide)), fun h => cc6 (h.resolve_right (by decide)), fun h => cc7 (h.resolve_right (by decide)), Loc.same ll8 ⟨fun h => h.resolve_right (by decide), .inl⟩ ⟨fun h => h.resolve_right (by decide), .inl⟩, Loc.same ll9 ⟨fun h => h.resolve_right (by decide), .inl⟩ ⟨fun h => h.resolve_right (by decide), .inl⟩, Loc.same ll10 ⟨fun h => h.resolve_right (by decide), .inl⟩ ⟨fun h => h.resolve_right (by decide), .inl⟩, Loc.same ll11 ⟨fun h => h.resolve_right (by decide), .inl⟩ ⟨fun h => h.resolve_right (by decide), .inl⟩, fun h h' => f8_9 (h.resolve_right (by decide)) (h'.resolve_right (by decide)), fun h h' => f8_10 (h.resolve_right (by decide)) (h'.resolve_right (by decide)), fun h h' => f8_11 (h.resolve_right (by decide)) (h'.resolve_right (by decide)), fun h h' => f9_10 (h.resolve_right (by decide)) (h'.resolve_right (by decide)), fun h h' => f9_11 (h.resolve_right (by decide)) (h'.resolve_right (by decide)), fun h h' => f10_11 (h.resolve_right (by decide)) (h'.resolve_right (by decide))⟩
      clear hK cc0 cc1 cc2 cc3 cc4 cc5 cc6 cc7 ll8 ll9 ll10 ll11 f8_9 f8_10 f8_11 f9_10 f9_11 f10_11
      go_simp
      exact hfin
    · intro done us W hJ hdep haft hnot b hb hb' K hK Q'
      obtain ⟨hX0, cc0, cc1, cc2, cc3, cc4, cc5, cc6, cc7, ll8, ll9, ll10, ll11, f8_9, f8_10, f8_11, f9_10, f9_11, f10_11⟩ := hJ
      simp only [List.getD_cons_succ, List.getD_cons_zero, List.mem_cons, List.not_mem_nil, or_false, forall_eq_or_imp, forall_eq] at hdep
      have e9 := hb 0 9 rfl
      rw [cc0 hdep] at e9
      clear hb hb'
      have q0 := Ext.cell hX0 h0
      have q1 := Ext.cell hX0 h1
      have hfin := hK (.agg #[.int .i64 a1, .int .i64 a2]) _ ⟨hX0, fun h => cc0 (h.resolve_right (by decide)), fun _ => rfl, fun h => cc2 (h.resolve_right (by decide)), fun h => cc3 (h.resolve_right (by decide)), fun h => cc4 (h.resolve_right (by decide)), fun h => cc5 (h.resolve_right (by decide)), fun h => cc6 (h.resolve_right (by decide)), fun h => cc7 (h.resolve_right (by decide)), Loc.same ll8 ⟨fun h => h.resolve_right (by decide), .inl⟩ ⟨fun h => h.resolve_right (by decide), .inl⟩, Loc.same ll9 ⟨fun h => h.resolve_right (by decide), .inl⟩ ⟨fun h => h.resolve_right (by decide), .inl⟩, Loc.same ll10 ⟨fun h => h.resolve_right (by decide), .inl⟩ ⟨fun h => h.resolve_right (by decide), .inl⟩, Loc.same ll11 ⟨fun h => h.resolve_right (by decide), .inl⟩ ⟨fun h => h.resolve_right (by decide), .inl⟩, fun h h' => f8_9 (h.resolve_right (by decide)) (h'.resolve_right (by decide)), fun h h' => f8_10 (h.resolve_right (by decide)) (h'.resolve_right (by decide)), fun h h' => f8_11 (h.resolve_right (by decide)) (h'.resolve_right (by decide)), fun h h' => f9_10 (h.resolve_right (by decide)) (h'.resolve_right (by decide)), fun h h' => f9_11 (h.resolve_right (by decide)) (h'.resolve_right (by decide)), fun h h' => f10_11 (h.resolve_right (by decide)) (h'.resolve_right (by decide))⟩
      clear hK cc0 cc1 cc2 cc3 cc4 cc5 cc6 cc7 ll8 ll9 ll10 ll11 f8_9 f8_10 f8_11 f9_10 f9_11 f10_11
      go_simp
      exact hfin
    · intro done us W hJ hdep haft hnot b hb hb' K hK Q'
      obtain ⟨hX0, cc0, cc1, cc2, cc3, cc4, cc5, cc6, cc7, ll8, ll9, ll10, ll11, f8_9, f8_10, f8_11, f9_10, f9_11, f10_11⟩ := hJ
      have e1 := (hb' 1 (by simp)).trans s1
      clear hb hb'
      have hfin := hK (.pointer (some ⟨gv, 2, none⟩)) _ ⟨hX0, fun h => cc0 (h.resolve_right (by decide)), fun h => cc1 (h.resolve_right (by decide)), fun _ => rfl, fun h => cc3 (h.resolve_right (by decide)), fun h => cc4 (h.resolve_right (by decide)), fun h => cc5 (h.resolve_right (by decide)), fun h => cc6 (h.resolve_right (by decide)), fun h => cc7 (h.resolve_right (by decide)), Loc.same ll8 ⟨fun h => h.resolve_right (by decide), .inl⟩ ⟨fun h => h.resolve_right (by decide), .inl⟩, Loc.same ll9 ⟨fun h => h.resolve_right (by decide), .inl⟩ ⟨fun h => h.resolve_right (by decide), .inl⟩, Loc.same ll10 ⟨fun h => h.resolve_right (by decide), .inl⟩ ⟨fun h => h.resolve_right (by decide), .inl⟩, Loc.same ll11 ⟨fun h => h.resolve_right (by decide), .inl⟩ ⟨fun h => h.resolve_right (by decide), .inl⟩, fun h h' => f8_9 (h.resolve_right (by decide)) (h'.resolve_right (by decide)), fun h h' => f8_10 (h.resolve_right (by decide)) (h'.resolve_right (by decide)), fun h h' => f8_11 (h.resolve_right (by decide)) (h'.resolve_right (by decide)), fun h h' => f9_10 (h.resolve_right (by decide)) (h'.resolve_right (by decide)), fun h h' => f9_11 (h.resolve_right (by decide)) (h'.resolve_right (by decide)), fun h h' => f10_11 (h.resolve_right (by decide)) (h'.resolve_right (by decide))⟩
      clear hK cc0 cc1 cc2 cc3 cc4 cc5 cc6 cc7 ll8 ll9 ll10 ll11 f8_9 f8_10 f8_11 f9_10 f9_11 f10_11
      go_simp
      exact hfin
    · intro done us W hJ hdep haft hnot b hb hb' K hK Q'
      obtain ⟨hX0, cc0, cc1, cc2, cc3, cc4, cc5, cc6, cc7, ll8, ll9, ll10, ll11, f8_9, f8_10, f8_11, f9_10, f9_11, f10_11⟩ := hJ
      simp only [List.getD_cons_succ, List.getD_cons_zero, List.mem_cons, List.not_mem_nil, or_false, forall_eq_or_imp, forall_eq] at hdep
      have e11 := hb 2 11 rfl
      rw [cc2 hdep] at e11
      clear hb hb'
      have q0 := Ext.cell hX0 h2
      have q1 := Ext.cell hX0 h3
      have hfin := hK (.agg #[.int .i64 b1, .int .i64 b2]) _ ⟨hX0, fun h => cc0 (h.resolve_right (by decide)), fun h => cc1 (h.resolve_right (by decide)), fun h => cc2 (h.resolve_right (by decide)), fun _ => rfl, fun h => cc4 (h.resolve_right (by decide)), fun h => cc5 (h.resolve_right (by decide)), fun h => cc6 (h.resolve_right (by decide)), fun h => cc7 (h.resolve_right (by decide)), Loc.same ll8 ⟨fun h => h.resolve_right (by decide), .inl⟩ ⟨fun h => h.resolve_right (by decide), .inl⟩, Loc.same ll9 ⟨fun h => h.resolve_right (by decide), .inl⟩ ⟨fun h => h.resolve_right (by decide), .inl⟩, Loc.same ll10 ⟨fun h => h.resolve_right (by decide), .inl⟩ ⟨fun h => h.resolve_right (by decide), .inl⟩, Loc.same ll11 ⟨fun h => h.resolve_right (by decide), .inl⟩ ⟨fun h => h.resolve_right (by decide), .inl⟩, fun h h' => f8_9 (h.resolve_right (by decide)) (h'.resolve_right (by decide)), fun h h' => f8_10 (h.resolve_right (by decide)) (h'.resolve_right (by decide)), fun h h' => f8_11 (h.resolve_right (by decide)) (h'.resolve_right (by decide)), fun h h' => f9_10 (h.resolve_right (by decide)) (h'.resolve_right (by decide)), fun h h' => f9_11 (h.resolve_right (by decide)) (h'.resolve_right (by decide)), fun h h' => f10_11 (h.resolve_right (by decide)) (h'.resolve_right (by decide))⟩
      clear hK cc0 cc1 cc2 cc3 cc4 cc5 cc6 cc7 ll8 ll9 ll10 ll11 f8_9 f8_10 f8_11 f9_10 f9_11 f10_11
      go_simp
      exact hfin
    · intro done us W hJ hdep haft hnot b hb hb' K hK Q'
      obtain ⟨hX0, cc0, cc1, cc2, cc3, cc4, cc5, cc6, cc7, ll8, ll9, ll10, ll11, f8_9, f8_10, f8_11, f9_10, f9_11, f10_11⟩ := hJ
      have e1 := (hb' 1 (by simp)).trans s1
      clear hb hb'
      have hfin := hK (.pointer (some ⟨gv, 4, none⟩)) _ ⟨hX0, fun h => cc0 (h.resolve_right (by decide)), fun h => cc1 (h.resolve_right (by decide)), fun h => cc2 (h.resolve_right (by decide)), fun h => cc3 (h.resolve_right (by decide)), fun _ => rfl, fun h => cc5 (h.resolve_right (by decide)), fun h => cc6 (h.resolve_right (by decide)), fun h => cc7 (h.resolve_right (by decide)), Loc.same ll8 ⟨fun h => h.resolve_right (by decide), .inl⟩ ⟨fun h => h.resolve_right (by decide), .inl⟩, Loc.same ll9 ⟨fun h => h.resolve_right (by decide), .inl⟩ ⟨fun h => h.resolve_right (by decide), .inl⟩, Loc.same ll10 ⟨fun h => h.resolve_right (by decide), .inl⟩ ⟨fun h => h.resolve_right (by decide), .inl⟩, Loc.same ll11 ⟨fun h => h.resolve_right (by decide), .inl⟩ ⟨fun h => h.resolve_right (by decide), .inl⟩, fun h h' => f8_9 (h.resolve_right (by decide)) (h'.resolve_right (by decide)), fun h h' => f8_10 (h.resolve_right (by decide)) (h'.resolve_right (by decide)), fun h h' => f8_11 (h.resolve_right (by decide)) (h'.resolve_right (by decide)), fun h h' => f9_10 (h.resolve_right (by decide)) (h'.resolve_right (by decide)), fun h h' => f9_11 (h.resolve_right (by decide)) (h'.resolve_right (by decide)), fun h h' => f10_11 (h.resolve_right (by decide)) (h'.resolve_right (by decide))⟩
      clear hK cc0 cc1 cc2 cc3 cc4 cc5 cc6 cc7 ll8 ll9 ll10 ll11 f8_9 f8_10 f8_11 f9_10 f9_11 f10_11
      go_simp
      exact hfin
    · intro done us W hJ hdep haft hnot b hb hb' K hK Q'
      obtain ⟨hX0, cc0, cc1, cc2, cc3, cc4, cc5, cc6, cc7, ll8, ll9, ll10, ll11, f8_9, f8_10, f8_11, f9_10, f9_11, f10_11⟩ := hJ
      simp only [List.getD_cons_succ, List.getD_cons_zero, List.mem_cons, List.not_mem_nil, or_false, forall_eq_or_imp, forall_eq] at hdep
      have e13 := hb 4 13 rfl
      rw [cc4 hdep] at e13
      clear hb hb'
      have q0 := Ext.cell hX0 h4
      have q1 := Ext.cell hX0 h5
      have hfin := hK (.agg #[.int .i64 c1, .int .i64 c2]) _ ⟨hX0, fun h => cc0 (h.resolve_right (by decide)), fun h => cc1 (h.resolve_right (by decide)), fun h => cc2 (h.resolve_right (by decide)), fun h => cc3 (h.resolve_right (by decide)), fun h => cc4 (h.resolve_right (by decide)), fun _ => rfl, fun h => cc6 (h.resolve_right (by decide)), fun h => cc7 (h.resolve_right (by decide)), Loc.same ll8 ⟨fun h => h.resolve_right (by decide), .inl⟩ ⟨fun h => h.resolve_right (by decide), .inl⟩, Loc.same ll9 ⟨fun h => h.resolve_right (by decide), .inl⟩ ⟨fun h => h.resolve_right (by decide), .inl⟩, Loc.same ll10 ⟨fun h => h.resolve_right (by decide), .inl⟩ ⟨fun h => h.resolve_right (by decide), .inl⟩, Loc.same ll11 ⟨fun h => h.resolve_right (by decide), .inl⟩ ⟨fun h => h.resolve_right (by decide), .inl⟩, fun h h' => f8_9 (h.resolve_right (by decide)) (h'.resolve_right (by decide)), fun h h' => f8_10 (h.resolve_right (by decide)) (h'.resolve_right (by decide)), fun h h' => f8_11 (h.resolve_right (by decide)) (h'.resolve_right (by decide)), fun h h' => f9_10 (h.resolve_right (by decide)) (h'.resolve_right (by decide)), fun h h' => f9_11 (h.resolve_right (by decide)) (h'.resolve_right (by decide)), fun h h' => f10_11 (h.resolve_right (by decide)) (h'.resolve_right (by decide))⟩
      clear hK cc0 cc1 cc2 cc3 cc4 cc5 cc6 cc7 ll8 ll9 ll10 ll11 f8_9 f8_10 f8_11 f9_10 f9_11 f10_11
      go_simp
      exact hfin
    · intro done us W hJ hdep haft hnot b hb hb' K hK Q'
      obtain ⟨hX0, cc0, cc1, cc2, cc3, cc4, cc5, cc6, cc7, ll8, ll9, ll10, ll11, f8_9, f8_10, f8_11, f9_10, f9_11, f10_11⟩ := hJ
      have e1 := (hb' 1 (by simp)).trans s1
      clear hb hb'
      have hfin := hK (.pointer (some ⟨gv, 6, none⟩)) _ ⟨hX0, fun h => cc0 (h.resolve_right (by decide)), fun h => cc1 (h.resolve_right (by decide)), fun h => cc2 (h.resolve_right (by decide)), fun h => cc3 (h.resolve_right (by decide)), fun h => cc4 (h.resolve_right (by decide)), fun h => cc5 (h.resolve_right (by decide)), fun _ => rfl, fun h => cc7 (h.resolve_right (by decide)), Loc.same ll8 ⟨fun h => h.resolve_right (by decide), .inl⟩ ⟨fun h => h.resolve_right (by decide), .inl⟩, Loc.same ll9 ⟨fun h => h.resolve_right (by decide), .inl⟩ ⟨fun h => h.resolve_right (by decide), .inl⟩, Loc.same ll10 ⟨fun h => h.resolve_right (by decide), .inl⟩ ⟨fun h => h.resolve_right (by decide), .inl⟩, Loc.same ll11 ⟨fun h => h.resolve_right (by decide), .inl⟩ ⟨fun h => h.resolve_right (by decide), .inl⟩, fun h h' => f8_9 (h.resolve_right (by decide)) (h'.resolve_right (by decide)), fun h h' => f8_10 (h.resolve_right (by decide)) (h'.resolve_right (by decide)), fun h h' => f8_11 (h.resolve_right (by decide)) (h'.resolve_right (by decide)), fun h h' => f9_10 (h.resolve_right (by decide)) (h'.resolve_right (by decide)), fun h h' => f9_11 (h.resolve_right (by decide)) (h'.resolve_right (by decide)), fun h h' => f10_11 (h.resolve_right (by decide)) (h'.resolve_right (by decide))⟩
      clear hK cc0 cc1 cc2 cc3 cc4 cc5 cc6 cc7 ll8 ll9 ll10 ll11 f8_9 f8_10 f8_11 f9_10 f9_11 f10_11
      go_simp
      exact hfin
    · intro done us W hJ hdep haft hnot b hb hb' K hK Q'
      obtain ⟨hX0, cc0, cc1, cc2, cc3, cc4, cc5, cc6, cc7, ll8, ll9, ll10, ll11, f8_9, f8_10, f8_11, f9_10, f9_11, f10_11⟩ := hJ
      simp only [List.getD_cons_succ, List.getD_cons_zero, List.mem_cons, List.not_mem_nil, or_false, forall_eq_or_imp, forall_eq] at hdep
      have e15 := hb 6 15 rfl
      rw [cc6 hdep] at e15
      clear hb hb'
      have q0 := Ext.cell hX0 h6
      have q1 := Ext.cell hX0 h7
      have hfin := hK (.agg #[.int .i64 d1, .int .i64 d2]) _ ⟨hX0, fun h => cc0 (h.resolve_right (by decide)), fun h => cc1 (h.resolve_right (by decide)), fun h => cc2 (h.resolve_right (by decide)), fun h => cc3 (h.resolve_right (by decide)), fun h => cc4 (h.resolve_right (by decide)), fun h => cc5 (h.resolve_right (by decide)), fun h => cc6 (h.resolve_right (by decide)), fun _ => rfl, Loc.same ll8 ⟨fun h => h.resolve_right (by decide), .inl⟩ ⟨fun h => h.resolve_right (by decide), .inl⟩, Loc.same ll9 ⟨fun h => h.resolve_right (by decide), .inl⟩ ⟨fun h => h.resolve_right (by decide), .inl⟩, Loc.same ll10 ⟨fun h => h.resolve_right (by decide), .inl⟩ ⟨fun h => h.resolve_right (by decide), .inl⟩, Loc.same ll11 ⟨fun h => h.resolve_right (by decide), .inl⟩ ⟨fun h => h.resolve_right (by decide), .inl⟩, fun h h' => f8_9 (h.resolve_right (by decide)) (h'.resolve_right (by decide)), fun h h' => f8_10 (h.resolve_right (by decide)) (h'.resolve_right (by decide)), fun h h' => f8_11 (h.resolve_right (by decide)) (h'.resolve_right (by decide)), fun h h' => f9_10 (h.resolve_right (by decide)) (h'.resolve_right (by decide)), fun h h' => f9_11 (h.resolve_right (by decide)) (h'.resolve_right (by decide)), fun h h' => f10_11 (h.resolve_right (by decide)) (h'.resolve_right (by decide))⟩
      clear hK cc0 cc1 cc2 cc3 cc4 cc5 cc6 cc7 ll8 ll9 ll10 ll11 f8_9 f8_10 f8_11 f9_10 f9_11 f10_11
      go_simp
      exact hfin
    · intro done us W hJ hdep haft hnot b hb hb' K hK Q'
      obtain ⟨hX0, cc0, cc1, cc2, cc3, cc4, cc5, cc6, cc7, ll8, ll9, ll10, ll11, f8_9, f8_10, f8_11, f9_10, f9_11, f10_11⟩ := hJ
      simp only [List.getD_cons_succ, List.getD_cons_zero, List.mem_cons, List.not_mem_nil, or_false, forall_eq_or_imp, forall_eq] at haft
      clear hb hb'
      have hfin := hK _ _ ⟨hX0.alloc _, fun h => cc0 (h.resolve_right (by decide)), fun h => cc1 (h.resolve_right (by decide)), fun h => cc2 (h.resolve_right (by decide)), fun h => cc3 (h.resolve_right (by decide)), fun h => cc4 (h.resolve_right (by decide)), fun h => cc5 (h.resolve_right (by decide)), fun h => cc6 (h.resolve_right (by decide)), fun h => cc7 (h.resolve_right (by decide)), Loc.new w W hX0 (fun h => h.elim haft (by decide)) (Ext.refl _), Loc.same (ll9.ext ((Ext.refl _).alloc _)) ⟨fun h => h.resolve_right (by decide), .inl⟩ ⟨fun h => h.resolve_right (by decide), .inl⟩, Loc.same (ll10.ext ((Ext.refl _).alloc _)) ⟨fun h => h.resolve_right (by decide), .inl⟩ ⟨fun h => h.resolve_right (by decide), .inl⟩, Loc.same (ll11.ext ((Ext.refl _).alloc _)) ⟨fun h => h.resolve_right (by decide), .inl⟩ ⟨fun h => h.resolve_right (by decide), .inl⟩, fun _ h => Ne.symm (ll9.far_new (h.resolve_right (by decide))), fun _ h => Ne.symm (ll10.far_new (h.resolve_right (by decide))), fun _ h => Ne.symm (ll11.far_new (h.resolve_right (by decide))), fun h h' => f9_10 (h.resolve_right (by decide)) (h'.resolve_right (by decide)), fun h h' => f9_11 (h.resolve_right (by decide)) (h'.resolve_right (by decide)), fun h h' => f10_11 (h.resolve_right (by decide)) (h'.resolve_right (by decide))⟩
      clear hK hX0 cc0 cc1 cc2 cc3 cc4 cc5 cc6 cc7 ll8 ll9 ll10 ll11 f8_9 f8_10 f8_11 f9_10 f9_11 f10_11
      go_simp
      exact hfin
    · intro done us W hJ hdep haft hnot b hb hb' K hK Q'
      obtain ⟨hX0, cc0, cc1, cc2, cc3, cc4, cc5, cc6, cc7, ll8, ll9, ll10, ll11, f8_9, f8_10, f8_11, f9_10, f9_11, f10_11⟩ := hJ
      simp only [List.getD_cons_succ, List.getD_cons_zero, List.mem_cons, List.not_mem_nil, or_false, forall_eq_or_imp, forall_eq] at haft
      clear hb hb'
      have hfin := hK _ _ ⟨hX0.alloc _, fun h => cc0 (h.resolve_right (by decide)), fun h => cc1 (h.resolve_right (by decide)), fun h => cc2 (h.resolve_right (by decide)), fun h => cc3 (h.resolve_right (by decide)), fun h => cc4 (h.resolve_right (by decide)), fun h => cc5 (h.resolve_right (by decide)), fun h => cc6 (h.resolve_right (by decide)), fun h => cc7 (h.resolve_right (by decide)), Loc.same (ll8.ext ((Ext.refl _).alloc _)) ⟨fun h => h.resolve_right (by decide), .inl⟩ ⟨fun h => h.resolve_right (by decide), .inl⟩, Loc.new w W hX0 (fun h => h.elim haft (by decide)) (Ext.refl _), Loc.same (ll10.ext ((Ext.refl _).alloc _)) ⟨fun h => h.resolve_right (by decide), .inl⟩ ⟨fun h => h.resolve_right (by decide), .inl⟩, Loc.same (ll11.ext ((Ext.refl _).alloc _)) ⟨fun h => h.resolve_right (by decide), .inl⟩ ⟨fun h => h.resolve_right (by decide), .inl⟩, fun h _ => ll8.far_new (h.resolve_right (by decide)), fun h h' => f8_10 (h.resolve_right (by decide)) (h'.resolve_right (by decide)), fun h h' => f8_11 (h.resolve_right (by decide)) (h'.resolve_right (by decide)), fun _ h => Ne.symm (ll10.far_new (h.resolve_right (by decide))), fun _ h => Ne.symm (ll11.far_new (h.resolve_right (by decide))), fun h h' => f10_11 (h.resolve_right (by decide)) (h'.resolve_right (by decide))⟩
      clear hK hX0 cc0 cc1 cc2 cc3 cc4 cc5 cc6 cc7 ll8 ll9 ll10 ll11 f8_9 f8_10 f8_11 f9_10 f9_11 f10_11
      go_simp
      exact hfin
    · intro done us W hJ hdep haft hnot b hb hb' K hK Q'
      obtain ⟨hX0, cc0, cc1, cc2, cc3, cc4, cc5, cc6, cc7, ll8, ll9, ll10, ll11, f8_9, f8_10, f8_11, f9_10, f9_11, f10_11⟩ := hJ
      simp only [List.getD_cons_succ, List.getD_cons_zero, List.mem_cons, List.not_mem_nil, or_false, forall_eq_or_imp, forall_eq] at haft
      clear hb hb'
      have hfin := hK _ _ ⟨hX0.alloc _, fun h => cc0 (h.resolve_right (by decide)), fun h => cc1 (h.resolve_right (by decide)), fun h => cc2 (h.resolve_right (by decide)), fun h => cc3 (h.resolve_right (by decide)), fun h => cc4 (h.resolve_right (by decide)), fun h => cc5 (h.resolve_right (by decide)), fun h => cc6 (h.resolve_right (by decide)), fun h => cc7 (h.resolve_right (by decide)), Loc.same (ll8.ext ((Ext.refl _).alloc _)) ⟨fun h => h.resolve_right (by decide), .inl⟩ ⟨fun h => h.resolve_right (by decide), .inl⟩, Loc.same (ll9.ext ((Ext.refl _).alloc _)) ⟨fun h => h.resolve_right (by decide), .inl⟩ ⟨fun h => h.resolve_right (by decide), .inl⟩, Loc.new w W hX0 (fun h => h.elim haft (by decide)) (Ext.refl _), Loc.same (ll11.ext ((Ext.refl _).alloc _)) ⟨fun h => h.resolve_right (by decide), .inl⟩ ⟨fun h => h.resolve_right (by decide), .inl⟩, fun h h' => f8_9 (h.resolve_right (by decide)) (h'.resolve_right (by decide)), fun h _ => ll8.far_new (h.resolve_right (by decide)), fun h h' => f8_11 (h.resolve_right (by decide)) (h'.resolve_right (by decide)), fun h _ => ll9.far_new (h.resolve_right (by decide)), fun h h' => f9_11 (h.resolve_right (by decide)) (h'.resolve_right (by decide)), fun _ h => Ne.symm (ll11.far_new (h.resolve_right (by decide)))⟩
      clear hK hX0 cc0 cc1 cc2 cc3 cc4 cc5 cc6 cc7 ll8 ll9 ll10 ll11 f8_9 f8_10 f8_11 f9_10 f9_11 f10_11
      go_simp
      exact hfin
    · intro done us W hJ hdep haft hnot b hb hb' K hK Q'
      obtain ⟨hX0, cc0, cc1, cc2, cc3, cc4, cc5, cc6, cc7, ll8, ll9, ll10, ll11, f8_9, f8_10, f8_11, f9_10, f9_11, f10_11⟩ := hJ
      simp only [List.getD_cons_succ, List.getD_cons_zero, List.mem_cons, List.not_mem_nil, or_false, forall_eq_or_imp, forall_eq] at haft
      clear hb hb'
      have hfin := hK _ _ ⟨hX0.alloc _, fun h => cc0 (h.resolve_right (by decide)), fun h => cc1 (h.resolve_right (by decide)), fun h => cc2 (h.resolve_right (by decide)), fun h => cc3 (h.resolve_right (by decide)), fun h => cc4 (h.resolve_right (by decide)), fun h => cc5 (h.resolve_right (by decide)), fun h => cc6 (h.resolve_right (by decide)), fun h => cc7 (h.resolve_right (by decide)), Loc.same (ll8.ext ((Ext.refl _).alloc _)) ⟨fun h => h.resolve_right (by decide), .inl⟩ ⟨fun h => h.resolve_right (by decide), .inl⟩, Loc.same (ll9.ext ((Ext.refl _).alloc _)) ⟨fun h => h.resolve_right (by decide), .inl⟩ ⟨fun h => h.resolve_right (by decide), .inl⟩, Loc.same (ll10.ext ((Ext.refl _).alloc _)) ⟨fun h => h.resolve_right (by decide), .inl⟩ ⟨fun h => h.resolve_right (by decide), .inl⟩, Loc.new w W hX0 (fun h => h.elim haft (by decide)) (Ext.refl _), fun h h' => f8_9 (h.resolve_right (by decide)) (h'.resolve_right (by decide)), fun h h' => f8_10 (h.resolve_right (by decide)) (h'.resolve_right (by decide)), fun h _ => ll8.far_new (h.resolve_right (by decide)), fun h h' => f9_10 (h.resolve_right (by decide)) (h'.resolve_right (by decide)), fun h _ => ll9.far_new (h.resolve_right (by decide)), fun h _ => ll10.far_new (h.resolve_right (by decide))⟩
      clear hK hX0 cc0 cc1 cc2 cc3 cc4 cc5 cc6 cc7 ll8 ll9 ll10 ll11 f8_9 f8_10 f8_11 f9_10 f9_11 f10_11
      go_simp
      exact hfin
    · intro done us W hJ hdep haft hnot b hb hb' K hK Q'
      obtain ⟨hX0, cc0, cc1, cc2, cc3, cc4, cc5, cc6, cc7, ll8, ll9, ll10, ll11, f8_9, f8_10, f8_11, f9_10, f9_11, f10_11⟩ := hJ
      simp only [List.getD_cons_succ, List.getD_cons_zero, List.mem_cons, List.not_mem_nil, or_false, forall_eq_or_imp, forall_eq] at hdep
      have e3 := hb 8 3 rfl
      have e10 := hb 1 10 rfl
      rw [cc1 hdep.1] at e10
      obtain ⟨g, eg, hg, hB⟩ := ll8.stored hdep.2 hnot
      rw [eg] at e3
      have q0 : W.cell? ⟨g, 0, none⟩ = some (.int .i64 0) := hB.cell 0
      have z0 : W.frozen? ⟨g, 0, none⟩ = false := hB.free 0
      have q1 : W.cell? ⟨g, 1, none⟩ = some (.int .i64 0) := hB.cell 1
      have z1 : W.frozen? ⟨g, 1, none⟩ = false := hB.free 1
      clear hb hb'
      have hfin := hK undef _ ⟨((hX0.setCell hg _).setCell hg _), fun h => cc0 (h.resolve_right (by decide)), fun h => cc1 (h.resolve_right (by decide)), fun h => cc2 (h.resolve_right (by decide)), fun h => cc3 (h.resolve_right (by decide)), fun h => cc4 (h.resolve_right (by decide)), fun h => cc5 (h.resolve_right (by decide)), fun h => cc6 (h.resolve_right (by decide)), fun h => cc7 (h.resolve_right (by decide)), ⟨fun _ => ⟨g, eg, hg, fun _ => (Blk.set (Blk.set hB 0 _) 1 _), fun h => absurd (.inr rfl) h⟩⟩, Loc.same (Loc.keep (Loc.keep ll9 (f := (fun h k => Ne.symm (f8_9 k h))) hdep.2 eg) (f := (fun h k => Ne.symm (f8_9 k h))) hdep.2 eg) ⟨fun h => h.resolve_right (by decide), .inl⟩ ⟨fun h => h.resolve_right (by decide), .inl⟩, Loc.same (Loc.keep (Loc.keep ll10 (f := (fun h k => Ne.symm (f8_10 k h))) hdep.2 eg) (f := (fun h k => Ne.symm (f8_10 k h))) hdep.2 eg) ⟨fun h => h.resolve_right (by decide), .inl⟩ ⟨fun h => h.resolve_right (by decide), .inl⟩, Loc.same (Loc.keep (Loc.keep ll11 (f := (fun h k => Ne.symm (f8_11 k h))) hdep.2 eg) (f := (fun h k => Ne.symm (f8_11 k h))) hdep.2 eg) ⟨fun h => h.resolve_right (by decide), .inl⟩ ⟨fun h => h.resolve_right (by decide), .inl⟩, fun h h' => f8_9 (h.resolve_right (by decide)) (h'.resolve_right (by decide)), fun h h' => f8_10 (h.resolve_right (by decide)) (h'.resolve_right (by decide)), fun h h' => f8_11 (h.resolve_right (by decide)) (h'.resolve_right (by decide)), fun h h' => f9_10 (h.resolve_right (by decide)) (h'.resolve_right (by decide)), fun h h' => f9_11 (h.resolve_right (by decide)) (h'.resolve_right (by decide)), fun h h' => f10_11 (h.resolve_right (by decide)) (h'.resolve_right (by decide))⟩
      clear hK hX0 cc0 cc1 cc2 cc3 cc4 cc5 cc6 cc7 ll8 ll9 ll10 ll11 f8_9 f8_10 f8_11 f9_10 f9_11 f10_11
      go_simp
      exact hfin
    · intro done us W hJ hdep haft hnot b hb hb' K hK Q'
      obtain ⟨hX0, cc0, cc1, cc2, cc3, cc4, cc5, cc6, cc7, ll8, ll9, ll10, ll11, f8_9, f8_10, f8_11, f9_10, f9_11, f10_11⟩ := hJ
      simp only [List.getD_cons_succ, List.getD_cons_zero, List.mem_cons, List.not_mem_nil, or_false, forall_eq_or_imp, forall_eq] at hdep
      have e4 := hb 9 4 rfl
      have e12 := hb 3 12 rfl
      rw [cc3 hdep.1] at e12
      obtain ⟨g, eg, hg, hB⟩ := ll9.stored hdep.2 hnot
      rw [eg] at e4
      have q0 : W.cell? ⟨g, 0, none⟩ = some (.int .i64 0) := hB.cell 0
      have z0 : W.frozen? ⟨g, 0, none⟩ = false := hB.free 0
      have q1 : W.cell? ⟨g, 1, none⟩ = some (.int .i64 0) := hB.cell 1
      have z1 : W.frozen? ⟨g, 1, none⟩ = false := hB.free 1
      clear hb hb'
      have hfin := hK undef _ ⟨((hX0.setCell hg _).setCell hg _), fun h => cc0 (h.resolve_right (by decide)), fun h => cc1 (h.resolve_right (by decide)), fun h => cc2 (h.resolve_right (by decide)), fun h => cc3 (h.resolve_right (by decide)), fun h => cc4 (h.resolve_right (by decide)), fun h => cc5 (h.resolve_right (by decide)), fun h => cc6 (h.resolve_right (by decide)), fun h => cc7 (h.resolve_right (by decide)), Loc.same (Loc.keep (Loc.keep ll8 (f := f8_9) hdep.2 eg) (f := f8_9) hdep.2 eg) ⟨fun h => h.resolve_right (by decide), .inl⟩ ⟨fun h => h.resolve_right (by decide), .inl⟩, ⟨fun _ => ⟨g, eg, hg, fun _ => (Blk.set (Blk.set hB 0 _) 1 _), fun h => absurd (.inr rfl) h⟩⟩, Loc.same (Loc.keep (Loc.keep ll10 (f := (fun h k => Ne.symm (f9_10 k h))) hdep.2 eg) (f := (fun h k => Ne.symm (f9_10 k h))) hdep.2 eg) ⟨fun h => h.resolve_right (by decide), .inl⟩ ⟨fun h => h.resolve_right (by decide), .inl⟩, Loc.same (Loc.keep (Loc.keep ll11 (f := (fun h k => Ne.symm (f9_11 k h))) hdep.2 eg) (f := (fun h k => Ne.symm (f9_11 k h))) hdep.2 eg) ⟨fun h => h.resolve_right (by decide), .inl⟩ ⟨fun h => h.resolve_right (by decide), .inl⟩, fun h h' => f8_9 (h.resolve_right (by decide)) (h'.resolve_right (by decide)), fun h h' => f8_10 (h.resolve_right (by decide)) (h'.resolve_right (by decide)), fun h h' => f8_11 (h.resolve_right (by decide)) (h'.resolve_right (by decide)), fun h h' => f9_10 (h.resolve_right (by decide)) (h'.resolve_right (by decide)), fun h h' => f9_11 (h.resolve_right (by decide)) (h'.resolve_right (by decide)), fun h h' => f10_11 (h.resolve_right (by decide)) (h'.resolve_right (by decide))⟩
      clear hK hX0 cc0 cc1 cc2 cc3 cc4 cc5 cc6 cc7 ll8 ll9 ll10 ll11 f8_9 f8_10 f8_11 f9_10 f9_11 f10_11
      go_simp
      exact hfin
    · intro done us W hJ hdep haft hnot b hb hb' K hK Q'
      obtain ⟨hX0, cc0, cc1, cc2, cc3, cc4, cc5, cc6, cc7, ll8, ll9, ll10, ll11, f8_9, f8_10, f8_11, f9_10, f9_11, f10_11⟩ := hJ
      simp only [List.getD_cons_succ, List.getD_cons_zero, List.mem_cons, List.not_mem_nil, or_false, forall_eq_or_imp, forall_eq] at hdep
      have e5 := hb 10 5 rfl
      have e14 := hb 5 14 rfl
      rw [cc5 hdep.1] at e14
      obtain ⟨g, eg, hg, hB⟩ := ll10.stored hdep.2 hnot
      rw [eg] at e5
      have q0 : W.cell? ⟨g, 0, none⟩ = some (.int .i64 0) := hB.cell 0
      have z0 : W.frozen? ⟨g, 0, none⟩ = false := hB.free 0
      have q1 : W.cell? ⟨g, 1, none⟩ = some (.int .i64 0) := hB.cell 1
      have z1 : W.frozen? ⟨g, 1, none⟩ = false := hB.free 1
      clear hb hb'
      have hfin := hK undef _ ⟨((hX0.setCell hg _).setCell hg _), fun h => cc0 (h.resolve_right (by decide)), fun h => cc1 (h.resolve_right (by decide)), fun h => cc2 (h.resolve_right (by decide)), fun h => cc3 (h.resolve_right (by decide)), fun h => cc4 (h.resolve_right (by decide)), fun h => cc5 (h.resolve_right (by decide)), fun h => cc6 (h.resolve_right (by decide)), fun h => cc7 (h.resolve_right (by decide)), Loc.same (Loc.keep (Loc.keep ll8 (f := f8_10) hdep.2 eg) (f := f8_10) hdep.2 eg) ⟨fun h => h.resolve_right (by decide), .inl⟩ ⟨fun h => h.resolve_right (by decide), .inl⟩, Loc.same (Loc.keep (Loc.keep ll9 (f := f9_10) hdep.2 eg) (f := f9_10) hdep.2 eg) ⟨fun h => h.resolve_right (by decide), .inl⟩ ⟨fun h => h.resolve_right (by decide), .inl⟩, ⟨fun _ => ⟨g, eg, hg, fun _ => (Blk.set (Blk.set hB 0 _) 1 _), fun h => absurd (.inr rfl) h⟩⟩, Loc.same (Loc.keep (Loc.keep ll11 (f := (fun h k => Ne.symm (f10_11 k h))) hdep.2 eg) (f := (fun h k => Ne.symm (f10_11 k h))) hdep.2 eg) ⟨fun h => h.resolve_right (by decide), .inl⟩ ⟨fun h => h.resolve_right (by decide), .inl⟩, fun h h' => f8_9 (h.resolve_right (by decide)) (h'.resolve_right (by decide)), fun h h' => f8_10 (h.resolve_right (by decide)) (h'.resolve_right (by decide)), fun h h' => f8_11 (h.resolve_right (by decide)) (h'.resolve_right (by decide)), fun h h' => f9_10 (h.resolve_right (by decide)) (h'.resolve_right (by decide)), fun h h' => f9_11 (h.resolve_right (by decide)) (h'.resolve_right (by decide)), fun h h' => f10_11 (h.resolve_right (by decide)) (h'.resolve_right (by decide))⟩
      clear hK hX0 cc0 cc1 cc2 cc3 cc4 cc5 cc6 cc7 ll8 ll9 ll10 ll11 f8_9 f8_10 f8_11 f9_10 f9_11 f10_11
      go_simp
      exact hfin
    · intro done us W hJ hdep haft hnot b hb hb' K hK Q'
      obtain ⟨hX0, cc0, cc1, cc2, cc3, cc4, cc5, cc6, cc7, ll8, ll9, ll10, ll11, f8_9, f8_10, f8_11, f9_10, f9_11, f10_11⟩ := hJ
      simp only [List.getD_cons_succ, List.getD_cons_zero, List.mem_cons, List.not_mem_nil, or_false, forall_eq_or_imp, forall_eq] at hdep
      have e6 := hb 11 6 rfl
      have e16 := hb 7 16 rfl
      rw [cc7 hdep.1] at e16
      obtain ⟨g, eg, hg, hB⟩ := ll11.stored hdep.2 hnot
      rw [eg] at e6
      have q0 : W.cell? ⟨g, 0, none⟩ = some (.int .i64 0) := hB.cell 0
      have z0 : W.frozen? ⟨g, 0, none⟩ = false := hB.free 0
      have q1 : W.cell? ⟨g, 1, none⟩ = some (.int .i64 0) := hB.cell 1
      have z1 : W.frozen? ⟨g, 1, none⟩ = false := hB.free 1
      clear hb hb'
      have hfin := hK undef _ ⟨((hX0.setCell hg _).setCell hg _), fun h => cc0 (h.resolve_right (by decide)), fun h => cc1 (h.resolve_right (by decide)), fun h => cc2 (h.resolve_right (by decide)), fun h => cc3 (h.resolve_right (by decide)), fun h => cc4 (h.resolve_right (by decide)), fun h => cc5 (h.resolve_right (by decide)), fun h => cc6 (h.resolve_right (by decide)), fun h => cc7 (h.resolve_right (by decide)), Loc.same (Loc.keep (Loc.keep ll8 (f := f8_11) hdep.2 eg) (f := f8_11) hdep.2 eg) ⟨fun h => h.resolve_right (by decide), .inl⟩ ⟨fun h => h.resolve_right (by decide), .inl⟩, Loc.same (Loc.keep (Loc.keep ll9 (f := f9_11) hdep.2 eg) (f := f9_11) hdep.2 eg) ⟨fun h => h.resolve_right (by decide), .inl⟩ ⟨fun h => h.resolve_right (by decide), .inl⟩, Loc.same (Loc.keep (Loc.keep ll10 (f := f10_11) hdep.2 eg) (f := f10_11) hdep.2 eg) ⟨fun h => h.resolve_right (by decide), .inl⟩ ⟨fun h => h.resolve_right (by decide), .inl⟩, ⟨fun _ => ⟨g, eg, hg, fun _ => (Blk.set (Blk.set hB 0 _) 1 _), fun h => absurd (.inr rfl) h⟩⟩, fun h h' => f8_9 (h.resolve_right (by decide)) (h'.resolve_right (by decide)), fun h h' => f8_10 (h.resolve_right (by decide)) (h'.resolve_right (by decide)), fun h h' => f8_11 (h.resolve_right (by decide)) (h'.resolve_right (by decide)), fun h h' => f9_10 (h.resolve_right (by decide)) (h'.resolve_right (by decide)), fun h h' => f9_11 (h.resolve_right (by decide)) (h'.resolve_right (by decide)), fun h h' => f10_11 (h.resolve_right (by decide)) (h'.resolve_right (by decide))⟩
      clear hK hX0 cc0 cc1 cc2 cc3 cc4 cc5 cc6 cc7 ll8 ll9 ll10 ll11 f8_9 f8_10 f8_11 f9_10 f9_11 f10_11
      go_simp
      exact hfin
  · intro us W hJ
    obtain ⟨hX0, cc0, cc1, cc2, cc3, cc4, cc5, cc6, cc7, ll8, ll9, ll10, ll11, f8_9, f8_10, f8_11, f9_10, f9_11, f10_11⟩ := hJ
    rw [show (rops Try.f9 1).drop 16 = [] by kernel_rfl]
    exact hend (us 0) (us 1) (us 2) (us 3) (us 4) (us 5) (us 6) (us 7) (us 8) (us 9) (us 10) (us 11) (us 12) (us 13) (us 14) (us 15) W (cc0 (show 0 < 16 by decide)) (cc1 (show 1 < 16 by decide)) (cc2 (show 2 < 16 by decide)) (cc3 (show 3 < 16 by decide)) (cc4 (show 4 < 16 by decide)) (cc5 (show 5 < 16 by decide)) (cc6 (show 6 < 16 by decide)) (cc7 (show 7 < 16 by decide)) (ll8.done (show 8 < 16 by decide) (show 12 < 16 by decide)) (ll9.done (show 9 < 16 by decide) (show 13 < 16 by decide)) (ll10.done (show 10 < 16 by decide) (show 14 < 16 by decide)) (ll11.done (show 11 < 16 by decide) (show 15 < 16 by decide)) (f8_9 (show 8 < 16 by decide) (show 9 < 16 by decide)) (f8_10 (show 8 < 16 by decide) (show 10 < 16 by decide)) (f8_11 (show 8 < 16 by decide) (show 11 < 16 by decide)) (f9_10 (show 9 < 16 by decide) (show 10 < 16 by decide)) (f9_11 (show 9 < 16 by decide) (show 11 < 16 by decide)) (f10_11 (show 10 < 16 by decide) (show 11 < 16 by decide)) hX0
set_option maxRecDepth 100000 in
set_option maxHeartbeats 2000000 in
theorem circles_bad0 (a1 a2 b1 b2 c1 c2 d1 d2 : Int) (w : World) (ha : okP (a1, a2) = false) :
    Calls Try.prog 9 #[.agg #[.int .i64 a1, .int .i64 a2, .int .i64 b1, .int .i64 b2, .int .i64 c1, .int .i64 c2, .int .i64 d1, .int .i64 d2]] w (fun e w' => e = .returned (.bool true) ∧ Ext w w') := by
  have HPS : Hid (okPs [(a1, a2), (b1, b2), (c1, c2), (d1, d2)] = false) := by show _ = _; simp [okPs, ha]
  have Oa := Lib.hid ha
  clear ha
  have hXe : Ext w (w.alloc (.cells #[.int .i64 a1, .int .i64 a2, .int .i64 b1, .int .i64 b2, .int .i64 c1, .int .i64 c2, .int .i64 d1, .int .i64 d2] 72)) := ((Ext.refl w).alloc _)
  have kV : Blk (w.alloc (.cells #[.int .i64 a1, .int .i64 a2, .int .i64 b1, .int .i64 b2, .int .i64 c1, .int .i64 c2, .int .i64 d1, .int .i64 d2] 72)) w.heap.size 72 #[.int .i64 a1, .int .i64 a2, .int .i64 b1, .int .i64 b2, .int .i64 c1, .int .i64 c2, .int .i64 d1, .int .i64 d2] := Blk.at_ (by simp)
  go_enter Try.func9, Try.ntmps9
  go_wp2_with fail
  generalize (w.alloc (.cells #[.int .i64 a1, .int .i64 a2, .int .i64 b1, .int .i64 b2, .int .i64 c1, .int .i64 c2, .int .i64 d1, .int .i64 d2] 72)) = w1 at hXe kV ⊢
  have HX := Lib.hid hXe
  clear hXe
  have KV := Lib.hid kV
  clear kV
  have lV := KV.out.lt
  go_upto_region 1 with (fail)
  refine open_ExactCircles w.heap.size a1 a2 b1 b2 c1 c2 d1 d2 w1 (KV.out.cell 0) (KV.out.cell 1) (KV.out.cell 2) (KV.out.cell 3) (KV.out.cell 4) (KV.out.cell 5) (KV.out.cell 6) (KV.out.cell 7) _ _ (by simp) rfl ?_
  rintro xv0 xv1 xv2 xv3 xv4 xv5 xv6 xv7 xv8 xv9 xv10 xv11 xv12 xv13 xv14 xv15 w2 rfl rfl rfl rfl rfl rfl rfl rfl ⟨ga, rfl, hga, hBa⟩ ⟨gb, rfl, hgb, hBb⟩ ⟨gc, rfl, hgc, hBc⟩ ⟨gd, rfl, hgd, hBd⟩ n0 n1 n2 n3 n4 n5 hXW
  simp only [rops, Try.f9, regOf, Option.bind_some, Nat.reduceBEq, if_true, if_false, Bool.false_eq_true, Option.getD_some, List.drop_succ_cons, List.drop_zero]
  simp only [Act.put, List.setIfInBounds_toArray, List.set_cons_succ, List.set_cons_zero]
  replace HX := Lib.hid (HX.out.trans hXW)
  replace KV := Lib.hid (KV.out.ext hXW)
  clear hXW
  clear KV
  clear n0 n1 n2 n3 n4 n5
  have KA := Lib.hid hBa
  clear hBa
  have KB := Lib.hid hBb
  clear hBb
  have KC := Lib.hid hBc
  clear hBc
  have KD := Lib.hid hBd
  clear hBd
  have cA0 : w2.cell? ⟨ga, 0, none⟩ = some (.int .i64 a1) := KA.out.cell 0
  have cA1 : w2.cell? ⟨ga, 1, none⟩ = some (.int .i64 a2) := KA.out.cell 1
  have cB0 : w2.cell? ⟨gb, 0, none⟩ = some (.int .i64 b1) := KB.out.cell 0
  have cB1 : w2.cell? ⟨gb, 1, none⟩ = some (.int .i64 b2) := KB.out.cell 1
  have cC0 : w2.cell? ⟨gc, 0, none⟩ = some (.int .i64 c1) := KC.out.cell 0
  have cC1 : w2.cell? ⟨gc, 1, none⟩ = some (.int .i64 c2) := KC.out.cell 1
  have cD0 : w2.cell? ⟨gd, 0, none⟩ = some (.int .i64 d1) := KD.out.cell 0
  have cD1 : w2.cell? ⟨gd, 1, none⟩ = some (.int .i64 d2) := KD.out.cell 1
  go_wp2_with fail
  clear cA0 cA1 cB0 cB1 cC0 cC1 cD0 cD1
  refine (circ_place a1 a2 b1 b2 c1 c2 d1 d2 _ HPS.out).mono ?_
  rintro e w3 ⟨rfl, hX⟩
  replace hX : Ext w2 w3 := by with_reducible exact hX
  replace HX := Lib.hid (HX.out.trans hX)
  replace KA := Lib.hid (KA.out.ext hX)
  replace KB := Lib.hid (KB.out.ext hX)
  replace KC := Lib.hid (KC.out.ext hX)
  replace KD := Lib.hid (KD.out.ext hX)
  clear hX
  have cA0 : w3.cell? ⟨ga, 0, none⟩ = some (.int .i64 a1) := KA.out.cell 0
  have cA1 : w3.cell? ⟨ga, 1, none⟩ = some (.int .i64 a2) := KA.out.cell 1
  have cB0 : w3.cell? ⟨gb, 0, none⟩ = some (.int .i64 b1) := KB.out.cell 0
  have cB1 : w3.cell? ⟨gb, 1, none⟩ = some (.int .i64 b2) := KB.out.cell 1
  have cC0 : w3.cell? ⟨gc, 0, none⟩ = some (.int .i64 c1) := KC.out.cell 0
  have cC1 : w3.cell? ⟨gc, 1, none⟩ = some (.int .i64 c2) := KC.out.cell 1
  have cD0 : w3.cell? ⟨gd, 0, none⟩ = some (.int .i64 d1) := KD.out.cell 0
  have cD1 : w3.cell? ⟨gd, 1, none⟩ = some (.int .i64 d2) := KD.out.cell 1
  go_wp2_with fail
  clear cA0 cA1 cB0 cB1 cC0 cC1 cD0 cD1
  refine (place_any a1 a2 _).mono ?_
  rw [Oa.out]
  rintro e w4 ⟨rfl, hX⟩
  replace hX : Ext w3 w4 := by with_reducible exact hX
  replace HX := Lib.hid (HX.out.trans hX)
  replace KA := Lib.hid (KA.out.ext hX)
  replace KB := Lib.hid (KB.out.ext hX)
  replace KC := Lib.hid (KC.out.ext hX)
  replace KD := Lib.hid (KD.out.ext hX)
  clear hX
  have cA0 : w4.cell? ⟨ga, 0, none⟩ = some (.int .i64 a1) := KA.out.cell 0
  have cA1 : w4.cell? ⟨ga, 1, none⟩ = some (.int .i64 a2) := KA.out.cell 1
  have cB0 : w4.cell? ⟨gb, 0, none⟩ = some (.int .i64 b1) := KB.out.cell 0
  have cB1 : w4.cell? ⟨gb, 1, none⟩ = some (.int .i64 b2) := KB.out.cell 1
  have cC0 : w4.cell? ⟨gc, 0, none⟩ = some (.int .i64 c1) := KC.out.cell 0
  have cC1 : w4.cell? ⟨gc, 1, none⟩ = some (.int .i64 c2) := KC.out.cell 1
  have cD0 : w4.cell? ⟨gd, 0, none⟩ = some (.int .i64 d1) := KD.out.cell 0
  have cD1 : w4.cell? ⟨gd, 1, none⟩ = some (.int .i64 d2) := KD.out.cell 1
  go_wp2_with fail
  clear cA0 cA1 cB0 cB1 cC0 cC1 cD0 cD1
  refine (first_any _).mono ?_
  rintro e w5 ⟨rfl, hX⟩
  replace hX : Ext w4 w5 := by with_reducible exact hX
  replace HX := Lib.hid (HX.out.trans hX)
  replace KA := Lib.hid (KA.out.ext hX)
  replace KB := Lib.hid (KB.out.ext hX)
  replace KC := Lib.hid (KC.out.ext hX)
  replace KD := Lib.hid (KD.out.ext hX)
  clear hX
  go_wp2
  go_ret
  exact ⟨rfl, HX.out⟩

set_option maxRecDepth 100000 in
set_option maxHeartbeats 2000000 in
theorem circles_bad1 (a1 a2 b1 b2 c1 c2 d1 d2 : Int) (w : World) (ha : okP (a1, a2) = true) (hb : okP (b1, b2) = false) :
    Calls Try.prog 9 #[.agg #[.int .i64 a1, .int .i64 a2, .int .i64 b1, .int .i64 b2, .int .i64 c1, .int .i64 c2, .int .i64 d1, .int .i64 d2]] w (fun e w' => e = .returned (.bool true) ∧ Ext w w') := by
  have HPS : Hid (okPs [(a1, a2), (b1, b2), (c1, c2), (d1, d2)] = false) := by show _ = _; simp [okPs, hb]
  have Oa := Lib.hid ha
  clear ha
  have Ob := Lib.hid hb
  clear hb
  have hXe : Ext w (w.alloc (.cells #[.int .i64 a1, .int .i64 a2, .int .i64 b1, .int .i64 b2, .int .i64 c1, .int .i64 c2, .int .i64 d1, .int .i64 d2] 72)) := ((Ext.refl w).alloc _)
  have kV : Blk (w.alloc (.cells #[.int .i64 a1, .int .i64 a2, .int .i64 b1, .int .i64 b2, .int .i64 c1, .int .i64 c2, .int .i64 d1, .int .i64 d2] 72)) w.heap.size 72 #[.int .i64 a1, .int .i64 a2, .int .i64 b1, .int .i64 b2, .int .i64 c1, .int .i64 c2, .int .i64 d1, .int .i64 d2] := Blk.at_ (by simp)
  go_enter Try.func9, Try.ntmps9
  go_wp2_with fail
  generalize (w.alloc (.cells #[.int .i64 a1, .int .i64 a2, .int .i64 b1, .int .i64 b2, .int .i64 c1, .int .i64 c2, .int .i64 d1, .int .i64 d2] 72)) = w1 at hXe kV ⊢
  have HX := Lib.hid hXe
  clear hXe
  have KV := Lib.hid kV
  clear kV
  have lV := KV.out.lt
  go_upto_region 1 with (fail)
  refine open_ExactCircles w.heap.size a1 a2 b1 b2 c1 c2 d1 d2 w1 (KV.out.cell 0) (KV.out.cell 1) (KV.out.cell 2) (KV.out.cell 3) (KV.out.cell 4) (KV.out.cell 5) (KV.out.cell 6) (KV.out.cell 7) _ _ (by simp) rfl ?_
  rintro xv0 xv1 xv2 xv3 xv4 xv5 xv6 xv7 xv8 xv9 xv10 xv11 xv12 xv13 xv14 xv15 w2 rfl rfl rfl rfl rfl rfl rfl rfl ⟨ga, rfl, hga, hBa⟩ ⟨gb, rfl, hgb, hBb⟩ ⟨gc, rfl, hgc, hBc⟩ ⟨gd, rfl, hgd, hBd⟩ n0 n1 n2 n3 n4 n5 hXW
  simp only [rops, Try.f9, regOf, Option.bind_some, Nat.reduceBEq, if_true, if_false, Bool.false_eq_true, Option.getD_some, List.drop_succ_cons, List.drop_zero]
  simp only [Act.put, List.setIfInBounds_toArray, List.set_cons_succ, List.set_cons_zero]
  replace HX := Lib.hid (HX.out.trans hXW)
  replace KV := Lib.hid (KV.out.ext hXW)
  clear hXW
  clear KV
  clear n0 n1 n2 n3 n4 n5
  have KA := Lib.hid hBa
  clear hBa
  have KB := Lib.hid hBb
  clear hBb
  have KC := Lib.hid hBc
  clear hBc
  have KD := Lib.hid hBd
  clear hBd
  have cA0 : w2.cell? ⟨ga, 0, none⟩ = some (.int .i64 a1) := KA.out.cell 0
  have cA1 : w2.cell? ⟨ga, 1, none⟩ = some (.int .i64 a2) := KA.out.cell 1
  have cB0 : w2.cell? ⟨gb, 0, none⟩ = some (.int .i64 b1) := KB.out.cell 0
  have cB1 : w2.cell? ⟨gb, 1, none⟩ = some (.int .i64 b2) := KB.out.cell 1
  have cC0 : w2.cell? ⟨gc, 0, none⟩ = some (.int .i64 c1) := KC.out.cell 0
  have cC1 : w2.cell? ⟨gc, 1, none⟩ = some (.int .i64 c2) := KC.out.cell 1
  have cD0 : w2.cell? ⟨gd, 0, none⟩ = some (.int .i64 d1) := KD.out.cell 0
  have cD1 : w2.cell? ⟨gd, 1, none⟩ = some (.int .i64 d2) := KD.out.cell 1
  go_wp2_with fail
  clear cA0 cA1 cB0 cB1 cC0 cC1 cD0 cD1
  refine (circ_place a1 a2 b1 b2 c1 c2 d1 d2 _ HPS.out).mono ?_
  rintro e w3 ⟨rfl, hX⟩
  replace hX : Ext w2 w3 := by with_reducible exact hX
  replace HX := Lib.hid (HX.out.trans hX)
  replace KA := Lib.hid (KA.out.ext hX)
  replace KB := Lib.hid (KB.out.ext hX)
  replace KC := Lib.hid (KC.out.ext hX)
  replace KD := Lib.hid (KD.out.ext hX)
  clear hX
  have cA0 : w3.cell? ⟨ga, 0, none⟩ = some (.int .i64 a1) := KA.out.cell 0
  have cA1 : w3.cell? ⟨ga, 1, none⟩ = some (.int .i64 a2) := KA.out.cell 1
  have cB0 : w3.cell? ⟨gb, 0, none⟩ = some (.int .i64 b1) := KB.out.cell 0
  have cB1 : w3.cell? ⟨gb, 1, none⟩ = some (.int .i64 b2) := KB.out.cell 1
  have cC0 : w3.cell? ⟨gc, 0, none⟩ = some (.int .i64 c1) := KC.out.cell 0
  have cC1 : w3.cell? ⟨gc, 1, none⟩ = some (.int .i64 c2) := KC.out.cell 1
  have cD0 : w3.cell? ⟨gd, 0, none⟩ = some (.int .i64 d1) := KD.out.cell 0
  have cD1 : w3.cell? ⟨gd, 1, none⟩ = some (.int .i64 d2) := KD.out.cell 1
  go_wp2_with fail
  clear cA0 cA1 cB0 cB1 cC0 cC1 cD0 cD1
  refine (place_any a1 a2 _).mono ?_
  rw [Oa.out]
  rintro e w4 ⟨rfl, hX⟩
  replace hX : Ext w3 w4 := by with_reducible exact hX
  replace HX := Lib.hid (HX.out.trans hX)
  replace KA := Lib.hid (KA.out.ext hX)
  replace KB := Lib.hid (KB.out.ext hX)
  replace KC := Lib.hid (KC.out.ext hX)
  replace KD := Lib.hid (KD.out.ext hX)
  clear hX
  have cA0 : w4.cell? ⟨ga, 0, none⟩ = some (.int .i64 a1) := KA.out.cell 0
  have cA1 : w4.cell? ⟨ga, 1, none⟩ = some (.int .i64 a2) := KA.out.cell 1
  have cB0 : w4.cell? ⟨gb, 0, none⟩ = some (.int .i64 b1) := KB.out.cell 0
  have cB1 : w4.cell? ⟨gb, 1, none⟩ = some (.int .i64 b2) := KB.out.cell 1
  have cC0 : w4.cell? ⟨gc, 0, none⟩ = some (.int .i64 c1) := KC.out.cell 0
  have cC1 : w4.cell? ⟨gc, 1, none⟩ = some (.int .i64 c2) := KC.out.cell 1
  have cD0 : w4.cell? ⟨gd, 0, none⟩ = some (.int .i64 d1) := KD.out.cell 0
  have cD1 : w4.cell? ⟨gd, 1, none⟩ = some (.int .i64 d2) := KD.out.cell 1
  go_wp2_with fail
  clear cA0 cA1 cB0 cB1 cC0 cC1 cD0 cD1
  refine (place_any b1 b2 _).mono ?_
  rw [Ob.out]
  rintro e w5 ⟨rfl, hX⟩
  replace hX : Ext w4 w5 := by with_reducible exact hX
  replace HX := Lib.hid (HX.out.trans hX)
  replace KA := Lib.hid (KA.out.ext hX)
  replace KB := Lib.hid (KB.out.ext hX)
  replace KC := Lib.hid (KC.out.ext hX)
  replace KD := Lib.hid (KD.out.ext hX)
  clear hX
  have cA0 : w5.cell? ⟨ga, 0, none⟩ = some (.int .i64 a1) := KA.out.cell 0
  have cA1 : w5.cell? ⟨ga, 1, none⟩ = some (.int .i64 a2) := KA.out.cell 1
  have cB0 : w5.cell? ⟨gb, 0, none⟩ = some (.int .i64 b1) := KB.out.cell 0
  have cB1 : w5.cell? ⟨gb, 1, none⟩ = some (.int .i64 b2) := KB.out.cell 1
  have cC0 : w5.cell? ⟨gc, 0, none⟩ = some (.int .i64 c1) := KC.out.cell 0
  have cC1 : w5.cell? ⟨gc, 1, none⟩ = some (.int .i64 c2) := KC.out.cell 1
  have cD0 : w5.cell? ⟨gd, 0, none⟩ = some (.int .i64 d1) := KD.out.cell 0
  have cD1 : w5.cell? ⟨gd, 1, none⟩ = some (.int .i64 d2) := KD.out.cell 1
  go_wp2_with fail
  clear cA0 cA1 cB0 cB1 cC0 cC1 cD0 cD1
  refine (first_any _).mono ?_
  rintro e w6 ⟨rfl, hX⟩
  replace hX : Ext w5 w6 := by with_reducible exact hX
  replace HX := Lib.hid (HX.out.trans hX)
  replace KA := Lib.hid (KA.out.ext hX)
  replace KB := Lib.hid (KB.out.ext hX)
  replace KC := Lib.hid (KC.out.ext hX)
  replace KD := Lib.hid (KD.out.ext hX)
  clear hX
  go_wp2
  go_ret
  exact ⟨rfl, HX.out⟩

set_option maxRecDepth 100000 in
set_option maxHeartbeats 2000000 in
theorem circles_bad2 (a1 a2 b1 b2 c1 c2 d1 d2 : Int) (w : World) (ha : okP (a1, a2) = true) (hb : okP (b1, b2) = true) (hc : okP (c1, c2) = false) :
    Calls Try.prog 9 #[.agg #[.int .i64 a1, .int .i64 a2, .int .i64 b1, .int .i64 b2, .int .i64 c1, .int .i64 c2, .int .i64 d1, .int .i64 d2]] w (fun e w' => e = .returned (.bool true) ∧ Ext w w') := by
  have HPS : Hid (okPs [(a1, a2), (b1, b2), (c1, c2), (d1, d2)] = false) := by show _ = _; simp [okPs, hc]
  have Oa := Lib.hid ha
  clear ha
  have Ob := Lib.hid hb
  clear hb
  have Oc := Lib.hid hc
  clear hc
  have hXe : Ext w (w.alloc (.cells #[.int .i64 a1, .int .i64 a2, .int .i64 b1, .int .i64 b2, .int .i64 c1, .int .i64 c2, .int .i64 d1, .int .i64 d2] 72)) := ((Ext.refl w).alloc _)
  have kV : Blk (w.alloc (.cells #[.int .i64 a1, .int .i64 a2, .int .i64 b1, .int .i64 b2, .int .i64 c1, .int .i64 c2, .int .i64 d1, .int .i64 d2] 72)) w.heap.size 72 #[.int .i64 a1, .int .i64 a2, .int .i64 b1, .int .i64 b2, .int .i64 c1, .int .i64 c2, .int .i64 d1, .int .i64 d2] := Blk.at_ (by simp)
  go_enter Try.func9, Try.ntmps9
  go_wp2_with fail
  generalize (w.alloc (.cells #[.int .i64 a1, .int .i64 a2, .int .i64 b1, .int .i64 b2, .int .i64 c1, .int .i64 c2, .int .i64 d1, .int .i64 d2] 72)) = w1 at hXe kV ⊢
  have HX := Lib.hid hXe
  clear hXe
  have KV := Lib.hid kV
  clear kV
  have lV := KV.out.lt
  go_upto_region 1 with (fail)
  refine open_ExactCircles w.heap.size a1 a2 b1 b2 c1 c2 d1 d2 w1 (KV.out.cell 0) (KV.out.cell 1) (KV.out.cell 2) (KV.out.cell 3) (KV.out.cell 4) (KV.out.cell 5) (KV.out.cell 6) (KV.out.cell 7) _ _ (by simp) rfl ?_
  rintro xv0 xv1 xv2 xv3 xv4 xv5 xv6 xv7 xv8 xv9 xv10 xv11 xv12 xv13 xv14 xv15 w2 rfl rfl rfl rfl rfl rfl rfl rfl ⟨ga, rfl, hga, hBa⟩ ⟨gb, rfl, hgb, hBb⟩ ⟨gc, rfl, hgc, hBc⟩ ⟨gd, rfl, hgd, hBd⟩ n0 n1 n2 n3 n4 n5 hXW
  simp only [rops, Try.f9, regOf, Option.bind_some, Nat.reduceBEq, if_true, if_false, Bool.false_eq_true, Option.getD_some, List.drop_succ_cons, List.drop_zero]
  simp only [Act.put, List.setIfInBounds_toArray, List.set_cons_succ, List.set_cons_zero]
  replace HX := Lib.hid (HX.out.trans hXW)
  replace KV := Lib.hid (KV.out.ext hXW)
  clear hXW
  clear KV
  clear n0 n1 n2 n3 n4 n5
  have KA := Lib.hid hBa
  clear hBa
  have KB := Lib.hid hBb
  clear hBb
  have KC := Lib.hid hBc
  clear hBc
  have KD := Lib.hid hBd
  clear hBd
  have cA0 : w2.cell? ⟨ga, 0, none⟩ = some (.int .i64 a1) := KA.out.cell 0
  have cA1 : w2.cell? ⟨ga, 1, none⟩ = some (.int .i64 a2) := KA.out.cell 1
  have cB0 : w2.cell? ⟨gb, 0, none⟩ = some (.int .i64 b1) := KB.out.cell 0
  have cB1 : w2.cell? ⟨gb, 1, none⟩ = some (.int .i64 b2) := KB.out.cell 1
  have cC0 : w2.cell? ⟨gc, 0, none⟩ = some (.int .i64 c1) := KC.out.cell 0
  have cC1 : w2.cell? ⟨gc, 1, none⟩ = some (.int .i64 c2) := KC.out.cell 1
  have cD0 : w2.cell? ⟨gd, 0, none⟩ = some (.int .i64 d1) := KD.out.cell 0
  have cD1 : w2.cell? ⟨gd, 1, none⟩ = some (.int .i64 d2) := KD.out.cell 1
  go_wp2_with fail
  clear cA0 cA1 cB0 cB1 cC0 cC1 cD0 cD1
  refine (circ_place a1 a2 b1 b2 c1 c2 d1 d2 _ HPS.out).mono ?_
  rintro e w3 ⟨rfl, hX⟩
  replace hX : Ext w2 w3 := by with_reducible exact hX
  replace HX := Lib.hid (HX.out.trans hX)
  replace KA := Lib.hid (KA.out.ext hX)
  replace KB := Lib.hid (KB.out.ext hX)
  replace KC := Lib.hid (KC.out.ext hX)
  replace KD := Lib.hid (KD.out.ext hX)
  clear hX
  have cA0 : w3.cell? ⟨ga, 0, none⟩ = some (.int .i64 a1) := KA.out.cell 0
  have cA1 : w3.cell? ⟨ga, 1, none⟩ = some (.int .i64 a2) := KA.out.cell 1
  have cB0 : w3.cell? ⟨gb, 0, none⟩ = some (.int .i64 b1) := KB.out.cell 0
  have cB1 : w3.cell? ⟨gb, 1, none⟩ = some (.int .i64 b2) := KB.out.cell 1
  have cC0 : w3.cell? ⟨gc, 0, none⟩ = some (.int .i64 c1) := KC.out.cell 0
  have cC1 : w3.cell? ⟨gc, 1, none⟩ = some (.int .i64 c2) := KC.out.cell 1
  have cD0 : w3.cell? ⟨gd, 0, none⟩ = some (.int .i64 d1) := KD.out.cell 0
  have cD1 : w3.cell? ⟨gd, 1, none⟩ = some (.int .i64 d2) := KD.out.cell 1
  go_wp2_with fail
  clear cA0 cA1 cB0 cB1 cC0 cC1 cD0 cD1
  refine (place_any a1 a2 _).mono ?_
  rw [Oa.out]
  rintro e w4 ⟨rfl, hX⟩
  replace hX : Ext w3 w4 := by with_reducible exact hX
  replace HX := Lib.hid (HX.out.trans hX)
  replace KA := Lib.hid (KA.out.ext hX)
  replace KB := Lib.hid (KB.out.ext hX)
  replace KC := Lib.hid (KC.out.ext hX)
  replace KD := Lib.hid (KD.out.ext hX)
  clear hX
  have cA0 : w4.cell? ⟨ga, 0, none⟩ = some (.int .i64 a1) := KA.out.cell 0
  have cA1 : w4.cell? ⟨ga, 1, none⟩ = some (.int .i64 a2) := KA.out.cell 1
  have cB0 : w4.cell? ⟨gb, 0, none⟩ = some (.int .i64 b1) := KB.out.cell 0
  have cB1 : w4.cell? ⟨gb, 1, none⟩ = some (.int .i64 b2) := KB.out.cell 1
  have cC0 : w4.cell? ⟨gc, 0, none⟩ = some (.int .i64 c1) := KC.out.cell 0
  have cC1 : w4.cell? ⟨gc, 1, none⟩ = some (.int .i64 c2) := KC.out.cell 1
  have cD0 : w4.cell? ⟨gd, 0, none⟩ = some (.int .i64 d1) := KD.out.cell 0
  have cD1 : w4.cell? ⟨gd, 1, none⟩ = some (.int .i64 d2) := KD.out.cell 1
  go_wp2_with fail
  clear cA0 cA1 cB0 cB1 cC0 cC1 cD0 cD1
  refine (place_any b1 b2 _).mono ?_
  rw [Ob.out]
  rintro e w5 ⟨rfl, hX⟩
  replace hX : Ext w4 w5 := by with_reducible exact hX
  replace HX := Lib.hid (HX.out.trans hX)
  replace KA := Lib.hid (KA.out.ext hX)
  replace KB := Lib.hid (KB.out.ext hX)
  replace KC := Lib.hid (KC.out.ext hX)
  replace KD := Lib.hid (KD.out.ext hX)
  clear hX
  have cA0 : w5.cell? ⟨ga, 0, none⟩ = some (.int .i64 a1) := KA.out.cell 0
  have cA1 : w5.cell? ⟨ga, 1, none⟩ = some (.int .i64 a2) := KA.out.cell 1
  have cB0 : w5.cell? ⟨gb, 0, none⟩ = some (.int .i64 b1) := KB.out.cell 0
  have cB1 : w5.cell? ⟨gb, 1, none⟩ = some (.int .i64 b2) := KB.out.cell 1
  have cC0 : w5.cell? ⟨gc, 0, none⟩ = some (.int .i64 c1) := KC.out.cell 0
  have cC1 : w5.cell? ⟨gc, 1, none⟩ = some (.int .i64 c2) := KC.out.cell 1
  have cD0 : w5.cell? ⟨gd, 0, none⟩ = some (.int .i64 d1) := KD.out.cell 0
  have cD1 : w5.cell? ⟨gd, 1, none⟩ = some (.int .i64 d2) := KD.out.cell 1
  go_wp2_with fail
  clear cA0 cA1 cB0 cB1 cC0 cC1 cD0 cD1
  refine (place_any c1 c2 _).mono ?_
  rw [Oc.out]
  rintro e w6 ⟨rfl, hX⟩
  replace hX : Ext w5 w6 := by with_reducible exact hX
  replace HX := Lib.hid (HX.out.trans hX)
  replace KA := Lib.hid (KA.out.ext hX)
  replace KB := Lib.hid (KB.out.ext hX)
  replace KC := Lib.hid (KC.out.ext hX)
  replace KD := Lib.hid (KD.out.ext hX)
  clear hX
  have cA0 : w6.cell? ⟨ga, 0, none⟩ = some (.int .i64 a1) := KA.out.cell 0
  have cA1 : w6.cell? ⟨ga, 1, none⟩ = some (.int .i64 a2) := KA.out.cell 1
  have cB0 : w6.cell? ⟨gb, 0, none⟩ = some (.int .i64 b1) := KB.out.cell 0
  have cB1 : w6.cell? ⟨gb, 1, none⟩ = some (.int .i64 b2) := KB.out.cell 1
  have cC0 : w6.cell? ⟨gc, 0, none⟩ = some (.int .i64 c1) := KC.out.cell 0
  have cC1 : w6.cell? ⟨gc, 1, none⟩ = some (.int .i64 c2) := KC.out.cell 1
  have cD0 : w6.cell? ⟨gd, 0, none⟩ = some (.int .i64 d1) := KD.out.cell 0
  have cD1 : w6.cell? ⟨gd, 1, none⟩ = some (.int .i64 d2) := KD.out.cell 1
  go_wp2_with fail
  clear cA0 cA1 cB0 cB1 cC0 cC1 cD0 cD1
  refine (first_any _).mono ?_
  rintro e w7 ⟨rfl, hX⟩
  replace hX : Ext w6 w7 := by with_reducible exact hX
  replace HX := Lib.hid (HX.out.trans hX)
  replace KA := Lib.hid (KA.out.ext hX)
  replace KB := Lib.hid (KB.out.ext hX)
  replace KC := Lib.hid (KC.out.ext hX)
  replace KD := Lib.hid (KD.out.ext hX)
  clear hX
  go_wp2
  go_ret
  exact ⟨rfl, HX.out⟩

set_option maxRecDepth 100000 in
set_option maxHeartbeats 2000000 in
theorem circles_bad3 (a1 a2 b1 b2 c1 c2 d1 d2 : Int) (w : World) (ha : okP (a1, a2) = true) (hb : okP (b1, b2) = true) (hc : okP (c1, c2) = true) (hd : okP (d1, d2) = false) :
    Calls Try.prog 9 #[.agg #[.int .i64 a1, .int .i64 a2, .int .i64 b1, .int .i64 b2, .int .i64 c1, .int .i64 c2, .int .i64 d1, .int .i64 d2]] w (fun e w' => e = .returned (.bool true) ∧ Ext w w') := by
  have HPS : Hid (okPs [(a1, a2), (b1, b2), (c1, c2), (d1, d2)] = false) := by show _ = _; simp [okPs, hd]
  have Oa := Lib.hid ha
  clear ha
  have Ob := Lib.hid hb
  clear hb
  have Oc := Lib.hid hc
  clear hc
  have Od := Lib.hid hd
  clear hd
  have hXe : Ext w (w.alloc (.cells #[.int .i64 a1, .int .i64 a2, .int .i64 b1, .int .i64 b2, .int .i64 c1, .int .i64 c2, .int .i64 d1, .int .i64 d2] 72)) := ((Ext.refl w).alloc _)
  have kV : Blk (w.alloc (.cells #[.int .i64 a1, .int .i64 a2, .int .i64 b1, .int .i64 b2, .int .i64 c1, .int .i64 c2, .int .i64 d1, .int .i64 d2] 72)) w.heap.size 72 #[.int .i64 a1, .int .i64 a2, .int .i64 b1, .int .i64 b2, .int .i64 c1, .int .i64 c2, .int .i64 d1, .int .i64 d2] := Blk.at_ (by simp)
  go_enter Try.func9, Try.ntmps9
  go_wp2_with fail
  generalize (w.alloc (.cells #[.int .i64 a1, .int .i64 a2, .int .i64 b1, .int .i64 b2, .int .i64 c1, .int .i64 c2, .int .i64 d1, .int .i64 d2] 72)) = w1 at hXe kV ⊢
  have HX := Lib.hid hXe
  clear hXe
  have KV := Lib.hid kV
  clear kV
  have lV := KV.out.lt
  go_upto_region 1 with (fail)
  refine open_ExactCircles w.heap.size a1 a2 b1 b2 c1 c2 d1 d2 w1 (KV.out.cell 0) (KV.out.cell 1) (KV.out.cell 2) (KV.out.cell 3) (KV.out.cell 4) (KV.out.cell 5) (KV.out.cell 6) (KV.out.cell 7) _ _ (by simp) rfl ?_
  rintro xv0 xv1 xv2 xv3 xv4 xv5 xv6 xv7 xv8 xv9 xv10 xv11 xv12 xv13 xv14 xv15 w2 rfl rfl rfl rfl rfl rfl rfl rfl ⟨ga, rfl, hga, hBa⟩ ⟨gb, rfl, hgb, hBb⟩ ⟨gc, rfl, hgc, hBc⟩ ⟨gd, rfl, hgd, hBd⟩ n0 n1 n2 n3 n4 n5 hXW
  simp only [rops, Try.f9, regOf, Option.bind_some, Nat.reduceBEq, if_true, if_false, Bool.false_eq_true, Option.getD_some, List.drop_succ_cons, List.drop_zero]
  simp only [Act.put, List.setIfInBounds_toArray, List.set_cons_succ, List.set_cons_zero]
  replace HX := Lib.hid (HX.out.trans hXW)
  replace KV := Lib.hid (KV.out.ext hXW)
  clear hXW
  clear KV
  clear n0 n1 n2 n3 n4 n5
  have KA := Lib.hid hBa
  clear hBa
  have KB := Lib.hid hBb
  clear hBb
  have KC := Lib.hid hBc
  clear hBc
  have KD := Lib.hid hBd
  clear hBd
  have cA0 : w2.cell? ⟨ga, 0, none⟩ = some (.int .i64 a1) := KA.out.cell 0
  have cA1 : w2.cell? ⟨ga, 1, none⟩ = some (.int .i64 a2) := KA.out.cell 1
  have cB0 : w2.cell? ⟨gb, 0, none⟩ = some (.int .i64 b1) := KB.out.cell 0
  have cB1 : w2.cell? ⟨gb, 1, none⟩ = some (.int .i64 b2) := KB.out.cell 1
  have cC0 : w2.cell? ⟨gc, 0, none⟩ = some (.int .i64 c1) := KC.out.cell 0
  have cC1 : w2.cell? ⟨gc, 1, none⟩ = some (.int .i64 c2) := KC.out.cell 1
  have cD0 : w2.cell? ⟨gd, 0, none⟩ = some (.int .i64 d1) := KD.out.cell 0
  have cD1 : w2.cell? ⟨gd, 1, none⟩ = some (.int .i64 d2) := KD.out.cell 1
  go_wp2_with fail
  clear cA0 cA1 cB0 cB1 cC0 cC1 cD0 cD1
  refine (circ_place a1 a2 b1 b2 c1 c2 d1 d2 _ HPS.out).mono ?_
  rintro e w3 ⟨rfl, hX⟩
  replace hX : Ext w2 w3 := by with_reducible exact hX
  replace HX := Lib.hid (HX.out.trans hX)
  replace KA := Lib.hid (KA.out.ext hX)
  replace KB := Lib.hid (KB.out.ext hX)
  replace KC := Lib.hid (KC.out.ext hX)
  replace KD := Lib.hid (KD.out.ext hX)
  clear hX
  have cA0 : w3.cell? ⟨ga, 0, none⟩ = some (.int .i64 a1) := KA.out.cell 0
  have cA1 : w3.cell? ⟨ga, 1, none⟩ = some (.int .i64 a2) := KA.out.cell 1
  have cB0 : w3.cell? ⟨gb, 0, none⟩ = some (.int .i64 b1) := KB.out.cell 0
  have cB1 : w3.cell? ⟨gb, 1, none⟩ = some (.int .i64 b2) := KB.out.cell 1
  have cC0 : w3.cell? ⟨gc, 0, none⟩ = some (.int .i64 c1) := KC.out.cell 0
  have cC1 : w3.cell? ⟨gc, 1, none⟩ = some (.int .i64 c2) := KC.out.cell 1
  have cD0 : w3.cell? ⟨gd, 0, none⟩ = some (.int .i64 d1) := KD.out.cell 0
  have cD1 : w3.cell? ⟨gd, 1, none⟩ = some (.int .i64 d2) := KD.out.cell 1
  go_wp2_with fail
  clear cA0 cA1 cB0 cB1 cC0 cC1 cD0 cD1
  refine (place_any a1 a2 _).mono ?_
  rw [Oa.out]
  rintro e w4 ⟨rfl, hX⟩
  replace hX : Ext w3 w4 := by with_reducible exact hX
  replace HX := Lib.hid (HX.out.trans hX)
  replace KA := Lib.hid (KA.out.ext hX)
  replace KB := Lib.hid (KB.out.ext hX)
  replace KC := Lib.hid (KC.out.ext hX)
  replace KD := Lib.hid (KD.out.ext hX)
  clear hX
  have cA0 : w4.cell? ⟨ga, 0, none⟩ = some (.int .i64 a1) := KA.out.cell 0
  have cA1 : w4.cell? ⟨ga, 1, none⟩ = some (.int .i64 a2) := KA.out.cell 1
  have cB0 : w4.cell? ⟨gb, 0, none⟩ = some (.int .i64 b1) := KB.out.cell 0
  have cB1 : w4.cell? ⟨gb, 1, none⟩ = some (.int .i64 b2) := KB.out.cell 1
  have cC0 : w4.cell? ⟨gc, 0, none⟩ = some (.int .i64 c1) := KC.out.cell 0
  have cC1 : w4.cell? ⟨gc, 1, none⟩ = some (.int .i64 c2) := KC.out.cell 1
  have cD0 : w4.cell? ⟨gd, 0, none⟩ = some (.int .i64 d1) := KD.out.cell 0
  have cD1 : w4.cell? ⟨gd, 1, none⟩ = some (.int .i64 d2) := KD.out.cell 1
  go_wp2_with fail
  clear cA0 cA1 cB0 cB1 cC0 cC1 cD0 cD1
  refine (place_any b1 b2 _).mono ?_
  rw [Ob.out]
  rintro e w5 ⟨rfl, hX⟩
  replace hX : Ext w4 w5 := by with_reducible exact hX
  replace HX := Lib.hid (HX.out.trans hX)
  replace KA := Lib.hid (KA.out.ext hX)
  replace KB := Lib.hid (KB.out.ext hX)
  replace KC := Lib.hid (KC.out.ext hX)
  replace KD := Lib.hid (KD.out.ext hX)
  clear hX
  have cA0 : w5.cell? ⟨ga, 0, none⟩ = some (.int .i64 a1) := KA.out.cell 0
  have cA1 : w5.cell? ⟨ga, 1, none⟩ = some (.int .i64 a2) := KA.out.cell 1
  have cB0 : w5.cell? ⟨gb, 0, none⟩ = some (.int .i64 b1) := KB.out.cell 0
  have cB1 : w5.cell? ⟨gb, 1, none⟩ = some (.int .i64 b2) := KB.out.cell 1
  have cC0 : w5.cell? ⟨gc, 0, none⟩ = some (.int .i64 c1) := KC.out.cell 0
  have cC1 : w5.cell? ⟨gc, 1, none⟩ = some (.int .i64 c2) := KC.out.cell 1
  have cD0 : w5.cell? ⟨gd, 0, none⟩ = some (.int .i64 d1) := KD.out.cell 0
  have cD1 : w5.cell? ⟨gd, 1, none⟩ = some (.int .i64 d2) := KD.out.cell 1
  go_wp2_with fail
  clear cA0 cA1 cB0 cB1 cC0 cC1 cD0 cD1
  refine (place_any c1 c2 _).mono ?_
  rw [Oc.out]
  rintro e w6 ⟨rfl, hX⟩
  replace hX : Ext w5 w6 := by with_reducible exact hX
  replace HX := Lib.hid (HX.out.trans hX)
  replace KA := Lib.hid (KA.out.ext hX)
  replace KB := Lib.hid (KB.out.ext hX)
  replace KC := Lib.hid (KC.out.ext hX)
  replace KD := Lib.hid (KD.out.ext hX)
  clear hX
  have cA0 : w6.cell? ⟨ga, 0, none⟩ = some (.int .i64 a1) := KA.out.cell 0
  have cA1 : w6.cell? ⟨ga, 1, none⟩ = some (.int .i64 a2) := KA.out.cell 1
  have cB0 : w6.cell? ⟨gb, 0, none⟩ = some (.int .i64 b1) := KB.out.cell 0
  have cB1 : w6.cell? ⟨gb, 1, none⟩ = some (.int .i64 b2) := KB.out.cell 1
  have cC0 : w6.cell? ⟨gc, 0, none⟩ = some (.int .i64 c1) := KC.out.cell 0
  have cC1 : w6.cell? ⟨gc, 1, none⟩ = some (.int .i64 c2) := KC.out.cell 1
  have cD0 : w6.cell? ⟨gd, 0, none⟩ = some (.int .i64 d1) := KD.out.cell 0
  have cD1 : w6.cell? ⟨gd, 1, none⟩ = some (.int .i64 d2) := KD.out.cell 1
  go_wp2_with fail
  clear cA0 cA1 cB0 cB1 cC0 cC1 cD0 cD1
  refine (place_any d1 d2 _).mono ?_
  rw [Od.out]
  rintro e w7 ⟨rfl, hX⟩
  replace hX : Ext w6 w7 := by with_reducible exact hX
  replace HX := Lib.hid (HX.out.trans hX)
  replace KA := Lib.hid (KA.out.ext hX)
  replace KB := Lib.hid (KB.out.ext hX)
  replace KC := Lib.hid (KC.out.ext hX)
  replace KD := Lib.hid (KD.out.ext hX)
  clear hX
  have cA0 : w7.cell? ⟨ga, 0, none⟩ = some (.int .i64 a1) := KA.out.cell 0
  have cA1 : w7.cell? ⟨ga, 1, none⟩ = some (.int .i64 a2) := KA.out.cell 1
  have cB0 : w7.cell? ⟨gb, 0, none⟩ = some (.int .i64 b1) := KB.out.cell 0
  have cB1 : w7.cell? ⟨gb, 1, none⟩ = some (.int .i64 b2) := KB.out.cell 1
  have cC0 : w7.cell? ⟨gc, 0, none⟩ = some (.int .i64 c1) := KC.out.cell 0
  have cC1 : w7.cell? ⟨gc, 1, none⟩ = some (.int .i64 c2) := KC.out.cell 1
  have cD0 : w7.cell? ⟨gd, 0, none⟩ = some (.int .i64 d1) := KD.out.cell 0
  have cD1 : w7.cell? ⟨gd, 1, none⟩ = some (.int .i64 d2) := KD.out.cell 1
  go_wp2_with fail
  clear cA0 cA1 cB0 cB1 cC0 cC1 cD0 cD1
  refine (first_any _).mono ?_
  rintro e w8 ⟨rfl, hX⟩
  replace hX : Ext w7 w8 := by with_reducible exact hX
  replace HX := Lib.hid (HX.out.trans hX)
  replace KA := Lib.hid (KA.out.ext hX)
  replace KB := Lib.hid (KB.out.ext hX)
  replace KC := Lib.hid (KC.out.ext hX)
  replace KD := Lib.hid (KD.out.ext hX)
  clear hX
  go_wp2
  go_ret
  exact ⟨rfl, HX.out⟩

set_option maxRecDepth 100000 in
set_option maxHeartbeats 2000000 in
theorem circles_flat (a1 a2 b1 b2 c1 c2 d1 d2 : Int) (w : World) (ha : okP (a1, a2) = true) (hb : okP (b1, b2) = true) (hc : okP (c1, c2) = true) (hd : okP (d1, d2) = true) (hz : crossI (a1, a2) (b1, b2) (c1, c2) = 0) :
    Calls Try.prog 9 #[.agg #[.int .i64 a1, .int .i64 a2, .int .i64 b1, .int .i64 b2, .int .i64 c1, .int .i64 c2, .int .i64 d1, .int .i64 d2]] w (fun e w' => e = .returned (.bool true) ∧ Ext w w') := by
  have HPS : Hid (okPs [(a1, a2), (b1, b2), (c1, c2), (d1, d2)] = true) := (okPs4 _ _ _ _).2 ⟨ha, hb, hc, hd⟩
  have Oa := Lib.hid ha
  clear ha
  have Ob := Lib.hid hb
  clear hb
  have Oc := Lib.hid hc
  clear hc
  have Od := Lib.hid hd
  clear hd
  have HZ := Lib.hid hz
  have HT : Hid (sgI (crossI (a1, a2) (b1, b2) (c1, c2)) = 0) := by show _ = _; rw [hz]; rfl
  clear hz
  have hXe : Ext w (w.alloc (.cells #[.int .i64 a1, .int .i64 a2, .int .i64 b1, .int .i64 b2, .int .i64 c1, .int .i64 c2, .int .i64 d1, .int .i64 d2] 72)) := ((Ext.refl w).alloc _)
  have kV : Blk (w.alloc (.cells #[.int .i64 a1, .int .i64 a2, .int .i64 b1, .int .i64 b2, .int .i64 c1, .int .i64 c2, .int .i64 d1, .int .i64 d2] 72)) w.heap.size 72 #[.int .i64 a1, .int .i64 a2, .int .i64 b1, .int .i64 b2, .int .i64 c1, .int .i64 c2, .int .i64 d1, .int .i64 d2] := Blk.at_ (by simp)
  go_enter Try.func9, Try.ntmps9
  go_wp2_with fail
  generalize (w.alloc (.cells #[.int .i64 a1, .int .i64 a2, .int .i64 b1, .int .i64 b2, .int .i64 c1, .int .i64 c2, .int .i64 d1, .int .i64 d2] 72)) = w1 at hXe kV ⊢
  have HX := Lib.hid hXe
  clear hXe
  have KV := Lib.hid kV
  clear kV
  have lV := KV.out.lt
  go_upto_region 1 with (fail)
  refine open_ExactCircles w.heap.size a1 a2 b1 b2 c1 c2 d1 d2 w1 (KV.out.cell 0) (KV.out.cell 1) (KV.out.cell 2) (KV.out.cell 3) (KV.out.cell 4) (KV.out.cell 5) (KV.out.cell 6) (KV.out.cell 7) _ _ (by simp) rfl ?_
  rintro xv0 xv1 xv2 xv3 xv4 xv5 xv6 xv7 xv8 xv9 xv10 xv11 xv12 xv13 xv14 xv15 w2 rfl rfl rfl rfl rfl rfl rfl rfl ⟨ga, rfl, hga, hBa⟩ ⟨gb, rfl, hgb, hBb⟩ ⟨gc, rfl, hgc, hBc⟩ ⟨gd, rfl, hgd, hBd⟩ n0 n1 n2 n3 n4 n5 hXW
  simp only [rops, Try.f9, regOf, Option.bind_some, Nat.reduceBEq, if_true, if_false, Bool.false_eq_true, Option.getD_some, List.drop_succ_cons, List.drop_zero]
  simp only [Act.put, List.setIfInBounds_toArray, List.set_cons_succ, List.set_cons_zero]
  replace HX := Lib.hid (HX.out.trans hXW)
  replace KV := Lib.hid (KV.out.ext hXW)
  clear hXW
  clear KV
  clear n0 n1 n2 n3 n4 n5
  have KA := Lib.hid hBa
  clear hBa
  have KB := Lib.hid hBb
  clear hBb
  have KC := Lib.hid hBc
  clear hBc
  have KD := Lib.hid hBd
  clear hBd
  have cA0 : w2.cell? ⟨ga, 0, none⟩ = some (.int .i64 a1) := KA.out.cell 0
  have cA1 : w2.cell? ⟨ga, 1, none⟩ = some (.int .i64 a2) := KA.out.cell 1
  have cB0 : w2.cell? ⟨gb, 0, none⟩ = some (.int .i64 b1) := KB.out.cell 0
  have cB1 : w2.cell? ⟨gb, 1, none⟩ = some (.int .i64 b2) := KB.out.cell 1
  have cC0 : w2.cell? ⟨gc, 0, none⟩ = some (.int .i64 c1) := KC.out.cell 0
  have cC1 : w2.cell? ⟨gc, 1, none⟩ = some (.int .i64 c2) := KC.out.cell 1
  have cD0 : w2.cell? ⟨gd, 0, none⟩ = some (.int .i64 d1) := KD.out.cell 0
  have cD1 : w2.cell? ⟨gd, 1, none⟩ = some (.int .i64 d2) := KD.out.cell 1
  go_wp2_with fail
  clear cA0 cA1 cB0 cB1 cC0 cC1 cD0 cD1
  refine (circ_flat a1 a2 b1 b2 c1 c2 d1 d2 _ HPS.out HZ.out).mono ?_
  rintro e w3 ⟨rfl, hX⟩
  replace hX : Ext w2 w3 := by with_reducible exact hX
  replace HX := Lib.hid (HX.out.trans hX)
  replace KA := Lib.hid (KA.out.ext hX)
  replace KB := Lib.hid (KB.out.ext hX)
  replace KC := Lib.hid (KC.out.ext hX)
  replace KD := Lib.hid (KD.out.ext hX)
  clear hX
  have cA0 : w3.cell? ⟨ga, 0, none⟩ = some (.int .i64 a1) := KA.out.cell 0
  have cA1 : w3.cell? ⟨ga, 1, none⟩ = some (.int .i64 a2) := KA.out.cell 1
  have cB0 : w3.cell? ⟨gb, 0, none⟩ = some (.int .i64 b1) := KB.out.cell 0
  have cB1 : w3.cell? ⟨gb, 1, none⟩ = some (.int .i64 b2) := KB.out.cell 1
  have cC0 : w3.cell? ⟨gc, 0, none⟩ = some (.int .i64 c1) := KC.out.cell 0
  have cC1 : w3.cell? ⟨gc, 1, none⟩ = some (.int .i64 c2) := KC.out.cell 1
  have cD0 : w3.cell? ⟨gd, 0, none⟩ = some (.int .i64 d1) := KD.out.cell 0
  have cD1 : w3.cell? ⟨gd, 1, none⟩ = some (.int .i64 d2) := KD.out.cell 1
  go_wp2_with fail
  clear cA0 cA1 cB0 cB1 cC0 cC1 cD0 cD1
  refine (place_any a1 a2 _).mono ?_
  rw [Oa.out]
  rintro e w4 ⟨rfl, hX⟩
  replace hX : Ext w3 w4 := by with_reducible exact hX
  replace HX := Lib.hid (HX.out.trans hX)
  replace KA := Lib.hid (KA.out.ext hX)
  replace KB := Lib.hid (KB.out.ext hX)
  replace KC := Lib.hid (KC.out.ext hX)
  replace KD := Lib.hid (KD.out.ext hX)
  clear hX
  have cA0 : w4.cell? ⟨ga, 0, none⟩ = some (.int .i64 a1) := KA.out.cell 0
  have cA1 : w4.cell? ⟨ga, 1, none⟩ = some (.int .i64 a2) := KA.out.cell 1
  have cB0 : w4.cell? ⟨gb, 0, none⟩ = some (.int .i64 b1) := KB.out.cell 0
  have cB1 : w4.cell? ⟨gb, 1, none⟩ = some (.int .i64 b2) := KB.out.cell 1
  have cC0 : w4.cell? ⟨gc, 0, none⟩ = some (.int .i64 c1) := KC.out.cell 0
  have cC1 : w4.cell? ⟨gc, 1, none⟩ = some (.int .i64 c2) := KC.out.cell 1
  have cD0 : w4.cell? ⟨gd, 0, none⟩ = some (.int .i64 d1) := KD.out.cell 0
  have cD1 : w4.cell? ⟨gd, 1, none⟩ = some (.int .i64 d2) := KD.out.cell 1
  go_wp2_with fail
  clear cA0 cA1 cB0 cB1 cC0 cC1 cD0 cD1
  refine (place_any b1 b2 _).mono ?_
  rw [Ob.out]
  rintro e w5 ⟨rfl, hX⟩
  replace hX : Ext w4 w5 := by with_reducible exact hX
  replace HX := Lib.hid (HX.out.trans hX)
  replace KA := Lib.hid (KA.out.ext hX)
  replace KB := Lib.hid (KB.out.ext hX)
  replace KC := Lib.hid (KC.out.ext hX)
  replace KD := Lib.hid (KD.out.ext hX)
  clear hX
  have cA0 : w5.cell? ⟨ga, 0, none⟩ = some (.int .i64 a1) := KA.out.cell 0
  have cA1 : w5.cell? ⟨ga, 1, none⟩ = some (.int .i64 a2) := KA.out.cell 1
  have cB0 : w5.cell? ⟨gb, 0, none⟩ = some (.int .i64 b1) := KB.out.cell 0
  have cB1 : w5.cell? ⟨gb, 1, none⟩ = some (.int .i64 b2) := KB.out.cell 1
  have cC0 : w5.cell? ⟨gc, 0, none⟩ = some (.int .i64 c1) := KC.out.cell 0
  have cC1 : w5.cell? ⟨gc, 1, none⟩ = some (.int .i64 c2) := KC.out.cell 1
  have cD0 : w5.cell? ⟨gd, 0, none⟩ = some (.int .i64 d1) := KD.out.cell 0
  have cD1 : w5.cell? ⟨gd, 1, none⟩ = some (.int .i64 d2) := KD.out.cell 1
  go_wp2_with fail
  clear cA0 cA1 cB0 cB1 cC0 cC1 cD0 cD1
  refine (place_any c1 c2 _).mono ?_
  rw [Oc.out]
  rintro e w6 ⟨rfl, hX⟩
  replace hX : Ext w5 w6 := by with_reducible exact hX
  replace HX := Lib.hid (HX.out.trans hX)
  replace KA := Lib.hid (KA.out.ext hX)
  replace KB := Lib.hid (KB.out.ext hX)
  replace KC := Lib.hid (KC.out.ext hX)
  replace KD := Lib.hid (KD.out.ext hX)
  clear hX
  have cA0 : w6.cell? ⟨ga, 0, none⟩ = some (.int .i64 a1) := KA.out.cell 0
  have cA1 : w6.cell? ⟨ga, 1, none⟩ = some (.int .i64 a2) := KA.out.cell 1
  have cB0 : w6.cell? ⟨gb, 0, none⟩ = some (.int .i64 b1) := KB.out.cell 0
  have cB1 : w6.cell? ⟨gb, 1, none⟩ = some (.int .i64 b2) := KB.out.cell 1
  have cC0 : w6.cell? ⟨gc, 0, none⟩ = some (.int .i64 c1) := KC.out.cell 0
  have cC1 : w6.cell? ⟨gc, 1, none⟩ = some (.int .i64 c2) := KC.out.cell 1
  have cD0 : w6.cell? ⟨gd, 0, none⟩ = some (.int .i64 d1) := KD.out.cell 0
  have cD1 : w6.cell? ⟨gd, 1, none⟩ = some (.int .i64 d2) := KD.out.cell 1
  go_wp2_with fail
  clear cA0 cA1 cB0 cB1 cC0 cC1 cD0 cD1
  refine (place_any d1 d2 _).mono ?_
  rw [Od.out]
  rintro e w7 ⟨rfl, hX⟩
  replace hX : Ext w6 w7 := by with_reducible exact hX
  replace HX := Lib.hid (HX.out.trans hX)
  replace KA := Lib.hid (KA.out.ext hX)
  replace KB := Lib.hid (KB.out.ext hX)
  replace KC := Lib.hid (KC.out.ext hX)
  replace KD := Lib.hid (KD.out.ext hX)
  clear hX
  have cA0 : w7.cell? ⟨ga, 0, none⟩ = some (.int .i64 a1) := KA.out.cell 0
  have cA1 : w7.cell? ⟨ga, 1, none⟩ = some (.int .i64 a2) := KA.out.cell 1
  have cB0 : w7.cell? ⟨gb, 0, none⟩ = some (.int .i64 b1) := KB.out.cell 0
  have cB1 : w7.cell? ⟨gb, 1, none⟩ = some (.int .i64 b2) := KB.out.cell 1
  have cC0 : w7.cell? ⟨gc, 0, none⟩ = some (.int .i64 c1) := KC.out.cell 0
  have cC1 : w7.cell? ⟨gc, 1, none⟩ = some (.int .i64 c2) := KC.out.cell 1
  have cD0 : w7.cell? ⟨gd, 0, none⟩ = some (.int .i64 d1) := KD.out.cell 0
  have cD1 : w7.cell? ⟨gd, 1, none⟩ = some (.int .i64 d2) := KD.out.cell 1
  go_wp2_with fail
  clear cA0 cA1 cB0 cB1 cC0 cC1 cD0 cD1
  refine (rturn_any a1 a2 b1 b2 c1 c2 _ Oa.out Ob.out Oc.out).mono ?_
  rw [HT.out]
  rintro e w8 ⟨rfl, hX⟩
  replace hX : Ext w7 w8 := by with_reducible exact hX
  replace HX := Lib.hid (HX.out.trans hX)
  replace KA := Lib.hid (KA.out.ext hX)
  replace KB := Lib.hid (KB.out.ext hX)
  replace KC := Lib.hid (KC.out.ext hX)
  replace KD := Lib.hid (KD.out.ext hX)
  clear hX
  have cA0 : w8.cell? ⟨ga, 0, none⟩ = some (.int .i64 a1) := KA.out.cell 0
  have cA1 : w8.cell? ⟨ga, 1, none⟩ = some (.int .i64 a2) := KA.out.cell 1
  have cB0 : w8.cell? ⟨gb, 0, none⟩ = some (.int .i64 b1) := KB.out.cell 0
  have cB1 : w8.cell? ⟨gb, 1, none⟩ = some (.int .i64 b2) := KB.out.cell 1
  have cC0 : w8.cell? ⟨gc, 0, none⟩ = some (.int .i64 c1) := KC.out.cell 0
  have cC1 : w8.cell? ⟨gc, 1, none⟩ = some (.int .i64 c2) := KC.out.cell 1
  have cD0 : w8.cell? ⟨gd, 0, none⟩ = some (.int .i64 d1) := KD.out.cell 0
  have cD1 : w8.cell? ⟨gd, 1, none⟩ = some (.int .i64 d2) := KD.out.cell 1
  go_wp2_with fail
  clear cA0 cA1 cB0 cB1 cC0 cC1 cD0 cD1
  refine (first_any _).mono ?_
  rintro e w9 ⟨rfl, hX⟩
  replace hX : Ext w8 w9 := by with_reducible exact hX
  replace HX := Lib.hid (HX.out.trans hX)
  replace KA := Lib.hid (KA.out.ext hX)
  replace KB := Lib.hid (KB.out.ext hX)
  replace KC := Lib.hid (KC.out.ext hX)
  replace KD := Lib.hid (KD.out.ext hX)
  clear hX
  go_wp2
  go_ret
  exact ⟨rfl, HX.out⟩

set_option maxRecDepth 100000 in
set_option maxHeartbeats 2000000 in
theorem circles_ok (a1 a2 b1 b2 c1 c2 d1 d2 : Int) (w : World) (ha : okP (a1, a2) = true) (hb : okP (b1, b2) = true) (hc : okP (c1, c2) = true) (hd : okP (d1, d2) = true) (hz : crossI (a1, a2) (b1, b2) (c1, c2) ≠ 0) :
    Calls Try.prog 9 #[.agg #[.int .i64 a1, .int .i64 a2, .int .i64 b1, .int .i64 b2, .int .i64 c1, .int .i64 c2, .int .i64 d1, .int .i64 d2]] w (fun e w' => e = .returned (.bool true) ∧ Ext w w') := by
  have HPS : Hid (okPs [(a1, a2), (b1, b2), (c1, c2), (d1, d2)] = true) := (okPs4 _ _ _ _).2 ⟨ha, hb, hc, hd⟩
  have Oa := Lib.hid ha
  clear ha
  have Ob := Lib.hid hb
  clear hb
  have Oc := Lib.hid hc
  clear hc
  have Od := Lib.hid hd
  clear hd
  have HZ := Lib.hid hz
  obtain ⟨t, ht⟩ : ∃ t, sgI (crossI (a1, a2) (b1, b2) (c1, c2)) = t := ⟨_, rfl⟩
  have htb : (t == 0) = false := by
    rw [← ht]
    unfold sgI
    simp only [beq_eq_false_iff_ne, ne_eq]
    split
    · omega
    · split <;> omega
  have HT := Lib.hid ht
  obtain ⟨n, hn⟩ : ∃ n, circI (a1, a2) (b1, b2) (c1, c2) (d1, d2) = n := ⟨_, rfl⟩
  have HN := Lib.hid hn
  clear ht hn hz
  have hXe : Ext w (w.alloc (.cells #[.int .i64 a1, .int .i64 a2, .int .i64 b1, .int .i64 b2, .int .i64 c1, .int .i64 c2, .int .i64 d1, .int .i64 d2] 72)) := ((Ext.refl w).alloc _)
  have kV : Blk (w.alloc (.cells #[.int .i64 a1, .int .i64 a2, .int .i64 b1, .int .i64 b2, .int .i64 c1, .int .i64 c2, .int .i64 d1, .int .i64 d2] 72)) w.heap.size 72 #[.int .i64 a1, .int .i64 a2, .int .i64 b1, .int .i64 b2, .int .i64 c1, .int .i64 c2, .int .i64 d1, .int .i64 d2] := Blk.at_ (by simp)
  go_enter Try.func9, Try.ntmps9
  go_wp2_with fail
  generalize (w.alloc (.cells #[.int .i64 a1, .int .i64 a2, .int .i64 b1, .int .i64 b2, .int .i64 c1, .int .i64 c2, .int .i64 d1, .int .i64 d2] 72)) = w1 at hXe kV ⊢
  have HX := Lib.hid hXe
  clear hXe
  have KV := Lib.hid kV
  clear kV
  have lV := KV.out.lt
  go_upto_region 1 with (fail)
  refine open_ExactCircles w.heap.size a1 a2 b1 b2 c1 c2 d1 d2 w1 (KV.out.cell 0) (KV.out.cell 1) (KV.out.cell 2) (KV.out.cell 3) (KV.out.cell 4) (KV.out.cell 5) (KV.out.cell 6) (KV.out.cell 7) _ _ (by simp) rfl ?_
  rintro xv0 xv1 xv2 xv3 xv4 xv5 xv6 xv7 xv8 xv9 xv10 xv11 xv12 xv13 xv14 xv15 w2 rfl rfl rfl rfl rfl rfl rfl rfl ⟨ga, rfl, hga, hBa⟩ ⟨gb, rfl, hgb, hBb⟩ ⟨gc, rfl, hgc, hBc⟩ ⟨gd, rfl, hgd, hBd⟩ n0 n1 n2 n3 n4 n5 hXW
  simp only [rops, Try.f9, regOf, Option.bind_some, Nat.reduceBEq, if_true, if_false, Bool.false_eq_true, Option.getD_some, List.drop_succ_cons, List.drop_zero]
  simp only [Act.put, List.setIfInBounds_toArray, List.set_cons_succ, List.set_cons_zero]
  replace HX := Lib.hid (HX.out.trans hXW)
  replace KV := Lib.hid (KV.out.ext hXW)
  clear hXW
  clear KV
  clear n0 n1 n2 n3 n4 n5
  have KA := Lib.hid hBa
  clear hBa
  have KB := Lib.hid hBb
  clear hBb
  have KC := Lib.hid hBc
  clear hBc
  have KD := Lib.hid hBd
  clear hBd
  have cA0 : w2.cell? ⟨ga, 0, none⟩ = some (.int .i64 a1) := KA.out.cell 0
  have cA1 : w2.cell? ⟨ga, 1, none⟩ = some (.int .i64 a2) := KA.out.cell 1
  have cB0 : w2.cell? ⟨gb, 0, none⟩ = some (.int .i64 b1) := KB.out.cell 0
  have cB1 : w2.cell? ⟨gb, 1, none⟩ = some (.int .i64 b2) := KB.out.cell 1
  have cC0 : w2.cell? ⟨gc, 0, none⟩ = some (.int .i64 c1) := KC.out.cell 0
  have cC1 : w2.cell? ⟨gc, 1, none⟩ = some (.int .i64 c2) := KC.out.cell 1
  have cD0 : w2.cell? ⟨gd, 0, none⟩ = some (.int .i64 d1) := KD.out.cell 0
  have cD1 : w2.cell? ⟨gd, 1, none⟩ = some (.int .i64 d2) := KD.out.cell 1
  go_wp2_with fail
  clear cA0 cA1 cB0 cB1 cC0 cC1 cD0 cD1
  refine (circ_ok a1 a2 b1 b2 c1 c2 d1 d2 _ HPS.out HZ.out).mono ?_
  rw [HN.out]
  rintro e w3 ⟨rfl, hX⟩
  replace hX : Ext w2 w3 := by with_reducible exact hX
  replace HX := Lib.hid (HX.out.trans hX)
  replace KA := Lib.hid (KA.out.ext hX)
  replace KB := Lib.hid (KB.out.ext hX)
  replace KC := Lib.hid (KC.out.ext hX)
  replace KD := Lib.hid (KD.out.ext hX)
  clear hX
  have cA0 : w3.cell? ⟨ga, 0, none⟩ = some (.int .i64 a1) := KA.out.cell 0
  have cA1 : w3.cell? ⟨ga, 1, none⟩ = some (.int .i64 a2) := KA.out.cell 1
  have cB0 : w3.cell? ⟨gb, 0, none⟩ = some (.int .i64 b1) := KB.out.cell 0
  have cB1 : w3.cell? ⟨gb, 1, none⟩ = some (.int .i64 b2) := KB.out.cell 1
  have cC0 : w3.cell? ⟨gc, 0, none⟩ = some (.int .i64 c1) := KC.out.cell 0
  have cC1 : w3.cell? ⟨gc, 1, none⟩ = some (.int .i64 c2) := KC.out.cell 1
  have cD0 : w3.cell? ⟨gd, 0, none⟩ = some (.int .i64 d1) := KD.out.cell 0
  have cD1 : w3.cell? ⟨gd, 1, none⟩ = some (.int .i64 d2) := KD.out.cell 1
  go_wp2_with fail
  clear cA0 cA1 cB0 cB1 cC0 cC1 cD0 cD1
  refine (place_any a1 a2 _).mono ?_
  rw [Oa.out]
  rintro e w4 ⟨rfl, hX⟩
  replace hX : Ext w3 w4 := by with_reducible exact hX
  replace HX := Lib.hid (HX.out.trans hX)
  replace KA := Lib.hid (KA.out.ext hX)
  replace KB := Lib.hid (KB.out.ext hX)
  replace KC := Lib.hid (KC.out.ext hX)
  replace KD := Lib.hid (KD.out.ext hX)
  clear hX
  have cA0 : w4.cell? ⟨ga, 0, none⟩ = some (.int .i64 a1) := KA.out.cell 0
  have cA1 : w4.cell? ⟨ga, 1, none⟩ = some (.int .i64 a2) := KA.out.cell 1
  have cB0 : w4.cell? ⟨gb, 0, none⟩ = some (.int .i64 b1) := KB.out.cell 0
  have cB1 : w4.cell? ⟨gb, 1, none⟩ = some (.int .i64 b2) := KB.out.cell 1
  have cC0 : w4.cell? ⟨gc, 0, none⟩ = some (.int .i64 c1) := KC.out.cell 0
  have cC1 : w4.cell? ⟨gc, 1, none⟩ = some (.int .i64 c2) := KC.out.cell 1
  have cD0 : w4.cell? ⟨gd, 0, none⟩ = some (.int .i64 d1) := KD.out.cell 0
  have cD1 : w4.cell? ⟨gd, 1, none⟩ = some (.int .i64 d2) := KD.out.cell 1
  go_wp2_with fail
  clear cA0 cA1 cB0 cB1 cC0 cC1 cD0 cD1
  refine (place_any b1 b2 _).mono ?_
  rw [Ob.out]
  rintro e w5 ⟨rfl, hX⟩
  replace hX : Ext w4 w5 := by with_reducible exact hX
  replace HX := Lib.hid (HX.out.trans hX)
  replace KA := Lib.hid (KA.out.ext hX)
  replace KB := Lib.hid (KB.out.ext hX)
  replace KC := Lib.hid (KC.out.ext hX)
  replace KD := Lib.hid (KD.out.ext hX)
  clear hX
  have cA0 : w5.cell? ⟨ga, 0, none⟩ = some (.int .i64 a1) := KA.out.cell 0
  have cA1 : w5.cell? ⟨ga, 1, none⟩ = some (.int .i64 a2) := KA.out.cell 1
  have cB0 : w5.cell? ⟨gb, 0, none⟩ = some (.int .i64 b1) := KB.out.cell 0
  have cB1 : w5.cell? ⟨gb, 1, none⟩ = some (.int .i64 b2) := KB.out.cell 1
  have cC0 : w5.cell? ⟨gc, 0, none⟩ = some (.int .i64 c1) := KC.out.cell 0
  have cC1 : w5.cell? ⟨gc, 1, none⟩ = some (.int .i64 c2) := KC.out.cell 1
  have cD0 : w5.cell? ⟨gd, 0, none⟩ = some (.int .i64 d1) := KD.out.cell 0
  have cD1 : w5.cell? ⟨gd, 1, none⟩ = some (.int .i64 d2) := KD.out.cell 1
  go_wp2_with fail
  clear cA0 cA1 cB0 cB1 cC0 cC1 cD0 cD1
  refine (place_any c1 c2 _).mono ?_
  rw [Oc.out]
  rintro e w6 ⟨rfl, hX⟩
  replace hX : Ext w5 w6 := by with_reducible exact hX
  replace HX := Lib.hid (HX.out.trans hX)
  replace KA := Lib.hid (KA.out.ext hX)
  replace KB := Lib.hid (KB.out.ext hX)
  replace KC := Lib.hid (KC.out.ext hX)
  replace KD := Lib.hid (KD.out.ext hX)
  clear hX
  have cA0 : w6.cell? ⟨ga, 0, none⟩ = some (.int .i64 a1) := KA.out.cell 0
  have cA1 : w6.cell? ⟨ga, 1, none⟩ = some (.int .i64 a2) := KA.out.cell 1
  have cB0 : w6.cell? ⟨gb, 0, none⟩ = some (.int .i64 b1) := KB.out.cell 0
  have cB1 : w6.cell? ⟨gb, 1, none⟩ = some (.int .i64 b2) := KB.out.cell 1
  have cC0 : w6.cell? ⟨gc, 0, none⟩ = some (.int .i64 c1) := KC.out.cell 0
  have cC1 : w6.cell? ⟨gc, 1, none⟩ = some (.int .i64 c2) := KC.out.cell 1
  have cD0 : w6.cell? ⟨gd, 0, none⟩ = some (.int .i64 d1) := KD.out.cell 0
  have cD1 : w6.cell? ⟨gd, 1, none⟩ = some (.int .i64 d2) := KD.out.cell 1
  go_wp2_with fail
  clear cA0 cA1 cB0 cB1 cC0 cC1 cD0 cD1
  refine (place_any d1 d2 _).mono ?_
  rw [Od.out]
  rintro e w7 ⟨rfl, hX⟩
  replace hX : Ext w6 w7 := by with_reducible exact hX
  replace HX := Lib.hid (HX.out.trans hX)
  replace KA := Lib.hid (KA.out.ext hX)
  replace KB := Lib.hid (KB.out.ext hX)
  replace KC := Lib.hid (KC.out.ext hX)
  replace KD := Lib.hid (KD.out.ext hX)
  clear hX
  have cA0 : w7.cell? ⟨ga, 0, none⟩ = some (.int .i64 a1) := KA.out.cell 0
  have cA1 : w7.cell? ⟨ga, 1, none⟩ = some (.int .i64 a2) := KA.out.cell 1
  have cB0 : w7.cell? ⟨gb, 0, none⟩ = some (.int .i64 b1) := KB.out.cell 0
  have cB1 : w7.cell? ⟨gb, 1, none⟩ = some (.int .i64 b2) := KB.out.cell 1
  have cC0 : w7.cell? ⟨gc, 0, none⟩ = some (.int .i64 c1) := KC.out.cell 0
  have cC1 : w7.cell? ⟨gc, 1, none⟩ = some (.int .i64 c2) := KC.out.cell 1
  have cD0 : w7.cell? ⟨gd, 0, none⟩ = some (.int .i64 d1) := KD.out.cell 0
  have cD1 : w7.cell? ⟨gd, 1, none⟩ = some (.int .i64 d2) := KD.out.cell 1
  go_wp2_with fail
  clear cA0 cA1 cB0 cB1 cC0 cC1 cD0 cD1
  refine (rturn_any a1 a2 b1 b2 c1 c2 _ Oa.out Ob.out Oc.out).mono ?_
  rw [HT.out]
  rintro e w8 ⟨rfl, hX⟩
  replace hX : Ext w7 w8 := by with_reducible exact hX
  replace HX := Lib.hid (HX.out.trans hX)
  replace KA := Lib.hid (KA.out.ext hX)
  replace KB := Lib.hid (KB.out.ext hX)
  replace KC := Lib.hid (KC.out.ext hX)
  replace KD := Lib.hid (KD.out.ext hX)
  clear hX
  have cA0 : w8.cell? ⟨ga, 0, none⟩ = some (.int .i64 a1) := KA.out.cell 0
  have cA1 : w8.cell? ⟨ga, 1, none⟩ = some (.int .i64 a2) := KA.out.cell 1
  have cB0 : w8.cell? ⟨gb, 0, none⟩ = some (.int .i64 b1) := KB.out.cell 0
  have cB1 : w8.cell? ⟨gb, 1, none⟩ = some (.int .i64 b2) := KB.out.cell 1
  have cC0 : w8.cell? ⟨gc, 0, none⟩ = some (.int .i64 c1) := KC.out.cell 0
  have cC1 : w8.cell? ⟨gc, 1, none⟩ = some (.int .i64 c2) := KC.out.cell 1
  have cD0 : w8.cell? ⟨gd, 0, none⟩ = some (.int .i64 d1) := KD.out.cell 0
  have cD1 : w8.cell? ⟨gd, 1, none⟩ = some (.int .i64 d2) := KD.out.cell 1
  go_wp2_with fail
  clear cA0 cA1 cB0 cB1 cC0 cC1 cD0 cD1
  refine (rcircle_any a1 a2 b1 b2 c1 c2 d1 d2 _ Oa.out Ob.out Oc.out Od.out HZ.out).mono ?_
  rw [HN.out]
  rintro e w9 ⟨rfl, hX⟩
  replace hX : Ext w8 w9 := by with_reducible exact hX
  replace HX := Lib.hid (HX.out.trans hX)
  replace KA := Lib.hid (KA.out.ext hX)
  replace KB := Lib.hid (KB.out.ext hX)
  replace KC := Lib.hid (KC.out.ext hX)
  replace KD := Lib.hid (KD.out.ext hX)
  clear hX
  have cA0 : w9.cell? ⟨ga, 0, none⟩ = some (.int .i64 a1) := KA.out.cell 0
  have cA1 : w9.cell? ⟨ga, 1, none⟩ = some (.int .i64 a2) := KA.out.cell 1
  have cB0 : w9.cell? ⟨gb, 0, none⟩ = some (.int .i64 b1) := KB.out.cell 0
  have cB1 : w9.cell? ⟨gb, 1, none⟩ = some (.int .i64 b2) := KB.out.cell 1
  have cC0 : w9.cell? ⟨gc, 0, none⟩ = some (.int .i64 c1) := KC.out.cell 0
  have cC1 : w9.cell? ⟨gc, 1, none⟩ = some (.int .i64 c2) := KC.out.cell 1
  have cD0 : w9.cell? ⟨gd, 0, none⟩ = some (.int .i64 d1) := KD.out.cell 0
  have cD1 : w9.cell? ⟨gd, 1, none⟩ = some (.int .i64 d2) := KD.out.cell 1
  go_wp2_with fail
  clear cA0 cA1 cB0 cB1 cC0 cC1 cD0 cD1
  refine (first_any _).mono ?_
  rintro e w10 ⟨rfl, hX⟩
  replace hX : Ext w9 w10 := by with_reducible exact hX
  replace HX := Lib.hid (HX.out.trans hX)
  replace KA := Lib.hid (KA.out.ext hX)
  replace KB := Lib.hid (KB.out.ext hX)
  replace KC := Lib.hid (KC.out.ext hX)
  replace KD := Lib.hid (KD.out.ext hX)
  clear hX
  go_wp2
  go_ret
  exact ⟨rfl, HX.out⟩

theorem exactCircles_walk (v : Value) (f : Int × Int × Int × Int × Int × Int × Int × Int) (w : World) (h : FourV_ w v f) : Calls Try.prog 9 #[v] w fun e w' => e = .returned (.bool true) ∧ Ext w w' := by
  obtain ⟨a1, a2, b1, b2, c1, c2, d1, d2⟩ := f
  obtain ⟨rfl, _⟩ := h
  rcases ha : okP (a1, a2) with _ | _
  · exact circles_bad0 a1 a2 b1 b2 c1 c2 d1 d2 w ha
  · rcases hb : okP (b1, b2) with _ | _
    · exact circles_bad1 a1 a2 b1 b2 c1 c2 d1 d2 w ha hb
    · rcases hc : okP (c1, c2) with _ | _
      · exact circles_bad2 a1 a2 b1 b2 c1 c2 d1 d2 w ha hb hc
      · rcases hd : okP (d1, d2) with _ | _
        · exact circles_bad3 a1 a2 b1 b2 c1 c2 d1 d2 w ha hb hc hd
        · by_cases hz : crossI (a1, a2) (b1, b2) (c1, c2) = 0
          · exact circles_flat a1 a2 b1 b2 c1 c2 d1 d2 w ha hb hc hd hz
          · exact circles_ok a1 a2 b1 b2 c1 c2 d1 d2 w ha hb hc hd hz
end Go.Proofs.Yteoijnaljkagfaa
