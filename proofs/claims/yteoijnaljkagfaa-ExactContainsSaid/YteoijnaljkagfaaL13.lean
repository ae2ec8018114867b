/- ExactContains: its walk. -/
import Derived.Test.YteoijnaljkagfaaL12
import Derived.Test.YteoijnaljkagfaaOpenY
namespace Go.Proofs.Yteoijnaljkagfaa
open Go.RowKit

set_option maxRecDepth 100000 in
set_option maxHeartbeats 2000000 in
theorem open_ExactContains (gv : Nat) (xa xb xc xd u1 u2 u3 u4 : Int) (w : World) (h0 : w.cell? ⟨gv, 0, none⟩ = some (.int .i64 xa)) (h1 : w.cell? ⟨gv, 1, none⟩ = some (.int .i64 xb)) (h2 : w.cell? ⟨gv, 2, none⟩ = some (.int .i64 xc)) (h3 : w.cell? ⟨gv, 3, none⟩ = some (.int .i64 xd)) (h4 : w.cell? ⟨gv, 4, none⟩ = some (.int .u32 u1)) (h5 : w.cell? ⟨gv, 5, none⟩ = some (.int .u32 u2)) (h6 : w.cell? ⟨gv, 6, none⟩ = some (.int .u32 u3)) (h7 : w.cell? ⟨gv, 7, none⟩ = some (.int .u32 u4)) (a : Act) (Q : Exit → Act → World → Prop) (hsize : 28 ≤ a.tmps.size)
    (s1 : a.tmps[1]? = some (.pointer (some ⟨gv, 0, none⟩)))
    (hend : ∀ (xv0 xv1 xv2 xv3 xv4 xv5 xv6 xv7 xv8 xv9 xv10 xv11 xv12 xv13 xv14 xv15 xv16 xv17 xv18 xv19 : Value) (W : World), (xv0 = .pointer (some ⟨gv, 0, none⟩)) → (xv1 = .agg #[.int .i64 (xa), .int .i64 (xb)]) → (xv2 = .pointer (some ⟨gv, 2, none⟩)) → (xv3 = .agg #[.int .i64 (xc), .int .i64 (xd)]) → (xv4 = .pointer (some ⟨gv, 4, none⟩)) → (xv5 = .int .u32 u1) → (xv6 = .pointer (some ⟨gv, 5, none⟩)) → (xv7 = .int .u32 u2) → (xv8 = .pointer (some ⟨gv, 6, none⟩)) → (xv9 = .int .u32 u3) → (xv10 = .pointer (some ⟨gv, 7, none⟩)) → (xv11 = .int .u32 u4) → (xv16 = .int .u32 u1) → (xv17 = .int .u32 u2) → (xv18 = .int .u32 u3) → (xv19 = .int .u32 u4) → (∃ g, xv12 = .pointer (some ⟨g, 0, none⟩) ∧ w.heap.size ≤ g ∧ Blk W g 62 #[.int .i64 xa, .int .i64 xb]) → (∃ g, xv13 = .pointer (some ⟨g, 0, none⟩) ∧ w.heap.size ≤ g ∧ Blk W g 62 #[.int .i64 xc, .int .i64 xd]) → (xv12 ≠ xv13) → Ext w W → wpList Try.prog (rops Try.f13 1).toArray Q [] ((((((((((((((((((((a.put (some 16) xv0).put (some 17) xv1).put (some 18) xv2).put (some 19) xv3).put (some 20) xv4).put (some 21) xv5).put (some 22) xv6).put (some 23) xv7).put (some 24) xv8).put (some 25) xv9).put (some 26) xv10).put (some 27) xv11).put (some 3) xv12).put (some 4) xv13).put (none) xv14).put (none) xv15).put (some 5) xv16).put (some 6) xv17).put (some 7) xv18).put (some 8) xv19) W) :
    (Code.region 1 (rops Try.f13 1).toArray true).wp Try.prog Q a w := by
  have hsz : ∀ d, some d ∈ ([some 16, some 17, some 18, some 19, some 20, some 21, some 22, some 23, some 24, some 25, some 26, some 27, some 3, some 4, none, none, some 5, some 6, some 7, some 8] : List (Option Tmp)) → d < a.tmps.size := slots_lt (by decide) hsize
  refine wp_region_g 20 [some 16, some 17, some 18, some 19, some 20, some 21, some 22, some 23, some 24, some 25, some 26, some 27, some 3, some 4, none, none, some 5, some 6, some 7, some 8] [[], [0], [], [2], [], [4], [], [6], [], [8], [], [10], [], [], [1, 12], [3, 13], [5], [7], [9], [11]] [[], [], [], [], [], [], [], [], [], [], [], [], [14], [15], [], [], [], [], [], []] (fun (done : Nat → Prop) (us : Nat → Value) (W : World) => Ext w W ∧ (done 0 → us 0 = .pointer (some ⟨gv, 0, none⟩)) ∧ (done 1 → us 1 = .agg #[.int .i64 (xa), .int .i64 (xb)]) ∧ (done 2 → us 2 = .pointer (some ⟨gv, 2, none⟩)) ∧ (done 3 → us 3 = .agg #[.int .i64 (xc), .int .i64 (xd)]) ∧ (done 4 → us 4 = .pointer (some ⟨gv, 4, none⟩)) ∧ (done 5 → us 5 = .int .u32 u1) ∧ (done 6 → us 6 = .pointer (some ⟨gv, 5, none⟩)) ∧ (done 7 → us 7 = .int .u32 u2) ∧ (done 8 → us 8 = .pointer (some ⟨gv, 6, none⟩)) ∧ (done 9 → us 9 = .int .u32 u3) ∧ (done 10 → us 10 = .pointer (some ⟨gv, 7, none⟩)) ∧ (done 11 → us 11 = .int .u32 u4) ∧ (done 16 → us 16 = .int .u32 u1) ∧ (done 17 → us 17 = .int .u32 u2) ∧ (done 18 → us 18 = .int .u32 u3) ∧ (done 19 → us 19 = .int .u32 u4) ∧ Loc w W 62 #[.int .i64 0, .int .i64 0] #[.int .i64 xa, .int .i64 xb] (done 12) (done 14) (us 12) ∧ Loc w W 62 #[.int .i64 0, .int .i64 0] #[.int .i64 xc, .int .i64 xd] (done 13) (done 15) (us 13) ∧ Far (done 12) (done 13) (us 12) (us 13)) (by kernel_rfl) (by kernel_rfl) hsz (fun p q us W h => by have e : p = q := funext fun k => propext (h k); rw [e]; exact id) (fun us => ⟨(Ext.refl w).drew, fun h => h.elim, fun h => h.elim, fun h => h.elim, fun h => h.elim, fun h => h.elim, fun h => h.elim, fun h => h.elim, fun h => h.elim, fun h => h.elim, fun h => h.elim, fun h => h.elim, fun h => h.elim, fun h => h.elim, fun h => h.elim, fun h => h.elim, fun h => h.elim, Loc.unmade id, Loc.unmade id, fun h => h.elim⟩) ?_ ?_
  · clear hend
    simp only [rops, Try.f13, regOf, Option.bind_some, Nat.reduceBEq, if_true, if_false, Bool.false_eq_true, Option.getD_some]
    simp only [List.take_succ_cons, List.take_zero]
    refine ⟨?_, ?_, ?_, ?_, ?_, ?_, ?_, ?_, ?_, ?_, ?_, ?_, ?_, ?_, ?_, ?_, ?_, ?_, ?_, ?_, trivial⟩
    · intro done us W hJ hdep haft hnot b hb hb' K hK Q'
      obtain ⟨hX0, cc0, cc1, cc2, cc3, cc4, cc5, cc6, cc7, cc8, cc9, cc10, cc11, cc16, cc17, cc18, cc19, ll12, ll13, f12_13⟩ := hJ
      have e1 := (hb' 1 (by simp)).trans s1
      clear hb hb'
      have hfin := hK (.pointer (some ⟨gv, 0, none⟩)) _ ⟨hX0, fun _ => rfl, fun h => cc1 (h.resolve_right (by decide)), fun h => cc2 (h.resolve_right (by decide)), fun h => cc3 (h.resolve_right (by decide)), fun h => cc4 (h.resolve_right (by decide)), fun h => cc5 (h.resolve_right (by decide)), fun h => cc6 (h.resolve_right (by decide)), fun h => cc7 (h.resolve_right (by decide)), fun h => cc8 (h.resolve_right (by decide)), fun h => cc9 (h.resolve_right (by decide)), fun h => cc10 (h.resolve_right (by decide)), fun h => cc11 (h.resolve_right (by decide)), fun h => cc16 (h.resolve_right (by decide)), fun h => cc17 (h.resolve_right (by decide)), fun h => cc18 (h.resolve_right (by decide)), fun h => cc19 (h.resolve_right (by decide)), Loc.same ll12 ⟨fun h => h.resolve_right (by decide), .inl⟩ ⟨fun h => h.resolve_right (by decide), .inl⟩, Loc.same ll13 ⟨fun h => h.resolve_right (by decide), .inl⟩ ⟨fun h => h.resolve_right (by decide), .inl⟩, fun h h' => f12_13 (h.resolve_right (by decide)) (h'.resolve_right (by decide))⟩
      clear hK cc0 cc1 cc2 cc3 cc4 cc5 cc6 cc7 cc8 cc9 cc10 cc11 cc16 cc17 cc18 cc19 ll12 ll13 f12_13
      go_simp
      exact hfin
    · intro done us W hJ hdep haft hnot b hb hb' K hK Q'
      obtain ⟨hX0, cc0, cc1, cc2, cc3, cc4, cc5, cc6, cc7, cc8, cc9, cc10, cc11, cc16, cc17, cc18, cc19, ll12, ll13, f12_13⟩ := hJ
      simp only [List.getD_cons_succ, List.getD_cons_zero, List.mem_cons, List.not_mem_nil, or_false, forall_eq_or_imp, forall_eq] at hdep
      have e16 := hb 0 16 rfl
      rw [cc0 hdep] at e16
      clear hb hb'
      have q0 := Ext.cell hX0 h0
      have q1 := Ext.cell hX0 h1
      have hfin := hK (.agg #[.int .i64 (xa), .int .i64 (xb)]) _ ⟨hX0, fun h => cc0 (h.resolve_right (by decide)), fun _ => rfl, fun h => cc2 (h.resolve_right (by decide)), fun h => cc3 (h.resolve_right (by decide)), fun h => cc4 (h.resolve_right (by decide)), fun h => cc5 (h.resolve_right (by decide)), fun h => cc6 (h.resolve_right (by decide)), fun h => cc7 (h.resolve_right (by decide)), fun h => cc8 (h.resolve_right (by decide)), fun h => cc9 (h.resolve_right (by decide)), fun h => cc10 (h.resolve_right (by decide)), fun h => cc11 (h.resolve_right (by decide)), fun h => cc16 (h.resolve_right (by decide)), fun h => cc17 (h.resolve_right (by decide)), fun h => cc18 (h.resolve_right (by decide)), fun h => cc19 (h.resolve_right (by decide)), Loc.same ll12 ⟨fun h => h.resolve_right (by decide), .inl⟩ ⟨fun h => h.resolve_right (by decide), .inl⟩, Loc.same ll13 ⟨fun h => h.resolve_right (by decide), .inl⟩ ⟨fun h => h.resolve_right (by decide), .inl⟩, fun h h' => f12_13 (h.resolve_right (by decide)) (h'.resolve_right (by decide))⟩
      clear hK cc0 cc1 cc2 cc3 cc4 cc5 cc6 cc7 cc8 cc9 cc10 cc11 cc16 cc17 cc18 cc19 ll12 ll13 f12_13
      go_simp
      exact hfin
    · intro done us W hJ hdep haft hnot b hb hb' K hK Q'
      obtain ⟨hX0, cc0, cc1, cc2, cc3, cc4, cc5, cc6, cc7, cc8, cc9, cc10, cc11, cc16, cc17, cc18, cc19, ll12, ll13, f12_13⟩ := hJ
      have e1 := (hb' 1 (by simp)).trans s1
      clear hb hb'
      have hfin := hK (.pointer (some ⟨gv, 2, none⟩)) _ ⟨hX0, fun h => cc0 (h.resolve_right (by decide)), fun h => cc1 (h.resolve_right (by decide)), fun _ => rfl, fun h => cc3 (h.resolve_right (by decide)), fun h => cc4 (h.resolve_right (by decide)), fun h => cc5 (h.resolve_right (by decide)), fun h => cc6 (h.resolve_right (by decide)), fun h => cc7 (h.resolve_right (by decide)), fun h => cc8 (h.resolve_right (by decide)), fun h => cc9 (h.resolve_right (by decide)), fun h => cc10 (h.resolve_right (by decide)), fun h => cc11 (h.resolve_right (by decide)), fun h => cc16 (h.resolve_right (by decide)), fun h => cc17 (h.resolve_right (by decide)), fun h => cc18 (h.resolve_right (by decide)), fun h => cc19 (h.resolve_right (by decide)), Loc.same ll12 ⟨fun h => h.resolve_right (by decide), .inl⟩ ⟨fun h => h.resolve_right (by decide), .inl⟩, Loc.same ll13 ⟨fun h => h.resolve_right (by decide), .inl⟩ ⟨fun h => h.resolve_right (by decide), .inl⟩, fun h h' => f12_13 (h.resolve_right (by decide)) (h'.resolve_right (by decide))⟩
      clear hK cc0 cc1 cc2 cc3 cc4 cc5 cc6 cc7 cc8 cc9 cc10 cc11 cc16 cc17 cc18 cc19 ll12 ll13 f12_13
      go_simp
      exact hfin
    · intro done us W hJ hdep haft hnot b hb hb' K hK Q'
      obtain ⟨hX0, cc0, cc1, cc2, cc3, cc4, cc5, cc6, cc7, cc8, cc9, cc10, cc11, cc16, cc17, cc18, cc19, ll12, ll13, f12_13⟩ := hJ
      simp only [List.getD_cons_succ, List.getD_cons_zero, List.mem_cons, List.not_mem_nil, or_false, forall_eq_or_imp, forall_eq] at hdep
      have e18 := hb 2 18 rfl
      rw [cc2 hdep] at e18
      clear hb hb'
      have q0 := Ext.cell hX0 h2
      have q1 := Ext.cell hX0 h3
      have hfin := hK (.agg #[.int .i64 (xc), .int .i64 (xd)]) _ ⟨hX0, fun h => cc0 (h.resolve_right (by decide)), fun h => cc1 (h.resolve_right (by decide)), fun h => cc2 (h.resolve_right (by decide)), fun _ => rfl, fun h => cc4 (h.resolve_right (by decide)), fun h => cc5 (h.resolve_right (by decide)), fun h => cc6 (h.resolve_right (by decide)), fun h => cc7 (h.resolve_right (by decide)), fun h => cc8 (h.resolve_right (by decide)), fun h => cc9 (h.resolve_right (by decide)), fun h => cc10 (h.resolve_right (by decide)), fun h => cc11 (h.resolve_right (by decide)), fun h => cc16 (h.resolve_right (by decide)), fun h => cc17 (h.resolve_right (by decide)), fun h => cc18 (h.resolve_right (by decide)), fun h => cc19 (h.resolve_right (by decide)), Loc.same ll12 ⟨fun h => h.resolve_right (by decide), .inl⟩ ⟨fun h => h.resolve_right (by decide), .inl⟩, Loc.same ll13 ⟨fun h => h.resolve_right (by decide), .inl⟩ ⟨fun h => h.resolve_right (by decide), .inl⟩, fun h h' => f12_13 (h.resolve_right (by decide)) (h'.resolve_right (by decide))⟩
      clear hK cc0 cc1 cc2 cc3 cc4 cc5 cc6 cc7 cc8 cc9 cc10 cc11 cc16 cc17 cc18 cc19 ll12 ll13 f12_13
      go_simp
      exact hfin
    · intro done us W hJ hdep haft hnot b hb hb' K hK Q'
      obtain ⟨hX0, cc0, cc1, cc2, cc3, cc4, cc5, cc6, cc7, cc8, cc9, cc10, cc11, cc16, cc17, cc18, cc19, ll12, ll13, f12_13⟩ := hJ
      have e1 := (hb' 1 (by simp)).trans s1
      clear hb hb'
      have hfin := hK (.pointer (some ⟨gv, 4, none⟩)) _ ⟨hX0, fun h => cc0 (h.resolve_right (by decide)), fun h => cc1 (h.resolve_right (by decide)), fun h => cc2 (h.resolve_right (by decide)), fun h => cc3 (h.resolve_right (by decide)), fun _ => rfl, fun h => cc5 (h.resolve_right (by decide)), fun h => cc6 (h.resolve_right (by decide)), fun h => cc7 (h.resolve_right (by decide)), fun h => cc8 (h.resolve_right (by decide)), fun h => cc9 (h.resolve_right (by decide)), fun h => cc10 (h.resolve_right (by decide)), fun h => cc11 (h.resolve_right (by decide)), fun h => cc16 (h.resolve_right (by decide)), fun h => cc17 (h.resolve_right (by decide)), fun h => cc18 (h.resolve_right (by decide)), fun h => cc19 (h.resolve_right (by decide)), Loc.same ll12 ⟨fun h => h.resolve_right (by decide), .inl⟩ ⟨fun h => h.resolve_right (by decide), .inl⟩, Loc.same ll13 ⟨fun h => h.resolve_right (by decide), .inl⟩ ⟨fun h => h.resolve_right (by decide), .inl⟩, fun h h' => f12_13 (h.resolve_right (by decide)) (h'.resolve_right (by decide))⟩
      clear hK cc0 cc1 cc2 cc3 cc4 cc5 cc6 cc7 cc8 cc9 cc10 cc11 cc16 cc17 cc18 cc19 ll12 ll13 f12_13
      go_simp
      exact hfin
    · intro done us W hJ hdep haft hnot b hb hb' K hK Q'
      obtain ⟨hX0, cc0, cc1, cc2, cc3, cc4, cc5, cc6, cc7, cc8, cc9, cc10, cc11, cc16, cc17, cc18, cc19, ll12, ll13, f12_13⟩ := hJ
      simp only [List.getD_cons_succ, List.getD_cons_zero, List.mem_cons, List.not_mem_nil, or_false, forall_eq_or_imp, forall_eq] at hdep
      have e20 := hb 4 20 rfl
      rw [cc4 hdep] at e20
      clear hb hb'
      have q0 := Ext.cell hX0 h4
      have hfin := hK (.int .u32 u1) _ ⟨hX0, fun h => cc0 (h.resolve_right (by decide)), fun h => cc1 (h.resolve_right (by decide)), fun h => cc2 (h.resolve_right (by decide)), fun h => cc3 (h.resolve_right (by decide)), fun h => cc4 (h.resolve_right (by decide)), fun _ => rfl, fun h => cc6 (h.resolve_right (by decide)), fun h => cc7 (h.resolve_right (by decide)), fun h => cc8 (h.resolve_right (by decide)), fun h => cc9 (h.resolve_right (by decide)), fun h => cc10 (h.resolve_right (by decide)), fun h => cc11 (h.resolve_right (by decide)), fun h => cc16 (h.resolve_right (by decide)), fun h => cc17 (h.resolve_right (by decide)), fun h => cc18 (h.resolve_right (by decide)), fun h => cc19 (h.resolve_right (by decide)), Loc.same ll12 ⟨fun h => h.resolve_right (by decide), .inl⟩ ⟨fun h => h.resolve_right (by decide), .inl⟩, Loc.same ll13 ⟨fun h => h.resolve_right (by decide), .inl⟩ ⟨fun h => h.resolve_right (by decide), .inl⟩, fun h h' => f12_13 (h.resolve_right (by decide)) (h'.resolve_right (by decide))⟩
      clear hK cc0 cc1 cc2 cc3 cc4 cc5 cc6 cc7 cc8 cc9 cc10 cc11 cc16 cc17 cc18 cc19 ll12 ll13 f12_13
      go_simp
      exact hfin
    · intro done us W hJ hdep haft hnot b hb hb' K hK Q'
      obtain ⟨hX0, cc0, cc1, cc2, cc3, cc4, cc5, cc6, cc7, cc8, cc9, cc10, cc11, cc16, cc17, cc18, cc19, ll12, ll13, f12_13⟩ := hJ
      have e1 := (hb' 1 (by simp)).trans s1
      clear hb hb'
      have hfin := hK (.pointer (some ⟨gv, 5, none⟩)) _ ⟨hX0, fun h => cc0 (h.resolve_right (by decide)), fun h => cc1 (h.resolve_right (by decide)), fun h => cc2 (h.resolve_right (by decide)), fun h => cc3 (h.resolve_right (by decide)), fun h => cc4 (h.resolve_right (by decide)), fun h => cc5 (h.resolve_right (by decide)), fun _ => rfl, fun h => cc7 (h.resolve_right (by decide)), fun h => cc8 (h.resolve_right (by decide)), fun h => cc9 (h.resolve_right (by decide)), fun h => cc10 (h.resolve_right (by decide)), fun h => cc11 (h.resolve_right (by decide)), fun h => cc16 (h.resolve_right (by decide)), fun h => cc17 (h.resolve_right (by decide)), fun h => cc18 (h.resolve_right (by decide)), fun h => cc19 (h.resolve_right (by decide)), Loc.same ll12 ⟨fun h => h.resolve_right (by decide), .inl⟩ ⟨fun h => h.resolve_right (by decide), .inl⟩, Loc.same ll13 ⟨fun h => h.resolve_right (by decide), .inl⟩ ⟨fun h => h.resolve_right (by decide), .inl⟩, fun h h' => f12_13 (h.resolve_right (by decide)) (h'.resolve_right (by decide))⟩
      clear hK cc0 cc1 cc2 cc3 cc4 cc5 cc6 cc7 cc8 cc9 cc10 cc11 cc16 cc17 cc18 cc19 ll12 ll13 f12_13
      go_simp
      exact hfin
    · intro done us W hJ hdep haft hnot b hb hb' K hK Q'
      obtain ⟨hX0, cc0, cc1, cc2, cc3, cc4, cc5, cc6, cc7, cc8, cc9, cc10, cc11, cc16, cc17, cc18, cc19, ll12, ll13, f12_13⟩ := hJ
      simp only [List.getD_cons_succ, List.getD_cons_zero, List.mem_cons, List.not_mem_nil, or_false, forall_eq_or_imp, forall_eq] at hdep
      have e22 := hb 6 22 rfl
      rw [cc6 hdep] at e22
      clear hb hb'
      have q0 := Ext.cell hX0 h5
      have hfin := hK (.int .u32 u2) _ ⟨hX0, fun h => cc0 (h.resolve_right (by decide)), fun h => cc1 (h.resolve_right (by decide)), fun h => cc2 (h.resolve_right (by decide)), fun h => cc3 (h.resolve_right (by decide)), fun h => cc4 (h.resolve_right (by decide)), fun h => cc5 (h.resolve_right (by decide)), fun h => cc6 (h.resolve_right (by decide)), fun _ => rfl, fun h => cc8 (h.resolve_right (by decide)), fun h => cc9 (h.resolve_right (by decide)), fun h => cc10 (h.resolve_right (by decide)), fun h => cc11 (h.resolve_right (by decide)), fun h => cc16 (h.resolve_right (by decide)), fun h => cc17 (h.resolve_right (by decide)), fun h => cc18 (h.resolve_right (by decide)), fun h => cc19 (h.resolve_right (by decide)), Loc.same ll12 ⟨fun h => h.resolve_right (by decide), .inl⟩ ⟨fun h => h.resolve_right (by decide), .inl⟩, Loc.same ll13 ⟨fun h => h.resolve_right (by decide), .inl⟩ ⟨fun h => h.resolve_right (by decide), .inl⟩, fun h h' => f12_13 (h.resolve_right (by decide)) (h'.resolve_right (by decide))⟩
      clear hK cc0 cc1 cc2 cc3 cc4 cc5 cc6 cc7 cc8 cc9 cc10 cc11 cc16 cc17 cc18 cc19 ll12 ll13 f12_13
      go_simp
      exact hfin
    · intro done us W hJ hdep haft hnot b hb hb' K hK Q'
      obtain ⟨hX0, cc0, cc1, cc2, cc3, cc4, cc5, cc6, cc7, cc8, cc9, cc10, cc11, cc16, cc17, cc18, cc19, ll12, ll13, f12_13⟩ := hJ
      have e1 := (hb' 1 (by simp)).trans s1
      clear hb hb'
      have hfin := hK (.pointer (some ⟨gv, 6, none⟩)) _ ⟨hX0, fun h => cc0 (h.resolve_right (by decide)), fun h => cc1 (h.resolve_right (by decide)), fun h => cc2 (h.resolve_right (by decide)), fun h => cc3 (h.resolve_right (by decide)), fun h => cc4 (h.resolve_right (by decide)), fun h => cc5 (h.resolve_right (by decide)), fun h => cc6 (h.resolve_right (by decide)), fun h => cc7 (h.resolve_right (by decide)), fun _ => rfl, fun h => cc9 (h.resolve_right (by decide)), fun h => cc10 (h.resolve_right (by decide)), fun h => cc11 (h.resolve_right (by decide)), fun h => cc16 (h.resolve_right (by decide)), fun h => cc17 (h.resolve_right (by decide)), fun h => cc18 (h.resolve_right (by decide)), fun h => cc19 (h.resolve_right (by decide)), Loc.same ll12 ⟨fun h => h.resolve_right (by decide), .inl⟩ ⟨fun h => h.resolve_right (by decide), .inl⟩, Loc.same ll13 ⟨fun h => h.resolve_right (by decide), .inl⟩ ⟨fun h => h.resolve_right (by decide), .inl⟩, fun h h' => f12_13 (h.resolve_right (by decide)) (h'.resolve_right (by decide))⟩
      clear hK cc0 cc1 cc2 cc3 cc4 cc5 cc6 cc7 cc8 cc9 cc10 cc11 cc16 cc17 cc18 cc19 ll12 ll13 f12_13
      go_simp
      exact hfin
    · intro done us W hJ hdep haft hnot b hb hb' K hK Q'
      obtain ⟨hX0, cc0, cc1, cc2, cc3, cc4, cc5, cc6, cc7, cc8, cc9, cc10, cc11, cc16, cc17, cc18, cc19, ll12, ll13, f12_13⟩ := hJ
      simp only [List.getD_cons_succ, List.getD_cons_zero, List.mem_cons, List.not_mem_nil, or_false, forall_eq_or_imp, forall_eq] at hdep
      have e24 := hb 8 24 rfl
      rw [cc8 hdep] at e24
      clear hb hb'
      have q0 := Ext.cell hX0 h6
      have hfin := hK (.int .u32 u3) _ ⟨hX0, fun h => cc0 (h.resolve_right (by decide)), fun h => cc1 (h.resolve_right (by decide)), fun h => cc2 (h.resolve_right (by decide)), fun h => cc3 (h.resolve_right (by decide)), fun h => cc4 (h.resolve_right (by decide)), fun h => cc5 (h.resolve_right (by decide)), fun h => cc6 (h.resolve_right (by decide)), fun h => cc7 (h.resolve_right (by decide)), fun h => cc8 (h.resolve_right (by decide)), fun _ => rfl, fun h => cc10 (h.resolve_right (by decide)), fun h => cc11 (h.resolve_right (by decide)), fun h => cc16 (h.resolve_right (by decide)), fun h => cc17 (h.resolve_right (by decide)), fun h => cc18 (h.resolve_right (by decide)), fun h => cc19 (h.resolve_right (by decide)), Loc.same ll12 ⟨fun h => h.resolve_right (by decide), .inl⟩ ⟨fun h => h.resolve_right (by decide), .inl⟩, Loc.same ll13 ⟨fun h => h.resolve_right (by decide), .inl⟩ ⟨fun h => h.resolve_right (by decide), .inl⟩, fun h h' => f12_13 (h.resolve_right (by decide)) (h'.resolve_right (by decide))⟩
      clear hK cc0 cc1 cc2 cc3 cc4 cc5 cc6 cc7 cc8 cc9 cc10 cc11 cc16 cc17 cc18 cc19 ll12 ll13 f12_13
      go_simp
      exact hfin
    · intro done us W hJ hdep haft hnot b hb hb' K hK Q'
      obtain ⟨hX0, cc0, cc1, cc2, cc3, cc4, cc5, cc6, cc7, cc8, cc9, cc10, cc11, cc16, cc17, cc18, cc19, ll12, ll13, f12_13⟩ := hJ
      have e1 := (hb' 1 (by simp)).trans s1
      clear hb hb'
      have hfin := hK (.pointer (some ⟨gv, 7, none⟩)) _ ⟨hX0, fun h => cc0 (h.resolve_right (by decide)), fun h => cc1 (h.resolve_right (by decide)), fun h => cc2 (h.resolve_right (by decide)), fun h => cc3 (h.resolve_right (by decide)), fun h => cc4 (h.resolve_right (by decide)), fun h => cc5 (h.resolve_right (by decide)), fun h => cc6 (h.resolve_right (by decide)), fun h => cc7 (h.resolve_right (by decide)), fun h => cc8 (h.resolve_right (by decide)), fun h => cc9 (h.resolve_right (by decide)), fun _ => rfl, fun h => cc11 (h.resolve_right (by decide)), fun h => cc16 (h.resolve_right (by decide)), fun h => cc17 (h.resolve_right (by decide)), fun h => cc18 (h.resolve_right (by decide)), fun h => cc19 (h.resolve_right (by decide)), Loc.same ll12 ⟨fun h => h.resolve_right (by decide), .inl⟩ ⟨fun h => h.resolve_right (by decide), .inl⟩, Loc.same ll13 ⟨fun h => h.resolve_right (by decide), .inl⟩ ⟨fun h => h.resolve_right (by decide), .inl⟩, fun h h' => f12_13 (h.resolve_right (by decide)) (h'.resolve_right (by decide))⟩
      clear hK cc0 cc1 cc2 cc3 cc4 cc5 cc6 cc7 cc8 cc9 cc10 cc11 cc16 cc17 cc18 cc19 ll12 ll13 f12_13
      go_simp
      exact hfin
    · intro done us W hJ hdep haft hnot b hb hb' K hK Q'
      obtain ⟨hX0, cc0, cc1, cc2, cc3, cc4, cc5, cc6, cc7, cc8, cc9, cc10, cc11, cc16, cc17, cc18, cc19, ll12, ll13, f12_13⟩ := hJ
      simp only [List.getD_cons_succ, List.getD_cons_zero, List.mem_cons, List.not_mem_nil, or_false, forall_eq_or_imp, forall_eq] at hdep
      have e26 := hb 10 26 rfl
      rw [cc10 hdep] at e26
      clear hb hb'
      have q0 := Ext.cell hX0 h7
      have hfin := hK (.int .u32 u4) _ ⟨hX0, fun h => cc0 (h.resolve_right (by decide)), fun h => cc1 (h.resolve_right (by decide)), fun h => cc2 (h.resolve_right (by decide)), fun h => cc3 (h.resolve_right (by decide)), fun h => cc4 (h.resolve_right (by decide)), fun h => cc5 (h.resolve_right (by decide)), fun h => cc6 (h.resolve_right (by decide)), fun h => cc7 (h.resolve_right (by decide)), fun h => cc8 (h.resolve_right (by decide)), fun h => cc9 (h.resolve_right (by decide)), fun h => cc10 (h.resolve_right (by decide)), fun _ => rfl, fun h => cc16 (h.resolve_right (by decide)), fun h => cc17 (h.resolve_right (by decide)), fun h => cc18 (h.resolve_right (by decide)), fun h => cc19 (h.resolve_right (by decide)), Loc.same ll12 ⟨fun h => h.resolve_right (by decide), .inl⟩ ⟨fun h => h.resolve_right (by decide), .inl⟩, Loc.same ll13 ⟨fun h => h.resolve_right (by decide), .inl⟩ ⟨fun h => h.resolve_right (by decide), .inl⟩, fun h h' => f12_13 (h.resolve_right (by decide)) (h'.resolve_right (by decide))⟩
      clear hK cc0 cc1 cc2 cc3 cc4 cc5 cc6 cc7 cc8 cc9 cc10 cc11 cc16 cc17 cc18 cc19 ll12 ll13 f12_13
      go_simp
      exact hfin
    · intro done us W hJ hdep haft hnot b hb hb' K hK Q'
      obtain ⟨hX0, cc0, cc1, cc2, cc3, cc4, cc5, cc6, cc7, cc8, cc9, cc10, cc11, cc16, cc17, cc18, cc19, ll12, ll13, f12_13⟩ := hJ
      simp only [List.getD_cons_succ, List.getD_cons_zero, List.mem_cons, List.not_mem_nil, or_false, forall_eq_or_imp, forall_eq] at haft
      clear hb hb'
      have hfin := hK _ _ ⟨hX0.alloc _, fun h => cc0 (h.resolve_right (by decide)), fun h => cc1 (h.resolve_right (by decide)), fun h => cc2 (h.resolve_right (by decide)), fun h => cc3 (h.resolve_right (by decide)), fun h => cc4 (h.resolve_right (by decide)), fun h => cc5 (h.resolve_right (by decide)), fun h => cc6 (h.resolve_right (by decide)), fun h => cc7 (h.resolve_right (by decide)), fun h => cc8 (h.resolve_right (by decide)), fun h => cc9 (h.resolve_right (by decide)), fun h => cc10 (h.resolve_right (by decide)), fun h => cc11 (h.resolve_right (by decide)), fun h => cc16 (h.resolve_right (by decide)), fun h => cc17 (h.resolve_right (by decide)), fun h => cc18 (h.resolve_right (by decide)), fun h => cc19 (h.resolve_right (by decide)), Loc.new w W hX0 (fun h => h.elim haft (by decide)) (Ext.refl _), Loc.same (ll13.ext ((Ext.refl _).alloc _)) ⟨fun h => h.resolve_right (by decide), .inl⟩ ⟨fun h => h.resolve_right (by decide), .inl⟩, fun _ h => Ne.symm (ll13.far_new (h.resolve_right (by decide)))⟩
      clear hK hX0 cc0 cc1 cc2 cc3 cc4 cc5 cc6 cc7 cc8 cc9 cc10 cc11 cc16 cc17 cc18 cc19 ll12 ll13 f12_13
      go_simp
      exact hfin
    · intro done us W hJ hdep haft hnot b hb hb' K hK Q'
      obtain ⟨hX0, cc0, cc1, cc2, cc3, cc4, cc5, cc6, cc7, cc8, cc9, cc10, cc11, cc16, cc17, cc18, cc19, ll12, ll13, f12_13⟩ := hJ
      simp only [List.getD_cons_succ, List.getD_cons_zero, List.mem_cons, List.not_mem_nil, or_false, forall_eq_or_imp, forall_eq] at haft
      clear hb hb'
      have hfin := hK _ _ ⟨hX0.alloc _, fun h => cc0 (h.resolve_right (by decide)), fun h => cc1 (h.resolve_right (by decide)), fun h => cc2 (h.resolve_right (by decide)), fun h => cc3 (h.resolve_right (by decide)), fun h => cc4 (h.resolve_right (by decide)), fun h => cc5 (h.resolve_right (by decide)), fun h => cc6 (h.resolve_right (by decide)), fun h => cc7 (h.resolve_right (by decide)), fun h => cc8 (h.resolve_right (by decide)), fun h => cc9 (h.resolve_right (by decide)), fun h => cc10 (h.resolve_right (by decide)), fun h => cc11 (h.resolve_right (by decide)), fun h => cc16 (h.resolve_right (by decide)), fun h => cc17 (h.resolve_right (by decide)), fun h => cc18 (h.resolve_right (by decide)), fun h => cc19 (h.resolve_right (by decide)), Loc.same (ll12.ext ((Ext.refl _).alloc _)) ⟨fun h => h.resolve_right (by decide), .inl⟩ ⟨fun h => h.resolve_right (by decide), .inl⟩, Loc.new w W hX0 (fun h => h.elim haft (by decide)) (Ext.refl _), fun h _ => ll12.far_new (h.resolve_right (by decide))⟩
      clear hK hX0 cc0 cc1 cc2 cc3 cc4 cc5 cc6 cc7 cc8 cc9 cc10 cc11 cc16 cc17 cc18 cc19 ll12 ll13 f12_13
      go_simp
      exact hfin
    · intro done us W hJ hdep haft hnot b hb hb' K hK Q'
      obtain ⟨hX0, cc0, cc1, cc2, cc3, cc4, cc5, cc6, cc7, cc8, cc9, cc10, cc11, cc16, cc17, cc18, cc19, ll12, ll13, f12_13⟩ := hJ
      simp only [List.getD_cons_succ, List.getD_cons_zero, List.mem_cons, List.not_mem_nil, or_false, forall_eq_or_imp, forall_eq] at hdep
      have e3 := hb 12 3 rfl
      have e17 := hb 1 17 rfl
      rw [cc1 hdep.1] at e17
      obtain ⟨g, eg, hg, hB⟩ := ll12.stored hdep.2 hnot
      rw [eg] at e3
      have q0 : W.cell? ⟨g, 0, none⟩ = some (.int .i64 0) := hB.cell 0
      have z0 : W.frozen? ⟨g, 0, none⟩ = false := hB.free 0
      have q1 : W.cell? ⟨g, 1, none⟩ = some (.int .i64 0) := hB.cell 1
      have z1 : W.frozen? ⟨g, 1, none⟩ = false := hB.free 1
      clear hb hb'
      have hfin := hK undef _ ⟨((hX0.setCell hg _).setCell hg _), fun h => cc0 (h.resolve_right (by decide)), fun h => cc1 (h.resolve_right (by decide)), fun h => cc2 (h.resolve_right (by decide)), fun h => cc3 (h.resolve_right (by decide)), fun h => cc4 (h.resolve_right (by decide)), fun h => cc5 (h.resolve_right (by decide)), fun h => cc6 (h.resolve_right (by decide)), fun h => cc7 (h.resolve_right (by decide)), fun h => cc8 (h.resolve_right (by decide)), fun h => cc9 (h.resolve_right (by decide)), fun h => cc10 (h.resolve_right (by decide)), fun h => cc11 (h.resolve_right (by decide)), fun h => cc16 (h.resolve_right (by decide)), fun h => cc17 (h.resolve_right (by decide)), fun h => cc18 (h.resolve_right (by decide)), fun h => cc19 (h.resolve_right (by decide)), ⟨fun _ => ⟨g, eg, hg, fun _ => (Blk.set (Blk.set hB 0 _) 1 _), fun h => absurd (.inr rfl) h⟩⟩, Loc.same (Loc.keep (Loc.keep ll13 (f := (fun h k => Ne.symm (f12_13 k h))) hdep.2 eg) (f := (fun h k => Ne.symm (f12_13 k h))) hdep.2 eg) ⟨fun h => h.resolve_right (by decide), .inl⟩ ⟨fun h => h.resolve_right (by decide), .inl⟩, fun h h' => f12_13 (h.resolve_right (by decide)) (h'.resolve_right (by decide))⟩
      clear hK hX0 cc0 cc1 cc2 cc3 cc4 cc5 cc6 cc7 cc8 cc9 cc10 cc11 cc16 cc17 cc18 cc19 ll12 ll13 f12_13
      go_simp
      exact hfin
    · intro done us W hJ hdep haft hnot b hb hb' K hK Q'
      obtain ⟨hX0, cc0, cc1, cc2, cc3, cc4, cc5, cc6, cc7, cc8, cc9, cc10, cc11, cc16, cc17, cc18, cc19, ll12, ll13, f12_13⟩ := hJ
      simp only [List.getD_cons_succ, List.getD_cons_zero, List.mem_cons, List.not_mem_nil, or_false, forall_eq_or_imp, forall_eq] at hdep
      have e4 := hb 13 4 rfl
      have e19 := hb 3 19 rfl
      rw [cc3 hdep.1] at e19
      obtain ⟨g, eg, hg, hB⟩ := ll13.stored hdep.2 hnot
      rw [eg] at e4
      have q0 : W.cell? ⟨g, 0, none⟩ = some (.int .i64 0) := hB.cell 0
      have z0 : W.frozen? ⟨g, 0, none⟩ = false := hB.free 0
      have q1 : W.cell? ⟨g, 1, none⟩ = some (.int .i64 0) := hB.cell 1
      have z1 : W.frozen? ⟨g, 1, none⟩ = false := hB.free 1
      clear hb hb'
      have hfin := hK undef _ ⟨((hX0.setCell hg _).setCell hg _), fun h => cc0 (h.resolve_right (by decide)), fun h => cc1 (h.resolve_right (by decide)), fun h => cc2 (h.resolve_right (by decide)), fun h => cc3 (h.resolve_right (by decide)), fun h => cc4 (h.resolve_right (by decide)), fun h => cc5 (h.resolve_right (by decide)), fun h => cc6 (h.resolve_right (by decide)), fun h => cc7 (h.resolve_right (by decide)), fun h => cc8 (h.resolve_right (by decide)), fun h => cc9 (h.resolve_right (by decide)), fun h => cc10 (h.resolve_right (by decide)), fun h => cc11 (h.resolve_right (by decide)), fun h => cc16 (h.resolve_right (by decide)), fun h => cc17 (h.resolve_right (by decide)), fun h => cc18 (h.resolve_right (by decide)), fun h => cc19 (h.resolve_right (by decide)), Loc.same (Loc.keep (Loc.keep ll12 (f := f12_13) hdep.2 eg) (f := f12_13) hdep.2 eg) ⟨fun h => h.resolve_right (by decide), .inl⟩ ⟨fun h => h.resolve_right (by decide), .inl⟩, ⟨fun _ => ⟨g, eg, hg, fun _ => (Blk.set (Blk.set hB 0 _) 1 _), fun h => absurd (.inr rfl) h⟩⟩, fun h h' => f12_13 (h.resolve_right (by decide)) (h'.resolve_right (by decide))⟩
      clear hK hX0 cc0 cc1 cc2 cc3 cc4 cc5 cc6 cc7 cc8 cc9 cc10 cc11 cc16 cc17 cc18 cc19 ll12 ll13 f12_13
      go_simp
      exact hfin
    · intro done us W hJ hdep haft hnot b hb hb' K hK Q'
      obtain ⟨hX0, cc0, cc1, cc2, cc3, cc4, cc5, cc6, cc7, cc8, cc9, cc10, cc11, cc16, cc17, cc18, cc19, ll12, ll13, f12_13⟩ := hJ
      simp only [List.getD_cons_succ, List.getD_cons_zero, List.mem_cons, List.not_mem_nil, or_false, forall_eq_or_imp, forall_eq] at hdep
      have e21 := hb 5 21 rfl
      rw [cc5 hdep] at e21
      clear hb hb'
      have hfin := hK (.int .u32 u1) _ ⟨hX0, fun h => cc0 (h.resolve_right (by decide)), fun h => cc1 (h.resolve_right (by decide)), fun h => cc2 (h.resolve_right (by decide)), fun h => cc3 (h.resolve_right (by decide)), fun h => cc4 (h.resolve_right (by decide)), fun h => cc5 (h.resolve_right (by decide)), fun h => cc6 (h.resolve_right (by decide)), fun h => cc7 (h.resolve_right (by decide)), fun h => cc8 (h.resolve_right (by decide)), fun h => cc9 (h.resolve_right (by decide)), fun h => cc10 (h.resolve_right (by decide)), fun h => cc11 (h.resolve_right (by decide)), fun _ => rfl, fun h => cc17 (h.resolve_right (by decide)), fun h => cc18 (h.resolve_right (by decide)), fun h => cc19 (h.resolve_right (by decide)), Loc.same ll12 ⟨fun h => h.resolve_right (by decide), .inl⟩ ⟨fun h => h.resolve_right (by decide), .inl⟩, Loc.same ll13 ⟨fun h => h.resolve_right (by decide), .inl⟩ ⟨fun h => h.resolve_right (by decide), .inl⟩, fun h h' => f12_13 (h.resolve_right (by decide)) (h'.resolve_right (by decide))⟩
      clear hK cc0 cc1 cc2 cc3 cc4 cc5 cc6 cc7 cc8 cc9 cc10 cc11 cc16 cc17 cc18 cc19 ll12 ll13 f12_13
      go_simp
      exact hfin
    · intro done us W hJ hdep haft hnot b hb hb' K hK Q'
      obtain ⟨hX0, cc0, cc1, cc2, cc3, cc4, cc5, cc6, cc7, cc8, cc9, cc10, cc11, cc16, cc17, cc18, cc19, ll12, ll13, f12_13⟩ := hJ
      simp only [List.getD_cons_succ, List.getD_cons_zero, List.mem_cons, List.not_mem_nil, or_false, forall_eq_or_imp, forall_eq] at hdep
      have e23 := hb 7 23 rfl
      rw [cc7 hdep] at e23
      clear hb hb'
      have hfin := hK (.int .u32 u2) _ ⟨hX0, fun h => cc0 (h.resolve_right (by decide)), fun h => cc1 (h.resolve_right (by decide)), fun h => cc2 (h.resolve_right (by decide)), fun h => cc3 (h.resolve_right (by decide)), fun h => cc4 (h.resolve_right (by decide)), fun h => cc5 (h.resolve_right (by decide)), fun h => cc6 (h.resolve_right (by decide)), fun h => cc7 (h.resolve_right (by decide)), fun h => cc8 (h.resolve_right (by decide)), fun h => cc9 (h.resolve_right (by decide)), fun h => cc10 (h.resolve_right (by decide)), fun h => cc11 (h.resolve_right (by decide)), fun h => cc16 (h.resolve_right (by decide)), fun _ => rfl, fun h => cc18 (h.resolve_right (by decide)), fun h => cc19 (h.resolve_right (by decide)), Loc.same ll12 ⟨fun h => h.resolve_right (by decide), .inl⟩ ⟨fun h => h.resolve_right (by decide), .inl⟩, Loc.same ll13 ⟨fun h => h.resolve_right (by decide), .inl⟩ ⟨fun h => h.resolve_right (by decide), .inl⟩, fun h h' => f12_13 (h.resolve_right (by decide)) (h'.resolve_right (by decide))⟩
      clear hK cc0 cc1 cc2 cc3 cc4 cc5 cc6 cc7 cc8 cc9 cc10 cc11 cc16 cc17 cc18 cc19 ll12 ll13 f12_13
      go_simp
      exact hfin
    · intro done us W hJ hdep haft hnot b hb hb' K hK Q'
      obtain ⟨hX0, cc0, cc1, cc2, cc3, cc4, cc5, cc6, cc7, cc8, cc9, cc10, cc11, cc16, cc17, cc18, cc19, ll12, ll13, f12_13⟩ := hJ
      simp only [List.getD_cons_succ, List.getD_cons_zero, List.mem_cons, List.not_mem_nil, or_false, forall_eq_or_imp, forall_eq] at hdep
      have e25 := hb 9 25 rfl
      rw [cc9 hdep] at e25
      clear hb hb'
      have hfin := hK (.int .u32 u3) _ ⟨hX0, fun h => cc0 (h.resolve_right (by decide)), fun h => cc1 (h.resolve_right (by decide)), fun h => cc2 (h.resolve_right (by decide)), fun h => cc3 (h.resolve_right (by decide)), fun h => cc4 (h.resolve_right (by decide)), fun h => cc5 (h.resolve_right (by decide)), fun h => cc6 (h.resolve_right (by decide)), fun h => cc7 (h.resolve_right (by decide)), fun h => cc8 (h.resolve_right (by decide)), fun h => cc9 (h.resolve_right (by decide)), fun h => cc10 (h.resolve_right (by decide)), fun h => cc11 (h.resolve_right (by decide)), fun h => cc16 (h.resolve_right (by decide)), fun h => cc17 (h.resolve_right (by decide)), fun _ => rfl, fun h => cc19 (h.resolve_right (by decide)), Loc.same ll12 ⟨fun h => h.resolve_right (by decide), .inl⟩ ⟨fun h => h.resolve_right (by decide), .inl⟩, Loc.same ll13 ⟨fun h => h.resolve_right (by decide), .inl⟩ ⟨fun h => h.resolve_right (by decide), .inl⟩, fun h h' => f12_13 (h.resolve_right (by decide)) (h'.resolve_right (by decide))⟩
      clear hK cc0 cc1 cc2 cc3 cc4 cc5 cc6 cc7 cc8 cc9 cc10 cc11 cc16 cc17 cc18 cc19 ll12 ll13 f12_13
      go_simp
      exact hfin
    · intro done us W hJ hdep haft hnot b hb hb' K hK Q'
      obtain ⟨hX0, cc0, cc1, cc2, cc3, cc4, cc5, cc6, cc7, cc8, cc9, cc10, cc11, cc16, cc17, cc18, cc19, ll12, ll13, f12_13⟩ := hJ
      simp only [List.getD_cons_succ, List.getD_cons_zero, List.mem_cons, List.not_mem_nil, or_false, forall_eq_or_imp, forall_eq] at hdep
      have e27 := hb 11 27 rfl
      rw [cc11 hdep] at e27
      clear hb hb'
      have hfin := hK (.int .u32 u4) _ ⟨hX0, fun h => cc0 (h.resolve_right (by decide)), fun h => cc1 (h.resolve_right (by decide)), fun h => cc2 (h.resolve_right (by decide)), fun h => cc3 (h.resolve_right (by decide)), fun h => cc4 (h.resolve_right (by decide)), fun h => cc5 (h.resolve_right (by decide)), fun h => cc6 (h.resolve_right (by decide)), fun h => cc7 (h.resolve_right (by decide)), fun h => cc8 (h.resolve_right (by decide)), fun h => cc9 (h.resolve_right (by decide)), fun h => cc10 (h.resolve_right (by decide)), fun h => cc11 (h.resolve_right (by decide)), fun h => cc16 (h.resolve_right (by decide)), fun h => cc17 (h.resolve_right (by decide)), fun h => cc18 (h.resolve_right (by decide)), fun _ => rfl, Loc.same ll12 ⟨fun h => h.resolve_right (by decide), .inl⟩ ⟨fun h => h.resolve_right (by decide), .inl⟩, Loc.same ll13 ⟨fun h => h.resolve_right (by decide), .inl⟩ ⟨fun h => h.resolve_right (by decide), .inl⟩, fun h h' => f12_13 (h.resolve_right (by decide)) (h'.resolve_right (by decide))⟩
      clear hK cc0 cc1 cc2 cc3 cc4 cc5 cc6 cc7 cc8 cc9 cc10 cc11 cc16 cc17 cc18 cc19 ll12 ll13 f12_13
      go_simp
      exact hfin
  · intro us W hJ
    obtain ⟨hX0, cc0, cc1, cc2, cc3, cc4, cc5, cc6, cc7, cc8, cc9, cc10, cc11, cc16, cc17, cc18, cc19, ll12, ll13, f12_13⟩ := hJ
    rw [show (rops Try.f13 1).drop 20 = [] by kernel_rfl]
    exact hend (us 0) (us 1) (us 2) (us 3) (us 4) (us 5) (us 6) (us 7) (us 8) (us 9) (us 10) (us 11) (us 12) (us 13) (us 14) (us 15) (us 16) (us 17) (us 18) (us 19) W (cc0 (show 0 < 20 by decide)) (cc1 (show 1 < 20 by decide)) (cc2 (show 2 < 20 by decide)) (cc3 (show 3 < 20 by decide)) (cc4 (show 4 < 20 by decide)) (cc5 (show 5 < 20 by decide)) (cc6 (show 6 < 20 by decide)) (cc7 (show 7 < 20 by decide)) (cc8 (show 8 < 20 by decide)) (cc9 (show 9 < 20 by decide)) (cc10 (show 10 < 20 by decide)) (cc11 (show 11 < 20 by decide)) (cc16 (show 16 < 20 by decide)) (cc17 (show 17 < 20 by decide)) (cc18 (show 18 < 20 by decide)) (cc19 (show 19 < 20 by decide)) (ll12.done (show 12 < 20 by decide) (show 14 < 20 by decide)) (ll13.done (show 13 < 20 by decide) (show 15 < 20 by decide)) (f12_13 (show 12 < 20 by decide) (show 13 < 20 by decide)) hX0
set_option maxRecDepth 100000 in
set_option maxHeartbeats 2000000 in
theorem open_Contains4 (ga gb : Nat) (xa xb xc xd u1 u2 u3 u4 : Int) (w : World) (a0 : w.cell? ⟨ga, 0, none⟩ = some (.int .i64 xa)) (a1 : w.cell? ⟨ga, 1, none⟩ = some (.int .i64 xb)) (b0 : w.cell? ⟨gb, 0, none⟩ = some (.int .i64 xc)) (b1 : w.cell? ⟨gb, 1, none⟩ = some (.int .i64 xd)) (ha : Hid (-1152921504606846976 ≤ xa ∧ xa ≤ xb ∧ xb ≤ 1152921504606846976)) (hb : Hid (-1152921504606846976 ≤ xc ∧ xc ≤ xd ∧ xd ≤ 1152921504606846976)) (hu1 : Hid (0 ≤ u1 ∧ u1 ≤ 4294967295)) (hu2 : Hid (0 ≤ u2 ∧ u2 ≤ 4294967295)) (hu3 : Hid (0 ≤ u3 ∧ u3 ≤ 4294967295)) (hu4 : Hid (0 ≤ u4 ∧ u4 ≤ 4294967295)) (a : Act) (Q : Exit → Act → World → Prop) (hsize : 55 ≤ a.tmps.size)
    (s3 : a.tmps[3]? = some (.pointer (some ⟨ga, 0, none⟩)))
    (s4 : a.tmps[4]? = some (.pointer (some ⟨gb, 0, none⟩)))
    (s5 : a.tmps[5]? = some (.int .u32 u1))
    (s6 : a.tmps[6]? = some (.int .u32 u2))
    (s7 : a.tmps[7]? = some (.int .u32 u3))
    (s8 : a.tmps[8]? = some (.int .u32 u4))
    (hend : ∀ (xv0 xv1 xv2 xv3 xv4 xv5 xv6 xv7 xv8 xv9 xv10 xv11 : Value) (W : World), (xv0 = .agg #[.int .i64 (xa), .int .i64 (xb)]) → (xv1 = .int .u32 u1) → (xv2 = .int .u32 u2) → (xv3 = .agg #[.int .i64 (min (ptX xa xb u1) (ptY xa xb u2)), .int .i64 (max (ptX xa xb u1) (ptY xa xb u2))]) → (xv4 = .agg #[.int .i64 (xc), .int .i64 (xd)]) → (xv5 = .int .u32 u3) → (xv6 = .int .u32 u4) → (xv7 = .agg #[.int .i64 (min (ptX xc xd u3) (ptY xc xd u4)), .int .i64 (max (ptX xc xd u3) (ptY xc xd u4))]) → (∃ g, xv8 = .pointer (some ⟨g, 0, none⟩) ∧ w.heap.size ≤ g ∧ Blk W g 62 #[.int .i64 (min (ptX xa xb u1) (ptY xa xb u2)), .int .i64 (max (ptX xa xb u1) (ptY xa xb u2))]) → (∃ g, xv9 = .pointer (some ⟨g, 0, none⟩) ∧ w.heap.size ≤ g ∧ Blk W g 62 #[.int .i64 (min (ptX xc xd u3) (ptY xc xd u4)), .int .i64 (max (ptX xc xd u3) (ptY xc xd u4))]) → (xv8 ≠ xv9) → Ext w W → wpList Try.prog (rops Try.f13 4).toArray Q [] ((((((((((((a.put (some 47) xv0).put (some 48) xv1).put (some 49) xv2).put (some 50) xv3).put (some 51) xv4).put (some 52) xv5).put (some 53) xv6).put (some 54) xv7).put (some 9) xv8).put (some 10) xv9).put (none) xv10).put (none) xv11) W) :
    (Code.region 4 (rops Try.f13 4).toArray true).wp Try.prog Q a w := by
  have hsz : ∀ d, some d ∈ ([some 47, some 48, some 49, some 50, some 51, some 52, some 53, some 54, some 9, some 10, none, none] : List (Option Tmp)) → d < a.tmps.size := slots_lt (by decide) hsize
  refine wp_region_g 12 [some 47, some 48, some 49, some 50, some 51, some 52, some 53, some 54, some 9, some 10, none, none] [[], [], [], [0, 1, 2], [], [], [], [4, 5, 6], [], [], [3, 8], [7, 9]] [[], [], [], [], [], [], [], [], [10], [11], [], []] (fun (done : Nat → Prop) (us : Nat → Value) (W : World) => Ext w W ∧ (done 0 → us 0 = .agg #[.int .i64 (xa), .int .i64 (xb)]) ∧ (done 1 → us 1 = .int .u32 u1) ∧ (done 2 → us 2 = .int .u32 u2) ∧ (done 3 → us 3 = .agg #[.int .i64 (min (ptX xa xb u1) (ptY xa xb u2)), .int .i64 (max (ptX xa xb u1) (ptY xa xb u2))]) ∧ (done 4 → us 4 = .agg #[.int .i64 (xc), .int .i64 (xd)]) ∧ (done 5 → us 5 = .int .u32 u3) ∧ (done 6 → us 6 = .int .u32 u4) ∧ (done 7 → us 7 = .agg #[.int .i64 (min (ptX xc xd u3) (ptY xc xd u4)), .int .i64 (max (ptX xc xd u3) (ptY xc xd u4))]) ∧ Loc w W 62 #[.int .i64 0, .int .i64 0] #[.int .i64 (min (ptX xa xb u1) (ptY xa xb u2)), .int .i64 (max (ptX xa xb u1) (ptY xa xb u2))] (done 8) (done 10) (us 8) ∧ Loc w W 62 #[.int .i64 0, .int .i64 0] #[.int .i64 (min (ptX xc xd u3) (ptY xc xd u4)), .int .i64 (max (ptX xc xd u3) (ptY xc xd u4))] (done 9) (done 11) (us 9) ∧ Far (done 8) (done 9) (us 8) (us 9)) (by kernel_rfl) (by kernel_rfl) hsz (fun p q us W h => by have e : p = q := funext fun k => propext (h k); rw [e]; exact id) (fun us => ⟨(Ext.refl w).drew, fun h => h.elim, fun h => h.elim, fun h => h.elim, fun h => h.elim, fun h => h.elim, fun h => h.elim, fun h => h.elim, fun h => h.elim, Loc.unmade id, Loc.unmade id, fun h => h.elim⟩) ?_ ?_
  · clear hend
    simp only [rops, Try.f13, regOf, Option.bind_some, Nat.reduceBEq, if_true, if_false, Bool.false_eq_true, Option.getD_some]
    simp only [List.take_succ_cons, List.take_zero]
    refine ⟨?_, ?_, ?_, ?_, ?_, ?_, ?_, ?_, ?_, ?_, ?_, ?_, trivial⟩
    · intro done us W hJ hdep haft hnot b hb hb' K hK Q'
      obtain ⟨hX0, cc0, cc1, cc2, cc3, cc4, cc5, cc6, cc7, ll8, ll9, f8_9⟩ := hJ
      have e3 := (hb' 3 (by simp)).trans s3
      clear hb hb'
      have q0 := Ext.cell hX0 a0
      have q1 := Ext.cell hX0 a1
      have hfin := hK (.agg #[.int .i64 (xa), .int .i64 (xb)]) _ ⟨hX0, fun _ => rfl, fun h => cc1 (h.resolve_right (by decide)), fun h => cc2 (h.resolve_right (by decide)), fun h => cc3 (h.resolve_right (by decide)), fun h => cc4 (h.resolve_right (by decide)), fun h => cc5 (h.resolve_right (by decide)), fun h => cc6 (h.resolve_right (by decide)), fun h => cc7 (h.resolve_right (by decide)), Loc.same ll8 ⟨fun h => h.resolve_right (by decide), .inl⟩ ⟨fun h => h.resolve_right (by decide), .inl⟩, Loc.same ll9 ⟨fun h => h.resolve_right (by decide), .inl⟩ ⟨fun h => h.resolve_right (by decide), .inl⟩, fun h h' => f8_9 (h.resolve_right (by decide)) (h'.resolve_right (by decide))⟩
      clear hK cc0 cc1 cc2 cc3 cc4 cc5 cc6 cc7 ll8 ll9 f8_9
      go_simp
      exact hfin
    · intro done us W hJ hdep haft hnot b hb hb' K hK Q'
      obtain ⟨hX0, cc0, cc1, cc2, cc3, cc4, cc5, cc6, cc7, ll8, ll9, f8_9⟩ := hJ
      have e5 := (hb' 5 (by simp)).trans s5
      clear hb hb'
      have hfin := hK (.int .u32 u1) _ ⟨hX0, fun h => cc0 (h.resolve_right (by decide)), fun _ => rfl, fun h => cc2 (h.resolve_right (by decide)), fun h => cc3 (h.resolve_right (by decide)), fun h => cc4 (h.resolve_right (by decide)), fun h => cc5 (h.resolve_right (by decide)), fun h => cc6 (h.resolve_right (by decide)), fun h => cc7 (h.resolve_right (by decide)), Loc.same ll8 ⟨fun h => h.resolve_right (by decide), .inl⟩ ⟨fun h => h.resolve_right (by decide), .inl⟩, Loc.same ll9 ⟨fun h => h.resolve_right (by decide), .inl⟩ ⟨fun h => h.resolve_right (by decide), .inl⟩, fun h h' => f8_9 (h.resolve_right (by decide)) (h'.resolve_right (by decide))⟩
      clear hK cc0 cc1 cc2 cc3 cc4 cc5 cc6 cc7 ll8 ll9 f8_9
      go_simp
      exact hfin
    · intro done us W hJ hdep haft hnot b hb hb' K hK Q'
      obtain ⟨hX0, cc0, cc1, cc2, cc3, cc4, cc5, cc6, cc7, ll8, ll9, f8_9⟩ := hJ
      have e6 := (hb' 6 (by simp)).trans s6
      clear hb hb'
      have hfin := hK (.int .u32 u2) _ ⟨hX0, fun h => cc0 (h.resolve_right (by decide)), fun h => cc1 (h.resolve_right (by decide)), fun _ => rfl, fun h => cc3 (h.resolve_right (by decide)), fun h => cc4 (h.resolve_right (by decide)), fun h => cc5 (h.resolve_right (by decide)), fun h => cc6 (h.resolve_right (by decide)), fun h => cc7 (h.resolve_right (by decide)), Loc.same ll8 ⟨fun h => h.resolve_right (by decide), .inl⟩ ⟨fun h => h.resolve_right (by decide), .inl⟩, Loc.same ll9 ⟨fun h => h.resolve_right (by decide), .inl⟩ ⟨fun h => h.resolve_right (by decide), .inl⟩, fun h h' => f8_9 (h.resolve_right (by decide)) (h'.resolve_right (by decide))⟩
      clear hK cc0 cc1 cc2 cc3 cc4 cc5 cc6 cc7 ll8 ll9 f8_9
      go_simp
      exact hfin
    · intro done us W hJ hdep haft hnot b hb hb' K hK Q'
      obtain ⟨hX0, cc0, cc1, cc2, cc3, cc4, cc5, cc6, cc7, ll8, ll9, f8_9⟩ := hJ
      simp only [List.getD_cons_succ, List.getD_cons_zero, List.mem_cons, List.not_mem_nil, or_false, forall_eq_or_imp, forall_eq] at hdep
      have e47 := hb 0 47 rfl
      rw [cc0 hdep.1] at e47
      have e48 := hb 1 48 rfl
      rw [cc1 hdep.2.1] at e48
      have e49 := hb 2 49 rfl
      rw [cc2 hdep.2.2] at e49
      clear hb hb'
      go_simp
      refine (part_any _ _ _ _ _ ha.out.1 ha.out.2.1 ha.out.2.2 hu1.out.1 hu1.out.2 hu2.out.1 hu2.out.2).mono ?_
      rintro e w' ⟨rfl, hX⟩
      exact hK (.agg #[.int .i64 (min (ptX xa xb u1) (ptY xa xb u2)), .int .i64 (max (ptX xa xb u1) (ptY xa xb u2))]) _ ⟨hX0.trans hX, fun h => cc0 (h.resolve_right (by decide)), fun h => cc1 (h.resolve_right (by decide)), fun h => cc2 (h.resolve_right (by decide)), fun _ => rfl, fun h => cc4 (h.resolve_right (by decide)), fun h => cc5 (h.resolve_right (by decide)), fun h => cc6 (h.resolve_right (by decide)), fun h => cc7 (h.resolve_right (by decide)), Loc.same (ll8.ext hX) ⟨fun h => h.resolve_right (by decide), .inl⟩ ⟨fun h => h.resolve_right (by decide), .inl⟩, Loc.same (ll9.ext hX) ⟨fun h => h.resolve_right (by decide), .inl⟩ ⟨fun h => h.resolve_right (by decide), .inl⟩, fun h h' => f8_9 (h.resolve_right (by decide)) (h'.resolve_right (by decide))⟩
    · intro done us W hJ hdep haft hnot b hb hb' K hK Q'
      obtain ⟨hX0, cc0, cc1, cc2, cc3, cc4, cc5, cc6, cc7, ll8, ll9, f8_9⟩ := hJ
      have e4 := (hb' 4 (by simp)).trans s4
      clear hb hb'
      have q0 := Ext.cell hX0 b0
      have q1 := Ext.cell hX0 b1
      have hfin := hK (.agg #[.int .i64 (xc), .int .i64 (xd)]) _ ⟨hX0, fun h => cc0 (h.resolve_right (by decide)), fun h => cc1 (h.resolve_right (by decide)), fun h => cc2 (h.resolve_right (by decide)), fun h => cc3 (h.resolve_right (by decide)), fun _ => rfl, fun h => cc5 (h.resolve_right (by decide)), fun h => cc6 (h.resolve_right (by decide)), fun h => cc7 (h.resolve_right (by decide)), Loc.same ll8 ⟨fun h => h.resolve_right (by decide), .inl⟩ ⟨fun h => h.resolve_right (by decide), .inl⟩, Loc.same ll9 ⟨fun h => h.resolve_right (by decide), .inl⟩ ⟨fun h => h.resolve_right (by decide), .inl⟩, fun h h' => f8_9 (h.resolve_right (by decide)) (h'.resolve_right (by decide))⟩
      clear hK cc0 cc1 cc2 cc3 cc4 cc5 cc6 cc7 ll8 ll9 f8_9
      go_simp
      exact hfin
    · intro done us W hJ hdep haft hnot b hb hb' K hK Q'
      obtain ⟨hX0, cc0, cc1, cc2, cc3, cc4, cc5, cc6, cc7, ll8, ll9, f8_9⟩ := hJ
      have e7 := (hb' 7 (by simp)).trans s7
      clear hb hb'
      have hfin := hK (.int .u32 u3) _ ⟨hX0, fun h => cc0 (h.resolve_right (by decide)), fun h => cc1 (h.resolve_right (by decide)), fun h => cc2 (h.resolve_right (by decide)), fun h => cc3 (h.resolve_right (by decide)), fun h => cc4 (h.resolve_right (by decide)), fun _ => rfl, fun h => cc6 (h.resolve_right (by decide)), fun h => cc7 (h.resolve_right (by decide)), Loc.same ll8 ⟨fun h => h.resolve_right (by decide), .inl⟩ ⟨fun h => h.resolve_right (by decide), .inl⟩, Loc.same ll9 ⟨fun h => h.resolve_right (by decide), .inl⟩ ⟨fun h => h.resolve_right (by decide), .inl⟩, fun h h' => f8_9 (h.resolve_right (by decide)) (h'.resolve_right (by decide))⟩
      clear hK cc0 cc1 cc2 cc3 cc4 cc5 cc6 cc7 ll8 ll9 f8_9
      go_simp
      exact hfin
    · intro done us W hJ hdep haft hnot b hb hb' K hK Q'
      obtain ⟨hX0, cc0, cc1, cc2, cc3, cc4, cc5, cc6, cc7, ll8, ll9, f8_9⟩ := hJ
      have e8 := (hb' 8 (by simp)).trans s8
      clear hb hb'
      have hfin := hK (.int .u32 u4) _ ⟨hX0, fun h => cc0 (h.resolve_right (by decide)), fun h => cc1 (h.resolve_right (by decide)), fun h => cc2 (h.resolve_right (by decide)), fun h => cc3 (h.resolve_right (by decide)), fun h => cc4 (h.resolve_right (by decide)), fun h => cc5 (h.resolve_right (by decide)), fun _ => rfl, fun h => cc7 (h.resolve_right (by decide)), Loc.same ll8 ⟨fun h => h.resolve_right (by decide), .inl⟩ ⟨fun h => h.resolve_right (by decide), .inl⟩, Loc.same ll9 ⟨fun h => h.resolve_right (by decide), .inl⟩ ⟨fun h => h.resolve_right (by decide), .inl⟩, fun h h' => f8_9 (h.resolve_right (by decide)) (h'.resolve_right (by decide))⟩
      clear hK cc0 cc1 cc2 cc3 cc4 cc5 cc6 cc7 ll8 ll9 f8_9
      go_simp
      exact hfin
    · intro done us W hJ hdep haft hnot b hb hb' K hK Q'
      obtain ⟨hX0, cc0, cc1, cc2, cc3, cc4, cc5, cc6, cc7, ll8, ll9, f8_9⟩ := hJ
      simp only [List.getD_cons_succ, List.getD_cons_zero, List.mem_cons, List.not_mem_nil, or_false, forall_eq_or_imp, forall_eq] at hdep
      have e51 := hb 4 51 rfl
      rw [cc4 hdep.1] at e51
      have e52 := hb 5 52 rfl
      rw [cc5 hdep.2.1] at e52
      have e53 := hb 6 53 rfl
      rw [cc6 hdep.2.2] at e53
      clear hb hb'
      go_simp
      refine (part_any _ _ _ _ _ hb.out.1 hb.out.2.1 hb.out.2.2 hu3.out.1 hu3.out.2 hu4.out.1 hu4.out.2).mono ?_
      rintro e w' ⟨rfl, hX⟩
      exact hK (.agg #[.int .i64 (min (ptX xc xd u3) (ptY xc xd u4)), .int .i64 (max (ptX xc xd u3) (ptY xc xd u4))]) _ ⟨hX0.trans hX, fun h => cc0 (h.resolve_right (by decide)), fun h => cc1 (h.resolve_right (by decide)), fun h => cc2 (h.resolve_right (by decide)), fun h => cc3 (h.resolve_right (by decide)), fun h => cc4 (h.resolve_right (by decide)), fun h => cc5 (h.resolve_right (by decide)), fun h => cc6 (h.resolve_right (by decide)), fun _ => rfl, Loc.same (ll8.ext hX) ⟨fun h => h.resolve_right (by decide), .inl⟩ ⟨fun h => h.resolve_right (by decide), .inl⟩, Loc.same (ll9.ext hX) ⟨fun h => h.resolve_right (by decide), .inl⟩ ⟨fun h => h.resolve_right (by decide), .inl⟩, fun h h' => f8_9 (h.resolve_right (by decide)) (h'.resolve_right (by decide))⟩
    · intro done us W hJ hdep haft hnot b hb hb' K hK Q'
      obtain ⟨hX0, cc0, cc1, cc2, cc3, cc4, cc5, cc6, cc7, ll8, ll9, f8_9⟩ := hJ
      simp only [List.getD_cons_succ, List.getD_cons_zero, List.mem_cons, List.not_mem_nil, or_false, forall_eq_or_imp, forall_eq] at haft
      clear hb hb'
      have hfin := hK _ _ ⟨hX0.alloc _, fun h => cc0 (h.resolve_right (by decide)), fun h => cc1 (h.resolve_right (by decide)), fun h => cc2 (h.resolve_right (by decide)), fun h => cc3 (h.resolve_right (by decide)), fun h => cc4 (h.resolve_right (by decide)), fun h => cc5 (h.resolve_right (by decide)), fun h => cc6 (h.resolve_right (by decide)), fun h => cc7 (h.resolve_right (by decide)), Loc.new w W hX0 (fun h => h.elim haft (by decide)) (Ext.refl _), Loc.same (ll9.ext ((Ext.refl _).alloc _)) ⟨fun h => h.resolve_right (by decide), .inl⟩ ⟨fun h => h.resolve_right (by decide), .inl⟩, fun _ h => Ne.symm (ll9.far_new (h.resolve_right (by decide)))⟩
      clear hK hX0 cc0 cc1 cc2 cc3 cc4 cc5 cc6 cc7 ll8 ll9 f8_9
      go_simp
      exact hfin
    · intro done us W hJ hdep haft hnot b hb hb' K hK Q'
      obtain ⟨hX0, cc0, cc1, cc2, cc3, cc4, cc5, cc6, cc7, ll8, ll9, f8_9⟩ := hJ
      simp only [List.getD_cons_succ, List.getD_cons_zero, List.mem_cons, List.not_mem_nil, or_false, forall_eq_or_imp, forall_eq] at haft
      clear hb hb'
      have hfin := hK _ _ ⟨hX0.alloc _, fun h => cc0 (h.resolve_right (by decide)), fun h => cc1 (h.resolve_right (by decide)), fun h => cc2 (h.resolve_right (by decide)), fun h => cc3 (h.resolve_right (by decide)), fun h => cc4 (h.resolve_right (by decide)), fun h => cc5 (h.resolve_right (by decide)), fun h => cc6 (h.resolve_right (by decide)), fun h => cc7 (h.resolve_right (by decide)), Loc.same (ll8.ext ((Ext.refl _).alloc _)) ⟨fun h => h.resolve_right (by decide), .inl⟩ ⟨fun h => h.resolve_right (by decide), .inl⟩, Loc.new w W hX0 (fun h => h.elim haft (by decide)) (Ext.refl _), fun h _ => ll8.far_new (h.resolve_right (by decide))⟩
      clear hK hX0 cc0 cc1 cc2 cc3 cc4 cc5 cc6 cc7 ll8 ll9 f8_9
      go_simp
      exact hfin
    · intro done us W hJ hdep haft hnot b hb hb' K hK Q'
      obtain ⟨hX0, cc0, cc1, cc2, cc3, cc4, cc5, cc6, cc7, ll8, ll9, f8_9⟩ := hJ
      simp only [List.getD_cons_succ, List.getD_cons_zero, List.mem_cons, List.not_mem_nil, or_false, forall_eq_or_imp, forall_eq] at hdep
      have e9 := hb 8 9 rfl
      have e50 := hb 3 50 rfl
      rw [cc3 hdep.1] at e50
      obtain ⟨g, eg, hg, hB⟩ := ll8.stored hdep.2 hnot
      rw [eg] at e9
      have q0 : W.cell? ⟨g, 0, none⟩ = some (.int .i64 0) := hB.cell 0
      have z0 : W.frozen? ⟨g, 0, none⟩ = false := hB.free 0
      have q1 : W.cell? ⟨g, 1, none⟩ = some (.int .i64 0) := hB.cell 1
      have z1 : W.frozen? ⟨g, 1, none⟩ = false := hB.free 1
      clear hb hb'
      have hfin := hK undef _ ⟨((hX0.setCell hg _).setCell hg _), fun h => cc0 (h.resolve_right (by decide)), fun h => cc1 (h.resolve_right (by decide)), fun h => cc2 (h.resolve_right (by decide)), fun h => cc3 (h.resolve_right (by decide)), fun h => cc4 (h.resolve_right (by decide)), fun h => cc5 (h.resolve_right (by decide)), fun h => cc6 (h.resolve_right (by decide)), fun h => cc7 (h.resolve_right (by decide)), ⟨fun _ => ⟨g, eg, hg, fun _ => (Blk.set (Blk.set hB 0 _) 1 _), fun h => absurd (.inr rfl) h⟩⟩, Loc.same (Loc.keep (Loc.keep ll9 (f := (fun h k => Ne.symm (f8_9 k h))) hdep.2 eg) (f := (fun h k => Ne.symm (f8_9 k h))) hdep.2 eg) ⟨fun h => h.resolve_right (by decide), .inl⟩ ⟨fun h => h.resolve_right (by decide), .inl⟩, fun h h' => f8_9 (h.resolve_right (by decide)) (h'.resolve_right (by decide))⟩
      clear hK hX0 cc0 cc1 cc2 cc3 cc4 cc5 cc6 cc7 ll8 ll9 f8_9
      go_simp
      exact hfin
    · intro done us W hJ hdep haft hnot b hb hb' K hK Q'
      obtain ⟨hX0, cc0, cc1, cc2, cc3, cc4, cc5, cc6, cc7, ll8, ll9, f8_9⟩ := hJ
      simp only [List.getD_cons_succ, List.getD_cons_zero, List.mem_cons, List.not_mem_nil, or_false, forall_eq_or_imp, forall_eq] at hdep
      have e10 := hb 9 10 rfl
      have e54 := hb 7 54 rfl
      rw [cc7 hdep.1] at e54
      obtain ⟨g, eg, hg, hB⟩ := ll9.stored hdep.2 hnot
      rw [eg] at e10
      have q0 : W.cell? ⟨g, 0, none⟩ = some (.int .i64 0) := hB.cell 0
      have z0 : W.frozen? ⟨g, 0, none⟩ = false := hB.free 0
      have q1 : W.cell? ⟨g, 1, none⟩ = some (.int .i64 0) := hB.cell 1
      have z1 : W.frozen? ⟨g, 1, none⟩ = false := hB.free 1
      clear hb hb'
      have hfin := hK undef _ ⟨((hX0.setCell hg _).setCell hg _), fun h => cc0 (h.resolve_right (by decide)), fun h => cc1 (h.resolve_right (by decide)), fun h => cc2 (h.resolve_right (by decide)), fun h => cc3 (h.resolve_right (by decide)), fun h => cc4 (h.resolve_right (by decide)), fun h => cc5 (h.resolve_right (by decide)), fun h => cc6 (h.resolve_right (by decide)), fun h => cc7 (h.resolve_right (by decide)), Loc.same (Loc.keep (Loc.keep ll8 (f := f8_9) hdep.2 eg) (f := f8_9) hdep.2 eg) ⟨fun h => h.resolve_right (by decide), .inl⟩ ⟨fun h => h.resolve_right (by decide), .inl⟩, ⟨fun _ => ⟨g, eg, hg, fun _ => (Blk.set (Blk.set hB 0 _) 1 _), fun h => absurd (.inr rfl) h⟩⟩, fun h h' => f8_9 (h.resolve_right (by decide)) (h'.resolve_right (by decide))⟩
      clear hK hX0 cc0 cc1 cc2 cc3 cc4 cc5 cc6 cc7 ll8 ll9 f8_9
      go_simp
      exact hfin
  · intro us W hJ
    obtain ⟨hX0, cc0, cc1, cc2, cc3, cc4, cc5, cc6, cc7, ll8, ll9, f8_9⟩ := hJ
    rw [show (rops Try.f13 4).drop 12 = [] by kernel_rfl]
    exact hend (us 0) (us 1) (us 2) (us 3) (us 4) (us 5) (us 6) (us 7) (us 8) (us 9) (us 10) (us 11) W (cc0 (show 0 < 12 by decide)) (cc1 (show 1 < 12 by decide)) (cc2 (show 2 < 12 by decide)) (cc3 (show 3 < 12 by decide)) (cc4 (show 4 < 12 by decide)) (cc5 (show 5 < 12 by decide)) (cc6 (show 6 < 12 by decide)) (cc7 (show 7 < 12 by decide)) (ll8.done (show 8 < 12 by decide) (show 10 < 12 by decide)) (ll9.done (show 9 < 12 by decide) (show 11 < 12 by decide)) (f8_9 (show 8 < 12 by decide) (show 9 < 12 by decide)) hX0
theorem valid_is {x y : Int} {b : Bool} (h : okS x y = b) (w : World) : Calls Try.prog 52 #[.agg #[.int .i64 x, .int .i64 y]] w fun e w' => e = .returned (.bool b) ∧ Ext w w' := by
  have := valid_any x y w
  rwa [h] at this
set_option maxRecDepth 100000 in
set_option maxHeartbeats 2000000 in
theorem contains_a (xa xb xc xd u1 u2 u3 u4 : Int) (w : World) (ha : okS xa xb = false) :
    Calls Try.prog 13 #[.agg #[.int .i64 xa, .int .i64 xb, .int .i64 xc, .int .i64 xd, .int .u32 u1, .int .u32 u2, .int .u32 u3, .int .u32 u4]] w (fun e w' => e = .returned (.bool true) ∧ Ext w w') := by
  have HA := Lib.hid ha
  clear ha
  have hXe : Ext w (w.alloc (.cells #[.int .i64 xa, .int .i64 xb, .int .i64 xc, .int .i64 xd, .int .u32 u1, .int .u32 u2, .int .u32 u3, .int .u32 u4] 81)) := ((Ext.refl w).alloc _)
  have kV : Blk (w.alloc (.cells #[.int .i64 xa, .int .i64 xb, .int .i64 xc, .int .i64 xd, .int .u32 u1, .int .u32 u2, .int .u32 u3, .int .u32 u4] 81)) w.heap.size 81 #[.int .i64 xa, .int .i64 xb, .int .i64 xc, .int .i64 xd, .int .u32 u1, .int .u32 u2, .int .u32 u3, .int .u32 u4] := Blk.at_ (by simp)
  go_enter Try.func13, Try.ntmps13
  go_wp2_with fail
  generalize (w.alloc (.cells #[.int .i64 xa, .int .i64 xb, .int .i64 xc, .int .i64 xd, .int .u32 u1, .int .u32 u2, .int .u32 u3, .int .u32 u4] 81)) = w1 at hXe kV ⊢
  have HX := Lib.hid hXe
  clear hXe
  have KV := Lib.hid kV
  clear kV
  refine open_ExactContains w.heap.size xa xb xc xd u1 u2 u3 u4 w1 (KV.out.cell 0) (KV.out.cell 1) (KV.out.cell 2) (KV.out.cell 3) (KV.out.cell 4) (KV.out.cell 5) (KV.out.cell 6) (KV.out.cell 7) _ _ (by simp) rfl ?_
  rintro xv0 xv1 xv2 xv3 xv4 xv5 xv6 xv7 xv8 xv9 xv10 xv11 xv12 xv13 xv14 xv15 xv16 xv17 xv18 xv19 w2 rfl rfl rfl rfl rfl rfl rfl rfl rfl rfl rfl rfl rfl rfl rfl rfl ⟨ga, rfl, hga, hBa⟩ ⟨gb, rfl, hgb, hBb⟩ _ hXW
  simp only [rops, Try.f13, regOf, Option.bind_some, Nat.reduceBEq, if_true, if_false, Bool.false_eq_true, Option.getD_some, List.drop_succ_cons, List.drop_zero]
  simp only [Act.put, List.setIfInBounds_toArray, List.set_cons_succ, List.set_cons_zero]
  replace HX := Lib.hid (HX.out.trans hXW)
  replace KV := Lib.hid (KV.out.ext hXW)
  clear hXW
  clear KV
  have KA := Lib.hid hBa
  clear hBa
  have KB := Lib.hid hBb
  clear hBb
  have cA0 : w2.cell? ⟨ga, 0, none⟩ = some (.int .i64 xa) := KA.out.cell 0
  have cA1 : w2.cell? ⟨ga, 1, none⟩ = some (.int .i64 xb) := KA.out.cell 1
  have cB0 : w2.cell? ⟨gb, 0, none⟩ = some (.int .i64 xc) := KB.out.cell 0
  have cB1 : w2.cell? ⟨gb, 1, none⟩ = some (.int .i64 xd) := KB.out.cell 1
  go_wp2_with fail
  clear cA0 cA1 cB0 cB1
  refine (good_is HA.out _).mono ?_
  rintro e w3 ⟨rfl, hX⟩
  replace HX := Lib.hid (HX.out.trans hX)
  replace KA := Lib.hid (KA.out.ext hX)
  replace KB := Lib.hid (KB.out.ext hX)
  clear hX
  have cA0 : w3.cell? ⟨ga, 0, none⟩ = some (.int .i64 xa) := KA.out.cell 0
  have cA1 : w3.cell? ⟨ga, 1, none⟩ = some (.int .i64 xb) := KA.out.cell 1
  have cB0 : w3.cell? ⟨gb, 0, none⟩ = some (.int .i64 xc) := KB.out.cell 0
  have cB1 : w3.cell? ⟨gb, 1, none⟩ = some (.int .i64 xd) := KB.out.cell 1
  go_wp2_with fail
  clear cA0 cA1 cB0 cB1
  refine (valid_is HA.out _).mono ?_
  rintro e w4 ⟨rfl, hX⟩
  replace HX := Lib.hid (HX.out.trans hX)
  replace KA := Lib.hid (KA.out.ext hX)
  replace KB := Lib.hid (KB.out.ext hX)
  clear hX
  go_wp2_with fail
  refine (first_any _).mono ?_
  rintro e w5 ⟨rfl, hX⟩
  replace HX := Lib.hid (HX.out.trans hX)
  replace KA := Lib.hid (KA.out.ext hX)
  replace KB := Lib.hid (KB.out.ext hX)
  clear hX
  go_wp2
  go_ret
  exact ⟨rfl, HX.out⟩

set_option maxRecDepth 100000 in
set_option maxHeartbeats 2000000 in
theorem contains_b (xa xb xc xd u1 u2 u3 u4 : Int) (w : World) (ha : okS xa xb = true) (hb : okS xc xd = false) :
    Calls Try.prog 13 #[.agg #[.int .i64 xa, .int .i64 xb, .int .i64 xc, .int .i64 xd, .int .u32 u1, .int .u32 u2, .int .u32 u3, .int .u32 u4]] w (fun e w' => e = .returned (.bool true) ∧ Ext w w') := by
  have HA := Lib.hid ha
  have HB := Lib.hid hb
  clear ha hb
  have hXe : Ext w (w.alloc (.cells #[.int .i64 xa, .int .i64 xb, .int .i64 xc, .int .i64 xd, .int .u32 u1, .int .u32 u2, .int .u32 u3, .int .u32 u4] 81)) := ((Ext.refl w).alloc _)
  have kV : Blk (w.alloc (.cells #[.int .i64 xa, .int .i64 xb, .int .i64 xc, .int .i64 xd, .int .u32 u1, .int .u32 u2, .int .u32 u3, .int .u32 u4] 81)) w.heap.size 81 #[.int .i64 xa, .int .i64 xb, .int .i64 xc, .int .i64 xd, .int .u32 u1, .int .u32 u2, .int .u32 u3, .int .u32 u4] := Blk.at_ (by simp)
  go_enter Try.func13, Try.ntmps13
  go_wp2_with fail
  generalize (w.alloc (.cells #[.int .i64 xa, .int .i64 xb, .int .i64 xc, .int .i64 xd, .int .u32 u1, .int .u32 u2, .int .u32 u3, .int .u32 u4] 81)) = w1 at hXe kV ⊢
  have HX := Lib.hid hXe
  clear hXe
  have KV := Lib.hid kV
  clear kV
  refine open_ExactContains w.heap.size xa xb xc xd u1 u2 u3 u4 w1 (KV.out.cell 0) (KV.out.cell 1) (KV.out.cell 2) (KV.out.cell 3) (KV.out.cell 4) (KV.out.cell 5) (KV.out.cell 6) (KV.out.cell 7) _ _ (by simp) rfl ?_
  rintro xv0 xv1 xv2 xv3 xv4 xv5 xv6 xv7 xv8 xv9 xv10 xv11 xv12 xv13 xv14 xv15 xv16 xv17 xv18 xv19 w2 rfl rfl rfl rfl rfl rfl rfl rfl rfl rfl rfl rfl rfl rfl rfl rfl ⟨ga, rfl, hga, hBa⟩ ⟨gb, rfl, hgb, hBb⟩ _ hXW
  simp only [rops, Try.f13, regOf, Option.bind_some, Nat.reduceBEq, if_true, if_false, Bool.false_eq_true, Option.getD_some, List.drop_succ_cons, List.drop_zero]
  simp only [Act.put, List.setIfInBounds_toArray, List.set_cons_succ, List.set_cons_zero]
  replace HX := Lib.hid (HX.out.trans hXW)
  replace KV := Lib.hid (KV.out.ext hXW)
  clear hXW
  clear KV
  have KA := Lib.hid hBa
  clear hBa
  have KB := Lib.hid hBb
  clear hBb
  have cA0 : w2.cell? ⟨ga, 0, none⟩ = some (.int .i64 xa) := KA.out.cell 0
  have cA1 : w2.cell? ⟨ga, 1, none⟩ = some (.int .i64 xb) := KA.out.cell 1
  have cB0 : w2.cell? ⟨gb, 0, none⟩ = some (.int .i64 xc) := KB.out.cell 0
  have cB1 : w2.cell? ⟨gb, 1, none⟩ = some (.int .i64 xd) := KB.out.cell 1
  go_wp2_with fail
  clear cA0 cA1 cB0 cB1
  refine (good_is HA.out _).mono ?_
  rintro e w3 ⟨rfl, hX⟩
  replace HX := Lib.hid (HX.out.trans hX)
  replace KA := Lib.hid (KA.out.ext hX)
  replace KB := Lib.hid (KB.out.ext hX)
  clear hX
  have cA0 : w3.cell? ⟨ga, 0, none⟩ = some (.int .i64 xa) := KA.out.cell 0
  have cA1 : w3.cell? ⟨ga, 1, none⟩ = some (.int .i64 xb) := KA.out.cell 1
  have cB0 : w3.cell? ⟨gb, 0, none⟩ = some (.int .i64 xc) := KB.out.cell 0
  have cB1 : w3.cell? ⟨gb, 1, none⟩ = some (.int .i64 xd) := KB.out.cell 1
  go_wp2_with fail
  clear cA0 cA1 cB0 cB1
  refine (good_is HB.out _).mono ?_
  rintro e w4 ⟨rfl, hX⟩
  replace HX := Lib.hid (HX.out.trans hX)
  replace KA := Lib.hid (KA.out.ext hX)
  replace KB := Lib.hid (KB.out.ext hX)
  clear hX
  have cA0 : w4.cell? ⟨ga, 0, none⟩ = some (.int .i64 xa) := KA.out.cell 0
  have cA1 : w4.cell? ⟨ga, 1, none⟩ = some (.int .i64 xb) := KA.out.cell 1
  have cB0 : w4.cell? ⟨gb, 0, none⟩ = some (.int .i64 xc) := KB.out.cell 0
  have cB1 : w4.cell? ⟨gb, 1, none⟩ = some (.int .i64 xd) := KB.out.cell 1
  go_wp2_with fail
  clear cA0 cA1 cB0 cB1
  refine (valid_is HA.out _).mono ?_
  rintro e w5 ⟨rfl, hX⟩
  replace HX := Lib.hid (HX.out.trans hX)
  replace KA := Lib.hid (KA.out.ext hX)
  replace KB := Lib.hid (KB.out.ext hX)
  clear hX
  have cA0 : w5.cell? ⟨ga, 0, none⟩ = some (.int .i64 xa) := KA.out.cell 0
  have cA1 : w5.cell? ⟨ga, 1, none⟩ = some (.int .i64 xb) := KA.out.cell 1
  have cB0 : w5.cell? ⟨gb, 0, none⟩ = some (.int .i64 xc) := KB.out.cell 0
  have cB1 : w5.cell? ⟨gb, 1, none⟩ = some (.int .i64 xd) := KB.out.cell 1
  go_wp2_with fail
  clear cA0 cA1 cB0 cB1
  refine (valid_is HB.out _).mono ?_
  rintro e w6 ⟨rfl, hX⟩
  replace HX := Lib.hid (HX.out.trans hX)
  replace KA := Lib.hid (KA.out.ext hX)
  replace KB := Lib.hid (KB.out.ext hX)
  clear hX
  go_wp2_with fail
  refine (first_any _).mono ?_
  rintro e w7 ⟨rfl, hX⟩
  replace HX := Lib.hid (HX.out.trans hX)
  replace KA := Lib.hid (KA.out.ext hX)
  replace KB := Lib.hid (KB.out.ext hX)
  clear hX
  go_wp2
  go_ret
  exact ⟨rfl, HX.out⟩

set_option maxRecDepth 100000 in
set_option maxHeartbeats 2000000 in
theorem contains_ok (xa xb xc xd u1 u2 u3 u4 : Int) (w : World) (ha : okS xa xb = true) (hb : okS xc xd = true) (hu1 : 0 ≤ u1 ∧ u1 ≤ 4294967295) (hu2 : 0 ≤ u2 ∧ u2 ≤ 4294967295) (hu3 : 0 ≤ u3 ∧ u3 ≤ 4294967295) (hu4 : 0 ≤ u4 ∧ u4 ≤ 4294967295) :
    Calls Try.prog 13 #[.agg #[.int .i64 xa, .int .i64 xb, .int .i64 xc, .int .i64 xd, .int .u32 u1, .int .u32 u2, .int .u32 u3, .int .u32 u4]] w (fun e w' => e = .returned (.bool true) ∧ Ext w w') := by
  have HA := Lib.hid ha
  have HB := Lib.hid hb
  have LA := Lib.hid (okS_in ha)
  have LB := Lib.hid (okS_in hb)
  clear ha hb
  have HU1 := Lib.hid hu1
  clear hu1
  have HU2 := Lib.hid hu2
  clear hu2
  have HU3 := Lib.hid hu3
  clear hu3
  have HU4 := Lib.hid hu4
  clear hu4
  have hXe : Ext w (w.alloc (.cells #[.int .i64 xa, .int .i64 xb, .int .i64 xc, .int .i64 xd, .int .u32 u1, .int .u32 u2, .int .u32 u3, .int .u32 u4] 81)) := ((Ext.refl w).alloc _)
  have kV : Blk (w.alloc (.cells #[.int .i64 xa, .int .i64 xb, .int .i64 xc, .int .i64 xd, .int .u32 u1, .int .u32 u2, .int .u32 u3, .int .u32 u4] 81)) w.heap.size 81 #[.int .i64 xa, .int .i64 xb, .int .i64 xc, .int .i64 xd, .int .u32 u1, .int .u32 u2, .int .u32 u3, .int .u32 u4] := Blk.at_ (by simp)
  go_enter Try.func13, Try.ntmps13
  go_wp2_with fail
  generalize (w.alloc (.cells #[.int .i64 xa, .int .i64 xb, .int .i64 xc, .int .i64 xd, .int .u32 u1, .int .u32 u2, .int .u32 u3, .int .u32 u4] 81)) = w1 at hXe kV ⊢
  have HX := Lib.hid hXe
  clear hXe
  have KV := Lib.hid kV
  clear kV
  refine open_ExactContains w.heap.size xa xb xc xd u1 u2 u3 u4 w1 (KV.out.cell 0) (KV.out.cell 1) (KV.out.cell 2) (KV.out.cell 3) (KV.out.cell 4) (KV.out.cell 5) (KV.out.cell 6) (KV.out.cell 7) _ _ (by simp) rfl ?_
  rintro xv0 xv1 xv2 xv3 xv4 xv5 xv6 xv7 xv8 xv9 xv10 xv11 xv12 xv13 xv14 xv15 xv16 xv17 xv18 xv19 w2 rfl rfl rfl rfl rfl rfl rfl rfl rfl rfl rfl rfl rfl rfl rfl rfl ⟨ga, rfl, hga, hBa⟩ ⟨gb, rfl, hgb, hBb⟩ _ hXW
  simp only [rops, Try.f13, regOf, Option.bind_some, Nat.reduceBEq, if_true, if_false, Bool.false_eq_true, Option.getD_some, List.drop_succ_cons, List.drop_zero]
  simp only [Act.put, List.setIfInBounds_toArray, List.set_cons_succ, List.set_cons_zero]
  replace HX := Lib.hid (HX.out.trans hXW)
  replace KV := Lib.hid (KV.out.ext hXW)
  clear hXW
  clear KV
  have KA := Lib.hid hBa
  clear hBa
  have KB := Lib.hid hBb
  clear hBb
  have cA0 : w2.cell? ⟨ga, 0, none⟩ = some (.int .i64 xa) := KA.out.cell 0
  have cA1 : w2.cell? ⟨ga, 1, none⟩ = some (.int .i64 xb) := KA.out.cell 1
  have cB0 : w2.cell? ⟨gb, 0, none⟩ = some (.int .i64 xc) := KB.out.cell 0
  have cB1 : w2.cell? ⟨gb, 1, none⟩ = some (.int .i64 xd) := KB.out.cell 1
  go_wp2_with fail
  clear cA0 cA1 cB0 cB1
  refine (good_is HA.out _).mono ?_
  rintro e w3 ⟨rfl, hX⟩
  replace HX := Lib.hid (HX.out.trans hX)
  replace KA := Lib.hid (KA.out.ext hX)
  replace KB := Lib.hid (KB.out.ext hX)
  clear hX
  have cA0 : w3.cell? ⟨ga, 0, none⟩ = some (.int .i64 xa) := KA.out.cell 0
  have cA1 : w3.cell? ⟨ga, 1, none⟩ = some (.int .i64 xb) := KA.out.cell 1
  have cB0 : w3.cell? ⟨gb, 0, none⟩ = some (.int .i64 xc) := KB.out.cell 0
  have cB1 : w3.cell? ⟨gb, 1, none⟩ = some (.int .i64 xd) := KB.out.cell 1
  go_wp2_with fail
  clear cA0 cA1 cB0 cB1
  refine (good_is HB.out _).mono ?_
  rintro e w4 ⟨rfl, hX⟩
  replace HX := Lib.hid (HX.out.trans hX)
  replace KA := Lib.hid (KA.out.ext hX)
  replace KB := Lib.hid (KB.out.ext hX)
  clear hX
  have cA0 : w4.cell? ⟨ga, 0, none⟩ = some (.int .i64 xa) := KA.out.cell 0
  have cA1 : w4.cell? ⟨ga, 1, none⟩ = some (.int .i64 xb) := KA.out.cell 1
  have cB0 : w4.cell? ⟨gb, 0, none⟩ = some (.int .i64 xc) := KB.out.cell 0
  have cB1 : w4.cell? ⟨gb, 1, none⟩ = some (.int .i64 xd) := KB.out.cell 1
  go_upto_region 4 with (fail)
  clear cA0 cA1 cB0 cB1
  have za := KA.out.lt
  have zb := KB.out.lt
  refine open_Contains4 ga gb xa xb xc xd u1 u2 u3 u4 w4 (KA.out.cell 0) (KA.out.cell 1) (KB.out.cell 0) (KB.out.cell 1) LA LB HU1 HU2 HU3 HU4 _ _ (by simp) rfl rfl rfl rfl rfl rfl ?_
  rintro xv0 xv1 xv2 xv3 xv4 xv5 xv6 xv7 xv8 xv9 xv10 xv11 w5 rfl rfl rfl rfl rfl rfl rfl rfl ⟨gc, rfl, hgc, hBc⟩ ⟨gd, rfl, hgd, hBd⟩ _ hXW
  simp only [rops, Try.f13, regOf, Option.bind_some, Nat.reduceBEq, if_true, if_false, Bool.false_eq_true, Option.getD_some, List.drop_succ_cons, List.drop_zero]
  simp only [Act.put, List.setIfInBounds_toArray, List.set_cons_succ, List.set_cons_zero]
  replace HX := Lib.hid (HX.out.trans hXW)
  replace KA := Lib.hid (KA.out.ext hXW)
  replace KB := Lib.hid (KB.out.ext hXW)
  clear hXW
  obtain ⟨ya, hya⟩ : ∃ q, min (ptX xa xb u1) (ptY xa xb u2) = q := ⟨_, rfl⟩
  obtain ⟨yb, hyb⟩ : ∃ q, max (ptX xa xb u1) (ptY xa xb u2) = q := ⟨_, rfl⟩
  obtain ⟨yc, hyc⟩ : ∃ q, min (ptX xc xd u3) (ptY xc xd u4) = q := ⟨_, rfl⟩
  obtain ⟨yd, hyd⟩ : ∃ q, max (ptX xc xd u3) (ptY xc xd u4) = q := ⟨_, rfl⟩
  have hy1 : xa ≤ ya ∧ ya ≤ yb ∧ yb ≤ xb := by
    have h1 := ptX_in LA.out.2.1 u1
    have h2 := ptY_in LA.out.2.1 u2
    omega
  have hy2 : xc ≤ yc ∧ yc ≤ yd ∧ yd ≤ xd := by
    have h1 := ptX_in LB.out.2.1 u3
    have h2 := ptY_in LB.out.2.1 u4
    omega
  rw [hya, hyb] at hBc ⊢
  rw [hyc, hyd] at hBd ⊢
  clear hya hyb hyc hyd
  have la := LA.out
  have lb := LB.out
  have HC : Hid (okS ya yb = true) := by show _ = _; simp only [okS, decide_eq_true_eq]; omega
  have HD : Hid (okS yc yd = true) := by show _ = _; simp only [okS, decide_eq_true_eq]; omega
  obtain ⟨la0, la1, la2⟩ := la
  obtain ⟨lb0, lb1, lb2⟩ := lb
  obtain ⟨hy0, hy1, hy3⟩ := hy1
  obtain ⟨hy4, hy2, hy5⟩ := hy2
  clear LA LB
  have KC := Lib.hid hBc
  clear hBc
  have KD := Lib.hid hBd
  clear hBd
  have cA0 : w5.cell? ⟨ga, 0, none⟩ = some (.int .i64 xa) := KA.out.cell 0
  have cA1 : w5.cell? ⟨ga, 1, none⟩ = some (.int .i64 xb) := KA.out.cell 1
  have cB0 : w5.cell? ⟨gb, 0, none⟩ = some (.int .i64 xc) := KB.out.cell 0
  have cB1 : w5.cell? ⟨gb, 1, none⟩ = some (.int .i64 xd) := KB.out.cell 1
  have cC0 : w5.cell? ⟨gc, 0, none⟩ = some (.int .i64 ya) := KC.out.cell 0
  have cC1 : w5.cell? ⟨gc, 1, none⟩ = some (.int .i64 yb) := KC.out.cell 1
  have cD0 : w5.cell? ⟨gd, 0, none⟩ = some (.int .i64 yc) := KD.out.cell 0
  have cD1 : w5.cell? ⟨gd, 1, none⟩ = some (.int .i64 yd) := KD.out.cell 1
  go_wp2_with fail
  clear cA0 cA1 cB0 cB1 cC0 cC1 cD0 cD1
  refine (valid_is HC.out _).mono ?_
  rintro e w6 ⟨rfl, hX⟩
  replace HX := Lib.hid (HX.out.trans hX)
  replace KA := Lib.hid (KA.out.ext hX)
  replace KB := Lib.hid (KB.out.ext hX)
  replace KC := Lib.hid (KC.out.ext hX)
  replace KD := Lib.hid (KD.out.ext hX)
  clear hX
  have cA0 : w6.cell? ⟨ga, 0, none⟩ = some (.int .i64 xa) := KA.out.cell 0
  have cA1 : w6.cell? ⟨ga, 1, none⟩ = some (.int .i64 xb) := KA.out.cell 1
  have cB0 : w6.cell? ⟨gb, 0, none⟩ = some (.int .i64 xc) := KB.out.cell 0
  have cB1 : w6.cell? ⟨gb, 1, none⟩ = some (.int .i64 xd) := KB.out.cell 1
  have cC0 : w6.cell? ⟨gc, 0, none⟩ = some (.int .i64 ya) := KC.out.cell 0
  have cC1 : w6.cell? ⟨gc, 1, none⟩ = some (.int .i64 yb) := KC.out.cell 1
  have cD0 : w6.cell? ⟨gd, 0, none⟩ = some (.int .i64 yc) := KD.out.cell 0
  have cD1 : w6.cell? ⟨gd, 1, none⟩ = some (.int .i64 yd) := KD.out.cell 1
  go_wp2_with fail
  clear cA0 cA1 cB0 cB1 cC0 cC1 cD0 cD1
  refine (valid_is HD.out _).mono ?_
  rintro e w7 ⟨rfl, hX⟩
  replace HX := Lib.hid (HX.out.trans hX)
  replace KA := Lib.hid (KA.out.ext hX)
  replace KB := Lib.hid (KB.out.ext hX)
  replace KC := Lib.hid (KC.out.ext hX)
  replace KD := Lib.hid (KD.out.ext hX)
  clear hX
  have cA0 : w7.cell? ⟨ga, 0, none⟩ = some (.int .i64 xa) := KA.out.cell 0
  have cA1 : w7.cell? ⟨ga, 1, none⟩ = some (.int .i64 xb) := KA.out.cell 1
  have cB0 : w7.cell? ⟨gb, 0, none⟩ = some (.int .i64 xc) := KB.out.cell 0
  have cB1 : w7.cell? ⟨gb, 1, none⟩ = some (.int .i64 xd) := KB.out.cell 1
  have cC0 : w7.cell? ⟨gc, 0, none⟩ = some (.int .i64 ya) := KC.out.cell 0
  have cC1 : w7.cell? ⟨gc, 1, none⟩ = some (.int .i64 yb) := KC.out.cell 1
  have cD0 : w7.cell? ⟨gd, 0, none⟩ = some (.int .i64 yc) := KD.out.cell 0
  have cD1 : w7.cell? ⟨gd, 1, none⟩ = some (.int .i64 yd) := KD.out.cell 1
  go_wp2_with fail
  clear cA0 cA1 cB0 cB1 cC0 cC1 cD0 cD1
  refine (plusS xa xb xc xd _ HA.out HB.out).mono ?_
  rintro e w8 ⟨p0_0, p1_0, e1_0, rfl, HP1, HP2, HP3, hX⟩
  replace HX := Lib.hid (HX.out.trans hX)
  replace KA := Lib.hid (KA.out.ext hX)
  replace KB := Lib.hid (KB.out.ext hX)
  replace KC := Lib.hid (KC.out.ext hX)
  replace KD := Lib.hid (KD.out.ext hX)
  clear hX
  have cA0 : w8.cell? ⟨ga, 0, none⟩ = some (.int .i64 xa) := KA.out.cell 0
  have cA1 : w8.cell? ⟨ga, 1, none⟩ = some (.int .i64 xb) := KA.out.cell 1
  have cB0 : w8.cell? ⟨gb, 0, none⟩ = some (.int .i64 xc) := KB.out.cell 0
  have cB1 : w8.cell? ⟨gb, 1, none⟩ = some (.int .i64 xd) := KB.out.cell 1
  have cC0 : w8.cell? ⟨gc, 0, none⟩ = some (.int .i64 ya) := KC.out.cell 0
  have cC1 : w8.cell? ⟨gc, 1, none⟩ = some (.int .i64 yb) := KC.out.cell 1
  have cD0 : w8.cell? ⟨gd, 0, none⟩ = some (.int .i64 yc) := KD.out.cell 0
  have cD1 : w8.cell? ⟨gd, 1, none⟩ = some (.int .i64 yd) := KD.out.cell 1
  go_upto_region 8 with (fail)
  clear cA0 cA1 cB0 cB1 cC0 cC1 cD0 cD1
  have hXa : Ext w8 (w8.alloc (.cells #[.int .i64 p0_0, .int .i64 p1_0] 62)) := (Ext.refl _).alloc _
  have kP := Blk.new w8 62 #[.int .i64 p0_0, .int .i64 p1_0]
  have zA := KA.out.lt
  have zB := KB.out.lt
  have zC := KC.out.lt
  have zD := KD.out.lt
  have zg := HX.out.size
  replace HX := Lib.hid (HX.out.trans hXa)
  replace KA := Lib.hid (KA.out.ext hXa)
  replace KB := Lib.hid (KB.out.ext hXa)
  replace KC := Lib.hid (KC.out.ext hXa)
  replace KD := Lib.hid (KD.out.ext hXa)
  generalize (w8.alloc (.cells #[.int .i64 p0_0, .int .i64 p1_0] 62)) = w9 at HX KA KB KC KD kP ⊢
  have KP := Lib.hid kP
  clear kP hXa
  have cA0 : w9.cell? ⟨ga, 0, none⟩ = some (.int .i64 xa) := KA.out.cell 0
  have cA1 : w9.cell? ⟨ga, 1, none⟩ = some (.int .i64 xb) := KA.out.cell 1
  have cB0 : w9.cell? ⟨gb, 0, none⟩ = some (.int .i64 xc) := KB.out.cell 0
  have cB1 : w9.cell? ⟨gb, 1, none⟩ = some (.int .i64 xd) := KB.out.cell 1
  have cC0 : w9.cell? ⟨gc, 0, none⟩ = some (.int .i64 ya) := KC.out.cell 0
  have cC1 : w9.cell? ⟨gc, 1, none⟩ = some (.int .i64 yb) := KC.out.cell 1
  have cD0 : w9.cell? ⟨gd, 0, none⟩ = some (.int .i64 yc) := KD.out.cell 0
  have cD1 : w9.cell? ⟨gd, 1, none⟩ = some (.int .i64 yd) := KD.out.cell 1
  have cP0 : w9.cell? ⟨w8.heap.size, 0, none⟩ = some (.int .i64 p0_0) := KP.out.cell 0
  have cP1 : w9.cell? ⟨w8.heap.size, 1, none⟩ = some (.int .i64 p1_0) := KP.out.cell 1
  go_wp2_with fail
  clear cA0 cA1 cB0 cB1 cC0 cC1 cD0 cD1 cP0 cP1
  refine (plusS ya yb yc yd _ HC.out HD.out).mono ?_
  rintro e w10 ⟨q0_0, q1_0, e2_0, rfl, HQ1, HQ2, HQ3, hX⟩
  replace HX := Lib.hid (HX.out.trans hX)
  replace KA := Lib.hid (KA.out.ext hX)
  replace KB := Lib.hid (KB.out.ext hX)
  replace KC := Lib.hid (KC.out.ext hX)
  replace KD := Lib.hid (KD.out.ext hX)
  replace KP := Lib.hid (KP.out.ext hX)
  clear hX
  have cA0 : w10.cell? ⟨ga, 0, none⟩ = some (.int .i64 xa) := KA.out.cell 0
  have cA1 : w10.cell? ⟨ga, 1, none⟩ = some (.int .i64 xb) := KA.out.cell 1
  have cB0 : w10.cell? ⟨gb, 0, none⟩ = some (.int .i64 xc) := KB.out.cell 0
  have cB1 : w10.cell? ⟨gb, 1, none⟩ = some (.int .i64 xd) := KB.out.cell 1
  have cC0 : w10.cell? ⟨gc, 0, none⟩ = some (.int .i64 ya) := KC.out.cell 0
  have cC1 : w10.cell? ⟨gc, 1, none⟩ = some (.int .i64 yb) := KC.out.cell 1
  have cD0 : w10.cell? ⟨gd, 0, none⟩ = some (.int .i64 yc) := KD.out.cell 0
  have cD1 : w10.cell? ⟨gd, 1, none⟩ = some (.int .i64 yd) := KD.out.cell 1
  have cP0 : w10.cell? ⟨w8.heap.size, 0, none⟩ = some (.int .i64 p0_0) := KP.out.cell 0
  have cP1 : w10.cell? ⟨w8.heap.size, 1, none⟩ = some (.int .i64 p1_0) := KP.out.cell 1
  go_upto_region 9 with (fail)
  clear cA0 cA1 cB0 cB1 cC0 cC1 cD0 cD1 cP0 cP1
  have hXa : Ext w10 (w10.alloc (.cells #[.int .i64 q0_0, .int .i64 q1_0] 62)) := (Ext.refl _).alloc _
  have kQ := Blk.new w10 62 #[.int .i64 q0_0, .int .i64 q1_0]
  have zA := KA.out.lt
  have zB := KB.out.lt
  have zC := KC.out.lt
  have zD := KD.out.lt
  have zP := KP.out.lt
  have zg := HX.out.size
  replace HX := Lib.hid (HX.out.trans hXa)
  replace KA := Lib.hid (KA.out.ext hXa)
  replace KB := Lib.hid (KB.out.ext hXa)
  replace KC := Lib.hid (KC.out.ext hXa)
  replace KD := Lib.hid (KD.out.ext hXa)
  replace KP := Lib.hid (KP.out.ext hXa)
  generalize (w10.alloc (.cells #[.int .i64 q0_0, .int .i64 q1_0] 62)) = w11 at HX KA KB KC KD KP kQ ⊢
  have KQ := Lib.hid kQ
  clear kQ hXa
  have cA0 : w11.cell? ⟨ga, 0, none⟩ = some (.int .i64 xa) := KA.out.cell 0
  have cA1 : w11.cell? ⟨ga, 1, none⟩ = some (.int .i64 xb) := KA.out.cell 1
  have cB0 : w11.cell? ⟨gb, 0, none⟩ = some (.int .i64 xc) := KB.out.cell 0
  have cB1 : w11.cell? ⟨gb, 1, none⟩ = some (.int .i64 xd) := KB.out.cell 1
  have cC0 : w11.cell? ⟨gc, 0, none⟩ = some (.int .i64 ya) := KC.out.cell 0
  have cC1 : w11.cell? ⟨gc, 1, none⟩ = some (.int .i64 yb) := KC.out.cell 1
  have cD0 : w11.cell? ⟨gd, 0, none⟩ = some (.int .i64 yc) := KD.out.cell 0
  have cD1 : w11.cell? ⟨gd, 1, none⟩ = some (.int .i64 yd) := KD.out.cell 1
  have cP0 : w11.cell? ⟨w8.heap.size, 0, none⟩ = some (.int .i64 p0_0) := KP.out.cell 0
  have cP1 : w11.cell? ⟨w8.heap.size, 1, none⟩ = some (.int .i64 p1_0) := KP.out.cell 1
  have cQ0 : w11.cell? ⟨w10.heap.size, 0, none⟩ = some (.int .i64 q0_0) := KQ.out.cell 0
  have cQ1 : w11.cell? ⟨w10.heap.size, 1, none⟩ = some (.int .i64 q1_0) := KQ.out.cell 1
  clear cA0 cA1 cB0 cB1 cC0 cC1 cD0 cD1 cP0 cP1 cQ0 cQ1
  have HF : Hid (e1_0 = 0 → e2_0 = 0 ∧ p0_0 = xa + xc ∧ p1_0 = xb + xd ∧ q0_0 = ya + yc ∧ q1_0 = yb + yd ∧ -1152921504606846976 ≤ xa + xc ∧ xb + xd ≤ 1152921504606846976) := fun h => by
    obtain ⟨⟨k1, k2⟩, k3, k4⟩ := HP1.out h
    have h2 := HQ2.out ⟨by omega, by omega⟩
    obtain ⟨_, k5, k6⟩ := HQ1.out h2
    exact ⟨h2, k3, k4, k5, k6, k1, k2⟩
  obtain ⟨hp0, hp1, hp2, hp3⟩ := HP3.out
  obtain ⟨hq0, hq1, hq2, hq3⟩ := HQ3.out
  clear HP1 HP2 HP3 HQ1 HQ2 HQ3
  go_upto_region 9 with (fail)
  go_cut [104] (fun s104 W => ∃ m0_0 m1_0 m2_0 m3_0 : Int, s104 = .bool false ∧ Hid (Blk W ga 62 #[.int .i64 xa, .int .i64 xb]) ∧ Hid (Blk W gb 62 #[.int .i64 xc, .int .i64 xd]) ∧ Hid (Blk W gc 62 #[.int .i64 ya, .int .i64 yb]) ∧ Hid (Blk W gd 62 #[.int .i64 yc, .int .i64 yd]) ∧ Hid (Blk W w8.heap.size 62 #[.int .i64 m0_0, .int .i64 m1_0]) ∧ Hid (Blk W w10.heap.size 62 #[.int .i64 m2_0, .int .i64 m3_0]) ∧ Hid (Ext w W))
  case first =>
    as_aux_lemma =>
      by_cases he : e1_0 = 0
      · obtain ⟨HOK, k3, k4, k5, k6, k1, k2⟩ := HF.out he
        subst he
        have he2 : e2_0 = 0 := HOK
        subst he2
        clear HOK
        have cA0 : w11.cell? ⟨ga, 0, none⟩ = some (.int .i64 xa) := KA.out.cell 0
        have cA1 : w11.cell? ⟨ga, 1, none⟩ = some (.int .i64 xb) := KA.out.cell 1
        have cB0 : w11.cell? ⟨gb, 0, none⟩ = some (.int .i64 xc) := KB.out.cell 0
        have cB1 : w11.cell? ⟨gb, 1, none⟩ = some (.int .i64 xd) := KB.out.cell 1
        have cC0 : w11.cell? ⟨gc, 0, none⟩ = some (.int .i64 ya) := KC.out.cell 0
        have cC1 : w11.cell? ⟨gc, 1, none⟩ = some (.int .i64 yb) := KC.out.cell 1
        have cD0 : w11.cell? ⟨gd, 0, none⟩ = some (.int .i64 yc) := KD.out.cell 0
        have cD1 : w11.cell? ⟨gd, 1, none⟩ = some (.int .i64 yd) := KD.out.cell 1
        have cP0 : w11.cell? ⟨w8.heap.size, 0, none⟩ = some (.int .i64 p0_0) := KP.out.cell 0
        have cP1 : w11.cell? ⟨w8.heap.size, 1, none⟩ = some (.int .i64 p1_0) := KP.out.cell 1
        have cQ0 : w11.cell? ⟨w10.heap.size, 0, none⟩ = some (.int .i64 q0_0) := KQ.out.cell 0
        have cQ1 : w11.cell? ⟨w10.heap.size, 1, none⟩ = some (.int .i64 q1_0) := KQ.out.cell 1
        go_wp2_with fail
        clear cA0 cA1 cB0 cB1 cC0 cC1 cD0 cD1 cP0 cP1 cQ0 cQ1
        refine (in_yes _ _ _ _ (by omega) (by omega)).mono ?_
        rintro e w12 ⟨rfl, hX⟩
        replace HX := Lib.hid (HX.out.trans hX)
        replace KA := Lib.hid (KA.out.ext hX)
        replace KB := Lib.hid (KB.out.ext hX)
        replace KC := Lib.hid (KC.out.ext hX)
        replace KD := Lib.hid (KD.out.ext hX)
        replace KP := Lib.hid (KP.out.ext hX)
        replace KQ := Lib.hid (KQ.out.ext hX)
        clear hX
        have cA0 : w12.cell? ⟨ga, 0, none⟩ = some (.int .i64 xa) := KA.out.cell 0
        have cA1 : w12.cell? ⟨ga, 1, none⟩ = some (.int .i64 xb) := KA.out.cell 1
        have cB0 : w12.cell? ⟨gb, 0, none⟩ = some (.int .i64 xc) := KB.out.cell 0
        have cB1 : w12.cell? ⟨gb, 1, none⟩ = some (.int .i64 xd) := KB.out.cell 1
        have cC0 : w12.cell? ⟨gc, 0, none⟩ = some (.int .i64 ya) := KC.out.cell 0
        have cC1 : w12.cell? ⟨gc, 1, none⟩ = some (.int .i64 yb) := KC.out.cell 1
        have cD0 : w12.cell? ⟨gd, 0, none⟩ = some (.int .i64 yc) := KD.out.cell 0
        have cD1 : w12.cell? ⟨gd, 1, none⟩ = some (.int .i64 yd) := KD.out.cell 1
        have cP0 : w12.cell? ⟨w8.heap.size, 0, none⟩ = some (.int .i64 p0_0) := KP.out.cell 0
        have cP1 : w12.cell? ⟨w8.heap.size, 1, none⟩ = some (.int .i64 p1_0) := KP.out.cell 1
        have cQ0 : w12.cell? ⟨w10.heap.size, 0, none⟩ = some (.int .i64 q0_0) := KQ.out.cell 0
        have cQ1 : w12.cell? ⟨w10.heap.size, 1, none⟩ = some (.int .i64 q1_0) := KQ.out.cell 1
        go_wp2_with fail
        clear cA0 cA1 cB0 cB1 cC0 cC1 cD0 cD1 cP0 cP1 cQ0 cQ1
        refine (in_yes _ _ _ _ (by omega) (by omega)).mono ?_
        rintro e w13 ⟨rfl, hX⟩
        replace HX := Lib.hid (HX.out.trans hX)
        replace KA := Lib.hid (KA.out.ext hX)
        replace KB := Lib.hid (KB.out.ext hX)
        replace KC := Lib.hid (KC.out.ext hX)
        replace KD := Lib.hid (KD.out.ext hX)
        replace KP := Lib.hid (KP.out.ext hX)
        replace KQ := Lib.hid (KQ.out.ext hX)
        clear hX
        have cA0 : w13.cell? ⟨ga, 0, none⟩ = some (.int .i64 xa) := KA.out.cell 0
        have cA1 : w13.cell? ⟨ga, 1, none⟩ = some (.int .i64 xb) := KA.out.cell 1
        have cB0 : w13.cell? ⟨gb, 0, none⟩ = some (.int .i64 xc) := KB.out.cell 0
        have cB1 : w13.cell? ⟨gb, 1, none⟩ = some (.int .i64 xd) := KB.out.cell 1
        have cC0 : w13.cell? ⟨gc, 0, none⟩ = some (.int .i64 ya) := KC.out.cell 0
        have cC1 : w13.cell? ⟨gc, 1, none⟩ = some (.int .i64 yb) := KC.out.cell 1
        have cD0 : w13.cell? ⟨gd, 0, none⟩ = some (.int .i64 yc) := KD.out.cell 0
        have cD1 : w13.cell? ⟨gd, 1, none⟩ = some (.int .i64 yd) := KD.out.cell 1
        have cP0 : w13.cell? ⟨w8.heap.size, 0, none⟩ = some (.int .i64 p0_0) := KP.out.cell 0
        have cP1 : w13.cell? ⟨w8.heap.size, 1, none⟩ = some (.int .i64 p1_0) := KP.out.cell 1
        have cQ0 : w13.cell? ⟨w10.heap.size, 0, none⟩ = some (.int .i64 q0_0) := KQ.out.cell 0
        have cQ1 : w13.cell? ⟨w10.heap.size, 1, none⟩ = some (.int .i64 q1_0) := KQ.out.cell 1
        go_wp2_with fail
        clear cA0 cA1 cB0 cB1 cC0 cC1 cD0 cD1 cP0 cP1 cQ0 cQ1
        refine (in_yes _ _ _ _ (by omega) (by omega)).mono ?_
        rintro e w14 ⟨rfl, hX⟩
        replace HX := Lib.hid (HX.out.trans hX)
        replace KA := Lib.hid (KA.out.ext hX)
        replace KB := Lib.hid (KB.out.ext hX)
        replace KC := Lib.hid (KC.out.ext hX)
        replace KD := Lib.hid (KD.out.ext hX)
        replace KP := Lib.hid (KP.out.ext hX)
        replace KQ := Lib.hid (KQ.out.ext hX)
        clear hX
        have cA0 : w14.cell? ⟨ga, 0, none⟩ = some (.int .i64 xa) := KA.out.cell 0
        have cA1 : w14.cell? ⟨ga, 1, none⟩ = some (.int .i64 xb) := KA.out.cell 1
        have cB0 : w14.cell? ⟨gb, 0, none⟩ = some (.int .i64 xc) := KB.out.cell 0
        have cB1 : w14.cell? ⟨gb, 1, none⟩ = some (.int .i64 xd) := KB.out.cell 1
        have cC0 : w14.cell? ⟨gc, 0, none⟩ = some (.int .i64 ya) := KC.out.cell 0
        have cC1 : w14.cell? ⟨gc, 1, none⟩ = some (.int .i64 yb) := KC.out.cell 1
        have cD0 : w14.cell? ⟨gd, 0, none⟩ = some (.int .i64 yc) := KD.out.cell 0
        have cD1 : w14.cell? ⟨gd, 1, none⟩ = some (.int .i64 yd) := KD.out.cell 1
        have cP0 : w14.cell? ⟨w8.heap.size, 0, none⟩ = some (.int .i64 p0_0) := KP.out.cell 0
        have cP1 : w14.cell? ⟨w8.heap.size, 1, none⟩ = some (.int .i64 p1_0) := KP.out.cell 1
        have cQ0 : w14.cell? ⟨w10.heap.size, 0, none⟩ = some (.int .i64 q0_0) := KQ.out.cell 0
        have cQ1 : w14.cell? ⟨w10.heap.size, 1, none⟩ = some (.int .i64 q1_0) := KQ.out.cell 1
        go_wp2
        go_meet
        exact ⟨p0_0, p1_0, q0_0, q1_0, rfl, KA, KB, KC, KD, KP, KQ, HX⟩
      · have heb : (e1_0 == 0) = false := by simpa using he
        clear he
        go_wp2
        go_meet
        exact ⟨p0_0, p1_0, q0_0, q1_0, rfl, KA, KB, KC, KD, KP, KQ, HX⟩
  case rest =>
    as_aux_lemma =>
      clear HX KA KB KC KD KP KQ
      obtain ⟨m0_0, m1_0, m2_0, m3_0, rfl, KA, KB, KC, KD, KP, KQ, HX⟩ := hcut
      obtain ⟨w12, rfl⟩ : ∃ x : World, x = wc := ⟨_, rfl⟩
      have cA0 : w12.cell? ⟨ga, 0, none⟩ = some (.int .i64 xa) := KA.out.cell 0
      have cA1 : w12.cell? ⟨ga, 1, none⟩ = some (.int .i64 xb) := KA.out.cell 1
      have cB0 : w12.cell? ⟨gb, 0, none⟩ = some (.int .i64 xc) := KB.out.cell 0
      have cB1 : w12.cell? ⟨gb, 1, none⟩ = some (.int .i64 xd) := KB.out.cell 1
      have cC0 : w12.cell? ⟨gc, 0, none⟩ = some (.int .i64 ya) := KC.out.cell 0
      have cC1 : w12.cell? ⟨gc, 1, none⟩ = some (.int .i64 yb) := KC.out.cell 1
      have cD0 : w12.cell? ⟨gd, 0, none⟩ = some (.int .i64 yc) := KD.out.cell 0
      have cD1 : w12.cell? ⟨gd, 1, none⟩ = some (.int .i64 yd) := KD.out.cell 1
      have cP0 : w12.cell? ⟨w8.heap.size, 0, none⟩ = some (.int .i64 m0_0) := KP.out.cell 0
      have cP1 : w12.cell? ⟨w8.heap.size, 1, none⟩ = some (.int .i64 m1_0) := KP.out.cell 1
      have cQ0 : w12.cell? ⟨w10.heap.size, 0, none⟩ = some (.int .i64 m2_0) := KQ.out.cell 0
      have cQ1 : w12.cell? ⟨w10.heap.size, 1, none⟩ = some (.int .i64 m3_0) := KQ.out.cell 1
      go_wp2_with fail
      clear cA0 cA1 cB0 cB1 cC0 cC1 cD0 cD1 cP0 cP1 cQ0 cQ1
      refine (minusS xa xb xc xd _ HA.out HB.out).mono ?_
      rintro e w13 ⟨p0_1, p1_1, e1_1, rfl, HP1, HP2, HP3, hX⟩
      replace HX := Lib.hid (HX.out.trans hX)
      replace KA := Lib.hid (KA.out.ext hX)
      replace KB := Lib.hid (KB.out.ext hX)
      replace KC := Lib.hid (KC.out.ext hX)
      replace KD := Lib.hid (KD.out.ext hX)
      replace KP := Lib.hid (KP.out.ext hX)
      replace KQ := Lib.hid (KQ.out.ext hX)
      clear hX
      have cA0 : w13.cell? ⟨ga, 0, none⟩ = some (.int .i64 xa) := KA.out.cell 0
      have cA1 : w13.cell? ⟨ga, 1, none⟩ = some (.int .i64 xb) := KA.out.cell 1
      have cB0 : w13.cell? ⟨gb, 0, none⟩ = some (.int .i64 xc) := KB.out.cell 0
      have cB1 : w13.cell? ⟨gb, 1, none⟩ = some (.int .i64 xd) := KB.out.cell 1
      have cC0 : w13.cell? ⟨gc, 0, none⟩ = some (.int .i64 ya) := KC.out.cell 0
      have cC1 : w13.cell? ⟨gc, 1, none⟩ = some (.int .i64 yb) := KC.out.cell 1
      have cD0 : w13.cell? ⟨gd, 0, none⟩ = some (.int .i64 yc) := KD.out.cell 0
      have cD1 : w13.cell? ⟨gd, 1, none⟩ = some (.int .i64 yd) := KD.out.cell 1
      have cP0 : w13.cell? ⟨w8.heap.size, 0, none⟩ = some (.int .i64 m0_0) := KP.out.cell 0
      have fP0 : w13.frozen? ⟨w8.heap.size, 0, none⟩ = false := KP.out.free 0
      have cP1 : w13.cell? ⟨w8.heap.size, 1, none⟩ = some (.int .i64 m1_0) := KP.out.cell 1
      have fP1 : w13.frozen? ⟨w8.heap.size, 1, none⟩ = false := KP.out.free 1
      have cQ0 : w13.cell? ⟨w10.heap.size, 0, none⟩ = some (.int .i64 m2_0) := KQ.out.cell 0
      have cQ1 : w13.cell? ⟨w10.heap.size, 1, none⟩ = some (.int .i64 m3_0) := KQ.out.cell 1
      go_upto_region 12 with (fail)
      clear cA0 cA1 cB0 cB1 cC0 cC1 cD0 cD1 cP0 fP0 cP1 fP1 cQ0 cQ1
      have hXs : Ext w ((w13.setCell ⟨w8.heap.size, 0, none⟩ (.int .i64 p0_1)).setCell ⟨w8.heap.size, 1, none⟩ (.int .i64 p1_1)) := ((HX.out.setCell (show w.heap.size ≤ w8.heap.size by omega) _).setCell (show w.heap.size ≤ w8.heap.size by omega) _)
      have kA : Blk ((w13.setCell ⟨w8.heap.size, 0, none⟩ (.int .i64 p0_1)).setCell ⟨w8.heap.size, 1, none⟩ (.int .i64 p1_1)) ga 62 #[.int .i64 xa, .int .i64 xb] := (Blk.far (Blk.far KA.out (show ga ≠ w8.heap.size by omega) _) (show ga ≠ w8.heap.size by omega) _)
      have kB : Blk ((w13.setCell ⟨w8.heap.size, 0, none⟩ (.int .i64 p0_1)).setCell ⟨w8.heap.size, 1, none⟩ (.int .i64 p1_1)) gb 62 #[.int .i64 xc, .int .i64 xd] := (Blk.far (Blk.far KB.out (show gb ≠ w8.heap.size by omega) _) (show gb ≠ w8.heap.size by omega) _)
      have kC : Blk ((w13.setCell ⟨w8.heap.size, 0, none⟩ (.int .i64 p0_1)).setCell ⟨w8.heap.size, 1, none⟩ (.int .i64 p1_1)) gc 62 #[.int .i64 ya, .int .i64 yb] := (Blk.far (Blk.far KC.out (show gc ≠ w8.heap.size by omega) _) (show gc ≠ w8.heap.size by omega) _)
      have kD : Blk ((w13.setCell ⟨w8.heap.size, 0, none⟩ (.int .i64 p0_1)).setCell ⟨w8.heap.size, 1, none⟩ (.int .i64 p1_1)) gd 62 #[.int .i64 yc, .int .i64 yd] := (Blk.far (Blk.far KD.out (show gd ≠ w8.heap.size by omega) _) (show gd ≠ w8.heap.size by omega) _)
      have kQ : Blk ((w13.setCell ⟨w8.heap.size, 0, none⟩ (.int .i64 p0_1)).setCell ⟨w8.heap.size, 1, none⟩ (.int .i64 p1_1)) w10.heap.size 62 #[.int .i64 m2_0, .int .i64 m3_0] := (Blk.far (Blk.far KQ.out (show w10.heap.size ≠ w8.heap.size by omega) _) (show w10.heap.size ≠ w8.heap.size by omega) _)
      have kP : Blk ((w13.setCell ⟨w8.heap.size, 0, none⟩ (.int .i64 p0_1)).setCell ⟨w8.heap.size, 1, none⟩ (.int .i64 p1_1)) w8.heap.size 62 #[.int .i64 p0_1, .int .i64 p1_1] := (Blk.set (Blk.set KP.out 0 _) 1 _)
      generalize ((w13.setCell ⟨w8.heap.size, 0, none⟩ (.int .i64 p0_1)).setCell ⟨w8.heap.size, 1, none⟩ (.int .i64 p1_1)) = w14 at hXs kA kB kC kD kP kQ ⊢
      clear HX KA KB KC KD KP KQ
      have HX := Lib.hid hXs
      clear hXs
      have KA := Lib.hid kA
      clear kA
      have KB := Lib.hid kB
      clear kB
      have KC := Lib.hid kC
      clear kC
      have KD := Lib.hid kD
      clear kD
      have KP := Lib.hid kP
      clear kP
      have KQ := Lib.hid kQ
      clear kQ
      have cA0 : w14.cell? ⟨ga, 0, none⟩ = some (.int .i64 xa) := KA.out.cell 0
      have cA1 : w14.cell? ⟨ga, 1, none⟩ = some (.int .i64 xb) := KA.out.cell 1
      have cB0 : w14.cell? ⟨gb, 0, none⟩ = some (.int .i64 xc) := KB.out.cell 0
      have cB1 : w14.cell? ⟨gb, 1, none⟩ = some (.int .i64 xd) := KB.out.cell 1
      have cC0 : w14.cell? ⟨gc, 0, none⟩ = some (.int .i64 ya) := KC.out.cell 0
      have cC1 : w14.cell? ⟨gc, 1, none⟩ = some (.int .i64 yb) := KC.out.cell 1
      have cD0 : w14.cell? ⟨gd, 0, none⟩ = some (.int .i64 yc) := KD.out.cell 0
      have cD1 : w14.cell? ⟨gd, 1, none⟩ = some (.int .i64 yd) := KD.out.cell 1
      have cP0 : w14.cell? ⟨w8.heap.size, 0, none⟩ = some (.int .i64 p0_1) := KP.out.cell 0
      have cP1 : w14.cell? ⟨w8.heap.size, 1, none⟩ = some (.int .i64 p1_1) := KP.out.cell 1
      have cQ0 : w14.cell? ⟨w10.heap.size, 0, none⟩ = some (.int .i64 m2_0) := KQ.out.cell 0
      have cQ1 : w14.cell? ⟨w10.heap.size, 1, none⟩ = some (.int .i64 m3_0) := KQ.out.cell 1
      go_wp2_with fail
      clear cA0 cA1 cB0 cB1 cC0 cC1 cD0 cD1 cP0 cP1 cQ0 cQ1
      refine (minusS ya yb yc yd _ HC.out HD.out).mono ?_
      rintro e w15 ⟨q0_1, q1_1, e2_1, rfl, HQ1, HQ2, HQ3, hX⟩
      replace HX := Lib.hid (HX.out.trans hX)
      replace KA := Lib.hid (KA.out.ext hX)
      replace KB := Lib.hid (KB.out.ext hX)
      replace KC := Lib.hid (KC.out.ext hX)
      replace KD := Lib.hid (KD.out.ext hX)
      replace KP := Lib.hid (KP.out.ext hX)
      replace KQ := Lib.hid (KQ.out.ext hX)
      clear hX
      have cA0 : w15.cell? ⟨ga, 0, none⟩ = some (.int .i64 xa) := KA.out.cell 0
      have cA1 : w15.cell? ⟨ga, 1, none⟩ = some (.int .i64 xb) := KA.out.cell 1
      have cB0 : w15.cell? ⟨gb, 0, none⟩ = some (.int .i64 xc) := KB.out.cell 0
      have cB1 : w15.cell? ⟨gb, 1, none⟩ = some (.int .i64 xd) := KB.out.cell 1
      have cC0 : w15.cell? ⟨gc, 0, none⟩ = some (.int .i64 ya) := KC.out.cell 0
      have cC1 : w15.cell? ⟨gc, 1, none⟩ = some (.int .i64 yb) := KC.out.cell 1
      have cD0 : w15.cell? ⟨gd, 0, none⟩ = some (.int .i64 yc) := KD.out.cell 0
      have cD1 : w15.cell? ⟨gd, 1, none⟩ = some (.int .i64 yd) := KD.out.cell 1
      have cP0 : w15.cell? ⟨w8.heap.size, 0, none⟩ = some (.int .i64 p0_1) := KP.out.cell 0
      have cP1 : w15.cell? ⟨w8.heap.size, 1, none⟩ = some (.int .i64 p1_1) := KP.out.cell 1
      have cQ0 : w15.cell? ⟨w10.heap.size, 0, none⟩ = some (.int .i64 m2_0) := KQ.out.cell 0
      have fQ0 : w15.frozen? ⟨w10.heap.size, 0, none⟩ = false := KQ.out.free 0
      have cQ1 : w15.cell? ⟨w10.heap.size, 1, none⟩ = some (.int .i64 m3_0) := KQ.out.cell 1
      have fQ1 : w15.frozen? ⟨w10.heap.size, 1, none⟩ = false := KQ.out.free 1
      go_upto_region 13 with (fail)
      clear cA0 cA1 cB0 cB1 cC0 cC1 cD0 cD1 cP0 cP1 cQ0 fQ0 cQ1 fQ1
      have hXs : Ext w ((w15.setCell ⟨w10.heap.size, 0, none⟩ (.int .i64 q0_1)).setCell ⟨w10.heap.size, 1, none⟩ (.int .i64 q1_1)) := ((HX.out.setCell (show w.heap.size ≤ w10.heap.size by omega) _).setCell (show w.heap.size ≤ w10.heap.size by omega) _)
      have kA : Blk ((w15.setCell ⟨w10.heap.size, 0, none⟩ (.int .i64 q0_1)).setCell ⟨w10.heap.size, 1, none⟩ (.int .i64 q1_1)) ga 62 #[.int .i64 xa, .int .i64 xb] := (Blk.far (Blk.far KA.out (show ga ≠ w10.heap.size by omega) _) (show ga ≠ w10.heap.size by omega) _)
      have kB : Blk ((w15.setCell ⟨w10.heap.size, 0, none⟩ (.int .i64 q0_1)).setCell ⟨w10.heap.size, 1, none⟩ (.int .i64 q1_1)) gb 62 #[.int .i64 xc, .int .i64 xd] := (Blk.far (Blk.far KB.out (show gb ≠ w10.heap.size by omega) _) (show gb ≠ w10.heap.size by omega) _)
      have kC : Blk ((w15.setCell ⟨w10.heap.size, 0, none⟩ (.int .i64 q0_1)).setCell ⟨w10.heap.size, 1, none⟩ (.int .i64 q1_1)) gc 62 #[.int .i64 ya, .int .i64 yb] := (Blk.far (Blk.far KC.out (show gc ≠ w10.heap.size by omega) _) (show gc ≠ w10.heap.size by omega) _)
      have kD : Blk ((w15.setCell ⟨w10.heap.size, 0, none⟩ (.int .i64 q0_1)).setCell ⟨w10.heap.size, 1, none⟩ (.int .i64 q1_1)) gd 62 #[.int .i64 yc, .int .i64 yd] := (Blk.far (Blk.far KD.out (show gd ≠ w10.heap.size by omega) _) (show gd ≠ w10.heap.size by omega) _)
      have kP : Blk ((w15.setCell ⟨w10.heap.size, 0, none⟩ (.int .i64 q0_1)).setCell ⟨w10.heap.size, 1, none⟩ (.int .i64 q1_1)) w8.heap.size 62 #[.int .i64 p0_1, .int .i64 p1_1] := (Blk.far (Blk.far KP.out (show w8.heap.size ≠ w10.heap.size by omega) _) (show w8.heap.size ≠ w10.heap.size by omega) _)
      have kQ : Blk ((w15.setCell ⟨w10.heap.size, 0, none⟩ (.int .i64 q0_1)).setCell ⟨w10.heap.size, 1, none⟩ (.int .i64 q1_1)) w10.heap.size 62 #[.int .i64 q0_1, .int .i64 q1_1] := (Blk.set (Blk.set KQ.out 0 _) 1 _)
      generalize ((w15.setCell ⟨w10.heap.size, 0, none⟩ (.int .i64 q0_1)).setCell ⟨w10.heap.size, 1, none⟩ (.int .i64 q1_1)) = w16 at hXs kA kB kC kD kP kQ ⊢
      clear HX KA KB KC KD KP KQ
      have HX := Lib.hid hXs
      clear hXs
      have KA := Lib.hid kA
      clear kA
      have KB := Lib.hid kB
      clear kB
      have KC := Lib.hid kC
      clear kC
      have KD := Lib.hid kD
      clear kD
      have KP := Lib.hid kP
      clear kP
      have KQ := Lib.hid kQ
      clear kQ
      have cA0 : w16.cell? ⟨ga, 0, none⟩ = some (.int .i64 xa) := KA.out.cell 0
      have cA1 : w16.cell? ⟨ga, 1, none⟩ = some (.int .i64 xb) := KA.out.cell 1
      have cB0 : w16.cell? ⟨gb, 0, none⟩ = some (.int .i64 xc) := KB.out.cell 0
      have cB1 : w16.cell? ⟨gb, 1, none⟩ = some (.int .i64 xd) := KB.out.cell 1
      have cC0 : w16.cell? ⟨gc, 0, none⟩ = some (.int .i64 ya) := KC.out.cell 0
      have cC1 : w16.cell? ⟨gc, 1, none⟩ = some (.int .i64 yb) := KC.out.cell 1
      have cD0 : w16.cell? ⟨gd, 0, none⟩ = some (.int .i64 yc) := KD.out.cell 0
      have cD1 : w16.cell? ⟨gd, 1, none⟩ = some (.int .i64 yd) := KD.out.cell 1
      have cP0 : w16.cell? ⟨w8.heap.size, 0, none⟩ = some (.int .i64 p0_1) := KP.out.cell 0
      have cP1 : w16.cell? ⟨w8.heap.size, 1, none⟩ = some (.int .i64 p1_1) := KP.out.cell 1
      have cQ0 : w16.cell? ⟨w10.heap.size, 0, none⟩ = some (.int .i64 q0_1) := KQ.out.cell 0
      have cQ1 : w16.cell? ⟨w10.heap.size, 1, none⟩ = some (.int .i64 q1_1) := KQ.out.cell 1
      clear cA0 cA1 cB0 cB1 cC0 cC1 cD0 cD1 cP0 cP1 cQ0 cQ1
      have HF : Hid (e1_1 = 0 → e2_1 = 0 ∧ p0_1 = xa - xd ∧ p1_1 = xb - xc ∧ q0_1 = ya - yd ∧ q1_1 = yb - yc ∧ -1152921504606846976 ≤ xa - xd ∧ xb - xc ≤ 1152921504606846976) := fun h => by
        obtain ⟨⟨k1, k2⟩, k3, k4⟩ := HP1.out h
        have h2 := HQ2.out ⟨by omega, by omega⟩
        obtain ⟨_, k5, k6⟩ := HQ1.out h2
        exact ⟨h2, k3, k4, k5, k6, k1, k2⟩
      obtain ⟨hp0, hp1, hp2, hp3⟩ := HP3.out
      obtain ⟨hq0, hq1, hq2, hq3⟩ := HQ3.out
      clear HP1 HP2 HP3 HQ1 HQ2 HQ3
      go_upto_region 13 with (fail)
      go_cut [146] (fun s146 W => ∃ m0_1 m1_1 m2_1 m3_1 : Int, s146 = .bool false ∧ Hid (Blk W ga 62 #[.int .i64 xa, .int .i64 xb]) ∧ Hid (Blk W gb 62 #[.int .i64 xc, .int .i64 xd]) ∧ Hid (Blk W gc 62 #[.int .i64 ya, .int .i64 yb]) ∧ Hid (Blk W gd 62 #[.int .i64 yc, .int .i64 yd]) ∧ Hid (Blk W w8.heap.size 62 #[.int .i64 m0_1, .int .i64 m1_1]) ∧ Hid (Blk W w10.heap.size 62 #[.int .i64 m2_1, .int .i64 m3_1]) ∧ Hid (Ext w W))
      case first =>
        as_aux_lemma =>
          by_cases he : e1_1 = 0
          · obtain ⟨HOK, k3, k4, k5, k6, k1, k2⟩ := HF.out he
            subst he
            have he2 : e2_1 = 0 := HOK
            subst he2
            clear HOK
            have cA0 : w16.cell? ⟨ga, 0, none⟩ = some (.int .i64 xa) := KA.out.cell 0
            have cA1 : w16.cell? ⟨ga, 1, none⟩ = some (.int .i64 xb) := KA.out.cell 1
            have cB0 : w16.cell? ⟨gb, 0, none⟩ = some (.int .i64 xc) := KB.out.cell 0
            have cB1 : w16.cell? ⟨gb, 1, none⟩ = some (.int .i64 xd) := KB.out.cell 1
            have cC0 : w16.cell? ⟨gc, 0, none⟩ = some (.int .i64 ya) := KC.out.cell 0
            have cC1 : w16.cell? ⟨gc, 1, none⟩ = some (.int .i64 yb) := KC.out.cell 1
            have cD0 : w16.cell? ⟨gd, 0, none⟩ = some (.int .i64 yc) := KD.out.cell 0
            have cD1 : w16.cell? ⟨gd, 1, none⟩ = some (.int .i64 yd) := KD.out.cell 1
            have cP0 : w16.cell? ⟨w8.heap.size, 0, none⟩ = some (.int .i64 p0_1) := KP.out.cell 0
            have cP1 : w16.cell? ⟨w8.heap.size, 1, none⟩ = some (.int .i64 p1_1) := KP.out.cell 1
            have cQ0 : w16.cell? ⟨w10.heap.size, 0, none⟩ = some (.int .i64 q0_1) := KQ.out.cell 0
            have cQ1 : w16.cell? ⟨w10.heap.size, 1, none⟩ = some (.int .i64 q1_1) := KQ.out.cell 1
            go_wp2_with fail
            clear cA0 cA1 cB0 cB1 cC0 cC1 cD0 cD1 cP0 cP1 cQ0 cQ1
            refine (in_yes _ _ _ _ (by omega) (by omega)).mono ?_
            rintro e w17 ⟨rfl, hX⟩
            replace HX := Lib.hid (HX.out.trans hX)
            replace KA := Lib.hid (KA.out.ext hX)
            replace KB := Lib.hid (KB.out.ext hX)
            replace KC := Lib.hid (KC.out.ext hX)
            replace KD := Lib.hid (KD.out.ext hX)
            replace KP := Lib.hid (KP.out.ext hX)
            replace KQ := Lib.hid (KQ.out.ext hX)
            clear hX
            have cA0 : w17.cell? ⟨ga, 0, none⟩ = some (.int .i64 xa) := KA.out.cell 0
            have cA1 : w17.cell? ⟨ga, 1, none⟩ = some (.int .i64 xb) := KA.out.cell 1
            have cB0 : w17.cell? ⟨gb, 0, none⟩ = some (.int .i64 xc) := KB.out.cell 0
            have cB1 : w17.cell? ⟨gb, 1, none⟩ = some (.int .i64 xd) := KB.out.cell 1
            have cC0 : w17.cell? ⟨gc, 0, none⟩ = some (.int .i64 ya) := KC.out.cell 0
            have cC1 : w17.cell? ⟨gc, 1, none⟩ = some (.int .i64 yb) := KC.out.cell 1
            have cD0 : w17.cell? ⟨gd, 0, none⟩ = some (.int .i64 yc) := KD.out.cell 0
            have cD1 : w17.cell? ⟨gd, 1, none⟩ = some (.int .i64 yd) := KD.out.cell 1
            have cP0 : w17.cell? ⟨w8.heap.size, 0, none⟩ = some (.int .i64 p0_1) := KP.out.cell 0
            have cP1 : w17.cell? ⟨w8.heap.size, 1, none⟩ = some (.int .i64 p1_1) := KP.out.cell 1
            have cQ0 : w17.cell? ⟨w10.heap.size, 0, none⟩ = some (.int .i64 q0_1) := KQ.out.cell 0
            have cQ1 : w17.cell? ⟨w10.heap.size, 1, none⟩ = some (.int .i64 q1_1) := KQ.out.cell 1
            go_wp2_with fail
            clear cA0 cA1 cB0 cB1 cC0 cC1 cD0 cD1 cP0 cP1 cQ0 cQ1
            refine (in_yes _ _ _ _ (by omega) (by omega)).mono ?_
            rintro e w18 ⟨rfl, hX⟩
            replace HX := Lib.hid (HX.out.trans hX)
            replace KA := Lib.hid (KA.out.ext hX)
            replace KB := Lib.hid (KB.out.ext hX)
            replace KC := Lib.hid (KC.out.ext hX)
            replace KD := Lib.hid (KD.out.ext hX)
            replace KP := Lib.hid (KP.out.ext hX)
            replace KQ := Lib.hid (KQ.out.ext hX)
            clear hX
            have cA0 : w18.cell? ⟨ga, 0, none⟩ = some (.int .i64 xa) := KA.out.cell 0
            have cA1 : w18.cell? ⟨ga, 1, none⟩ = some (.int .i64 xb) := KA.out.cell 1
            have cB0 : w18.cell? ⟨gb, 0, none⟩ = some (.int .i64 xc) := KB.out.cell 0
            have cB1 : w18.cell? ⟨gb, 1, none⟩ = some (.int .i64 xd) := KB.out.cell 1
            have cC0 : w18.cell? ⟨gc, 0, none⟩ = some (.int .i64 ya) := KC.out.cell 0
            have cC1 : w18.cell? ⟨gc, 1, none⟩ = some (.int .i64 yb) := KC.out.cell 1
            have cD0 : w18.cell? ⟨gd, 0, none⟩ = some (.int .i64 yc) := KD.out.cell 0
            have cD1 : w18.cell? ⟨gd, 1, none⟩ = some (.int .i64 yd) := KD.out.cell 1
            have cP0 : w18.cell? ⟨w8.heap.size, 0, none⟩ = some (.int .i64 p0_1) := KP.out.cell 0
            have cP1 : w18.cell? ⟨w8.heap.size, 1, none⟩ = some (.int .i64 p1_1) := KP.out.cell 1
            have cQ0 : w18.cell? ⟨w10.heap.size, 0, none⟩ = some (.int .i64 q0_1) := KQ.out.cell 0
            have cQ1 : w18.cell? ⟨w10.heap.size, 1, none⟩ = some (.int .i64 q1_1) := KQ.out.cell 1
            go_wp2_with fail
            clear cA0 cA1 cB0 cB1 cC0 cC1 cD0 cD1 cP0 cP1 cQ0 cQ1
            refine (in_yes _ _ _ _ (by omega) (by omega)).mono ?_
            rintro e w19 ⟨rfl, hX⟩
            replace HX := Lib.hid (HX.out.trans hX)
            replace KA := Lib.hid (KA.out.ext hX)
            replace KB := Lib.hid (KB.out.ext hX)
            replace KC := Lib.hid (KC.out.ext hX)
            replace KD := Lib.hid (KD.out.ext hX)
            replace KP := Lib.hid (KP.out.ext hX)
            replace KQ := Lib.hid (KQ.out.ext hX)
            clear hX
            have cA0 : w19.cell? ⟨ga, 0, none⟩ = some (.int .i64 xa) := KA.out.cell 0
            have cA1 : w19.cell? ⟨ga, 1, none⟩ = some (.int .i64 xb) := KA.out.cell 1
            have cB0 : w19.cell? ⟨gb, 0, none⟩ = some (.int .i64 xc) := KB.out.cell 0
            have cB1 : w19.cell? ⟨gb, 1, none⟩ = some (.int .i64 xd) := KB.out.cell 1
            have cC0 : w19.cell? ⟨gc, 0, none⟩ = some (.int .i64 ya) := KC.out.cell 0
            have cC1 : w19.cell? ⟨gc, 1, none⟩ = some (.int .i64 yb) := KC.out.cell 1
            have cD0 : w19.cell? ⟨gd, 0, none⟩ = some (.int .i64 yc) := KD.out.cell 0
            have cD1 : w19.cell? ⟨gd, 1, none⟩ = some (.int .i64 yd) := KD.out.cell 1
            have cP0 : w19.cell? ⟨w8.heap.size, 0, none⟩ = some (.int .i64 p0_1) := KP.out.cell 0
            have cP1 : w19.cell? ⟨w8.heap.size, 1, none⟩ = some (.int .i64 p1_1) := KP.out.cell 1
            have cQ0 : w19.cell? ⟨w10.heap.size, 0, none⟩ = some (.int .i64 q0_1) := KQ.out.cell 0
            have cQ1 : w19.cell? ⟨w10.heap.size, 1, none⟩ = some (.int .i64 q1_1) := KQ.out.cell 1
            go_wp2
            go_meet
            exact ⟨p0_1, p1_1, q0_1, q1_1, rfl, KA, KB, KC, KD, KP, KQ, HX⟩
          · have heb : (e1_1 == 0) = false := by simpa using he
            clear he
            go_wp2
            go_meet
            exact ⟨p0_1, p1_1, q0_1, q1_1, rfl, KA, KB, KC, KD, KP, KQ, HX⟩
      case rest =>
        as_aux_lemma =>
          clear HX KA KB KC KD KP KQ
          obtain ⟨m0_1, m1_1, m2_1, m3_1, rfl, KA, KB, KC, KD, KP, KQ, HX⟩ := hcut
          obtain ⟨w17, rfl⟩ : ∃ x : World, x = wc := ⟨_, rfl⟩
          have cA0 : w17.cell? ⟨ga, 0, none⟩ = some (.int .i64 xa) := KA.out.cell 0
          have cA1 : w17.cell? ⟨ga, 1, none⟩ = some (.int .i64 xb) := KA.out.cell 1
          have cB0 : w17.cell? ⟨gb, 0, none⟩ = some (.int .i64 xc) := KB.out.cell 0
          have cB1 : w17.cell? ⟨gb, 1, none⟩ = some (.int .i64 xd) := KB.out.cell 1
          have cC0 : w17.cell? ⟨gc, 0, none⟩ = some (.int .i64 ya) := KC.out.cell 0
          have cC1 : w17.cell? ⟨gc, 1, none⟩ = some (.int .i64 yb) := KC.out.cell 1
          have cD0 : w17.cell? ⟨gd, 0, none⟩ = some (.int .i64 yc) := KD.out.cell 0
          have cD1 : w17.cell? ⟨gd, 1, none⟩ = some (.int .i64 yd) := KD.out.cell 1
          have cP0 : w17.cell? ⟨w8.heap.size, 0, none⟩ = some (.int .i64 m0_1) := KP.out.cell 0
          have cP1 : w17.cell? ⟨w8.heap.size, 1, none⟩ = some (.int .i64 m1_1) := KP.out.cell 1
          have cQ0 : w17.cell? ⟨w10.heap.size, 0, none⟩ = some (.int .i64 m2_1) := KQ.out.cell 0
          have cQ1 : w17.cell? ⟨w10.heap.size, 1, none⟩ = some (.int .i64 m3_1) := KQ.out.cell 1
          go_wp2_with fail
          clear cA0 cA1 cB0 cB1 cC0 cC1 cD0 cD1 cP0 cP1 cQ0 cQ1
          refine (timesS xa xb xc xd _ HA.out HB.out).mono ?_
          rintro e w18 ⟨p0_2, p1_2, e1_2, rfl, HP1, HP2, HP3, hX⟩
          replace HX := Lib.hid (HX.out.trans hX)
          replace KA := Lib.hid (KA.out.ext hX)
          replace KB := Lib.hid (KB.out.ext hX)
          replace KC := Lib.hid (KC.out.ext hX)
          replace KD := Lib.hid (KD.out.ext hX)
          replace KP := Lib.hid (KP.out.ext hX)
          replace KQ := Lib.hid (KQ.out.ext hX)
          clear hX
          have cA0 : w18.cell? ⟨ga, 0, none⟩ = some (.int .i64 xa) := KA.out.cell 0
          have cA1 : w18.cell? ⟨ga, 1, none⟩ = some (.int .i64 xb) := KA.out.cell 1
          have cB0 : w18.cell? ⟨gb, 0, none⟩ = some (.int .i64 xc) := KB.out.cell 0
          have cB1 : w18.cell? ⟨gb, 1, none⟩ = some (.int .i64 xd) := KB.out.cell 1
          have cC0 : w18.cell? ⟨gc, 0, none⟩ = some (.int .i64 ya) := KC.out.cell 0
          have cC1 : w18.cell? ⟨gc, 1, none⟩ = some (.int .i64 yb) := KC.out.cell 1
          have cD0 : w18.cell? ⟨gd, 0, none⟩ = some (.int .i64 yc) := KD.out.cell 0
          have cD1 : w18.cell? ⟨gd, 1, none⟩ = some (.int .i64 yd) := KD.out.cell 1
          have cP0 : w18.cell? ⟨w8.heap.size, 0, none⟩ = some (.int .i64 m0_1) := KP.out.cell 0
          have fP0 : w18.frozen? ⟨w8.heap.size, 0, none⟩ = false := KP.out.free 0
          have cP1 : w18.cell? ⟨w8.heap.size, 1, none⟩ = some (.int .i64 m1_1) := KP.out.cell 1
          have fP1 : w18.frozen? ⟨w8.heap.size, 1, none⟩ = false := KP.out.free 1
          have cQ0 : w18.cell? ⟨w10.heap.size, 0, none⟩ = some (.int .i64 m2_1) := KQ.out.cell 0
          have cQ1 : w18.cell? ⟨w10.heap.size, 1, none⟩ = some (.int .i64 m3_1) := KQ.out.cell 1
          go_upto_region 16 with (fail)
          clear cA0 cA1 cB0 cB1 cC0 cC1 cD0 cD1 cP0 fP0 cP1 fP1 cQ0 cQ1
          have hXs : Ext w ((w18.setCell ⟨w8.heap.size, 0, none⟩ (.int .i64 p0_2)).setCell ⟨w8.heap.size, 1, none⟩ (.int .i64 p1_2)) := ((HX.out.setCell (show w.heap.size ≤ w8.heap.size by omega) _).setCell (show w.heap.size ≤ w8.heap.size by omega) _)
          have kA : Blk ((w18.setCell ⟨w8.heap.size, 0, none⟩ (.int .i64 p0_2)).setCell ⟨w8.heap.size, 1, none⟩ (.int .i64 p1_2)) ga 62 #[.int .i64 xa, .int .i64 xb] := (Blk.far (Blk.far KA.out (show ga ≠ w8.heap.size by omega) _) (show ga ≠ w8.heap.size by omega) _)
          have kB : Blk ((w18.setCell ⟨w8.heap.size, 0, none⟩ (.int .i64 p0_2)).setCell ⟨w8.heap.size, 1, none⟩ (.int .i64 p1_2)) gb 62 #[.int .i64 xc, .int .i64 xd] := (Blk.far (Blk.far KB.out (show gb ≠ w8.heap.size by omega) _) (show gb ≠ w8.heap.size by omega) _)
          have kC : Blk ((w18.setCell ⟨w8.heap.size, 0, none⟩ (.int .i64 p0_2)).setCell ⟨w8.heap.size, 1, none⟩ (.int .i64 p1_2)) gc 62 #[.int .i64 ya, .int .i64 yb] := (Blk.far (Blk.far KC.out (show gc ≠ w8.heap.size by omega) _) (show gc ≠ w8.heap.size by omega) _)
          have kD : Blk ((w18.setCell ⟨w8.heap.size, 0, none⟩ (.int .i64 p0_2)).setCell ⟨w8.heap.size, 1, none⟩ (.int .i64 p1_2)) gd 62 #[.int .i64 yc, .int .i64 yd] := (Blk.far (Blk.far KD.out (show gd ≠ w8.heap.size by omega) _) (show gd ≠ w8.heap.size by omega) _)
          have kQ : Blk ((w18.setCell ⟨w8.heap.size, 0, none⟩ (.int .i64 p0_2)).setCell ⟨w8.heap.size, 1, none⟩ (.int .i64 p1_2)) w10.heap.size 62 #[.int .i64 m2_1, .int .i64 m3_1] := (Blk.far (Blk.far KQ.out (show w10.heap.size ≠ w8.heap.size by omega) _) (show w10.heap.size ≠ w8.heap.size by omega) _)
          have kP : Blk ((w18.setCell ⟨w8.heap.size, 0, none⟩ (.int .i64 p0_2)).setCell ⟨w8.heap.size, 1, none⟩ (.int .i64 p1_2)) w8.heap.size 62 #[.int .i64 p0_2, .int .i64 p1_2] := (Blk.set (Blk.set KP.out 0 _) 1 _)
          generalize ((w18.setCell ⟨w8.heap.size, 0, none⟩ (.int .i64 p0_2)).setCell ⟨w8.heap.size, 1, none⟩ (.int .i64 p1_2)) = w19 at hXs kA kB kC kD kP kQ ⊢
          clear HX KA KB KC KD KP KQ
          have HX := Lib.hid hXs
          clear hXs
          have KA := Lib.hid kA
          clear kA
          have KB := Lib.hid kB
          clear kB
          have KC := Lib.hid kC
          clear kC
          have KD := Lib.hid kD
          clear kD
          have KP := Lib.hid kP
          clear kP
          have KQ := Lib.hid kQ
          clear kQ
          have cA0 : w19.cell? ⟨ga, 0, none⟩ = some (.int .i64 xa) := KA.out.cell 0
          have cA1 : w19.cell? ⟨ga, 1, none⟩ = some (.int .i64 xb) := KA.out.cell 1
          have cB0 : w19.cell? ⟨gb, 0, none⟩ = some (.int .i64 xc) := KB.out.cell 0
          have cB1 : w19.cell? ⟨gb, 1, none⟩ = some (.int .i64 xd) := KB.out.cell 1
          have cC0 : w19.cell? ⟨gc, 0, none⟩ = some (.int .i64 ya) := KC.out.cell 0
          have cC1 : w19.cell? ⟨gc, 1, none⟩ = some (.int .i64 yb) := KC.out.cell 1
          have cD0 : w19.cell? ⟨gd, 0, none⟩ = some (.int .i64 yc) := KD.out.cell 0
          have cD1 : w19.cell? ⟨gd, 1, none⟩ = some (.int .i64 yd) := KD.out.cell 1
          have cP0 : w19.cell? ⟨w8.heap.size, 0, none⟩ = some (.int .i64 p0_2) := KP.out.cell 0
          have cP1 : w19.cell? ⟨w8.heap.size, 1, none⟩ = some (.int .i64 p1_2) := KP.out.cell 1
          have cQ0 : w19.cell? ⟨w10.heap.size, 0, none⟩ = some (.int .i64 m2_1) := KQ.out.cell 0
          have cQ1 : w19.cell? ⟨w10.heap.size, 1, none⟩ = some (.int .i64 m3_1) := KQ.out.cell 1
          go_wp2_with fail
          clear cA0 cA1 cB0 cB1 cC0 cC1 cD0 cD1 cP0 cP1 cQ0 cQ1
          refine (timesS ya yb yc yd _ HC.out HD.out).mono ?_
          rintro e w20 ⟨q0_2, q1_2, e2_2, rfl, HQ1, HQ2, HQ3, hX⟩
          replace HX := Lib.hid (HX.out.trans hX)
          replace KA := Lib.hid (KA.out.ext hX)
          replace KB := Lib.hid (KB.out.ext hX)
          replace KC := Lib.hid (KC.out.ext hX)
          replace KD := Lib.hid (KD.out.ext hX)
          replace KP := Lib.hid (KP.out.ext hX)
          replace KQ := Lib.hid (KQ.out.ext hX)
          clear hX
          have cA0 : w20.cell? ⟨ga, 0, none⟩ = some (.int .i64 xa) := KA.out.cell 0
          have cA1 : w20.cell? ⟨ga, 1, none⟩ = some (.int .i64 xb) := KA.out.cell 1
          have cB0 : w20.cell? ⟨gb, 0, none⟩ = some (.int .i64 xc) := KB.out.cell 0
          have cB1 : w20.cell? ⟨gb, 1, none⟩ = some (.int .i64 xd) := KB.out.cell 1
          have cC0 : w20.cell? ⟨gc, 0, none⟩ = some (.int .i64 ya) := KC.out.cell 0
          have cC1 : w20.cell? ⟨gc, 1, none⟩ = some (.int .i64 yb) := KC.out.cell 1
          have cD0 : w20.cell? ⟨gd, 0, none⟩ = some (.int .i64 yc) := KD.out.cell 0
          have cD1 : w20.cell? ⟨gd, 1, none⟩ = some (.int .i64 yd) := KD.out.cell 1
          have cP0 : w20.cell? ⟨w8.heap.size, 0, none⟩ = some (.int .i64 p0_2) := KP.out.cell 0
          have cP1 : w20.cell? ⟨w8.heap.size, 1, none⟩ = some (.int .i64 p1_2) := KP.out.cell 1
          have cQ0 : w20.cell? ⟨w10.heap.size, 0, none⟩ = some (.int .i64 m2_1) := KQ.out.cell 0
          have fQ0 : w20.frozen? ⟨w10.heap.size, 0, none⟩ = false := KQ.out.free 0
          have cQ1 : w20.cell? ⟨w10.heap.size, 1, none⟩ = some (.int .i64 m3_1) := KQ.out.cell 1
          have fQ1 : w20.frozen? ⟨w10.heap.size, 1, none⟩ = false := KQ.out.free 1
          go_upto_region 17 with (fail)
          clear cA0 cA1 cB0 cB1 cC0 cC1 cD0 cD1 cP0 cP1 cQ0 fQ0 cQ1 fQ1
          have hXs : Ext w ((w20.setCell ⟨w10.heap.size, 0, none⟩ (.int .i64 q0_2)).setCell ⟨w10.heap.size, 1, none⟩ (.int .i64 q1_2)) := ((HX.out.setCell (show w.heap.size ≤ w10.heap.size by omega) _).setCell (show w.heap.size ≤ w10.heap.size by omega) _)
          have kA : Blk ((w20.setCell ⟨w10.heap.size, 0, none⟩ (.int .i64 q0_2)).setCell ⟨w10.heap.size, 1, none⟩ (.int .i64 q1_2)) ga 62 #[.int .i64 xa, .int .i64 xb] := (Blk.far (Blk.far KA.out (show ga ≠ w10.heap.size by omega) _) (show ga ≠ w10.heap.size by omega) _)
          have kB : Blk ((w20.setCell ⟨w10.heap.size, 0, none⟩ (.int .i64 q0_2)).setCell ⟨w10.heap.size, 1, none⟩ (.int .i64 q1_2)) gb 62 #[.int .i64 xc, .int .i64 xd] := (Blk.far (Blk.far KB.out (show gb ≠ w10.heap.size by omega) _) (show gb ≠ w10.heap.size by omega) _)
          have kC : Blk ((w20.setCell ⟨w10.heap.size, 0, none⟩ (.int .i64 q0_2)).setCell ⟨w10.heap.size, 1, none⟩ (.int .i64 q1_2)) gc 62 #[.int .i64 ya, .int .i64 yb] := (Blk.far (Blk.far KC.out (show gc ≠ w10.heap.size by omega) _) (show gc ≠ w10.heap.size by omega) _)
          have kD : Blk ((w20.setCell ⟨w10.heap.size, 0, none⟩ (.int .i64 q0_2)).setCell ⟨w10.heap.size, 1, none⟩ (.int .i64 q1_2)) gd 62 #[.int .i64 yc, .int .i64 yd] := (Blk.far (Blk.far KD.out (show gd ≠ w10.heap.size by omega) _) (show gd ≠ w10.heap.size by omega) _)
          have kP : Blk ((w20.setCell ⟨w10.heap.size, 0, none⟩ (.int .i64 q0_2)).setCell ⟨w10.heap.size, 1, none⟩ (.int .i64 q1_2)) w8.heap.size 62 #[.int .i64 p0_2, .int .i64 p1_2] := (Blk.far (Blk.far KP.out (show w8.heap.size ≠ w10.heap.size by omega) _) (show w8.heap.size ≠ w10.heap.size by omega) _)
          have kQ : Blk ((w20.setCell ⟨w10.heap.size, 0, none⟩ (.int .i64 q0_2)).setCell ⟨w10.heap.size, 1, none⟩ (.int .i64 q1_2)) w10.heap.size 62 #[.int .i64 q0_2, .int .i64 q1_2] := (Blk.set (Blk.set KQ.out 0 _) 1 _)
          generalize ((w20.setCell ⟨w10.heap.size, 0, none⟩ (.int .i64 q0_2)).setCell ⟨w10.heap.size, 1, none⟩ (.int .i64 q1_2)) = w21 at hXs kA kB kC kD kP kQ ⊢
          clear HX KA KB KC KD KP KQ
          have HX := Lib.hid hXs
          clear hXs
          have KA := Lib.hid kA
          clear kA
          have KB := Lib.hid kB
          clear kB
          have KC := Lib.hid kC
          clear kC
          have KD := Lib.hid kD
          clear kD
          have KP := Lib.hid kP
          clear kP
          have KQ := Lib.hid kQ
          clear kQ
          have cA0 : w21.cell? ⟨ga, 0, none⟩ = some (.int .i64 xa) := KA.out.cell 0
          have cA1 : w21.cell? ⟨ga, 1, none⟩ = some (.int .i64 xb) := KA.out.cell 1
          have cB0 : w21.cell? ⟨gb, 0, none⟩ = some (.int .i64 xc) := KB.out.cell 0
          have cB1 : w21.cell? ⟨gb, 1, none⟩ = some (.int .i64 xd) := KB.out.cell 1
          have cC0 : w21.cell? ⟨gc, 0, none⟩ = some (.int .i64 ya) := KC.out.cell 0
          have cC1 : w21.cell? ⟨gc, 1, none⟩ = some (.int .i64 yb) := KC.out.cell 1
          have cD0 : w21.cell? ⟨gd, 0, none⟩ = some (.int .i64 yc) := KD.out.cell 0
          have cD1 : w21.cell? ⟨gd, 1, none⟩ = some (.int .i64 yd) := KD.out.cell 1
          have cP0 : w21.cell? ⟨w8.heap.size, 0, none⟩ = some (.int .i64 p0_2) := KP.out.cell 0
          have cP1 : w21.cell? ⟨w8.heap.size, 1, none⟩ = some (.int .i64 p1_2) := KP.out.cell 1
          have cQ0 : w21.cell? ⟨w10.heap.size, 0, none⟩ = some (.int .i64 q0_2) := KQ.out.cell 0
          have cQ1 : w21.cell? ⟨w10.heap.size, 1, none⟩ = some (.int .i64 q1_2) := KQ.out.cell 1
          clear cA0 cA1 cB0 cB1 cC0 cC1 cD0 cD1 cP0 cP1 cQ0 cQ1
          have HF : Hid (e1_2 = 0 → e2_2 = 0 ∧ p0_2 ≤ q0_2 ∧ q0_2 ≤ p1_2 ∧ p0_2 ≤ q1_2 ∧ q1_2 ≤ p1_2 ∧ q0_2 ≤ ya * yc ∧ ya * yc ≤ q1_2 ∧ -1152921504606846976 ≤ q0_2 ∧ q1_2 ≤ 1152921504606846976) := fun h => by
            obtain ⟨k1, k3, k4⟩ := HP1.out h
            obtain ⟨j0, j1, j2, j3, j4, j5, j6⟩ := times_part hy0 hy1 hy3 hy4 hy2 hy5 k1
            have h2 := HQ2.out j0
            obtain ⟨_, k5, k6⟩ := HQ1.out h2
            have hin := tlo_in j0
            rw [k3, k4, k5, k6]
            exact ⟨h2, j1, j2, j3, j4, j5, j6, hin.1, hin.2.2.2⟩
          obtain ⟨hp0, hp1, hp2, hp3⟩ := HP3.out
          obtain ⟨hq0, hq1, hq2, hq3⟩ := HQ3.out
          clear HP1 HP2 HP3 HQ1 HQ2 HQ3
          go_upto_region 17 with (fail)
          go_cut [188] (fun s188 W => ∃ m0_2 m1_2 m2_2 m3_2 : Int, s188 = .bool false ∧ Hid (Blk W ga 62 #[.int .i64 xa, .int .i64 xb]) ∧ Hid (Blk W gb 62 #[.int .i64 xc, .int .i64 xd]) ∧ Hid (Blk W gc 62 #[.int .i64 ya, .int .i64 yb]) ∧ Hid (Blk W gd 62 #[.int .i64 yc, .int .i64 yd]) ∧ Hid (Blk W w8.heap.size 62 #[.int .i64 m0_2, .int .i64 m1_2]) ∧ Hid (Blk W w10.heap.size 62 #[.int .i64 m2_2, .int .i64 m3_2]) ∧ Hid (Ext w W))
          case first =>
            as_aux_lemma =>
              by_cases he : e1_2 = 0
              · obtain ⟨HOK, k1, k2, k3, k4, k5, k6, k7, k8⟩ := HF.out he
                subst he
                have he2 : e2_2 = 0 := HOK
                subst he2
                clear HOK
                have cA0 : w21.cell? ⟨ga, 0, none⟩ = some (.int .i64 xa) := KA.out.cell 0
                have cA1 : w21.cell? ⟨ga, 1, none⟩ = some (.int .i64 xb) := KA.out.cell 1
                have cB0 : w21.cell? ⟨gb, 0, none⟩ = some (.int .i64 xc) := KB.out.cell 0
                have cB1 : w21.cell? ⟨gb, 1, none⟩ = some (.int .i64 xd) := KB.out.cell 1
                have cC0 : w21.cell? ⟨gc, 0, none⟩ = some (.int .i64 ya) := KC.out.cell 0
                have cC1 : w21.cell? ⟨gc, 1, none⟩ = some (.int .i64 yb) := KC.out.cell 1
                have cD0 : w21.cell? ⟨gd, 0, none⟩ = some (.int .i64 yc) := KD.out.cell 0
                have cD1 : w21.cell? ⟨gd, 1, none⟩ = some (.int .i64 yd) := KD.out.cell 1
                have cP0 : w21.cell? ⟨w8.heap.size, 0, none⟩ = some (.int .i64 p0_2) := KP.out.cell 0
                have cP1 : w21.cell? ⟨w8.heap.size, 1, none⟩ = some (.int .i64 p1_2) := KP.out.cell 1
                have cQ0 : w21.cell? ⟨w10.heap.size, 0, none⟩ = some (.int .i64 q0_2) := KQ.out.cell 0
                have cQ1 : w21.cell? ⟨w10.heap.size, 1, none⟩ = some (.int .i64 q1_2) := KQ.out.cell 1
                go_wp2_with fail
                clear cA0 cA1 cB0 cB1 cC0 cC1 cD0 cD1 cP0 cP1 cQ0 cQ1
                refine (in_yes _ _ _ _ (by omega) (by omega)).mono ?_
                rintro e w22 ⟨rfl, hX⟩
                replace HX := Lib.hid (HX.out.trans hX)
                replace KA := Lib.hid (KA.out.ext hX)
                replace KB := Lib.hid (KB.out.ext hX)
                replace KC := Lib.hid (KC.out.ext hX)
                replace KD := Lib.hid (KD.out.ext hX)
                replace KP := Lib.hid (KP.out.ext hX)
                replace KQ := Lib.hid (KQ.out.ext hX)
                clear hX
                have cA0 : w22.cell? ⟨ga, 0, none⟩ = some (.int .i64 xa) := KA.out.cell 0
                have cA1 : w22.cell? ⟨ga, 1, none⟩ = some (.int .i64 xb) := KA.out.cell 1
                have cB0 : w22.cell? ⟨gb, 0, none⟩ = some (.int .i64 xc) := KB.out.cell 0
                have cB1 : w22.cell? ⟨gb, 1, none⟩ = some (.int .i64 xd) := KB.out.cell 1
                have cC0 : w22.cell? ⟨gc, 0, none⟩ = some (.int .i64 ya) := KC.out.cell 0
                have cC1 : w22.cell? ⟨gc, 1, none⟩ = some (.int .i64 yb) := KC.out.cell 1
                have cD0 : w22.cell? ⟨gd, 0, none⟩ = some (.int .i64 yc) := KD.out.cell 0
                have cD1 : w22.cell? ⟨gd, 1, none⟩ = some (.int .i64 yd) := KD.out.cell 1
                have cP0 : w22.cell? ⟨w8.heap.size, 0, none⟩ = some (.int .i64 p0_2) := KP.out.cell 0
                have cP1 : w22.cell? ⟨w8.heap.size, 1, none⟩ = some (.int .i64 p1_2) := KP.out.cell 1
                have cQ0 : w22.cell? ⟨w10.heap.size, 0, none⟩ = some (.int .i64 q0_2) := KQ.out.cell 0
                have cQ1 : w22.cell? ⟨w10.heap.size, 1, none⟩ = some (.int .i64 q1_2) := KQ.out.cell 1
                go_wp2_with fail
                clear cA0 cA1 cB0 cB1 cC0 cC1 cD0 cD1 cP0 cP1 cQ0 cQ1
                refine (in_yes _ _ _ _ (by omega) (by omega)).mono ?_
                rintro e w23 ⟨rfl, hX⟩
                replace HX := Lib.hid (HX.out.trans hX)
                replace KA := Lib.hid (KA.out.ext hX)
                replace KB := Lib.hid (KB.out.ext hX)
                replace KC := Lib.hid (KC.out.ext hX)
                replace KD := Lib.hid (KD.out.ext hX)
                replace KP := Lib.hid (KP.out.ext hX)
                replace KQ := Lib.hid (KQ.out.ext hX)
                clear hX
                have cA0 : w23.cell? ⟨ga, 0, none⟩ = some (.int .i64 xa) := KA.out.cell 0
                have cA1 : w23.cell? ⟨ga, 1, none⟩ = some (.int .i64 xb) := KA.out.cell 1
                have cB0 : w23.cell? ⟨gb, 0, none⟩ = some (.int .i64 xc) := KB.out.cell 0
                have cB1 : w23.cell? ⟨gb, 1, none⟩ = some (.int .i64 xd) := KB.out.cell 1
                have cC0 : w23.cell? ⟨gc, 0, none⟩ = some (.int .i64 ya) := KC.out.cell 0
                have cC1 : w23.cell? ⟨gc, 1, none⟩ = some (.int .i64 yb) := KC.out.cell 1
                have cD0 : w23.cell? ⟨gd, 0, none⟩ = some (.int .i64 yc) := KD.out.cell 0
                have cD1 : w23.cell? ⟨gd, 1, none⟩ = some (.int .i64 yd) := KD.out.cell 1
                have cP0 : w23.cell? ⟨w8.heap.size, 0, none⟩ = some (.int .i64 p0_2) := KP.out.cell 0
                have cP1 : w23.cell? ⟨w8.heap.size, 1, none⟩ = some (.int .i64 p1_2) := KP.out.cell 1
                have cQ0 : w23.cell? ⟨w10.heap.size, 0, none⟩ = some (.int .i64 q0_2) := KQ.out.cell 0
                have cQ1 : w23.cell? ⟨w10.heap.size, 1, none⟩ = some (.int .i64 q1_2) := KQ.out.cell 1
                go_wp2_with fail
                clear cA0 cA1 cB0 cB1 cC0 cC1 cD0 cD1 cP0 cP1 cQ0 cQ1
                refine (in_yes _ _ _ _ (by omega) (by omega)).mono ?_
                rintro e w24 ⟨rfl, hX⟩
                replace HX := Lib.hid (HX.out.trans hX)
                replace KA := Lib.hid (KA.out.ext hX)
                replace KB := Lib.hid (KB.out.ext hX)
                replace KC := Lib.hid (KC.out.ext hX)
                replace KD := Lib.hid (KD.out.ext hX)
                replace KP := Lib.hid (KP.out.ext hX)
                replace KQ := Lib.hid (KQ.out.ext hX)
                clear hX
                have cA0 : w24.cell? ⟨ga, 0, none⟩ = some (.int .i64 xa) := KA.out.cell 0
                have cA1 : w24.cell? ⟨ga, 1, none⟩ = some (.int .i64 xb) := KA.out.cell 1
                have cB0 : w24.cell? ⟨gb, 0, none⟩ = some (.int .i64 xc) := KB.out.cell 0
                have cB1 : w24.cell? ⟨gb, 1, none⟩ = some (.int .i64 xd) := KB.out.cell 1
                have cC0 : w24.cell? ⟨gc, 0, none⟩ = some (.int .i64 ya) := KC.out.cell 0
                have cC1 : w24.cell? ⟨gc, 1, none⟩ = some (.int .i64 yb) := KC.out.cell 1
                have cD0 : w24.cell? ⟨gd, 0, none⟩ = some (.int .i64 yc) := KD.out.cell 0
                have cD1 : w24.cell? ⟨gd, 1, none⟩ = some (.int .i64 yd) := KD.out.cell 1
                have cP0 : w24.cell? ⟨w8.heap.size, 0, none⟩ = some (.int .i64 p0_2) := KP.out.cell 0
                have cP1 : w24.cell? ⟨w8.heap.size, 1, none⟩ = some (.int .i64 p1_2) := KP.out.cell 1
                have cQ0 : w24.cell? ⟨w10.heap.size, 0, none⟩ = some (.int .i64 q0_2) := KQ.out.cell 0
                have cQ1 : w24.cell? ⟨w10.heap.size, 1, none⟩ = some (.int .i64 q1_2) := KQ.out.cell 1
                go_wp2
                go_meet
                exact ⟨p0_2, p1_2, q0_2, q1_2, rfl, KA, KB, KC, KD, KP, KQ, HX⟩
              · have heb : (e1_2 == 0) = false := by simpa using he
                clear he
                go_wp2
                go_meet
                exact ⟨p0_2, p1_2, q0_2, q1_2, rfl, KA, KB, KC, KD, KP, KQ, HX⟩
          case rest =>
            as_aux_lemma =>
              clear HX KA KB KC KD KP KQ
              obtain ⟨m0_2, m1_2, m2_2, m3_2, rfl, KA, KB, KC, KD, KP, KQ, HX⟩ := hcut
              obtain ⟨w22, rfl⟩ : ∃ x : World, x = wc := ⟨_, rfl⟩
              have hn0 := HU1.out.1
              have hn1 := HU1.out.2
              have hm0 := Int.emod_nonneg u1 (show (1000 : Int) ≠ 0 by omega)
              have hm1 := Int.emod_lt_of_pos u1 (show (0 : Int) < 1000 by omega)
              obtain ⟨n, hn⟩ : ∃ n, 1 + u1 % 1000 = n := ⟨_, rfl⟩
              have hn2 : 1 ≤ n := by omega
              have hn3 : n ≤ 1000 := by omega
              have cA0 : w22.cell? ⟨ga, 0, none⟩ = some (.int .i64 xa) := KA.out.cell 0
              have cA1 : w22.cell? ⟨ga, 1, none⟩ = some (.int .i64 xb) := KA.out.cell 1
              have cB0 : w22.cell? ⟨gb, 0, none⟩ = some (.int .i64 xc) := KB.out.cell 0
              have cB1 : w22.cell? ⟨gb, 1, none⟩ = some (.int .i64 xd) := KB.out.cell 1
              have cC0 : w22.cell? ⟨gc, 0, none⟩ = some (.int .i64 ya) := KC.out.cell 0
              have cC1 : w22.cell? ⟨gc, 1, none⟩ = some (.int .i64 yb) := KC.out.cell 1
              have cD0 : w22.cell? ⟨gd, 0, none⟩ = some (.int .i64 yc) := KD.out.cell 0
              have cD1 : w22.cell? ⟨gd, 1, none⟩ = some (.int .i64 yd) := KD.out.cell 1
              have cP0 : w22.cell? ⟨w8.heap.size, 0, none⟩ = some (.int .i64 m0_2) := KP.out.cell 0
              have cP1 : w22.cell? ⟨w8.heap.size, 1, none⟩ = some (.int .i64 m1_2) := KP.out.cell 1
              have cQ0 : w22.cell? ⟨w10.heap.size, 0, none⟩ = some (.int .i64 m2_2) := KQ.out.cell 0
              have cQ1 : w22.cell? ⟨w10.heap.size, 1, none⟩ = some (.int .i64 m3_2) := KQ.out.cell 1
              go_upto_region 20 with (fail)
              have HN := Lib.hid hn
              clear hn hm0 hm1 hn0 hn1
              obtain ⟨j1, j2, j3, j4, j5, j6, j7, j8⟩ := over_part hy0 hy1 hy3 hn2
              obtain ⟨i1, i2⟩ := div_in hn2 (show -1152921504606846976 ≤ (0 : Int) by omega) (show (0 : Int) ≤ 1152921504606846976 by omega) la0 (show xa ≤ 1152921504606846976 by omega)
              obtain ⟨i3, i4⟩ := div_in hn2 (show -1152921504606846976 ≤ (0 : Int) by omega) (show (0 : Int) ≤ 1152921504606846976 by omega) (show -1152921504606846976 ≤ -xb by omega) (show -xb ≤ 1152921504606846976 by omega)
              have HV1 : Hid (xa / n = xa / n) := rfl
              obtain ⟨s0, hs0⟩ : ∃ q, xa / n = q := ⟨_, rfl⟩
              obtain ⟨s1, hs1⟩ : ∃ q, -((-xb) / n) = q := ⟨_, rfl⟩
              obtain ⟨t0, ht0⟩ : ∃ q, ya / n = q := ⟨_, rfl⟩
              obtain ⟨t1, ht1⟩ : ∃ q, -((-yb) / n) = q := ⟨_, rfl⟩
              have hi5 : -1152921504606846976 ≤ s0 := by omega
              have hi6 : s1 ≤ 1152921504606846976 := by omega
              rw [hs0, ht0] at j1
              rw [ht0, hs1] at j2
              rw [hs0, ht1] at j3
              rw [ht1, hs1] at j4
              rw [ht0] at j5 j7
              rw [ht1] at j6 j8
              have HS0 := Lib.hid hs0
              have HS1 := Lib.hid hs1
              have HT0 := Lib.hid ht0
              have HT1 := Lib.hid ht1
              have e1 : (t0 + 1) * n = t0 * n + n := by rw [Int.add_mul, Int.one_mul]
              have e2 : (t1 - 1) * n = t1 * n - n := by rw [Int.sub_mul, Int.one_mul]
              rw [e1] at j7
              rw [e2] at j8
              have HE1 := Lib.hid e1
              have HE2 := Lib.hid e2
              have hb1 : -9223372036854775808 ≤ t0 * n := by omega
              have hb2 : t0 * n ≤ 9223372036854775807 := by omega
              have hb3 : -9223372036854775808 ≤ t1 * n := by omega
              have hb4 : t1 * n ≤ 9223372036854775807 := by omega
              clear hs0 hs1 ht0 ht1 i1 i2 i3 i4 e1 e2 HV1
              go_wp2_with fail
              clear cA0 cA1 cB0 cB1 cC0 cC1 cD0 cD1 cP0 cP1 cQ0 cQ1
              refine (eover_ok xa xb n _ HA.out hn2 (by omega)).mono ?_
              rw [HS0.out, HS1.out]
              rintro e w23 ⟨rfl, hX⟩
              replace HX := Lib.hid (HX.out.trans hX)
              replace KA := Lib.hid (KA.out.ext hX)
              replace KB := Lib.hid (KB.out.ext hX)
              replace KC := Lib.hid (KC.out.ext hX)
              replace KD := Lib.hid (KD.out.ext hX)
              replace KP := Lib.hid (KP.out.ext hX)
              replace KQ := Lib.hid (KQ.out.ext hX)
              clear hX
              have cA0 : w23.cell? ⟨ga, 0, none⟩ = some (.int .i64 xa) := KA.out.cell 0
              have cA1 : w23.cell? ⟨ga, 1, none⟩ = some (.int .i64 xb) := KA.out.cell 1
              have cB0 : w23.cell? ⟨gb, 0, none⟩ = some (.int .i64 xc) := KB.out.cell 0
              have cB1 : w23.cell? ⟨gb, 1, none⟩ = some (.int .i64 xd) := KB.out.cell 1
              have cC0 : w23.cell? ⟨gc, 0, none⟩ = some (.int .i64 ya) := KC.out.cell 0
              have cC1 : w23.cell? ⟨gc, 1, none⟩ = some (.int .i64 yb) := KC.out.cell 1
              have cD0 : w23.cell? ⟨gd, 0, none⟩ = some (.int .i64 yc) := KD.out.cell 0
              have cD1 : w23.cell? ⟨gd, 1, none⟩ = some (.int .i64 yd) := KD.out.cell 1
              have cP0 : w23.cell? ⟨w8.heap.size, 0, none⟩ = some (.int .i64 m0_2) := KP.out.cell 0
              have fP0 : w23.frozen? ⟨w8.heap.size, 0, none⟩ = false := KP.out.free 0
              have cP1 : w23.cell? ⟨w8.heap.size, 1, none⟩ = some (.int .i64 m1_2) := KP.out.cell 1
              have fP1 : w23.frozen? ⟨w8.heap.size, 1, none⟩ = false := KP.out.free 1
              have cQ0 : w23.cell? ⟨w10.heap.size, 0, none⟩ = some (.int .i64 m2_2) := KQ.out.cell 0
              have cQ1 : w23.cell? ⟨w10.heap.size, 1, none⟩ = some (.int .i64 m3_2) := KQ.out.cell 1
              go_upto_region 21 with (fail)
              clear cA0 cA1 cB0 cB1 cC0 cC1 cD0 cD1 cP0 fP0 cP1 fP1 cQ0 cQ1
              have hXs : Ext w ((w23.setCell ⟨w8.heap.size, 0, none⟩ (.int .i64 s0)).setCell ⟨w8.heap.size, 1, none⟩ (.int .i64 s1)) := ((HX.out.setCell (show w.heap.size ≤ w8.heap.size by omega) _).setCell (show w.heap.size ≤ w8.heap.size by omega) _)
              have kA : Blk ((w23.setCell ⟨w8.heap.size, 0, none⟩ (.int .i64 s0)).setCell ⟨w8.heap.size, 1, none⟩ (.int .i64 s1)) ga 62 #[.int .i64 xa, .int .i64 xb] := (Blk.far (Blk.far KA.out (show ga ≠ w8.heap.size by omega) _) (show ga ≠ w8.heap.size by omega) _)
              have kB : Blk ((w23.setCell ⟨w8.heap.size, 0, none⟩ (.int .i64 s0)).setCell ⟨w8.heap.size, 1, none⟩ (.int .i64 s1)) gb 62 #[.int .i64 xc, .int .i64 xd] := (Blk.far (Blk.far KB.out (show gb ≠ w8.heap.size by omega) _) (show gb ≠ w8.heap.size by omega) _)
              have kC : Blk ((w23.setCell ⟨w8.heap.size, 0, none⟩ (.int .i64 s0)).setCell ⟨w8.heap.size, 1, none⟩ (.int .i64 s1)) gc 62 #[.int .i64 ya, .int .i64 yb] := (Blk.far (Blk.far KC.out (show gc ≠ w8.heap.size by omega) _) (show gc ≠ w8.heap.size by omega) _)
              have kD : Blk ((w23.setCell ⟨w8.heap.size, 0, none⟩ (.int .i64 s0)).setCell ⟨w8.heap.size, 1, none⟩ (.int .i64 s1)) gd 62 #[.int .i64 yc, .int .i64 yd] := (Blk.far (Blk.far KD.out (show gd ≠ w8.heap.size by omega) _) (show gd ≠ w8.heap.size by omega) _)
              have kQ : Blk ((w23.setCell ⟨w8.heap.size, 0, none⟩ (.int .i64 s0)).setCell ⟨w8.heap.size, 1, none⟩ (.int .i64 s1)) w10.heap.size 62 #[.int .i64 m2_2, .int .i64 m3_2] := (Blk.far (Blk.far KQ.out (show w10.heap.size ≠ w8.heap.size by omega) _) (show w10.heap.size ≠ w8.heap.size by omega) _)
              have kP : Blk ((w23.setCell ⟨w8.heap.size, 0, none⟩ (.int .i64 s0)).setCell ⟨w8.heap.size, 1, none⟩ (.int .i64 s1)) w8.heap.size 62 #[.int .i64 s0, .int .i64 s1] := (Blk.set (Blk.set KP.out 0 _) 1 _)
              generalize ((w23.setCell ⟨w8.heap.size, 0, none⟩ (.int .i64 s0)).setCell ⟨w8.heap.size, 1, none⟩ (.int .i64 s1)) = w24 at hXs kA kB kC kD kP kQ ⊢
              clear HX KA KB KC KD KP KQ
              have HX := Lib.hid hXs
              clear hXs
              have KA := Lib.hid kA
              clear kA
              have KB := Lib.hid kB
              clear kB
              have KC := Lib.hid kC
              clear kC
              have KD := Lib.hid kD
              clear kD
              have KP := Lib.hid kP
              clear kP
              have KQ := Lib.hid kQ
              clear kQ
              have cA0 : w24.cell? ⟨ga, 0, none⟩ = some (.int .i64 xa) := KA.out.cell 0
              have cA1 : w24.cell? ⟨ga, 1, none⟩ = some (.int .i64 xb) := KA.out.cell 1
              have cB0 : w24.cell? ⟨gb, 0, none⟩ = some (.int .i64 xc) := KB.out.cell 0
              have cB1 : w24.cell? ⟨gb, 1, none⟩ = some (.int .i64 xd) := KB.out.cell 1
              have cC0 : w24.cell? ⟨gc, 0, none⟩ = some (.int .i64 ya) := KC.out.cell 0
              have cC1 : w24.cell? ⟨gc, 1, none⟩ = some (.int .i64 yb) := KC.out.cell 1
              have cD0 : w24.cell? ⟨gd, 0, none⟩ = some (.int .i64 yc) := KD.out.cell 0
              have cD1 : w24.cell? ⟨gd, 1, none⟩ = some (.int .i64 yd) := KD.out.cell 1
              have cP0 : w24.cell? ⟨w8.heap.size, 0, none⟩ = some (.int .i64 s0) := KP.out.cell 0
              have cP1 : w24.cell? ⟨w8.heap.size, 1, none⟩ = some (.int .i64 s1) := KP.out.cell 1
              have cQ0 : w24.cell? ⟨w10.heap.size, 0, none⟩ = some (.int .i64 m2_2) := KQ.out.cell 0
              have cQ1 : w24.cell? ⟨w10.heap.size, 1, none⟩ = some (.int .i64 m3_2) := KQ.out.cell 1
              go_wp2_with fail
              clear cA0 cA1 cB0 cB1 cC0 cC1 cD0 cD1 cP0 cP1 cQ0 cQ1
              refine (eover_ok ya yb n _ HC.out hn2 (by omega)).mono ?_
              rw [HT0.out, HT1.out]
              rintro e w25 ⟨rfl, hX⟩
              replace HX := Lib.hid (HX.out.trans hX)
              replace KA := Lib.hid (KA.out.ext hX)
              replace KB := Lib.hid (KB.out.ext hX)
              replace KC := Lib.hid (KC.out.ext hX)
              replace KD := Lib.hid (KD.out.ext hX)
              replace KP := Lib.hid (KP.out.ext hX)
              replace KQ := Lib.hid (KQ.out.ext hX)
              clear hX
              have cA0 : w25.cell? ⟨ga, 0, none⟩ = some (.int .i64 xa) := KA.out.cell 0
              have cA1 : w25.cell? ⟨ga, 1, none⟩ = some (.int .i64 xb) := KA.out.cell 1
              have cB0 : w25.cell? ⟨gb, 0, none⟩ = some (.int .i64 xc) := KB.out.cell 0
              have cB1 : w25.cell? ⟨gb, 1, none⟩ = some (.int .i64 xd) := KB.out.cell 1
              have cC0 : w25.cell? ⟨gc, 0, none⟩ = some (.int .i64 ya) := KC.out.cell 0
              have cC1 : w25.cell? ⟨gc, 1, none⟩ = some (.int .i64 yb) := KC.out.cell 1
              have cD0 : w25.cell? ⟨gd, 0, none⟩ = some (.int .i64 yc) := KD.out.cell 0
              have cD1 : w25.cell? ⟨gd, 1, none⟩ = some (.int .i64 yd) := KD.out.cell 1
              have cP0 : w25.cell? ⟨w8.heap.size, 0, none⟩ = some (.int .i64 s0) := KP.out.cell 0
              have cP1 : w25.cell? ⟨w8.heap.size, 1, none⟩ = some (.int .i64 s1) := KP.out.cell 1
              have cQ0 : w25.cell? ⟨w10.heap.size, 0, none⟩ = some (.int .i64 m2_2) := KQ.out.cell 0
              have fQ0 : w25.frozen? ⟨w10.heap.size, 0, none⟩ = false := KQ.out.free 0
              have cQ1 : w25.cell? ⟨w10.heap.size, 1, none⟩ = some (.int .i64 m3_2) := KQ.out.cell 1
              have fQ1 : w25.frozen? ⟨w10.heap.size, 1, none⟩ = false := KQ.out.free 1
              go_upto_region 22 with (fail)
              clear cA0 cA1 cB0 cB1 cC0 cC1 cD0 cD1 cP0 cP1 cQ0 fQ0 cQ1 fQ1
              have hXs : Ext w ((w25.setCell ⟨w10.heap.size, 0, none⟩ (.int .i64 t0)).setCell ⟨w10.heap.size, 1, none⟩ (.int .i64 t1)) := ((HX.out.setCell (show w.heap.size ≤ w10.heap.size by omega) _).setCell (show w.heap.size ≤ w10.heap.size by omega) _)
              have kA : Blk ((w25.setCell ⟨w10.heap.size, 0, none⟩ (.int .i64 t0)).setCell ⟨w10.heap.size, 1, none⟩ (.int .i64 t1)) ga 62 #[.int .i64 xa, .int .i64 xb] := (Blk.far (Blk.far KA.out (show ga ≠ w10.heap.size by omega) _) (show ga ≠ w10.heap.size by omega) _)
              have kB : Blk ((w25.setCell ⟨w10.heap.size, 0, none⟩ (.int .i64 t0)).setCell ⟨w10.heap.size, 1, none⟩ (.int .i64 t1)) gb 62 #[.int .i64 xc, .int .i64 xd] := (Blk.far (Blk.far KB.out (show gb ≠ w10.heap.size by omega) _) (show gb ≠ w10.heap.size by omega) _)
              have kC : Blk ((w25.setCell ⟨w10.heap.size, 0, none⟩ (.int .i64 t0)).setCell ⟨w10.heap.size, 1, none⟩ (.int .i64 t1)) gc 62 #[.int .i64 ya, .int .i64 yb] := (Blk.far (Blk.far KC.out (show gc ≠ w10.heap.size by omega) _) (show gc ≠ w10.heap.size by omega) _)
              have kD : Blk ((w25.setCell ⟨w10.heap.size, 0, none⟩ (.int .i64 t0)).setCell ⟨w10.heap.size, 1, none⟩ (.int .i64 t1)) gd 62 #[.int .i64 yc, .int .i64 yd] := (Blk.far (Blk.far KD.out (show gd ≠ w10.heap.size by omega) _) (show gd ≠ w10.heap.size by omega) _)
              have kP : Blk ((w25.setCell ⟨w10.heap.size, 0, none⟩ (.int .i64 t0)).setCell ⟨w10.heap.size, 1, none⟩ (.int .i64 t1)) w8.heap.size 62 #[.int .i64 s0, .int .i64 s1] := (Blk.far (Blk.far KP.out (show w8.heap.size ≠ w10.heap.size by omega) _) (show w8.heap.size ≠ w10.heap.size by omega) _)
              have kQ : Blk ((w25.setCell ⟨w10.heap.size, 0, none⟩ (.int .i64 t0)).setCell ⟨w10.heap.size, 1, none⟩ (.int .i64 t1)) w10.heap.size 62 #[.int .i64 t0, .int .i64 t1] := (Blk.set (Blk.set KQ.out 0 _) 1 _)
              generalize ((w25.setCell ⟨w10.heap.size, 0, none⟩ (.int .i64 t0)).setCell ⟨w10.heap.size, 1, none⟩ (.int .i64 t1)) = w26 at hXs kA kB kC kD kP kQ ⊢
              clear HX KA KB KC KD KP KQ
              have HX := Lib.hid hXs
              clear hXs
              have KA := Lib.hid kA
              clear kA
              have KB := Lib.hid kB
              clear kB
              have KC := Lib.hid kC
              clear kC
              have KD := Lib.hid kD
              clear kD
              have KP := Lib.hid kP
              clear kP
              have KQ := Lib.hid kQ
              clear kQ
              have cA0 : w26.cell? ⟨ga, 0, none⟩ = some (.int .i64 xa) := KA.out.cell 0
              have cA1 : w26.cell? ⟨ga, 1, none⟩ = some (.int .i64 xb) := KA.out.cell 1
              have cB0 : w26.cell? ⟨gb, 0, none⟩ = some (.int .i64 xc) := KB.out.cell 0
              have cB1 : w26.cell? ⟨gb, 1, none⟩ = some (.int .i64 xd) := KB.out.cell 1
              have cC0 : w26.cell? ⟨gc, 0, none⟩ = some (.int .i64 ya) := KC.out.cell 0
              have cC1 : w26.cell? ⟨gc, 1, none⟩ = some (.int .i64 yb) := KC.out.cell 1
              have cD0 : w26.cell? ⟨gd, 0, none⟩ = some (.int .i64 yc) := KD.out.cell 0
              have cD1 : w26.cell? ⟨gd, 1, none⟩ = some (.int .i64 yd) := KD.out.cell 1
              have cP0 : w26.cell? ⟨w8.heap.size, 0, none⟩ = some (.int .i64 s0) := KP.out.cell 0
              have cP1 : w26.cell? ⟨w8.heap.size, 1, none⟩ = some (.int .i64 s1) := KP.out.cell 1
              have cQ0 : w26.cell? ⟨w10.heap.size, 0, none⟩ = some (.int .i64 t0) := KQ.out.cell 0
              have cQ1 : w26.cell? ⟨w10.heap.size, 1, none⟩ = some (.int .i64 t1) := KQ.out.cell 1
              go_wp2_with fail
              clear cA0 cA1 cB0 cB1 cC0 cC1 cD0 cD1 cP0 cP1 cQ0 cQ1
              refine (in_yes _ _ _ _ (by omega) (by omega)).mono ?_
              rintro e w27 ⟨rfl, hX⟩
              replace HX := Lib.hid (HX.out.trans hX)
              replace KA := Lib.hid (KA.out.ext hX)
              replace KB := Lib.hid (KB.out.ext hX)
              replace KC := Lib.hid (KC.out.ext hX)
              replace KD := Lib.hid (KD.out.ext hX)
              replace KP := Lib.hid (KP.out.ext hX)
              replace KQ := Lib.hid (KQ.out.ext hX)
              clear hX
              have cA0 : w27.cell? ⟨ga, 0, none⟩ = some (.int .i64 xa) := KA.out.cell 0
              have cA1 : w27.cell? ⟨ga, 1, none⟩ = some (.int .i64 xb) := KA.out.cell 1
              have cB0 : w27.cell? ⟨gb, 0, none⟩ = some (.int .i64 xc) := KB.out.cell 0
              have cB1 : w27.cell? ⟨gb, 1, none⟩ = some (.int .i64 xd) := KB.out.cell 1
              have cC0 : w27.cell? ⟨gc, 0, none⟩ = some (.int .i64 ya) := KC.out.cell 0
              have cC1 : w27.cell? ⟨gc, 1, none⟩ = some (.int .i64 yb) := KC.out.cell 1
              have cD0 : w27.cell? ⟨gd, 0, none⟩ = some (.int .i64 yc) := KD.out.cell 0
              have cD1 : w27.cell? ⟨gd, 1, none⟩ = some (.int .i64 yd) := KD.out.cell 1
              have cP0 : w27.cell? ⟨w8.heap.size, 0, none⟩ = some (.int .i64 s0) := KP.out.cell 0
              have cP1 : w27.cell? ⟨w8.heap.size, 1, none⟩ = some (.int .i64 s1) := KP.out.cell 1
              have cQ0 : w27.cell? ⟨w10.heap.size, 0, none⟩ = some (.int .i64 t0) := KQ.out.cell 0
              have cQ1 : w27.cell? ⟨w10.heap.size, 1, none⟩ = some (.int .i64 t1) := KQ.out.cell 1
              go_wp2_with fail
              clear cA0 cA1 cB0 cB1 cC0 cC1 cD0 cD1 cP0 cP1 cQ0 cQ1
              refine (in_yes _ _ _ _ (by omega) (by omega)).mono ?_
              rintro e w28 ⟨rfl, hX⟩
              replace HX := Lib.hid (HX.out.trans hX)
              replace KA := Lib.hid (KA.out.ext hX)
              replace KB := Lib.hid (KB.out.ext hX)
              replace KC := Lib.hid (KC.out.ext hX)
              replace KD := Lib.hid (KD.out.ext hX)
              replace KP := Lib.hid (KP.out.ext hX)
              replace KQ := Lib.hid (KQ.out.ext hX)
              clear hX
              have hn4 := HE1.out
              have hn5 := HE2.out
              have b1 : -9223372036854775808 ≤ (t0 + 1) * n := by omega
              have b2 : (t0 + 1) * n ≤ 9223372036854775807 := by omega
              have b3 : -9223372036854775808 ≤ (t1 - 1) * n := by omega
              have b4 : (t1 - 1) * n ≤ 9223372036854775807 := by omega
              have b5 : ya < (t0 + 1) * n := by omega
              have b6 : (t1 - 1) * n < yb := by omega
              clear hn4 hn5 j7 j8
              have cA0 : w28.cell? ⟨ga, 0, none⟩ = some (.int .i64 xa) := KA.out.cell 0
              have cA1 : w28.cell? ⟨ga, 1, none⟩ = some (.int .i64 xb) := KA.out.cell 1
              have cB0 : w28.cell? ⟨gb, 0, none⟩ = some (.int .i64 xc) := KB.out.cell 0
              have cB1 : w28.cell? ⟨gb, 1, none⟩ = some (.int .i64 xd) := KB.out.cell 1
              have cC0 : w28.cell? ⟨gc, 0, none⟩ = some (.int .i64 ya) := KC.out.cell 0
              have cC1 : w28.cell? ⟨gc, 1, none⟩ = some (.int .i64 yb) := KC.out.cell 1
              have cD0 : w28.cell? ⟨gd, 0, none⟩ = some (.int .i64 yc) := KD.out.cell 0
              have cD1 : w28.cell? ⟨gd, 1, none⟩ = some (.int .i64 yd) := KD.out.cell 1
              have cP0 : w28.cell? ⟨w8.heap.size, 0, none⟩ = some (.int .i64 s0) := KP.out.cell 0
              have cP1 : w28.cell? ⟨w8.heap.size, 1, none⟩ = some (.int .i64 s1) := KP.out.cell 1
              have cQ0 : w28.cell? ⟨w10.heap.size, 0, none⟩ = some (.int .i64 t0) := KQ.out.cell 0
              have cQ1 : w28.cell? ⟨w10.heap.size, 1, none⟩ = some (.int .i64 t1) := KQ.out.cell 1
              go_wp2_with fail
              clear cA0 cA1 cB0 cB1 cC0 cC1 cD0 cD1 cP0 cP1 cQ0 cQ1
              refine (first_any _).mono ?_
              rintro e w29 ⟨rfl, hX⟩
              replace HX := Lib.hid (HX.out.trans hX)
              replace KA := Lib.hid (KA.out.ext hX)
              replace KB := Lib.hid (KB.out.ext hX)
              replace KC := Lib.hid (KC.out.ext hX)
              replace KD := Lib.hid (KD.out.ext hX)
              replace KP := Lib.hid (KP.out.ext hX)
              replace KQ := Lib.hid (KQ.out.ext hX)
              clear hX
              go_wp2
              go_ret
              exact ⟨rfl, HX.out⟩

theorem exactContains_walk (v : Value) (f : Int × Int × Int × Int × Int × Int × Int × Int) (w : World) (h : PartsV_ w v f) : Calls Try.prog 13 #[v] w fun e w' => e = .returned (.bool true) ∧ Ext w w' := by
  obtain ⟨xa, xb, xc, xd, u1, u2, u3, u4⟩ := f
  obtain ⟨rfl, _, _, _, _, h1, h2, h3, h4⟩ := h
  rcases hA : okS xa xb with _ | _
  · exact contains_a xa xb xc xd u1 u2 u3 u4 w hA
  rcases hB : okS xc xd with _ | _
  · exact contains_b xa xb xc xd u1 u2 u3 u4 w hA hB
  exact contains_ok xa xb xc xd u1 u2 u3 u4 w hA hB h1 h2 h3 h4
end Go.Proofs.Yteoijnaljkagfaa
