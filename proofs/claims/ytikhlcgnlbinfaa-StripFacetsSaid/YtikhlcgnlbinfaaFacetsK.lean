/- Lemmas of the proof that follows (Facets, part 11): walks of functions by contract, and plain lemmas. Conditions: none. -/
import Derived.Test.YtikhlcgnlbinfaaFacetsJ
namespace Go.Proofs.Ytikhlcgnlbinfaa
open Go.RowKit

theorem tmod_small (a b : Int) (B : Int) (h : -B ≤ a ∧ a ≤ B) : -B ≤ a.tmod b ∧ a.tmod b ≤ B := by
  have h1 : (a.tmod b).natAbs ≤ a.natAbs := by rw [Int.natAbs_tmod]; exact Nat.mod_le _ _
  omega
/-- A point within the limits. -/
def nrP (x y z : Int) : Prop := (-268435456 ≤ x ∧ x ≤ 268435456) ∧ (-268435456 ≤ y ∧ y ≤ 268435456) ∧ (-268435456 ≤ z ∧ z ≤ 268435456)
instance (x y z : Int) : Decidable (nrP x y z) := by unfold nrP; infer_instance
/-- The same, coordinate by coordinate. -/
def nrK (p : Nat → Int) : Prop := ∀ k, k < 3 → -268435456 ≤ p k ∧ p k ≤ 268435456
set_option maxRecDepth 100000 in
set_option maxHeartbeats 4000000 in
theorem gcdP_r2 (xa xb r : Int) (w : World) (hz1 : (xb == 0) = false) (hz2 : xb ≠ 0) (htm : xa.tmod xb = r) (hw : IntKind.i64.wrap r = r) (a : Act) (Q : Exit → Act → World → Prop) (hsize : 11 ≤ a.tmps.size)
    (s0 : a.tmps[0]? = some (.int .i64 (xa)))
    (s1 : a.tmps[1]? = some (.int .i64 (xb)))
    (hend : ∀ (xv0 xv1 xv2 xv3 xv4 xv5 : Value) (W : World), (xv0 = .int .i64 (xb)) → (xv1 = .int .i64 (xa)) → (xv2 = .int .i64 (xb)) → (xv3 = .int .i64 (r)) → (xv4 = .int .i64 (xb)) → (xv5 = .int .i64 (r)) → Ext w W → wpList Try.prog (rops Try.f146 2).toArray Q ((rops Try.f146 2).drop 6) ((((((a.put (some 7) xv0).put (some 8) xv1).put (some 9) xv2).put (some 10) xv3).put (some 0) xv4).put (some 1) xv5) W) :
    (Code.region 2 (rops Try.f146 2).toArray true).wp Try.prog Q a w := by
  have hsz : ∀ d, some d ∈ ([some 7, some 8, some 9, some 10, some 0, some 1] : List (Option Tmp)) → d < a.tmps.size := slots_lt (by decide) hsize
  refine wp_region_g0 6 [some 7, some 8, some 9, some 10, some 0, some 1] [[], [], [], [1, 2], [0, 1], [0, 1, 2, 3, 4]] [[], [], [], [], [], []] (fun (done : Nat → Prop) (us : Nat → Value) (W : World) => Ext w W ∧ (done 0 → us 0 = .int .i64 (xb)) ∧ (done 1 → us 1 = .int .i64 (xa)) ∧ (done 2 → us 2 = .int .i64 (xb)) ∧ (done 3 → us 3 = .int .i64 (r)) ∧ (done 4 → us 4 = .int .i64 (xb)) ∧ (done 5 → us 5 = .int .i64 (r)) ∧ (¬ done 4 → us 4 = .int .i64 (xa)) ∧ (¬ done 5 → us 5 = .int .i64 (xb)) ∧ (done 4 → done 1) ∧ (done 5 → done 0) ∧ (done 5 → done 2)) (by kernel_rfl) (by kernel_rfl) hsz (fun p q us W h => by have e : p = q := funext fun k => propext (h k); rw [e]; exact id) (fun us hus => ⟨(Ext.refl w).drew, fun h => h.elim, fun h => h.elim, fun h => h.elim, fun h => h.elim, fun h => h.elim, fun h => h.elim, fun _ => Option.some.inj ((hus 4 0 rfl).symm.trans s0), fun _ => Option.some.inj ((hus 5 1 rfl).symm.trans s1), fun h => h.elim, fun h => h.elim, fun h => h.elim⟩) ?_ ?_
  · clear hend
    simp only [rops, Try.f146, regOf, Option.bind_some, Nat.reduceBEq, if_true, if_false, Bool.false_eq_true, Option.getD_some]
    simp only [List.take_succ_cons, List.take_zero]
    refine ⟨?_, ?_, ?_, ?_, ?_, ?_, trivial⟩
    · intro done us W hJ hdep haft hnot b hb hb' K hK Q'
      obtain ⟨hX0, cc0, cc1, cc2, cc3, cc4, cc5, uu4, uu5, rr4_1, rr5_0, rr5_2⟩ := hJ
      have e1 := hb 5 1 rfl
      rw [uu5 (fun h => hnot (rr5_0 h))] at e1
      clear hb hb'
      have hfin := hK (.int .i64 (xb)) _ ⟨hX0, fun _ => rfl, fun h => cc1 (h.resolve_right (by decide)), fun h => cc2 (h.resolve_right (by decide)), fun h => cc3 (h.resolve_right (by decide)), fun h => cc4 (h.resolve_right (by decide)), fun h => cc5 (h.resolve_right (by decide)), fun h => uu4 (fun d => h (.inl d)), fun h => uu5 (fun d => h (.inl d)), fun h => .inl (rr4_1 (h.resolve_right (by decide))), fun h => .inl (rr5_0 (h.resolve_right (by decide))), fun h => .inl (rr5_2 (h.resolve_right (by decide)))⟩
      clear hK cc0 cc1 cc2 cc3 cc4 cc5 uu4 uu5 rr4_1 rr5_0 rr5_2
      go_simp
      exact hfin
    · intro done us W hJ hdep haft hnot b hb hb' K hK Q'
      obtain ⟨hX0, cc0, cc1, cc2, cc3, cc4, cc5, uu4, uu5, rr4_1, rr5_0, rr5_2⟩ := hJ
      have e0 := hb 4 0 rfl
      rw [uu4 (fun h => hnot (rr4_1 h))] at e0
      clear hb hb'
      have hfin := hK (.int .i64 (xa)) _ ⟨hX0, fun h => cc0 (h.resolve_right (by decide)), fun _ => rfl, fun h => cc2 (h.resolve_right (by decide)), fun h => cc3 (h.resolve_right (by decide)), fun h => cc4 (h.resolve_right (by decide)), fun h => cc5 (h.resolve_right (by decide)), fun h => uu4 (fun d => h (.inl d)), fun h => uu5 (fun d => h (.inl d)), fun h => .inl (rr4_1 (h.resolve_right (by decide))), fun h => .inl (rr5_0 (h.resolve_right (by decide))), fun h => .inl (rr5_2 (h.resolve_right (by decide)))⟩
      clear hK cc0 cc1 cc2 cc3 cc4 cc5 uu4 uu5 rr4_1 rr5_0 rr5_2
      go_simp
      exact hfin
    · intro done us W hJ hdep haft hnot b hb hb' K hK Q'
      obtain ⟨hX0, cc0, cc1, cc2, cc3, cc4, cc5, uu4, uu5, rr4_1, rr5_0, rr5_2⟩ := hJ
      have e1 := hb 5 1 rfl
      rw [uu5 (fun h => hnot (rr5_2 h))] at e1
      clear hb hb'
      have hfin := hK (.int .i64 (xb)) _ ⟨hX0, fun h => cc0 (h.resolve_right (by decide)), fun h => cc1 (h.resolve_right (by decide)), fun _ => rfl, fun h => cc3 (h.resolve_right (by decide)), fun h => cc4 (h.resolve_right (by decide)), fun h => cc5 (h.resolve_right (by decide)), fun h => uu4 (fun d => h (.inl d)), fun h => uu5 (fun d => h (.inl d)), fun h => .inl (rr4_1 (h.resolve_right (by decide))), fun h => .inl (rr5_0 (h.resolve_right (by decide))), fun h => .inl (rr5_2 (h.resolve_right (by decide)))⟩
      clear hK cc0 cc1 cc2 cc3 cc4 cc5 uu4 uu5 rr4_1 rr5_0 rr5_2
      go_simp
      exact hfin
    · intro done us W hJ hdep haft hnot b hb hb' K hK Q'
      obtain ⟨hX0, cc0, cc1, cc2, cc3, cc4, cc5, uu4, uu5, rr4_1, rr5_0, rr5_2⟩ := hJ
      simp only [List.getD_cons_succ, List.getD_cons_zero, List.mem_cons, List.not_mem_nil, or_false, forall_eq_or_imp, forall_eq] at hdep
      have e8 := hb 1 8 rfl
      rw [cc1 hdep.1] at e8
      have e9 := hb 2 9 rfl
      rw [cc2 hdep.2] at e9
      clear hb hb'
      have hfin := hK (.int .i64 (r)) _ ⟨hX0, fun h => cc0 (h.resolve_right (by decide)), fun h => cc1 (h.resolve_right (by decide)), fun h => cc2 (h.resolve_right (by decide)), fun _ => rfl, fun h => cc4 (h.resolve_right (by decide)), fun h => cc5 (h.resolve_right (by decide)), fun h => uu4 (fun d => h (.inl d)), fun h => uu5 (fun d => h (.inl d)), fun h => .inl (rr4_1 (h.resolve_right (by decide))), fun h => .inl (rr5_0 (h.resolve_right (by decide))), fun h => .inl (rr5_2 (h.resolve_right (by decide)))⟩
      clear hK cc0 cc1 cc2 cc3 cc4 cc5 uu4 uu5 rr4_1 rr5_0 rr5_2
      go_simp
      exact hfin
    · intro done us W hJ hdep haft hnot b hb hb' K hK Q'
      obtain ⟨hX0, cc0, cc1, cc2, cc3, cc4, cc5, uu4, uu5, rr4_1, rr5_0, rr5_2⟩ := hJ
      simp only [List.getD_cons_succ, List.getD_cons_zero, List.mem_cons, List.not_mem_nil, or_false, forall_eq_or_imp, forall_eq] at hdep
      have e7 := hb 0 7 rfl
      rw [cc0 hdep.1] at e7
      clear hb hb'
      have hfin := hK (.int .i64 (xb)) _ ⟨hX0, fun h => cc0 (h.resolve_right (by decide)), fun h => cc1 (h.resolve_right (by decide)), fun h => cc2 (h.resolve_right (by decide)), fun h => cc3 (h.resolve_right (by decide)), fun _ => rfl, fun h => cc5 (h.resolve_right (by decide)), fun h => absurd (.inr rfl) h, fun h => uu5 (fun d => h (.inl d)), fun _ => .inl hdep.2, fun h => .inl (rr5_0 (h.resolve_right (by decide))), fun h => .inl (rr5_2 (h.resolve_right (by decide)))⟩
      clear hK cc0 cc1 cc2 cc3 cc4 cc5 uu4 uu5 rr4_1 rr5_0 rr5_2
      go_simp
      exact hfin
    · intro done us W hJ hdep haft hnot b hb hb' K hK Q'
      obtain ⟨hX0, cc0, cc1, cc2, cc3, cc4, cc5, uu4, uu5, rr4_1, rr5_0, rr5_2⟩ := hJ
      simp only [List.getD_cons_succ, List.getD_cons_zero, List.mem_cons, List.not_mem_nil, or_false, forall_eq_or_imp, forall_eq] at hdep
      have e10 := hb 3 10 rfl
      rw [cc3 hdep.2.2.2.1] at e10
      clear hb hb'
      have hfin := hK (.int .i64 (r)) _ ⟨hX0, fun h => cc0 (h.resolve_right (by decide)), fun h => cc1 (h.resolve_right (by decide)), fun h => cc2 (h.resolve_right (by decide)), fun h => cc3 (h.resolve_right (by decide)), fun h => cc4 (h.resolve_right (by decide)), fun _ => rfl, fun h => uu4 (fun d => h (.inl d)), fun h => absurd (.inr rfl) h, fun h => .inl (rr4_1 (h.resolve_right (by decide))), fun _ => .inl hdep.1, fun _ => .inl hdep.2.2.1⟩
      clear hK cc0 cc1 cc2 cc3 cc4 cc5 uu4 uu5 rr4_1 rr5_0 rr5_2
      go_simp
      exact hfin
  · intro us W hJ
    obtain ⟨hX0, cc0, cc1, cc2, cc3, cc4, cc5, uu4, uu5, rr4_1, rr5_0, rr5_2⟩ := hJ
    exact hend (us 0) (us 1) (us 2) (us 3) (us 4) (us 5) W (cc0 (show 0 < 6 by decide)) (cc1 (show 1 < 6 by decide)) (cc2 (show 2 < 6 by decide)) (cc3 (show 3 < 6 by decide)) (cc4 (show 4 < 6 by decide)) (cc5 (show 5 < 6 by decide)) hX0
set_option maxRecDepth 100000 in
set_option maxHeartbeats 4000000 in
theorem gcdR_r2 (xa xb r : Int) (w : World) (hz1 : (xb == 0) = false) (hz2 : xb ≠ 0) (htm : xa.tmod xb = r) (hw : IntKind.i64.wrap r = r) (a : Act) (Q : Exit → Act → World → Prop) (hsize : 11 ≤ a.tmps.size)
    (s0 : a.tmps[0]? = some (.int .i64 (xa)))
    (s1 : a.tmps[1]? = some (.int .i64 (xb)))
    (hend : ∀ (xv0 xv1 xv2 xv3 xv4 xv5 : Value) (W : World), (xv0 = .int .i64 (xb)) → (xv1 = .int .i64 (xa)) → (xv2 = .int .i64 (xb)) → (xv3 = .int .i64 (r)) → (xv4 = .int .i64 (xb)) → (xv5 = .int .i64 (r)) → Ext w W → wpList Try.prog (rops Try.f148 2).toArray Q ((rops Try.f148 2).drop 6) ((((((a.put (some 7) xv0).put (some 8) xv1).put (some 9) xv2).put (some 10) xv3).put (some 0) xv4).put (some 1) xv5) W) :
    (Code.region 2 (rops Try.f148 2).toArray true).wp Try.prog Q a w := by
  have hsz : ∀ d, some d ∈ ([some 7, some 8, some 9, some 10, some 0, some 1] : List (Option Tmp)) → d < a.tmps.size := slots_lt (by decide) hsize
  refine wp_region_g0 6 [some 7, some 8, some 9, some 10, some 0, some 1] [[], [], [], [1, 2], [0, 1], [0, 1, 2, 3, 4]] [[], [], [], [], [], []] (fun (done : Nat → Prop) (us : Nat → Value) (W : World) => Ext w W ∧ (done 0 → us 0 = .int .i64 (xb)) ∧ (done 1 → us 1 = .int .i64 (xa)) ∧ (done 2 → us 2 = .int .i64 (xb)) ∧ (done 3 → us 3 = .int .i64 (r)) ∧ (done 4 → us 4 = .int .i64 (xb)) ∧ (done 5 → us 5 = .int .i64 (r)) ∧ (¬ done 4 → us 4 = .int .i64 (xa)) ∧ (¬ done 5 → us 5 = .int .i64 (xb)) ∧ (done 4 → done 1) ∧ (done 5 → done 0) ∧ (done 5 → done 2)) (by kernel_rfl) (by kernel_rfl) hsz (fun p q us W h => by have e : p = q := funext fun k => propext (h k); rw [e]; exact id) (fun us hus => ⟨(Ext.refl w).drew, fun h => h.elim, fun h => h.elim, fun h => h.elim, fun h => h.elim, fun h => h.elim, fun h => h.elim, fun _ => Option.some.inj ((hus 4 0 rfl).symm.trans s0), fun _ => Option.some.inj ((hus 5 1 rfl).symm.trans s1), fun h => h.elim, fun h => h.elim, fun h => h.elim⟩) ?_ ?_
  · clear hend
    simp only [rops, Try.f148, regOf, Option.bind_some, Nat.reduceBEq, if_true, if_false, Bool.false_eq_true, Option.getD_some]
    simp only [List.take_succ_cons, List.take_zero]
    refine ⟨?_, ?_, ?_, ?_, ?_, ?_, trivial⟩
    · intro done us W hJ hdep haft hnot b hb hb' K hK Q'
      obtain ⟨hX0, cc0, cc1, cc2, cc3, cc4, cc5, uu4, uu5, rr4_1, rr5_0, rr5_2⟩ := hJ
      have e1 := hb 5 1 rfl
      rw [uu5 (fun h => hnot (rr5_0 h))] at e1
      clear hb hb'
      have hfin := hK (.int .i64 (xb)) _ ⟨hX0, fun _ => rfl, fun h => cc1 (h.resolve_right (by decide)), fun h => cc2 (h.resolve_right (by decide)), fun h => cc3 (h.resolve_right (by decide)), fun h => cc4 (h.resolve_right (by decide)), fun h => cc5 (h.resolve_right (by decide)), fun h => uu4 (fun d => h (.inl d)), fun h => uu5 (fun d => h (.inl d)), fun h => .inl (rr4_1 (h.resolve_right (by decide))), fun h => .inl (rr5_0 (h.resolve_right (by decide))), fun h => .inl (rr5_2 (h.resolve_right (by decide)))⟩
      clear hK cc0 cc1 cc2 cc3 cc4 cc5 uu4 uu5 rr4_1 rr5_0 rr5_2
      go_simp
      exact hfin
    · intro done us W hJ hdep haft hnot b hb hb' K hK Q'
      obtain ⟨hX0, cc0, cc1, cc2, cc3, cc4, cc5, uu4, uu5, rr4_1, rr5_0, rr5_2⟩ := hJ
      have e0 := hb 4 0 rfl
      rw [uu4 (fun h => hnot (rr4_1 h))] at e0
      clear hb hb'
      have hfin := hK (.int .i64 (xa)) _ ⟨hX0, fun h => cc0 (h.resolve_right (by decide)), fun _ => rfl, fun h => cc2 (h.resolve_right (by decide)), fun h => cc3 (h.resolve_right (by decide)), fun h => cc4 (h.resolve_right (by decide)), fun h => cc5 (h.resolve_right (by decide)), fun h => uu4 (fun d => h (.inl d)), fun h => uu5 (fun d => h (.inl d)), fun h => .inl (rr4_1 (h.resolve_right (by decide))), fun h => .inl (rr5_0 (h.resolve_right (by decide))), fun h => .inl (rr5_2 (h.resolve_right (by decide)))⟩
      clear hK cc0 cc1 cc2 cc3 cc4 cc5 uu4 uu5 rr4_1 rr5_0 rr5_2
      go_simp
      exact hfin
    · intro done us W hJ hdep haft hnot b hb hb' K hK Q'
      obtain ⟨hX0, cc0, cc1, cc2, cc3, cc4, cc5, uu4, uu5, rr4_1, rr5_0, rr5_2⟩ := hJ
      have e1 := hb 5 1 rfl
      rw [uu5 (fun h => hnot (rr5_2 h))] at e1
      clear hb hb'
      have hfin := hK (.int .i64 (xb)) _ ⟨hX0, fun h => cc0 (h.resolve_right (by decide)), fun h => cc1 (h.resolve_right (by decide)), fun _ => rfl, fun h => cc3 (h.resolve_right (by decide)), fun h => cc4 (h.resolve_right (by decide)), fun h => cc5 (h.resolve_right (by decide)), fun h => uu4 (fun d => h (.inl d)), fun h => uu5 (fun d => h (.inl d)), fun h => .inl (rr4_1 (h.resolve_right (by decide))), fun h => .inl (rr5_0 (h.resolve_right (by decide))), fun h => .inl (rr5_2 (h.resolve_right (by decide)))⟩
      clear hK cc0 cc1 cc2 cc3 cc4 cc5 uu4 uu5 rr4_1 rr5_0 rr5_2
      go_simp
      exact hfin
    · intro done us W hJ hdep haft hnot b hb hb' K hK Q'
      obtain ⟨hX0, cc0, cc1, cc2, cc3, cc4, cc5, uu4, uu5, rr4_1, rr5_0, rr5_2⟩ := hJ
      simp only [List.getD_cons_succ, List.getD_cons_zero, List.mem_cons, List.not_mem_nil, or_false, forall_eq_or_imp, forall_eq] at hdep
      have e8 := hb 1 8 rfl
      rw [cc1 hdep.1] at e8
      have e9 := hb 2 9 rfl
      rw [cc2 hdep.2] at e9
      clear hb hb'
      have hfin := hK (.int .i64 (r)) _ ⟨hX0, fun h => cc0 (h.resolve_right (by decide)), fun h => cc1 (h.resolve_right (by decide)), fun h => cc2 (h.resolve_right (by decide)), fun _ => rfl, fun h => cc4 (h.resolve_right (by decide)), fun h => cc5 (h.resolve_right (by decide)), fun h => uu4 (fun d => h (.inl d)), fun h => uu5 (fun d => h (.inl d)), fun h => .inl (rr4_1 (h.resolve_right (by decide))), fun h => .inl (rr5_0 (h.resolve_right (by decide))), fun h => .inl (rr5_2 (h.resolve_right (by decide)))⟩
      clear hK cc0 cc1 cc2 cc3 cc4 cc5 uu4 uu5 rr4_1 rr5_0 rr5_2
      go_simp
      exact hfin
    · intro done us W hJ hdep haft hnot b hb hb' K hK Q'
      obtain ⟨hX0, cc0, cc1, cc2, cc3, cc4, cc5, uu4, uu5, rr4_1, rr5_0, rr5_2⟩ := hJ
      simp only [List.getD_cons_succ, List.getD_cons_zero, List.mem_cons, List.not_mem_nil, or_false, forall_eq_or_imp, forall_eq] at hdep
      have e7 := hb 0 7 rfl
      rw [cc0 hdep.1] at e7
      clear hb hb'
      have hfin := hK (.int .i64 (xb)) _ ⟨hX0, fun h => cc0 (h.resolve_right (by decide)), fun h => cc1 (h.resolve_right (by decide)), fun h => cc2 (h.resolve_right (by decide)), fun h => cc3 (h.resolve_right (by decide)), fun _ => rfl, fun h => cc5 (h.resolve_right (by decide)), fun h => absurd (.inr rfl) h, fun h => uu5 (fun d => h (.inl d)), fun _ => .inl hdep.2, fun h => .inl (rr5_0 (h.resolve_right (by decide))), fun h => .inl (rr5_2 (h.resolve_right (by decide)))⟩
      clear hK cc0 cc1 cc2 cc3 cc4 cc5 uu4 uu5 rr4_1 rr5_0 rr5_2
      go_simp
      exact hfin
    · intro done us W hJ hdep haft hnot b hb hb' K hK Q'
      obtain ⟨hX0, cc0, cc1, cc2, cc3, cc4, cc5, uu4, uu5, rr4_1, rr5_0, rr5_2⟩ := hJ
      simp only [List.getD_cons_succ, List.getD_cons_zero, List.mem_cons, List.not_mem_nil, or_false, forall_eq_or_imp, forall_eq] at hdep
      have e10 := hb 3 10 rfl
      rw [cc3 hdep.2.2.2.1] at e10
      clear hb hb'
      have hfin := hK (.int .i64 (r)) _ ⟨hX0, fun h => cc0 (h.resolve_right (by decide)), fun h => cc1 (h.resolve_right (by decide)), fun h => cc2 (h.resolve_right (by decide)), fun h => cc3 (h.resolve_right (by decide)), fun h => cc4 (h.resolve_right (by decide)), fun _ => rfl, fun h => uu4 (fun d => h (.inl d)), fun h => absurd (.inr rfl) h, fun h => .inl (rr4_1 (h.resolve_right (by decide))), fun _ => .inl hdep.1, fun _ => .inl hdep.2.2.1⟩
      clear hK cc0 cc1 cc2 cc3 cc4 cc5 uu4 uu5 rr4_1 rr5_0 rr5_2
      go_simp
      exact hfin
  · intro us W hJ
    obtain ⟨hX0, cc0, cc1, cc2, cc3, cc4, cc5, uu4, uu5, rr4_1, rr5_0, rr5_2⟩ := hJ
    exact hend (us 0) (us 1) (us 2) (us 3) (us 4) (us 5) W (cc0 (show 0 < 6 by decide)) (cc1 (show 1 < 6 by decide)) (cc2 (show 2 < 6 by decide)) (cc3 (show 3 < 6 by decide)) (cc4 (show 4 < 6 by decide)) (cc5 (show 5 < 6 by decide)) hX0
set_option maxRecDepth 100000 in
set_option maxHeartbeats 4000000 in
theorem gcdP_any (a b : Int) (w : World) (ha : -4611686018427387904 ≤ a ∧ a ≤ 4611686018427387904) (hb : -4611686018427387904 ≤ b ∧ b ≤ 4611686018427387904) :
    Calls Try.prog 146 #[.int .i64 a, .int .i64 b] w (fun e w' => e = .returned (.int .i64 (Int.gcd a b : Nat)) ∧ Ext w w') := by
  have HX := Lib.hid (Ext.refl w)
  have HA := Lib.hid ha
  have HB := Lib.hid hb
  clear ha hb
  go_enter Try.func146, Try.ntmps146
  go_wp2_with fail
  go_loopg [0, 1] b.natAbs (fun fu xv yv wr => ∃ x y : Int, fu = y.natAbs ∧ xv = .int .i64 x ∧ yv = .int .i64 y ∧ Hid (Int.gcd x y = Int.gcd a b) ∧ Hid (-4611686018427387904 ≤ x ∧ x ≤ 4611686018427387904) ∧ Hid (-4611686018427387904 ≤ y ∧ y ≤ 4611686018427387904) ∧ Hid (Ext w wr))
  case atStart => exact ⟨a, b, rfl, rfl, rfl, Lib.hid rfl, HA, HB, HX⟩
  case round =>
    clear HX
    obtain ⟨x, y, rfl, rfl, rfl, HG, HXB, HYB, HX⟩ := hrel
    by_cases hy : y = 0
    · subst hy
      have HGX : Hid ((Int.gcd a b : Nat) = x.natAbs) := Lib.hid (by rw [← HG.out]; exact Int.gcd_zero_right x)
      have hxb := HXB.out
      have qw : IntKind.i64.wrap (-x) = -x := IntWalk.i64_in _ (by omega)
      have HMX : Hid (max x (-x) = ((Int.gcd a b : Nat) : Int)) := Lib.hid (by rw [HGX.out]; omega)
      go_wp2
      go_ret
      exact ⟨by rw [← HMX.out]; rfl, HX.out⟩
    · have q1 : (y != 0) = true := by simpa using hy
      obtain ⟨r, hr⟩ : ∃ r, x.tmod y = r := ⟨_, rfl⟩
      have hrb := tmod_small x y 4611686018427387904 HXB.out
      rw [hr] at hrb
      have HR := Lib.hid hr
      have HY := Lib.hid hy
      have hz1 : (y == 0) = false := by simpa using hy
      clear hr hy
      go_upto_region 2 with (fail)
      refine gcdP_r2 x y r wr hz1 HY.out HR.out (IntWalk.i64_in _ (by omega)) _ _ (by simp) rfl rfl ?_
      rintro xv0 xv1 xv2 xv3 xv4 xv5 W rfl rfl rfl rfl rfl rfl hX
      simp only [rops, Try.f146, regOf, Option.bind_some, Nat.reduceBEq, if_true, if_false, Bool.false_eq_true, Option.getD_some, List.drop_succ_cons, List.drop_zero]
      simp only [Act.put, List.setIfInBounds_toArray, List.set_cons_succ, List.set_cons_zero]
      replace HX := Lib.hid (HX.out.trans hX)
      clear hX q1 hz1
      go_wp2
      go_roundg r.natAbs
      case rel => exact ⟨y, r, rfl, rfl, rfl, Lib.hid (by rw [← HR.out, igcd_step x y HY.out]; exact HG.out), HYB, Lib.hid hrb, HX⟩
      case measure => rw [← HR.out]; exact igcd_less x y HY.out

set_option maxRecDepth 100000 in
set_option maxHeartbeats 4000000 in
theorem gcdR_any (a b : Int) (w : World) (ha : -4611686018427387904 ≤ a ∧ a ≤ 4611686018427387904) (hb : -4611686018427387904 ≤ b ∧ b ≤ 4611686018427387904) :
    Calls Try.prog 148 #[.int .i64 a, .int .i64 b] w (fun e w' => e = .returned (.int .i64 (Int.gcd a b : Nat)) ∧ Ext w w') := by
  have HX := Lib.hid (Ext.refl w)
  have HA := Lib.hid ha
  have HB := Lib.hid hb
  clear ha hb
  go_enter Try.func148, Try.ntmps148
  go_wp2_with fail
  go_loopg [0, 1] b.natAbs (fun fu xv yv wr => ∃ x y : Int, fu = y.natAbs ∧ xv = .int .i64 x ∧ yv = .int .i64 y ∧ Hid (Int.gcd x y = Int.gcd a b) ∧ Hid (-4611686018427387904 ≤ x ∧ x ≤ 4611686018427387904) ∧ Hid (-4611686018427387904 ≤ y ∧ y ≤ 4611686018427387904) ∧ Hid (Ext w wr))
  case atStart => exact ⟨a, b, rfl, rfl, rfl, Lib.hid rfl, HA, HB, HX⟩
  case round =>
    clear HX
    obtain ⟨x, y, rfl, rfl, rfl, HG, HXB, HYB, HX⟩ := hrel
    by_cases hy : y = 0
    · subst hy
      have HGX : Hid ((Int.gcd a b : Nat) = x.natAbs) := Lib.hid (by rw [← HG.out]; exact Int.gcd_zero_right x)
      have hxb := HXB.out
      have qw : IntKind.i64.wrap (-x) = -x := IntWalk.i64_in _ (by omega)
      by_cases hn : x < 0
      · have q2 : decide (x < 0) = true := decide_eq_true hn
        have HV : Hid (-x = ((Int.gcd a b : Nat) : Int)) := Lib.hid (by rw [HGX.out]; omega)
        clear hn
        go_wp2
        go_ret
        exact ⟨by rw [← HV.out]; rfl, HX.out⟩
      · have q2 : decide (x < 0) = false := decide_eq_false hn
        have HV : Hid (x = ((Int.gcd a b : Nat) : Int)) := Lib.hid (by rw [HGX.out]; omega)
        clear hn
        go_wp2
        go_ret
        exact ⟨by rw [← HV.out]; rfl, HX.out⟩
    · have q1 : (y != 0) = true := by simpa using hy
      obtain ⟨r, hr⟩ : ∃ r, x.tmod y = r := ⟨_, rfl⟩
      have hrb := tmod_small x y 4611686018427387904 HXB.out
      rw [hr] at hrb
      have HR := Lib.hid hr
      have HY := Lib.hid hy
      have hz1 : (y == 0) = false := by simpa using hy
      clear hr hy
      go_upto_region 2 with (fail)
      refine gcdR_r2 x y r wr hz1 HY.out HR.out (IntWalk.i64_in _ (by omega)) _ _ (by simp) rfl rfl ?_
      rintro xv0 xv1 xv2 xv3 xv4 xv5 W rfl rfl rfl rfl rfl rfl hX
      simp only [rops, Try.f148, regOf, Option.bind_some, Nat.reduceBEq, if_true, if_false, Bool.false_eq_true, Option.getD_some, List.drop_succ_cons, List.drop_zero]
      simp only [Act.put, List.setIfInBounds_toArray, List.set_cons_succ, List.set_cons_zero]
      replace HX := Lib.hid (HX.out.trans hX)
      clear hX q1 hz1
      go_wp2
      go_roundg r.natAbs
      case rel => exact ⟨y, r, rfl, rfl, rfl, Lib.hid (by rw [← HR.out, igcd_step x y HY.out]; exact HG.out), HYB, Lib.hid hrb, HX⟩
      case measure => rw [← HR.out]; exact igcd_less x y HY.out

theorem pick_fnI (f : Nat → Int) {k : Nat} (hk : k < 3) : pick3 (f 0) (f 1) (f 2) k = f k := by
  match k, hk with
  | 0, _ => rfl
  | 1, _ => rfl
  | 2, _ => rfl
theorem cell3 {w : World} {g : Nat} {T : TypeId} {p : Nat → Int} (h : Blk w g T #[.int .i64 (p 0), .int .i64 (p 1), .int .i64 (p 2)]) {k : Nat} (hk : k < 3) : w.cell? ⟨g, k, none⟩ = some (.int .i64 (p k)) := by
  rw [h.cell]
  match k, hk with
  | 0, _ => rfl
  | 1, _ => rfl
  | 2, _ => rfl
set_option maxRecDepth 100000 in
set_option maxHeartbeats 4000000 in
theorem minus_any (a b : Nat → Int) (w : World) (ha : nrK a) (hb : nrK b) :
    Calls Try.prog 145 #[.agg #[.int .i64 (a 0), .int .i64 (a 1), .int .i64 (a 2)], .agg #[.int .i64 (b 0), .int .i64 (b 1), .int .i64 (b 2)]] w (fun e w' => e = .returned (.agg #[.int .i64 (a 0 - b 0), .int .i64 (a 1 - b 1), .int .i64 (a 2 - b 2)]) ∧ Ext w w') := by
  have q0 : IntKind.i64.wrap (a 0 - b 0) = a 0 - b 0 := IntWalk.i64_in _ (by have := ha 0 (by omega); have := hb 0 (by omega); omega)
  have q1 : IntKind.i64.wrap (a 1 - b 1) = a 1 - b 1 := IntWalk.i64_in _ (by have := ha 1 (by omega); have := hb 1 (by omega); omega)
  have q2 : IntKind.i64.wrap (a 2 - b 2) = a 2 - b 2 := IntWalk.i64_in _ (by have := ha 2 (by omega); have := hb 2 (by omega); omega)
  clear ha hb
  have hXe : Ext w (((w.alloc (.cells #[.int .i64 (a 0), .int .i64 (a 1), .int .i64 (a 2)] 22)).alloc (.cells #[.int .i64 (b 0), .int .i64 (b 1), .int .i64 (b 2)] 22)).alloc (.cells #[.int .i64 0, .int .i64 0, .int .i64 0] 22)) := (((Ext.refl w).alloc _).alloc _).alloc _
  have kA : Blk (((w.alloc (.cells #[.int .i64 (a 0), .int .i64 (a 1), .int .i64 (a 2)] 22)).alloc (.cells #[.int .i64 (b 0), .int .i64 (b 1), .int .i64 (b 2)] 22)).alloc (.cells #[.int .i64 0, .int .i64 0, .int .i64 0] 22)) w.heap.size 22 #[.int .i64 (a 0), .int .i64 (a 1), .int .i64 (a 2)] := Blk.alloc (Blk.alloc (Blk.new w _ _) _) _
  have kB : Blk (((w.alloc (.cells #[.int .i64 (a 0), .int .i64 (a 1), .int .i64 (a 2)] 22)).alloc (.cells #[.int .i64 (b 0), .int .i64 (b 1), .int .i64 (b 2)] 22)).alloc (.cells #[.int .i64 0, .int .i64 0, .int .i64 0] 22)) (w.heap.size + 1) 22 #[.int .i64 (b 0), .int .i64 (b 1), .int .i64 (b 2)] := Blk.alloc (Blk.at_ (by simp)) _
  have kR : Blk (((w.alloc (.cells #[.int .i64 (a 0), .int .i64 (a 1), .int .i64 (a 2)] 22)).alloc (.cells #[.int .i64 (b 0), .int .i64 (b 1), .int .i64 (b 2)] 22)).alloc (.cells #[.int .i64 0, .int .i64 0, .int .i64 0] 22)) (w.heap.size + 2) 22 #[.int .i64 0, .int .i64 0, .int .i64 0] := Blk.at_ (by simp)
  go_enter Try.func145, Try.ntmps145
  go_upto_region 1 with (fail)
  generalize ((w.alloc (.cells #[.int .i64 (a 0), .int .i64 (a 1), .int .i64 (a 2)] 22)).alloc (.cells #[.int .i64 (b 0), .int .i64 (b 1), .int .i64 (b 2)] 22)).alloc (.cells #[.int .i64 0, .int .i64 0, .int .i64 0] 22) = w1 at hXe kA kB kR ⊢
  have y0 := kA.cell 0
  have y1 := kA.cell 1
  have y2 := kA.cell 2
  simp only [List.getElem?_toArray, List.getElem?_cons_zero, List.getElem?_cons_succ] at y0 y1 y2
  have z0 := kB.cell 0
  have z1 := kB.cell 1
  have z2 := kB.cell 2
  simp only [List.getElem?_toArray, List.getElem?_cons_zero, List.getElem?_cons_succ] at z0 z1 z2
  have r0 := kR.cell 0
  have r1 := kR.cell 1
  have r2 := kR.cell 2
  simp only [List.getElem?_toArray, List.getElem?_cons_zero, List.getElem?_cons_succ] at r0 r1 r2
  have f0 := kR.free 0
  have f1 := kR.free 1
  have f2 := kR.free 2
  clear kA kB kR
  have HX := Lib.hid hXe
  clear hXe
  go_wp2
  refine bodyPost_ret (v := .agg #[.int .i64 (a 0 - b 0), .int .i64 (a 1 - b 1), .int .i64 (a 2 - b 2)]) (by simp [results, Try.results145, go_sem, *]) rfl ?_
  exact ⟨rfl, Ext.boxed HX.out (by omega) _ _ _⟩

set_option maxRecDepth 100000 in
set_option maxHeartbeats 4000000 in
theorem near_any (a : Nat → Int) (bb : Bool) (w : World) (hb : bb = true ↔ ∀ k, k < 3 → -268435456 ≤ a k ∧ a k ≤ 268435456) :
    Calls Try.prog 147 #[.agg #[.int .i64 (a 0), .int .i64 (a 1), .int .i64 (a 2)]] w (fun e w' => e = .returned (.bool bb) ∧ Ext w w') := by
  have HBB := Lib.hid hb
  clear hb
  have HX := Lib.hid ((Ext.refl w).alloc (.cells #[.int .i64 (a 0), .int .i64 (a 1), .int .i64 (a 2)] 22))
  have HP := Lib.hid (Blk.new w 22 #[.int .i64 (a 0), .int .i64 (a 1), .int .i64 (a 2)])
  go_enter Try.func147, Try.ntmps147
  go_upto_region 1 with (fail)
  generalize w.alloc (.cells #[.int .i64 (a 0), .int .i64 (a 1), .int .i64 (a 2)] 22) = w1 at HX HP ⊢
  have y0 := HP.out.cell 0
  have y1 := HP.out.cell 1
  have y2 := HP.out.cell 2
  simp only [List.getElem?_toArray, List.getElem?_cons_zero, List.getElem?_cons_succ] at y0 y1 y2
  go_wp2_with fail
  clear y0 y1 y2
  go_loopg [3] 3 (fun fu iv wr => ∃ k : Nat, fu = 3 - k ∧ k ≤ 3 ∧ iv = .int .i64 (k : Int) ∧ Hid (∀ j, j < k → -268435456 ≤ a j ∧ a j ≤ 268435456) ∧ Hid (Ext w1 wr))
  case atStart => exact ⟨0, rfl, by omega, rfl, Lib.hid (fun j hj => by omega), Lib.hid (Ext.refl _)⟩
  case round =>
    obtain ⟨k, rfl, hk, rfl, HC, HXL⟩ := hrel
    by_cases hk3 : k < 3
    · have q1 : decide ((k : Int) < 3) = true := decide_eq_true (by omega)
      have q1b : decide (k < 3) = true := decide_eq_true hk3
      have ck := cell3 (HP.out.ext HXL.out) hk3
      obtain ⟨x, hx⟩ : ∃ x, a k = x := ⟨_, rfl⟩
      rw [hx] at ck
      have HXV := Lib.hid hx
      clear hx
      by_cases c1 : x < -268435456
      · have q2 : decide (x < -268435456) = true := decide_eq_true c1
        have HF : Hid (bb = false) := Lib.hid (by rcases h : bb with _ | _; rfl; have := HBB.out.1 h k hk3; rw [HXV.out] at this; omega)
        clear c1
        replace HX := Lib.hid (HX.out.trans HXL.out)
        go_wp2
        go_ret
        exact ⟨by rw [HF.out]; rfl, HX.out⟩
      · have q2 : decide (x < -268435456) = false := decide_eq_false c1
        by_cases c2 : 268435456 < x
        · have q3 : decide (268435456 < x) = true := decide_eq_true c2
          have HF : Hid (bb = false) := Lib.hid (by rcases h : bb with _ | _; rfl; have := HBB.out.1 h k hk3; rw [HXV.out] at this; omega)
          clear c1 c2
          replace HX := Lib.hid (HX.out.trans HXL.out)
          go_wp2
          go_ret
          exact ⟨by rw [HF.out]; rfl, HX.out⟩
        · have q3 : decide (268435456 < x) = false := decide_eq_false c2
          have HI : Hid (-268435456 ≤ x ∧ x ≤ 268435456) := Lib.hid (by omega)
          clear c1 c2
          go_wp2
          go_roundg (3 - (k + 1))
          case rel => exact ⟨k + 1, rfl, by omega, by go_num, Lib.hid (fun j hj => by by_cases e : j = k; (subst e; rw [HXV.out]; exact HI.out); exact HC.out j (by omega)), HXL⟩
          case measure => omega
    · obtain rfl : k = 3 := by omega
      have q1 : decide (((3 : Nat) : Int) < 3) = false := by decide
      have HF : Hid (bb = true) := Lib.hid (HBB.out.2 HC.out)
      replace HX := Lib.hid (HX.out.trans HXL.out)
      go_wp2
      go_ret
      exact ⟨by rw [HF.out]; rfl, HX.out⟩

set_option maxRecDepth 100000 in
set_option maxHeartbeats 4000000 in
theorem within_any (a : Nat → Int) (bb : Bool) (w : World) (hb : bb = true ↔ ∀ k, k < 3 → -100 ≤ a k ∧ a k ≤ 100) :
    Calls Try.prog 149 #[.agg #[.int .i64 (a 0), .int .i64 (a 1), .int .i64 (a 2)]] w (fun e w' => e = .returned (.bool bb) ∧ Ext w w') := by
  have HBB := Lib.hid hb
  clear hb
  have HX := Lib.hid ((Ext.refl w).alloc (.cells #[.int .i64 (a 0), .int .i64 (a 1), .int .i64 (a 2)] 22))
  have HP := Lib.hid (Blk.new w 22 #[.int .i64 (a 0), .int .i64 (a 1), .int .i64 (a 2)])
  go_enter Try.func149, Try.ntmps149
  go_upto_region 1 with (fail)
  generalize w.alloc (.cells #[.int .i64 (a 0), .int .i64 (a 1), .int .i64 (a 2)] 22) = w1 at HX HP ⊢
  have y0 := HP.out.cell 0
  have y1 := HP.out.cell 1
  have y2 := HP.out.cell 2
  simp only [List.getElem?_toArray, List.getElem?_cons_zero, List.getElem?_cons_succ] at y0 y1 y2
  go_wp2_with fail
  clear y0 y1 y2
  go_loopg [6] 3 (fun fu iv wr => ∃ k : Nat, fu = 3 - k ∧ k ≤ 3 ∧ iv = .int .i64 (k : Int) ∧ Hid (∀ j, j < k → -100 ≤ a j ∧ a j ≤ 100) ∧ Hid (Ext w1 wr))
  case atStart => exact ⟨0, rfl, by omega, rfl, Lib.hid (fun j hj => by omega), Lib.hid (Ext.refl _)⟩
  case round =>
    obtain ⟨k, rfl, hk, rfl, HC, HXL⟩ := hrel
    by_cases hk3 : k < 3
    · have q1 : decide ((k : Int) < 3) = true := decide_eq_true (by omega)
      have q1b : decide (k < 3) = true := decide_eq_true hk3
      have ik := idx3 (a 0) (a 1) (a 2) hk3
      rw [pick_fnI a hk3] at ik
      obtain ⟨x, hx⟩ : ∃ x, a k = x := ⟨_, rfl⟩
      rw [hx] at ik
      have HXV := Lib.hid hx
      clear hx
      by_cases c1 : x < -100
      · have q2 : decide (x < -100) = true := decide_eq_true c1
        have HF : Hid (bb = false) := Lib.hid (by rcases h : bb with _ | _; rfl; have := HBB.out.1 h k hk3; rw [HXV.out] at this; omega)
        clear c1
        replace HX := Lib.hid (HX.out.trans HXL.out)
        go_wp2
        go_ret
        exact ⟨by rw [HF.out]; rfl, HX.out⟩
      · have q2 : decide (x < -100) = false := decide_eq_false c1
        by_cases c2 : 100 < x
        · have q3 : decide (100 < x) = true := decide_eq_true c2
          have HF : Hid (bb = false) := Lib.hid (by rcases h : bb with _ | _; rfl; have := HBB.out.1 h k hk3; rw [HXV.out] at this; omega)
          clear c1 c2
          replace HX := Lib.hid (HX.out.trans HXL.out)
          go_wp2
          go_ret
          exact ⟨by rw [HF.out]; rfl, HX.out⟩
        · have q3 : decide (100 < x) = false := decide_eq_false c2
          have HI : Hid (-100 ≤ x ∧ x ≤ 100) := Lib.hid (by omega)
          clear c1 c2
          go_wp2
          go_roundg (3 - (k + 1))
          case rel => exact ⟨k + 1, rfl, by omega, by go_num, Lib.hid (fun j hj => by by_cases e : j = k; (subst e; rw [HXV.out]; exact HI.out); exact HC.out j (by omega)), HXL⟩
          case measure => omega
    · obtain rfl : k = 3 := by omega
      have q1 : decide (((3 : Nat) : Int) < 3) = false := by decide
      have HF : Hid (bb = true) := Lib.hid (HBB.out.2 HC.out)
      replace HX := Lib.hid (HX.out.trans HXL.out)
      go_wp2
      go_ret
      exact ⟨by rw [HF.out]; rfl, HX.out⟩

set_option maxRecDepth 100000 in
set_option maxHeartbeats 8000000 in
theorem placed_any (g n c : Nat) (p : Nat → Nat → Int) (bb : Bool) (w : World) (hn : n ≤ 10) (hc : ∀ i, i < n → w.cell? ⟨g, i * 3, none⟩ = some (.int .i64 (p i 0)) ∧ w.cell? ⟨g, i * 3 + 1, none⟩ = some (.int .i64 (p i 1)) ∧ w.cell? ⟨g, i * 3 + 2, none⟩ = some (.int .i64 (p i 2))) (hb : bb = true ↔ ∀ i, i < n → nrK (p i)) :
    Calls Try.prog 144 #[.slice (some ⟨g, 0, none⟩) n c] w (fun e w' => e = .returned (.bool bb) ∧ Ext w w') := by
  have HBB := Lib.hid hb
  have HC := Lib.hid hc
  clear hb hc
  have HX := Lib.hid (Ext.refl w)
  go_enter Try.func144, Try.ntmps144
  go_wp2_with fail
  go_loopg [9] n (fun fu iv wr => ∃ i : Nat, fu = n - i ∧ i ≤ n ∧ iv = .int .i64 (i : Int) ∧ Hid (∀ j, j < i → nrK (p j)) ∧ Hid (Ext w wr))
  case atStart => exact ⟨0, by omega, by omega, rfl, Lib.hid (fun j hj => by omega), HX⟩
  case round =>
    clear HX
    obtain ⟨i, rfl, hi, rfl, HN, HX⟩ := hrel
    by_cases hin : i < n
    · have q1 : decide (i < n) = true := decide_eq_true hin
      obtain ⟨x0, x1, x2⟩ := HC.out i hin
      replace x0 := Ext.cell HX.out x0
      replace x1 := Ext.cell HX.out x1
      replace x2 := Ext.cell HX.out x2
      obtain ⟨a, ha⟩ : ∃ a, p i = a := ⟨_, rfl⟩
      rw [ha] at x0 x1 x2
      have HA := Lib.hid ha
      clear ha
      go_upto_region 4 with (fail)
      have hXa : Ext wr (wr.alloc (.cells #[.int .i64 (a 0), .int .i64 (a 1), .int .i64 (a 2)] 22)) := (Ext.refl _).alloc _
      have kB := Blk.new wr 22 #[.int .i64 (a 0), .int .i64 (a 1), .int .i64 (a 2)]
      replace HX := Lib.hid (HX.out.trans hXa)
      clear hXa x0 x1 x2
      generalize wr.heap.size = gx at kB ⊢
      generalize wr.alloc (.cells #[.int .i64 (a 0), .int .i64 (a 1), .int .i64 (a 2)] 22) = w2 at kB HX ⊢
      have y0 := kB.cell 0
      have y1 := kB.cell 1
      have y2 := kB.cell 2
      simp only [List.getElem?_toArray, List.getElem?_cons_zero, List.getElem?_cons_succ] at y0 y1 y2
      clear kB
      go_wp2_with fail
      clear y0 y1 y2
      go_loopg [14] 3 (fun fu iv wz => ∃ k : Nat, fu = 3 - k ∧ k ≤ 3 ∧ iv = .int .i64 (k : Int) ∧ Hid (∀ j, j < k → -268435456 ≤ a j ∧ a j ≤ 268435456) ∧ Hid (Ext w wz))
      case atStart => exact ⟨0, rfl, by omega, rfl, Lib.hid (fun j hj => by omega), HX⟩
      case round =>
        clear HX
        obtain ⟨k, rfl, hk, rfl, HK, HX⟩ := hrel
        by_cases hk3 : k < 3
        · have q2 : decide ((k : Int) < 3) = true := decide_eq_true (by omega)
          have q2b : decide (k < 3) = true := decide_eq_true hk3
          have ik := idx3 (a 0) (a 1) (a 2) hk3
          rw [pick_fnI a hk3] at ik
          obtain ⟨x, hx⟩ : ∃ x, a k = x := ⟨_, rfl⟩
          rw [hx] at ik
          have HXV := Lib.hid hx
          clear hx
          by_cases c1 : x < -268435456
          · have q3 : decide (x < -268435456) = true := decide_eq_true c1
            have HF : Hid (bb = false) := Lib.hid (by rcases h : bb with _ | _; rfl; have := HBB.out.1 h i hin k hk3; rw [HA.out, HXV.out] at this; omega)
            clear c1
            go_wp2
            go_ret
            exact ⟨by rw [HF.out]; rfl, HX.out⟩
          · have q3 : decide (x < -268435456) = false := decide_eq_false c1
            by_cases c2 : 268435456 < x
            · have q4 : decide (268435456 < x) = true := decide_eq_true c2
              have HF : Hid (bb = false) := Lib.hid (by rcases h : bb with _ | _; rfl; have := HBB.out.1 h i hin k hk3; rw [HA.out, HXV.out] at this; omega)
              clear c1 c2
              go_wp2
              go_ret
              exact ⟨by rw [HF.out]; rfl, HX.out⟩
            · have q4 : decide (268435456 < x) = false := decide_eq_false c2
              have HI : Hid (-268435456 ≤ x ∧ x ≤ 268435456) := Lib.hid (by omega)
              clear c1 c2
              go_wp2
              go_roundg (3 - (k + 1))
              case rel => exact ⟨k + 1, rfl, by omega, by go_num, Lib.hid (fun j hj => by by_cases e : j = k; (subst e; rw [HXV.out]; exact HI.out); exact HK.out j (by omega)), HX⟩
              case measure => omega
        · obtain rfl : k = 3 := by omega
          have q2 : decide (((3 : Nat) : Int) < 3) = false := by decide
          go_wp2
          go_roundg (n - (i + 1))
          case rel => exact ⟨i + 1, rfl, by omega, by go_num, Lib.hid (fun j hj => by by_cases e : j = i; (subst e; rw [HA.out]; exact HK.out); exact HN.out j (by omega)), HX⟩
          case measure => omega
    · obtain rfl : n = i := by omega
      have q1 : decide (n < n) = false := by simp
      have HF : Hid (bb = true) := Lib.hid (HBB.out.2 HN.out)
      go_wp2
      go_ret
      exact ⟨by rw [HF.out]; rfl, HX.out⟩

set_option maxRecDepth 100000 in
set_option maxHeartbeats 4000000 in
theorem halved_any (n : Int) (kk : Nat) (w : World) (hn : -1152921504606846976 ≤ n ∧ n ≤ 1152921504606846976) (hk : kk ≤ 64) :
    Calls Try.prog 150 #[.int .i64 n, .int .i64 (kk : Int)] w (fun e w' => e = .returned (.int .i64 (downK n kk)) ∧ Ext w w') := by
  have HX := Lib.hid (Ext.refl w)
  have HN := Lib.hid hn
  clear hn
  go_enter Try.func150, Try.ntmps150
  go_wp2_with fail
  go_loopg [0, 5] kk (fun fu xv iv wr => ∃ (i : Nat) (x : Int), fu = kk - i ∧ i ≤ kk ∧ iv = .int .i64 (i : Int) ∧ xv = .int .i64 x ∧ Hid (downK n i = x) ∧ Hid (-1152921504606846976 ≤ x ∧ x ≤ 1152921504606846976) ∧ Hid (Ext w wr))
  case atStart => exact ⟨0, n, by omega, by omega, rfl, rfl, Lib.hid (downK_zero n), HN, HX⟩
  case round =>
    clear HX
    obtain ⟨i, x, rfl, hi, rfl, rfl, HD, HB, HX⟩ := hrel
    by_cases hik : i < kk
    · have q1 : decide (i < kk) = true := decide_eq_true hik
      have hb := HB.out
      have hh := halve x
      by_cases hx : x < 0
      · have q2 : decide (x < 0) = true := decide_eq_true hx
        rw [if_pos hx] at hh
        obtain ⟨y, hy⟩ : ∃ y, (1 - x).tdiv 2 = y := ⟨_, rfl⟩
        have hy2 : (1 - x) / 2 = y := by rw [← hy, Int.tdiv_eq_ediv_of_nonneg (by omega)]
        have qa : IntKind.i64.wrap (1 - x) = 1 - x := IntWalk.i64_in _ (by omega)
        have qb : IntKind.i64.wrap y = y := IntWalk.i64_in _ (by omega)
        have qc : IntKind.i64.wrap (-y) = -y := IntWalk.i64_in _ (by omega)
        rw [hy] at hh
        have HY : Hid (-y = x / 2) := Lib.hid hh
        have HBN : Hid (-1152921504606846976 ≤ -y ∧ -y ≤ 1152921504606846976) := Lib.hid (by omega)
        clear hx hh hb
        go_wp2
        go_roundg (kk - (i + 1))
        case rel => exact ⟨i + 1, -y, rfl, by omega, by go_num, by first | rfl | (congr 1; omega), Lib.hid (by rw [← downK_succ, HD.out, HY.out]), HBN, HX⟩
        case measure => omega
      · have q2 : decide (x < 0) = false := decide_eq_false hx
        rw [if_neg hx] at hh
        obtain ⟨y, hy⟩ : ∃ y, x.tdiv 2 = y := ⟨_, rfl⟩
        have hy2 : x / 2 = y := by rw [← hy, Int.tdiv_eq_ediv_of_nonneg (by omega)]
        have qb : IntKind.i64.wrap y = y := IntWalk.i64_in _ (by omega)
        rw [hy] at hh
        have HY : Hid (y = x / 2) := Lib.hid hh
        have HBN : Hid (-1152921504606846976 ≤ y ∧ y ≤ 1152921504606846976) := Lib.hid (by omega)
        clear hx hh hb
        go_wp2
        go_roundg (kk - (i + 1))
        case rel => exact ⟨i + 1, y, rfl, by omega, by go_num, by first | rfl | (congr 1; omega), Lib.hid (by rw [← downK_succ, HD.out, HY.out]), HBN, HX⟩
        case measure => omega
    · obtain rfl : kk = i := by omega
      have q1 : decide (kk < kk) = false := by simp
      go_wp2
      go_ret
      exact ⟨by rw [HD.out]; rfl, HX.out⟩

end Go.Proofs.Ytikhlcgnlbinfaa
namespace Go.Proofs.Ytikhlcgnlbinfaa
open Go.RowKit

/-- The normal of a plane through three points. -/
def facN (a b c : Nat → Int) (k : Nat) : Int := (b ((k + 1) % 3) - a ((k + 1) % 3)) * (c ((k + 2) % 3) - a ((k + 2) % 3)) - (b ((k + 2) % 3) - a ((k + 2) % 3)) * (c ((k + 1) % 3) - a ((k + 1) % 3))
def facG (n : Nat → Int) : Nat := Int.gcd (Int.gcd (n 0) (n 1) : Nat) (n 2)
/-- The last of three that is not zero is negative. -/
def facS (n : Nat → Int) : Prop := if n 2 = 0 then (if n 1 = 0 then n 0 < 0 else n 1 < 0) else n 2 < 0
instance (n : Nat → Int) : Decidable (facS n) := by unfold facS; infer_instance
def facD (n : Nat → Int) : Int := if facS n then -(facG n : Int) else facG n
def facPl (a b c : Nat → Int) : Prop := nrK a ∧ nrK b ∧ nrK c
open Classical in
noncomputable def facA (a b c : Nat → Int) : (Nat → Int) × Int :=
  if ¬ facPl a b c then (fun _ => 0, 2) else if facG (facN a b c) = 0 then (fun _ => 0, 52) else (fun k => (facN a b c k).tdiv (facD (facN a b c)), 0)
theorem facA_far {a b c : Nat → Int} (h : ¬ facPl a b c) : facA a b c = (fun _ => 0, 2) := if_pos h
theorem facA_flat {a b c : Nat → Int} (h : facPl a b c) (h2 : facG (facN a b c) = 0) : facA a b c = (fun _ => 0, 52) := by unfold facA; rw [if_neg (fun k => k h), if_pos h2]
theorem facA_ok {a b c : Nat → Int} (h : facPl a b c) (h2 : ¬ facG (facN a b c) = 0) : facA a b c = (fun k => (facN a b c k).tdiv (facD (facN a b c)), 0) := by unfold facA; rw [if_neg (fun k => k h), if_neg h2]
theorem facN_bound {a b c : Nat → Int} (h : facPl a b c) (k : Nat) : -576460752303423488 ≤ facN a b c k ∧ facN a b c k ≤ 576460752303423488 := by
  obtain ⟨ha, hb, hc⟩ := h
  have l1 : (k + 1) % 3 < 3 := Nat.mod_lt _ (by omega)
  have l2 : (k + 2) % 3 < 3 := Nat.mod_lt _ (by omega)
  have a1 := ha _ l1
  have a2 := ha _ l2
  have b1 := hb _ l1
  have b2 := hb _ l2
  have c1 := hc _ l1
  have c2 := hc _ l2
  unfold facN
  have p1 := prod_bound (x := b ((k + 1) % 3) - a ((k + 1) % 3)) (y := c ((k + 2) % 3) - a ((k + 2) % 3)) (A := 536870912) (B := 536870912) (by omega) (by omega) (by omega) (by omega)
  have p2 := prod_bound (x := b ((k + 2) % 3) - a ((k + 2) % 3)) (y := c ((k + 1) % 3) - a ((k + 1) % 3)) (A := 536870912) (B := 536870912) (by omega) (by omega) (by omega) (by omega)
  omega
theorem facG_zero {n : Nat → Int} : facG n = 0 ↔ n 0 = 0 ∧ n 1 = 0 ∧ n 2 = 0 := by
  unfold facG
  rw [Int.gcd_eq_zero_iff]
  have : ((Int.gcd (n 0) (n 1) : Nat) : Int) = 0 ↔ Int.gcd (n 0) (n 1) = 0 := by omega
  rw [this, Int.gcd_eq_zero_iff]
  constructor
  · rintro ⟨⟨h1, h2⟩, h3⟩; exact ⟨h1, h2, h3⟩
  · rintro ⟨h1, h2, h3⟩; exact ⟨⟨h1, h2⟩, h3⟩
theorem facG_small {n : Nat → Int} {B : Nat} (h : ∀ k, -(B : Int) ≤ n k ∧ n k ≤ B) : facG n ≤ B := by
  by_cases h2 : n 2 = 0
  · unfold facG
    rw [h2, Int.gcd_zero_right, Int.natAbs_natCast]
    by_cases h1 : n 1 = 0
    · rw [h1, Int.gcd_zero_right]
      have := h 0
      omega
    · have q := Nat.le_of_dvd (by omega) (Int.gcd_dvd_natAbs_right (n 0) (n 1))
      have := h 1
      omega
  · have q := Nat.le_of_dvd (by omega) (Int.gcd_dvd_natAbs_right (Int.gcd (n 0) (n 1) : Nat) (n 2))
    have := h 2
    unfold facG
    omega
theorem tdiv_bound {x d B : Int} (h : -B ≤ x ∧ x ≤ B) : -B ≤ x.tdiv d ∧ x.tdiv d ≤ B := by
  have h1 : (x.tdiv d).natAbs ≤ x.natAbs := by rw [Int.natAbs_tdiv]; exact Nat.div_le_self _ _
  omega
def ptsF (a b c : Nat → Int) (i : Nat) : Nat → Int := match i with
  | 0 => a
  | 1 => b
  | _ => c
theorem ptsF_all {a b c : Nat → Int} : (∀ i, i < 3 → nrK (ptsF a b c i)) ↔ facPl a b c := ⟨fun h => ⟨h 0 (by omega), h 1 (by omega), h 2 (by omega)⟩, fun h i hi => by
  match i, hi with
  | 0, _ => exact h.1
  | 1, _ => exact h.2.1
  | 2, _ => exact h.2.2⟩

def nrK2 (p : Nat → Int) : Prop := ∀ k, k < 3 → -536870912 ≤ p k ∧ p k ≤ 536870912
theorem facN_uv {a b c u v : Nat → Int} (hu : ∀ k, u k = b k - a k) (hv : ∀ k, v k = c k - a k) : u 1 * v 2 - u 2 * v 1 = facN a b c 0 ∧ u 2 * v 0 - u 0 * v 2 = facN a b c 1 ∧ u 0 * v 1 - u 1 * v 0 = facN a b c 2 := by
  simp only [hu, hv]
  exact ⟨rfl, rfl, rfl⟩
theorem facS_at {n : Nat → Int} {k : Nat} {x : Int} (hk : k < 3) (hx : n k = x) (hx0 : ¬ x = 0) (hz : ∀ j, k + 1 ≤ j → j < 3 → n j = 0) : facS n ↔ x < 0 := by
  unfold facS
  match k, hk with
  | 0, _ => rw [if_pos (hz 2 (by omega) (by omega)), if_pos (hz 1 (by omega) (by omega)), hx]
  | 1, _ => rw [if_pos (hz 2 (by omega) (by omega)), if_neg (by rw [hx]; exact hx0), hx]
  | 2, _ => rw [if_neg (by rw [hx]; exact hx0), hx]
set_option maxRecDepth 100000 in
set_option maxHeartbeats 2000000 in
theorem facet_r3 (ga gb gc : Nat) (pa pb pc uu vv : Nat → Int) (w : World) (x0 : w.cell? ⟨ga, 0, none⟩ = some (.int .i64 (pa 0))) (x1 : w.cell? ⟨ga, 1, none⟩ = some (.int .i64 (pa 1))) (x2 : w.cell? ⟨ga, 2, none⟩ = some (.int .i64 (pa 2))) (y0 : w.cell? ⟨gb, 0, none⟩ = some (.int .i64 (pb 0))) (y1 : w.cell? ⟨gb, 1, none⟩ = some (.int .i64 (pb 1))) (y2 : w.cell? ⟨gb, 2, none⟩ = some (.int .i64 (pb 2))) (z0 : w.cell? ⟨gc, 0, none⟩ = some (.int .i64 (pc 0))) (z1 : w.cell? ⟨gc, 1, none⟩ = some (.int .i64 (pc 1))) (z2 : w.cell? ⟨gc, 2, none⟩ = some (.int .i64 (pc 2))) (hna : nrK pa) (hnb : nrK pb) (hnc : nrK pc) (hu : Hid (uu 0 = pb 0 - pa 0 ∧ uu 1 = pb 1 - pa 1 ∧ uu 2 = pb 2 - pa 2)) (hv : Hid (vv 0 = pc 0 - pa 0 ∧ vv 1 = pc 1 - pa 1 ∧ vv 2 = pc 2 - pa 2)) (a : Act) (Q : Exit → Act → World → Prop) (hsize : 26 ≤ a.tmps.size)
    (s3 : a.tmps[3]? = some (.pointer (some ⟨ga, 0, none⟩)))
    (s4 : a.tmps[4]? = some (.pointer (some ⟨gb, 0, none⟩)))
    (s5 : a.tmps[5]? = some (.pointer (some ⟨gc, 0, none⟩)))
    (hend : ∀ (xv0 xv1 xv2 xv3 xv4 xv5 xv6 xv7 xv8 xv9 : Value) (W : World), (xv0 = .agg #[.int .i64 (pb 0), .int .i64 (pb 1), .int .i64 (pb 2)]) → (xv1 = .agg #[.int .i64 (pa 0), .int .i64 (pa 1), .int .i64 (pa 2)]) → (xv2 = .agg #[.int .i64 (uu 0), .int .i64 (uu 1), .int .i64 (uu 2)]) → (xv3 = .agg #[.int .i64 (pc 0), .int .i64 (pc 1), .int .i64 (pc 2)]) → (xv4 = .agg #[.int .i64 (pa 0), .int .i64 (pa 1), .int .i64 (pa 2)]) → (xv5 = .agg #[.int .i64 (vv 0), .int .i64 (vv 1), .int .i64 (vv 2)]) → (∃ g, xv6 = .pointer (some ⟨g, 0, none⟩) ∧ w.heap.size ≤ g ∧ Blk W g 22 #[.int .i64 (uu 0), .int .i64 (uu 1), .int .i64 (uu 2)]) → (∃ g, xv7 = .pointer (some ⟨g, 0, none⟩) ∧ w.heap.size ≤ g ∧ Blk W g 22 #[.int .i64 (vv 0), .int .i64 (vv 1), .int .i64 (vv 2)]) → (xv6 ≠ xv7) → Ext w W → wpList Try.prog (rops Try.f68 3).toArray Q [] ((((((((((a.put (some 20) xv0).put (some 21) xv1).put (some 22) xv2).put (some 23) xv3).put (some 24) xv4).put (some 25) xv5).put (some 8) xv6).put (some 9) xv7).put (none) xv8).put (none) xv9) W) :
    (Code.region 3 (rops Try.f68 3).toArray true).wp Try.prog Q a w := by
  have hsz : ∀ d, some d ∈ ([some 20, some 21, some 22, some 23, some 24, some 25, some 8, some 9, none, none] : List (Option Tmp)) → d < a.tmps.size := slots_lt (by decide) hsize
  refine wp_region_g 10 [some 20, some 21, some 22, some 23, some 24, some 25, some 8, some 9, none, none] [[], [], [0, 1], [], [], [3, 4], [], [], [2, 6], [5, 7]] [[], [], [], [], [], [], [8], [9], [], []] (fun (done : Nat → Prop) (us : Nat → Value) (W : World) => Ext w W ∧ (done 0 → us 0 = .agg #[.int .i64 (pb 0), .int .i64 (pb 1), .int .i64 (pb 2)]) ∧ (done 1 → us 1 = .agg #[.int .i64 (pa 0), .int .i64 (pa 1), .int .i64 (pa 2)]) ∧ (done 2 → us 2 = .agg #[.int .i64 (uu 0), .int .i64 (uu 1), .int .i64 (uu 2)]) ∧ (done 3 → us 3 = .agg #[.int .i64 (pc 0), .int .i64 (pc 1), .int .i64 (pc 2)]) ∧ (done 4 → us 4 = .agg #[.int .i64 (pa 0), .int .i64 (pa 1), .int .i64 (pa 2)]) ∧ (done 5 → us 5 = .agg #[.int .i64 (vv 0), .int .i64 (vv 1), .int .i64 (vv 2)]) ∧ Loc w W 22 #[.int .i64 0, .int .i64 0, .int .i64 0] #[.int .i64 (uu 0), .int .i64 (uu 1), .int .i64 (uu 2)] (done 6) (done 8) (us 6) ∧ Loc w W 22 #[.int .i64 0, .int .i64 0, .int .i64 0] #[.int .i64 (vv 0), .int .i64 (vv 1), .int .i64 (vv 2)] (done 7) (done 9) (us 7) ∧ Far (done 6) (done 7) (us 6) (us 7)) (by kernel_rfl) (by kernel_rfl) hsz (fun p q us W h => by have e : p = q := funext fun k => propext (h k); rw [e]; exact id) (fun us => ⟨(Ext.refl w).drew, fun h => h.elim, fun h => h.elim, fun h => h.elim, fun h => h.elim, fun h => h.elim, fun h => h.elim, Loc.unmade id, Loc.unmade id, fun h => h.elim⟩) ?_ ?_
  · clear hend
    simp only [rops, Try.f68, regOf, Option.bind_some, Nat.reduceBEq, if_true, if_false, Bool.false_eq_true, Option.getD_some]
    simp only [List.take_succ_cons, List.take_zero]
    refine ⟨?_, ?_, ?_, ?_, ?_, ?_, ?_, ?_, ?_, ?_, trivial⟩
    · intro done us W hJ hdep haft hnot b hb hb' K hK Q'
      obtain ⟨hX0, cc0, cc1, cc2, cc3, cc4, cc5, ll6, ll7, f6_7⟩ := hJ
      have e4 := (hb' 4 (by simp)).trans s4
      clear hb hb'
      have q0 := Ext.cell hX0 y0
      have q1 := Ext.cell hX0 y1
      have q2 := Ext.cell hX0 y2
      have hfin := hK (.agg #[.int .i64 (pb 0), .int .i64 (pb 1), .int .i64 (pb 2)]) _ ⟨hX0, fun _ => rfl, fun h => cc1 (h.resolve_right (by decide)), fun h => cc2 (h.resolve_right (by decide)), fun h => cc3 (h.resolve_right (by decide)), fun h => cc4 (h.resolve_right (by decide)), fun h => cc5 (h.resolve_right (by decide)), Loc.same ll6 ⟨fun h => h.resolve_right (by decide), .inl⟩ ⟨fun h => h.resolve_right (by decide), .inl⟩, Loc.same ll7 ⟨fun h => h.resolve_right (by decide), .inl⟩ ⟨fun h => h.resolve_right (by decide), .inl⟩, fun h h' => f6_7 (h.resolve_right (by decide)) (h'.resolve_right (by decide))⟩
      clear hK cc0 cc1 cc2 cc3 cc4 cc5 ll6 ll7 f6_7
      go_simp
      exact hfin
    · intro done us W hJ hdep haft hnot b hb hb' K hK Q'
      obtain ⟨hX0, cc0, cc1, cc2, cc3, cc4, cc5, ll6, ll7, f6_7⟩ := hJ
      have e3 := (hb' 3 (by simp)).trans s3
      clear hb hb'
      have q0 := Ext.cell hX0 x0
      have q1 := Ext.cell hX0 x1
      have q2 := Ext.cell hX0 x2
      have hfin := hK (.agg #[.int .i64 (pa 0), .int .i64 (pa 1), .int .i64 (pa 2)]) _ ⟨hX0, fun h => cc0 (h.resolve_right (by decide)), fun _ => rfl, fun h => cc2 (h.resolve_right (by decide)), fun h => cc3 (h.resolve_right (by decide)), fun h => cc4 (h.resolve_right (by decide)), fun h => cc5 (h.resolve_right (by decide)), Loc.same ll6 ⟨fun h => h.resolve_right (by decide), .inl⟩ ⟨fun h => h.resolve_right (by decide), .inl⟩, Loc.same ll7 ⟨fun h => h.resolve_right (by decide), .inl⟩ ⟨fun h => h.resolve_right (by decide), .inl⟩, fun h h' => f6_7 (h.resolve_right (by decide)) (h'.resolve_right (by decide))⟩
      clear hK cc0 cc1 cc2 cc3 cc4 cc5 ll6 ll7 f6_7
      go_simp
      exact hfin
    · intro done us W hJ hdep haft hnot b hb hb' K hK Q'
      obtain ⟨hX0, cc0, cc1, cc2, cc3, cc4, cc5, ll6, ll7, f6_7⟩ := hJ
      simp only [List.getD_cons_succ, List.getD_cons_zero, List.mem_cons, List.not_mem_nil, or_false, forall_eq_or_imp, forall_eq] at hdep
      have e20 := hb 0 20 rfl
      rw [cc0 hdep.1] at e20
      have e21 := hb 1 21 rfl
      rw [cc1 hdep.2] at e21
      clear hb hb'
      have hm := minus_any pb pa W hnb hna
      rw [← hu.out.1, ← hu.out.2.1, ← hu.out.2.2] at hm
      go_simp
      refine hm.mono ?_
      rintro e w' ⟨rfl, hX⟩
      exact hK (.agg #[.int .i64 (uu 0), .int .i64 (uu 1), .int .i64 (uu 2)]) _ ⟨hX0.trans hX, fun h => cc0 (h.resolve_right (by decide)), fun h => cc1 (h.resolve_right (by decide)), fun _ => rfl, fun h => cc3 (h.resolve_right (by decide)), fun h => cc4 (h.resolve_right (by decide)), fun h => cc5 (h.resolve_right (by decide)), Loc.same (ll6.ext hX) ⟨fun h => h.resolve_right (by decide), .inl⟩ ⟨fun h => h.resolve_right (by decide), .inl⟩, Loc.same (ll7.ext hX) ⟨fun h => h.resolve_right (by decide), .inl⟩ ⟨fun h => h.resolve_right (by decide), .inl⟩, fun h h' => f6_7 (h.resolve_right (by decide)) (h'.resolve_right (by decide))⟩
    · intro done us W hJ hdep haft hnot b hb hb' K hK Q'
      obtain ⟨hX0, cc0, cc1, cc2, cc3, cc4, cc5, ll6, ll7, f6_7⟩ := hJ
      have e5 := (hb' 5 (by simp)).trans s5
      clear hb hb'
      have q0 := Ext.cell hX0 z0
      have q1 := Ext.cell hX0 z1
      have q2 := Ext.cell hX0 z2
      have hfin := hK (.agg #[.int .i64 (pc 0), .int .i64 (pc 1), .int .i64 (pc 2)]) _ ⟨hX0, fun h => cc0 (h.resolve_right (by decide)), fun h => cc1 (h.resolve_right (by decide)), fun h => cc2 (h.resolve_right (by decide)), fun _ => rfl, fun h => cc4 (h.resolve_right (by decide)), fun h => cc5 (h.resolve_right (by decide)), Loc.same ll6 ⟨fun h => h.resolve_right (by decide), .inl⟩ ⟨fun h => h.resolve_right (by decide), .inl⟩, Loc.same ll7 ⟨fun h => h.resolve_right (by decide), .inl⟩ ⟨fun h => h.resolve_right (by decide), .inl⟩, fun h h' => f6_7 (h.resolve_right (by decide)) (h'.resolve_right (by decide))⟩
      clear hK cc0 cc1 cc2 cc3 cc4 cc5 ll6 ll7 f6_7
      go_simp
      exact hfin
    · intro done us W hJ hdep haft hnot b hb hb' K hK Q'
      obtain ⟨hX0, cc0, cc1, cc2, cc3, cc4, cc5, ll6, ll7, f6_7⟩ := hJ
      have e3 := (hb' 3 (by simp)).trans s3
      clear hb hb'
      have q0 := Ext.cell hX0 x0
      have q1 := Ext.cell hX0 x1
      have q2 := Ext.cell hX0 x2
      have hfin := hK (.agg #[.int .i64 (pa 0), .int .i64 (pa 1), .int .i64 (pa 2)]) _ ⟨hX0, fun h => cc0 (h.resolve_right (by decide)), fun h => cc1 (h.resolve_right (by decide)), fun h => cc2 (h.resolve_right (by decide)), fun h => cc3 (h.resolve_right (by decide)), fun _ => rfl, fun h => cc5 (h.resolve_right (by decide)), Loc.same ll6 ⟨fun h => h.resolve_right (by decide), .inl⟩ ⟨fun h => h.resolve_right (by decide), .inl⟩, Loc.same ll7 ⟨fun h => h.resolve_right (by decide), .inl⟩ ⟨fun h => h.resolve_right (by decide), .inl⟩, fun h h' => f6_7 (h.resolve_right (by decide)) (h'.resolve_right (by decide))⟩
      clear hK cc0 cc1 cc2 cc3 cc4 cc5 ll6 ll7 f6_7
      go_simp
      exact hfin
    · intro done us W hJ hdep haft hnot b hb hb' K hK Q'
      obtain ⟨hX0, cc0, cc1, cc2, cc3, cc4, cc5, ll6, ll7, f6_7⟩ := hJ
      simp only [List.getD_cons_succ, List.getD_cons_zero, List.mem_cons, List.not_mem_nil, or_false, forall_eq_or_imp, forall_eq] at hdep
      have e23 := hb 3 23 rfl
      rw [cc3 hdep.1] at e23
      have e24 := hb 4 24 rfl
      rw [cc4 hdep.2] at e24
      clear hb hb'
      have hm := minus_any pc pa W hnc hna
      rw [← hv.out.1, ← hv.out.2.1, ← hv.out.2.2] at hm
      go_simp
      refine hm.mono ?_
      rintro e w' ⟨rfl, hX⟩
      exact hK (.agg #[.int .i64 (vv 0), .int .i64 (vv 1), .int .i64 (vv 2)]) _ ⟨hX0.trans hX, fun h => cc0 (h.resolve_right (by decide)), fun h => cc1 (h.resolve_right (by decide)), fun h => cc2 (h.resolve_right (by decide)), fun h => cc3 (h.resolve_right (by decide)), fun h => cc4 (h.resolve_right (by decide)), fun _ => rfl, Loc.same (ll6.ext hX) ⟨fun h => h.resolve_right (by decide), .inl⟩ ⟨fun h => h.resolve_right (by decide), .inl⟩, Loc.same (ll7.ext hX) ⟨fun h => h.resolve_right (by decide), .inl⟩ ⟨fun h => h.resolve_right (by decide), .inl⟩, fun h h' => f6_7 (h.resolve_right (by decide)) (h'.resolve_right (by decide))⟩
    · intro done us W hJ hdep haft hnot b hb hb' K hK Q'
      obtain ⟨hX0, cc0, cc1, cc2, cc3, cc4, cc5, ll6, ll7, f6_7⟩ := hJ
      simp only [List.getD_cons_succ, List.getD_cons_zero, List.mem_cons, List.not_mem_nil, or_false, forall_eq_or_imp, forall_eq] at haft
      clear hb hb'
      have hfin := hK _ _ ⟨hX0.alloc _, fun h => cc0 (h.resolve_right (by decide)), fun h => cc1 (h.resolve_right (by decide)), fun h => cc2 (h.resolve_right (by decide)), fun h => cc3 (h.resolve_right (by decide)), fun h => cc4 (h.resolve_right (by decide)), fun h => cc5 (h.resolve_right (by decide)), Loc.new w W hX0 (fun h => h.elim haft (by decide)) (Ext.refl _), Loc.same (ll7.ext ((Ext.refl _).alloc _)) ⟨fun h => h.resolve_right (by decide), .inl⟩ ⟨fun h => h.resolve_right (by decide), .inl⟩, fun _ h => Ne.symm (ll7.far_new (h.resolve_right (by decide)))⟩
      clear hK hX0 cc0 cc1 cc2 cc3 cc4 cc5 ll6 ll7 f6_7
      go_simp
      exact hfin
    · intro done us W hJ hdep haft hnot b hb hb' K hK Q'
      obtain ⟨hX0, cc0, cc1, cc2, cc3, cc4, cc5, ll6, ll7, f6_7⟩ := hJ
      simp only [List.getD_cons_succ, List.getD_cons_zero, List.mem_cons, List.not_mem_nil, or_false, forall_eq_or_imp, forall_eq] at haft
      clear hb hb'
      have hfin := hK _ _ ⟨hX0.alloc _, fun h => cc0 (h.resolve_right (by decide)), fun h => cc1 (h.resolve_right (by decide)), fun h => cc2 (h.resolve_right (by decide)), fun h => cc3 (h.resolve_right (by decide)), fun h => cc4 (h.resolve_right (by decide)), fun h => cc5 (h.resolve_right (by decide)), Loc.same (ll6.ext ((Ext.refl _).alloc _)) ⟨fun h => h.resolve_right (by decide), .inl⟩ ⟨fun h => h.resolve_right (by decide), .inl⟩, Loc.new w W hX0 (fun h => h.elim haft (by decide)) (Ext.refl _), fun h _ => ll6.far_new (h.resolve_right (by decide))⟩
      clear hK hX0 cc0 cc1 cc2 cc3 cc4 cc5 ll6 ll7 f6_7
      go_simp
      exact hfin
    · intro done us W hJ hdep haft hnot b hb hb' K hK Q'
      obtain ⟨hX0, cc0, cc1, cc2, cc3, cc4, cc5, ll6, ll7, f6_7⟩ := hJ
      simp only [List.getD_cons_succ, List.getD_cons_zero, List.mem_cons, List.not_mem_nil, or_false, forall_eq_or_imp, forall_eq] at hdep
      have e8 := hb 6 8 rfl
      have e22 := hb 2 22 rfl
      rw [cc2 hdep.1] at e22
      obtain ⟨g, eg, hg, hB⟩ := ll6.stored hdep.2 hnot
      rw [eg] at e8
      have q0 : W.cell? ⟨g, 0, none⟩ = some (.int .i64 0) := hB.cell 0
      have z0 : W.frozen? ⟨g, 0, none⟩ = false := hB.free 0
      have q1 : W.cell? ⟨g, 1, none⟩ = some (.int .i64 0) := hB.cell 1
      have z1 : W.frozen? ⟨g, 1, none⟩ = false := hB.free 1
      have q2 : W.cell? ⟨g, 2, none⟩ = some (.int .i64 0) := hB.cell 2
      have z2 : W.frozen? ⟨g, 2, none⟩ = false := hB.free 2
      clear hb hb'
      have hfin := hK undef _ ⟨(((hX0.setCell hg _).setCell hg _).setCell hg _), fun h => cc0 (h.resolve_right (by decide)), fun h => cc1 (h.resolve_right (by decide)), fun h => cc2 (h.resolve_right (by decide)), fun h => cc3 (h.resolve_right (by decide)), fun h => cc4 (h.resolve_right (by decide)), fun h => cc5 (h.resolve_right (by decide)), ⟨fun _ => ⟨g, eg, hg, fun _ => (Blk.set (Blk.set (Blk.set hB 0 _) 1 _) 2 _), fun h => absurd (.inr rfl) h⟩⟩, Loc.same (Loc.keep (Loc.keep (Loc.keep ll7 (f := (fun h k => Ne.symm (f6_7 k h))) hdep.2 eg) (f := (fun h k => Ne.symm (f6_7 k h))) hdep.2 eg) (f := (fun h k => Ne.symm (f6_7 k h))) hdep.2 eg) ⟨fun h => h.resolve_right (by decide), .inl⟩ ⟨fun h => h.resolve_right (by decide), .inl⟩, fun h h' => f6_7 (h.resolve_right (by decide)) (h'.resolve_right (by decide))⟩
      clear hK hX0 cc0 cc1 cc2 cc3 cc4 cc5 ll6 ll7 f6_7
      go_simp
      exact hfin
    · intro done us W hJ hdep haft hnot b hb hb' K hK Q'
      obtain ⟨hX0, cc0, cc1, cc2, cc3, cc4, cc5, ll6, ll7, f6_7⟩ := hJ
      simp only [List.getD_cons_succ, List.getD_cons_zero, List.mem_cons, List.not_mem_nil, or_false, forall_eq_or_imp, forall_eq] at hdep
      have e9 := hb 7 9 rfl
      have e25 := hb 5 25 rfl
      rw [cc5 hdep.1] at e25
      obtain ⟨g, eg, hg, hB⟩ := ll7.stored hdep.2 hnot
      rw [eg] at e9
      have q0 : W.cell? ⟨g, 0, none⟩ = some (.int .i64 0) := hB.cell 0
      have z0 : W.frozen? ⟨g, 0, none⟩ = false := hB.free 0
      have q1 : W.cell? ⟨g, 1, none⟩ = some (.int .i64 0) := hB.cell 1
      have z1 : W.frozen? ⟨g, 1, none⟩ = false := hB.free 1
      have q2 : W.cell? ⟨g, 2, none⟩ = some (.int .i64 0) := hB.cell 2
      have z2 : W.frozen? ⟨g, 2, none⟩ = false := hB.free 2
      clear hb hb'
      have hfin := hK undef _ ⟨(((hX0.setCell hg _).setCell hg _).setCell hg _), fun h => cc0 (h.resolve_right (by decide)), fun h => cc1 (h.resolve_right (by decide)), fun h => cc2 (h.resolve_right (by decide)), fun h => cc3 (h.resolve_right (by decide)), fun h => cc4 (h.resolve_right (by decide)), fun h => cc5 (h.resolve_right (by decide)), Loc.same (Loc.keep (Loc.keep (Loc.keep ll6 (f := f6_7) hdep.2 eg) (f := f6_7) hdep.2 eg) (f := f6_7) hdep.2 eg) ⟨fun h => h.resolve_right (by decide), .inl⟩ ⟨fun h => h.resolve_right (by decide), .inl⟩, ⟨fun _ => ⟨g, eg, hg, fun _ => (Blk.set (Blk.set (Blk.set hB 0 _) 1 _) 2 _), fun h => absurd (.inr rfl) h⟩⟩, fun h h' => f6_7 (h.resolve_right (by decide)) (h'.resolve_right (by decide))⟩
      clear hK hX0 cc0 cc1 cc2 cc3 cc4 cc5 ll6 ll7 f6_7
      go_simp
      exact hfin
  · intro us W hJ
    obtain ⟨hX0, cc0, cc1, cc2, cc3, cc4, cc5, ll6, ll7, f6_7⟩ := hJ
    rw [show (rops Try.f68 3).drop 10 = [] by kernel_rfl]
    exact hend (us 0) (us 1) (us 2) (us 3) (us 4) (us 5) (us 6) (us 7) (us 8) (us 9) W (cc0 (show 0 < 10 by decide)) (cc1 (show 1 < 10 by decide)) (cc2 (show 2 < 10 by decide)) (cc3 (show 3 < 10 by decide)) (cc4 (show 4 < 10 by decide)) (cc5 (show 5 < 10 by decide)) (ll6.done (show 6 < 10 by decide) (show 8 < 10 by decide)) (ll7.done (show 7 < 10 by decide) (show 9 < 10 by decide)) (f6_7 (show 6 < 10 by decide) (show 7 < 10 by decide)) hX0
set_option maxRecDepth 100000 in
set_option maxHeartbeats 2000000 in
theorem facet_r5 (gn : Nat) (n : Nat → Int) (w : World) (c0 : w.cell? ⟨gn, 0, none⟩ = some (.int .i64 (n 0))) (c1 : w.cell? ⟨gn, 1, none⟩ = some (.int .i64 (n 1))) (c2 : w.cell? ⟨gn, 2, none⟩ = some (.int .i64 (n 2))) (hn0 : -576460752303423488 ≤ n 0 ∧ n 0 ≤ 576460752303423488) (hn1 : -576460752303423488 ≤ n 1 ∧ n 1 ≤ 576460752303423488) (hn2 : -576460752303423488 ≤ n 2 ∧ n 2 ≤ 576460752303423488) (hg : ((Int.gcd (n 0) (n 1) : Nat) : Int) ≤ 4611686018427387904) (a : Act) (Q : Exit → Act → World → Prop) (hsize : 68 ≤ a.tmps.size)
    (s10 : a.tmps[10]? = some (.pointer (some ⟨gn, 0, none⟩)))
    (hend : ∀ (xv0 xv1 xv2 xv3 xv4 xv5 xv6 xv7 : Value) (W : World), (xv0 = .pointer (some ⟨gn, 0, none⟩)) → (xv1 = .int .i64 (n 0)) → (xv2 = .pointer (some ⟨gn, 1, none⟩)) → (xv3 = .int .i64 (n 1)) → (xv4 = .int .i64 ((Int.gcd (n 0) (n 1) : Nat) : Int)) → (xv5 = .pointer (some ⟨gn, 2, none⟩)) → (xv6 = .int .i64 (n 2)) → (xv7 = .int .i64 ((Int.gcd ((Int.gcd (n 0) (n 1) : Nat) : Int) (n 2) : Nat) : Int)) → Ext w W → wpList Try.prog (rops Try.f68 5).toArray Q ((rops Try.f68 5).drop 8) ((((((((a.put (some 60) xv0).put (some 61) xv1).put (some 62) xv2).put (some 63) xv3).put (some 64) xv4).put (some 65) xv5).put (some 66) xv6).put (some 67) xv7) W) :
    (Code.region 5 (rops Try.f68 5).toArray true).wp Try.prog Q a w := by
  have hmono : ∀ (W W' : World) (j : Nat) (u : Value), Ext W W' → (fun (i : Nat) (v : Value) (W : World) => match i with
    | 0 => v = .pointer (some ⟨gn, 0, none⟩)
    | 1 => v = .int .i64 (n 0)
    | 2 => v = .pointer (some ⟨gn, 1, none⟩)
    | 3 => v = .int .i64 (n 1)
    | 4 => v = .int .i64 ((Int.gcd (n 0) (n 1) : Nat) : Int)
    | 5 => v = .pointer (some ⟨gn, 2, none⟩)
    | 6 => v = .int .i64 (n 2)
    | 7 => v = .int .i64 ((Int.gcd ((Int.gcd (n 0) (n 1) : Nat) : Int) (n 2) : Nat) : Int)
    | _ => True) j u W → (fun (i : Nat) (v : Value) (W : World) => match i with
    | 0 => v = .pointer (some ⟨gn, 0, none⟩)
    | 1 => v = .int .i64 (n 0)
    | 2 => v = .pointer (some ⟨gn, 1, none⟩)
    | 3 => v = .int .i64 (n 1)
    | 4 => v = .int .i64 ((Int.gcd (n 0) (n 1) : Nat) : Int)
    | 5 => v = .pointer (some ⟨gn, 2, none⟩)
    | 6 => v = .int .i64 (n 2)
    | 7 => v = .int .i64 ((Int.gcd ((Int.gcd (n 0) (n 1) : Nat) : Int) (n 2) : Nat) : Int)
    | _ => True) j u W' := by
    intro W W' j u hX h
    match j, h with
    | 0, h => exact h
    | 1, h => exact h
    | 2, h => exact h
    | 3, h => exact h
    | 4, h => exact h
    | 5, h => exact h
    | 6, h => exact h
    | 7, h => exact h
    | _ + 8, h => exact h
  have hsz : ∀ d, some d ∈ ([some 60, some 61, some 62, some 63, some 64, some 65, some 66, some 67] : List (Option Tmp)) → d < a.tmps.size := slots_lt (by decide) hsize
  refine wp_region_j 8 [some 60, some 61, some 62, some 63, some 64, some 65, some 66, some 67] [[], [0], [], [2], [1, 3], [], [5], [4, 6]] [[], [], [], [], [], [], [], []] (fun (i : Nat) (v : Value) (W : World) => match i with
    | 0 => v = .pointer (some ⟨gn, 0, none⟩)
    | 1 => v = .int .i64 (n 0)
    | 2 => v = .pointer (some ⟨gn, 1, none⟩)
    | 3 => v = .int .i64 (n 1)
    | 4 => v = .int .i64 ((Int.gcd (n 0) (n 1) : Nat) : Int)
    | 5 => v = .pointer (some ⟨gn, 2, none⟩)
    | 6 => v = .int .i64 (n 2)
    | 7 => v = .int .i64 ((Int.gcd ((Int.gcd (n 0) (n 1) : Nat) : Int) (n 2) : Nat) : Int)
    | _ => True) (fun _ W => Ext w W) (by kernel_rfl) (by kernel_rfl) hsz (fun _ _ _ _ h => h) ((Ext.refl w).drew) ?_ ?_
  · clear hend
    simp only [rops, Try.f68, regOf, Option.bind_some, Nat.reduceBEq, if_true, if_false, Bool.false_eq_true, Option.getD_some]
    simp only [List.take_succ_cons, List.take_zero]
    refine ⟨?_, ?_, ?_, ?_, ?_, ?_, ?_, ?_, trivial⟩
    · intro done us W hJ hdep haft hnot b hb hb' K hK Q'
      have e10 := (hb' 10 (by simp)).trans s10
      clear hb hb'
      go_simp
      exact hK _ _ rfl (fun _ _ _ h => h) hJ
    · intro done us W hJ hdep haft hnot b hb hb' K hK Q'
      simp only [List.getD_cons_succ, List.getD_cons_zero, List.mem_cons, List.not_mem_nil, or_false, forall_eq] at hdep
      have e60 := hb 0 60 rfl
      have d0 := hdep
      rw [d0.1] at e60
      clear hb hb' hdep d0
      have q := Ext.cell hJ c0
      go_simp
      exact hK _ _ rfl (fun _ _ _ h => h) hJ
    · intro done us W hJ hdep haft hnot b hb hb' K hK Q'
      have e10 := (hb' 10 (by simp)).trans s10
      clear hb hb'
      go_simp
      exact hK _ _ rfl (fun _ _ _ h => h) hJ
    · intro done us W hJ hdep haft hnot b hb hb' K hK Q'
      simp only [List.getD_cons_succ, List.getD_cons_zero, List.mem_cons, List.not_mem_nil, or_false, forall_eq] at hdep
      have e62 := hb 2 62 rfl
      have d2 := hdep
      rw [d2.1] at e62
      clear hb hb' hdep d2
      have q := Ext.cell hJ c1
      go_simp
      exact hK _ _ rfl (fun _ _ _ h => h) hJ
    · intro done us W hJ hdep haft hnot b hb hb' K hK Q'
      simp only [List.getD_cons_succ, List.getD_cons_zero, List.mem_cons, List.not_mem_nil, or_false, forall_eq_or_imp, forall_eq] at hdep
      have e61 := hb 1 61 rfl
      have e63 := hb 3 63 rfl
      have d1 := hdep.1
      have d3 := hdep.2
      rw [d1.1] at e61
      rw [d3.1] at e63
      clear hb hb' hdep d1 d3
      go_simp
      refine (gcdP_any (n 0) (n 1) W (by omega) (by omega)).mono ?_
      rintro e w' ⟨rfl, hX⟩
      exact hK _ _ rfl (fun j u _ h => hmono _ _ j u hX h) (Ext.trans hJ hX)
    · intro done us W hJ hdep haft hnot b hb hb' K hK Q'
      have e10 := (hb' 10 (by simp)).trans s10
      clear hb hb'
      go_simp
      exact hK _ _ rfl (fun _ _ _ h => h) hJ
    · intro done us W hJ hdep haft hnot b hb hb' K hK Q'
      simp only [List.getD_cons_succ, List.getD_cons_zero, List.mem_cons, List.not_mem_nil, or_false, forall_eq] at hdep
      have e65 := hb 5 65 rfl
      have d5 := hdep
      rw [d5.1] at e65
      clear hb hb' hdep d5
      have q := Ext.cell hJ c2
      go_simp
      exact hK _ _ rfl (fun _ _ _ h => h) hJ
    · intro done us W hJ hdep haft hnot b hb hb' K hK Q'
      simp only [List.getD_cons_succ, List.getD_cons_zero, List.mem_cons, List.not_mem_nil, or_false, forall_eq_or_imp, forall_eq] at hdep
      have e64 := hb 4 64 rfl
      have e66 := hb 6 66 rfl
      have d4 := hdep.1
      have d6 := hdep.2
      rw [d4.1] at e64
      rw [d6.1] at e66
      clear hb hb' hdep d4 d6
      go_simp
      refine (gcdP_any ((Int.gcd (n 0) (n 1) : Nat) : Int) (n 2) W (by omega) (by omega)).mono ?_
      rintro e w' ⟨rfl, hX⟩
      exact hK _ _ rfl (fun j u _ h => hmono _ _ j u hX h) (Ext.trans hJ hX)
  · intro us W hV hJ
    exact hend (us 0) (us 1) (us 2) (us 3) (us 4) (us 5) (us 6) (us 7) W (hV 0 (by omega)) (hV 1 (by omega)) (hV 2 (by omega)) (hV 3 (by omega)) (hV 4 (by omega)) (hV 5 (by omega)) (hV 6 (by omega)) (hV 7 (by omega)) hJ
set_option maxRecDepth 100000 in
set_option maxHeartbeats 2000000 in
theorem facet_r14 (gn : Nat) (n : Nat → Int) (d : Int) (w : World) (c0 : w.cell? ⟨gn, 0, none⟩ = some (.int .i64 (n 0))) (c1 : w.cell? ⟨gn, 1, none⟩ = some (.int .i64 (n 1))) (c2 : w.cell? ⟨gn, 2, none⟩ = some (.int .i64 (n 2))) (hz1 : (d == 0) = false) (hz2 : d ≠ 0) (qw0 : IntKind.i64.wrap ((n 0).tdiv d) = (n 0).tdiv d) (qw1 : IntKind.i64.wrap ((n 1).tdiv d) = (n 1).tdiv d) (qw2 : IntKind.i64.wrap ((n 2).tdiv d) = (n 2).tdiv d) (a : Act) (Q : Exit → Act → World → Prop) (hsize : 98 ≤ a.tmps.size)
    (s10 : a.tmps[10]? = some (.pointer (some ⟨gn, 0, none⟩)))
    (s11 : a.tmps[11]? = some (.int .i64 (d)))
    (hend : ∀ (xv0 xv1 xv2 xv3 xv4 xv5 xv6 xv7 xv8 xv9 xv10 xv11 xv12 : Value) (W : World), (xv0 = .pointer (some ⟨gn, 0, none⟩)) → (xv1 = .int .i64 (n 0)) → (xv2 = .int .i64 (d)) → (xv3 = .int .i64 ((n 0).tdiv d)) → (xv4 = .pointer (some ⟨gn, 1, none⟩)) → (xv5 = .int .i64 (n 1)) → (xv6 = .int .i64 (d)) → (xv7 = .int .i64 ((n 1).tdiv d)) → (xv8 = .pointer (some ⟨gn, 2, none⟩)) → (xv9 = .int .i64 (n 2)) → (xv10 = .int .i64 (d)) → (xv11 = .int .i64 ((n 2).tdiv d)) → (xv12 = .agg #[.int .i64 ((n 0).tdiv d), .int .i64 ((n 1).tdiv d), .int .i64 ((n 2).tdiv d)]) → Ext w W → wpList Try.prog (rops Try.f68 14).toArray Q ((rops Try.f68 14).drop 13) (((((((((((((a.put (some 85) xv0).put (some 86) xv1).put (some 87) xv2).put (some 88) xv3).put (some 89) xv4).put (some 90) xv5).put (some 91) xv6).put (some 92) xv7).put (some 93) xv8).put (some 94) xv9).put (some 95) xv10).put (some 96) xv11).put (some 97) xv12) W) :
    (Code.region 14 (rops Try.f68 14).toArray true).wp Try.prog Q a w := by
  have hmono : ∀ (W W' : World) (j : Nat) (u : Value), Ext W W' → (fun (i : Nat) (v : Value) (W : World) => match i with
    | 0 => v = .pointer (some ⟨gn, 0, none⟩)
    | 1 => v = .int .i64 (n 0)
    | 2 => v = .int .i64 (d)
    | 3 => v = .int .i64 ((n 0).tdiv d)
    | 4 => v = .pointer (some ⟨gn, 1, none⟩)
    | 5 => v = .int .i64 (n 1)
    | 6 => v = .int .i64 (d)
    | 7 => v = .int .i64 ((n 1).tdiv d)
    | 8 => v = .pointer (some ⟨gn, 2, none⟩)
    | 9 => v = .int .i64 (n 2)
    | 10 => v = .int .i64 (d)
    | 11 => v = .int .i64 ((n 2).tdiv d)
    | 12 => v = .agg #[.int .i64 ((n 0).tdiv d), .int .i64 ((n 1).tdiv d), .int .i64 ((n 2).tdiv d)]
    | _ => True) j u W → (fun (i : Nat) (v : Value) (W : World) => match i with
    | 0 => v = .pointer (some ⟨gn, 0, none⟩)
    | 1 => v = .int .i64 (n 0)
    | 2 => v = .int .i64 (d)
    | 3 => v = .int .i64 ((n 0).tdiv d)
    | 4 => v = .pointer (some ⟨gn, 1, none⟩)
    | 5 => v = .int .i64 (n 1)
    | 6 => v = .int .i64 (d)
    | 7 => v = .int .i64 ((n 1).tdiv d)
    | 8 => v = .pointer (some ⟨gn, 2, none⟩)
    | 9 => v = .int .i64 (n 2)
    | 10 => v = .int .i64 (d)
    | 11 => v = .int .i64 ((n 2).tdiv d)
    | 12 => v = .agg #[.int .i64 ((n 0).tdiv d), .int .i64 ((n 1).tdiv d), .int .i64 ((n 2).tdiv d)]
    | _ => True) j u W' := by
    intro W W' j u hX h
    match j, h with
    | 0, h => exact h
    | 1, h => exact h
    | 2, h => exact h
    | 3, h => exact h
    | 4, h => exact h
    | 5, h => exact h
    | 6, h => exact h
    | 7, h => exact h
    | 8, h => exact h
    | 9, h => exact h
    | 10, h => exact h
    | 11, h => exact h
    | 12, h => exact h
    | _ + 13, h => exact h
  have hsz : ∀ d, some d ∈ ([some 85, some 86, some 87, some 88, some 89, some 90, some 91, some 92, some 93, some 94, some 95, some 96, some 97] : List (Option Tmp)) → d < a.tmps.size := slots_lt (by decide) hsize
  refine wp_region_j 13 [some 85, some 86, some 87, some 88, some 89, some 90, some 91, some 92, some 93, some 94, some 95, some 96, some 97] [[], [0], [], [1, 2], [], [4], [], [5, 6], [], [8], [], [9, 10], [3, 7, 11]] [[], [], [], [], [], [], [], [], [], [], [], [], []] (fun (i : Nat) (v : Value) (W : World) => match i with
    | 0 => v = .pointer (some ⟨gn, 0, none⟩)
    | 1 => v = .int .i64 (n 0)
    | 2 => v = .int .i64 (d)
    | 3 => v = .int .i64 ((n 0).tdiv d)
    | 4 => v = .pointer (some ⟨gn, 1, none⟩)
    | 5 => v = .int .i64 (n 1)
    | 6 => v = .int .i64 (d)
    | 7 => v = .int .i64 ((n 1).tdiv d)
    | 8 => v = .pointer (some ⟨gn, 2, none⟩)
    | 9 => v = .int .i64 (n 2)
    | 10 => v = .int .i64 (d)
    | 11 => v = .int .i64 ((n 2).tdiv d)
    | 12 => v = .agg #[.int .i64 ((n 0).tdiv d), .int .i64 ((n 1).tdiv d), .int .i64 ((n 2).tdiv d)]
    | _ => True) (fun _ W => Ext w W) (by kernel_rfl) (by kernel_rfl) hsz (fun _ _ _ _ h => h) ((Ext.refl w).drew) ?_ ?_
  · clear hend
    simp only [rops, Try.f68, regOf, Option.bind_some, Nat.reduceBEq, if_true, if_false, Bool.false_eq_true, Option.getD_some]
    simp only [List.take_succ_cons, List.take_zero]
    refine ⟨?_, ?_, ?_, ?_, ?_, ?_, ?_, ?_, ?_, ?_, ?_, ?_, ?_, trivial⟩
    · intro done us W hJ hdep haft hnot b hb hb' K hK Q'
      have e10 := (hb' 10 (by simp)).trans s10
      clear hb hb'
      go_simp
      exact hK _ _ rfl (fun _ _ _ h => h) hJ
    · intro done us W hJ hdep haft hnot b hb hb' K hK Q'
      simp only [List.getD_cons_succ, List.getD_cons_zero, List.mem_cons, List.not_mem_nil, or_false, forall_eq] at hdep
      have e85 := hb 0 85 rfl
      have d0 := hdep
      rw [d0.1] at e85
      clear hb hb' hdep d0
      have q := Ext.cell hJ c0
      go_simp
      exact hK _ _ rfl (fun _ _ _ h => h) hJ
    · intro done us W hJ hdep haft hnot b hb hb' K hK Q'
      have e11 := (hb' 11 (by simp)).trans s11
      clear hb hb'
      go_simp
      exact hK _ _ rfl (fun _ _ _ h => h) hJ
    · intro done us W hJ hdep haft hnot b hb hb' K hK Q'
      simp only [List.getD_cons_succ, List.getD_cons_zero, List.mem_cons, List.not_mem_nil, or_false, forall_eq_or_imp, forall_eq] at hdep
      have e86 := hb 1 86 rfl
      have e87 := hb 2 87 rfl
      have d1 := hdep.1
      have d2 := hdep.2
      rw [d1.1] at e86
      rw [d2.1] at e87
      clear hb hb' hdep d1 d2
      go_simp
      exact hK _ _ rfl (fun _ _ _ h => h) hJ
    · intro done us W hJ hdep haft hnot b hb hb' K hK Q'
      have e10 := (hb' 10 (by simp)).trans s10
      clear hb hb'
      go_simp
      exact hK _ _ rfl (fun _ _ _ h => h) hJ
    · intro done us W hJ hdep haft hnot b hb hb' K hK Q'
      simp only [List.getD_cons_succ, List.getD_cons_zero, List.mem_cons, List.not_mem_nil, or_false, forall_eq] at hdep
      have e89 := hb 4 89 rfl
      have d4 := hdep
      rw [d4.1] at e89
      clear hb hb' hdep d4
      have q := Ext.cell hJ c1
      go_simp
      exact hK _ _ rfl (fun _ _ _ h => h) hJ
    · intro done us W hJ hdep haft hnot b hb hb' K hK Q'
      have e11 := (hb' 11 (by simp)).trans s11
      clear hb hb'
      go_simp
      exact hK _ _ rfl (fun _ _ _ h => h) hJ
    · intro done us W hJ hdep haft hnot b hb hb' K hK Q'
      simp only [List.getD_cons_succ, List.getD_cons_zero, List.mem_cons, List.not_mem_nil, or_false, forall_eq_or_imp, forall_eq] at hdep
      have e90 := hb 5 90 rfl
      have e91 := hb 6 91 rfl
      have d5 := hdep.1
      have d6 := hdep.2
      rw [d5.1] at e90
      rw [d6.1] at e91
      clear hb hb' hdep d5 d6
      go_simp
      exact hK _ _ rfl (fun _ _ _ h => h) hJ
    · intro done us W hJ hdep haft hnot b hb hb' K hK Q'
      have e10 := (hb' 10 (by simp)).trans s10
      clear hb hb'
      go_simp
      exact hK _ _ rfl (fun _ _ _ h => h) hJ
    · intro done us W hJ hdep haft hnot b hb hb' K hK Q'
      simp only [List.getD_cons_succ, List.getD_cons_zero, List.mem_cons, List.not_mem_nil, or_false, forall_eq] at hdep
      have e93 := hb 8 93 rfl
      have d8 := hdep
      rw [d8.1] at e93
      clear hb hb' hdep d8
      have q := Ext.cell hJ c2
      go_simp
      exact hK _ _ rfl (fun _ _ _ h => h) hJ
    · intro done us W hJ hdep haft hnot b hb hb' K hK Q'
      have e11 := (hb' 11 (by simp)).trans s11
      clear hb hb'
      go_simp
      exact hK _ _ rfl (fun _ _ _ h => h) hJ
    · intro done us W hJ hdep haft hnot b hb hb' K hK Q'
      simp only [List.getD_cons_succ, List.getD_cons_zero, List.mem_cons, List.not_mem_nil, or_false, forall_eq_or_imp, forall_eq] at hdep
      have e94 := hb 9 94 rfl
      have e95 := hb 10 95 rfl
      have d9 := hdep.1
      have d10 := hdep.2
      rw [d9.1] at e94
      rw [d10.1] at e95
      clear hb hb' hdep d9 d10
      go_simp
      exact hK _ _ rfl (fun _ _ _ h => h) hJ
    · intro done us W hJ hdep haft hnot b hb hb' K hK Q'
      simp only [List.getD_cons_succ, List.getD_cons_zero, List.mem_cons, List.not_mem_nil, or_false, forall_eq_or_imp, forall_eq] at hdep
      have e88 := hb 3 88 rfl
      have e92 := hb 7 92 rfl
      have e96 := hb 11 96 rfl
      have d3 := hdep.1
      have d7 := hdep.2.1
      have d11 := hdep.2.2
      rw [d3.1] at e88
      rw [d7.1] at e92
      rw [d11.1] at e96
      clear hb hb' hdep d3 d7 d11
      go_simp
      exact hK _ _ rfl (fun _ _ _ h => h) hJ
  · intro us W hV hJ
    exact hend (us 0) (us 1) (us 2) (us 3) (us 4) (us 5) (us 6) (us 7) (us 8) (us 9) (us 10) (us 11) (us 12) W (hV 0 (by omega)) (hV 1 (by omega)) (hV 2 (by omega)) (hV 3 (by omega)) (hV 4 (by omega)) (hV 5 (by omega)) (hV 6 (by omega)) (hV 7 (by omega)) (hV 8 (by omega)) (hV 9 (by omega)) (hV 10 (by omega)) (hV 11 (by omega)) (hV 12 (by omega)) hJ
set_option maxRecDepth 100000 in
set_option maxHeartbeats 16000000 in
theorem facetP_any (pa pb pc : Nat → Int) (w : World) :
    Calls Try.prog 68 #[.agg #[.int .i64 (pa 0), .int .i64 (pa 1), .int .i64 (pa 2)], .agg #[.int .i64 (pb 0), .int .i64 (pb 1), .int .i64 (pb 2)], .agg #[.int .i64 (pc 0), .int .i64 (pc 1), .int .i64 (pc 2)]] w (fun e w' => e = .returned (.tuple #[.agg #[.int .i64 ((facA pa pb pc).1 0), .int .i64 ((facA pa pb pc).1 1), .int .i64 ((facA pa pb pc).1 2)], .int .i64 (facA pa pb pc).2]) ∧ Ext w w') := by
  have hXe : Ext w ((((w.alloc (.cells #[.int .i64 (pa 0), .int .i64 (pa 1), .int .i64 (pa 2)] 22)).alloc (.cells #[.int .i64 (pb 0), .int .i64 (pb 1), .int .i64 (pb 2)] 22)).alloc (.cells #[.int .i64 (pc 0), .int .i64 (pc 1), .int .i64 (pc 2)] 22)).alloc (.cells #[.int .i64 0, .int .i64 0, .int .i64 0] 22)) := ((((Ext.refl w).alloc _).alloc _).alloc _).alloc _
  have kA : Blk ((((w.alloc (.cells #[.int .i64 (pa 0), .int .i64 (pa 1), .int .i64 (pa 2)] 22)).alloc (.cells #[.int .i64 (pb 0), .int .i64 (pb 1), .int .i64 (pb 2)] 22)).alloc (.cells #[.int .i64 (pc 0), .int .i64 (pc 1), .int .i64 (pc 2)] 22)).alloc (.cells #[.int .i64 0, .int .i64 0, .int .i64 0] 22)) (w.heap.size) 22 #[.int .i64 (pa 0), .int .i64 (pa 1), .int .i64 (pa 2)] := Blk.alloc (Blk.alloc (Blk.alloc (Blk.new w _ _) _) _) _
  have kB : Blk ((((w.alloc (.cells #[.int .i64 (pa 0), .int .i64 (pa 1), .int .i64 (pa 2)] 22)).alloc (.cells #[.int .i64 (pb 0), .int .i64 (pb 1), .int .i64 (pb 2)] 22)).alloc (.cells #[.int .i64 (pc 0), .int .i64 (pc 1), .int .i64 (pc 2)] 22)).alloc (.cells #[.int .i64 0, .int .i64 0, .int .i64 0] 22)) (w.heap.size + 1) 22 #[.int .i64 (pb 0), .int .i64 (pb 1), .int .i64 (pb 2)] := Blk.alloc (Blk.alloc (Blk.at_ (by simp)) _) _
  have kC : Blk ((((w.alloc (.cells #[.int .i64 (pa 0), .int .i64 (pa 1), .int .i64 (pa 2)] 22)).alloc (.cells #[.int .i64 (pb 0), .int .i64 (pb 1), .int .i64 (pb 2)] 22)).alloc (.cells #[.int .i64 (pc 0), .int .i64 (pc 1), .int .i64 (pc 2)] 22)).alloc (.cells #[.int .i64 0, .int .i64 0, .int .i64 0] 22)) (w.heap.size + 2) 22 #[.int .i64 (pc 0), .int .i64 (pc 1), .int .i64 (pc 2)] := Blk.alloc (Blk.at_ (by simp)) _
  have kR : Blk ((((w.alloc (.cells #[.int .i64 (pa 0), .int .i64 (pa 1), .int .i64 (pa 2)] 22)).alloc (.cells #[.int .i64 (pb 0), .int .i64 (pb 1), .int .i64 (pb 2)] 22)).alloc (.cells #[.int .i64 (pc 0), .int .i64 (pc 1), .int .i64 (pc 2)] 22)).alloc (.cells #[.int .i64 0, .int .i64 0, .int .i64 0] 22)) (w.heap.size + 3) 22 #[.int .i64 0, .int .i64 0, .int .i64 0] := Blk.at_ (by simp)
  have hsz : w.heap.size + 4 ≤ ((((w.alloc (.cells #[.int .i64 (pa 0), .int .i64 (pa 1), .int .i64 (pa 2)] 22)).alloc (.cells #[.int .i64 (pb 0), .int .i64 (pb 1), .int .i64 (pb 2)] 22)).alloc (.cells #[.int .i64 (pc 0), .int .i64 (pc 1), .int .i64 (pc 2)] 22)).alloc (.cells #[.int .i64 0, .int .i64 0, .int .i64 0] 22)).heap.size := by simp
  obtain ⟨bb, hbb⟩ : ∃ bb : Bool, bb = true ↔ facPl pa pb pc := by
    by_cases h : facPl pa pb pc
    · exact ⟨true, by simp [h]⟩
    · exact ⟨false, by simp [h]⟩
  have HBB := Lib.hid hbb
  clear hbb
  go_enter Try.func68, Try.ntmps68
  go_upto_region 1 with (fail)
  generalize (((w.alloc (.cells #[.int .i64 (pa 0), .int .i64 (pa 1), .int .i64 (pa 2)] 22)).alloc (.cells #[.int .i64 (pb 0), .int .i64 (pb 1), .int .i64 (pb 2)] 22)).alloc (.cells #[.int .i64 (pc 0), .int .i64 (pc 1), .int .i64 (pc 2)] 22)).alloc (.cells #[.int .i64 0, .int .i64 0, .int .i64 0] 22) = w1 at hXe kA kB kC kR hsz ⊢
  have x0 := kA.cell 0
  have x1 := kA.cell 1
  have x2 := kA.cell 2
  simp only [List.getElem?_toArray, List.getElem?_cons_zero, List.getElem?_cons_succ] at x0 x1 x2
  have y0 := kB.cell 0
  have y1 := kB.cell 1
  have y2 := kB.cell 2
  simp only [List.getElem?_toArray, List.getElem?_cons_zero, List.getElem?_cons_succ] at y0 y1 y2
  have z0 := kC.cell 0
  have z1 := kC.cell 1
  have z2 := kC.cell 2
  simp only [List.getElem?_toArray, List.getElem?_cons_zero, List.getElem?_cons_succ] at z0 z1 z2
  go_wp2_with fail
  clear x0 x1 x2 y0 y1 y2 z0 z1 z2
  have kN := Blk.new w1 22 #[.int .i64 (pa 0), .int .i64 (pa 1), .int .i64 (pa 2), .int .i64 (pb 0), .int .i64 (pb 1), .int .i64 (pb 2), .int .i64 (pc 0), .int .i64 (pc 1), .int .i64 (pc 2)]
  refine (placed_any w1.heap.size 3 3 (ptsF pa pb pc) bb _ (by omega) ?_ (by rw [ptsF_all]; exact HBB.out)).mono ?_
  · intro i hi
    match i, hi with
    | 0, _ => exact ⟨kN.cell 0, kN.cell 1, kN.cell 2⟩
    | 1, _ => exact ⟨kN.cell 3, kN.cell 4, kN.cell 5⟩
    | 2, _ => exact ⟨kN.cell 6, kN.cell 7, kN.cell 8⟩
  rintro e w2 ⟨rfl, hX2⟩
  replace hX2 := Ext.trans ((Ext.refl w1).alloc _) hX2
  clear kN
  have KA := Lib.hid (kA.ext hX2)
  have KB := Lib.hid (kB.ext hX2)
  have KC := Lib.hid (kC.ext hX2)
  have KR := Lib.hid (kR.ext hX2)
  have HX := Lib.hid (hXe.trans hX2)
  clear kA kB kC kR hXe hsz hX2
  by_cases hP : facPl pa pb pc
  · have hbt : bb = true := HBB.out.2 hP
    subst hbt
    have hP2 := hP
    obtain ⟨hna, hnb, hnc⟩ := hP2
    have HP := Lib.hid hP
    clear hP HBB
    obtain ⟨uu, huu⟩ : ∃ uu : Nat → Int, ∀ k, uu k = pb k - pa k := ⟨_, fun _ => rfl⟩
    obtain ⟨vv, hvv⟩ : ∃ vv : Nat → Int, ∀ k, vv k = pc k - pa k := ⟨_, fun _ => rfl⟩
    have hub : nrK2 uu := fun k hk => by have := hna k hk; have := hnb k hk; rw [huu]; omega
    have hvb : nrK2 vv := fun k hk => by have := hna k hk; have := hnc k hk; rw [hvv]; omega
    have HE := Lib.hid (facN_uv huu hvv)
    have HU := Lib.hid (And.intro (And.intro (huu 0) (And.intro (huu 1) (huu 2))) (And.intro (hvv 0) (And.intro (hvv 1) (hvv 2))))
    have HN3 := Lib.hid (And.intro hna (And.intro hnb hnc))
    have HUB := Lib.hid (And.intro hub hvb)
    clear huu hvv hna hnb hnc hub hvb
    go_upto_region 3 with (fail)
    refine facet_r3 w.heap.size (w.heap.size + 1) (w.heap.size + 2) pa pb pc uu vv w2 (KA.out.cell 0) (KA.out.cell 1) (KA.out.cell 2) (KB.out.cell 0) (KB.out.cell 1) (KB.out.cell 2) (KC.out.cell 0) (KC.out.cell 1) (KC.out.cell 2) HN3.out.1 HN3.out.2.1 HN3.out.2.2 (Lib.hid HU.out.1) (Lib.hid HU.out.2) _ _ (by simp) rfl rfl rfl ?_
    rintro xv0 xv1 xv2 xv3 xv4 xv5 xv6 xv7 xv8 xv9 w3 rfl rfl rfl rfl rfl rfl ⟨g8, rfl, hg8, kU⟩ ⟨g9, rfl, hg9, kV⟩ _ hX3
    simp only [rops, Try.f68, regOf, Option.bind_some, Nat.reduceBEq, if_true, if_false, Bool.false_eq_true, Option.getD_some, List.drop_succ_cons, List.drop_zero]
    simp only [Act.put, List.setIfInBounds_toArray, List.set_cons_succ, List.set_cons_zero]
    replace KR := Lib.hid (KR.out.ext hX3)
    replace HX := Lib.hid (HX.out.trans hX3)
    clear hX3 hg8 hg9 KA KB KC HU HN3
    have u0 := kU.cell 0
    have u1 := kU.cell 1
    have u2 := kU.cell 2
    simp only [List.getElem?_toArray, List.getElem?_cons_zero, List.getElem?_cons_succ] at u0 u1 u2
    have v0 := kV.cell 0
    have v1 := kV.cell 1
    have v2 := kV.cell 2
    simp only [List.getElem?_toArray, List.getElem?_cons_zero, List.getElem?_cons_succ] at v0 v1 v2
    clear kU kV
    obtain ⟨hub, hvb⟩ := HUB.out
    obtain ⟨n, hn⟩ : ∃ n, facN pa pb pc = n := ⟨_, rfl⟩
    have hnb : ∀ k, -576460752303423488 ≤ n k ∧ n k ≤ 576460752303423488 := fun k => by rw [← hn]; exact facN_bound HP.out k
    rw [hn] at HE
    have HNN := Lib.hid hn
    clear hn
    have qa : IntKind.i64.wrap (uu 1 * vv 2) = uu 1 * vv 2 := IntWalk.i64_in _ (by have := prod_bound (A := 536870912) (B := 536870912) (hub 1 (by omega)).1 (hub 1 (by omega)).2 (hvb 2 (by omega)).1 (hvb 2 (by omega)).2; omega)
    have qb : IntKind.i64.wrap (uu 2 * vv 1) = uu 2 * vv 1 := IntWalk.i64_in _ (by have := prod_bound (A := 536870912) (B := 536870912) (hub 2 (by omega)).1 (hub 2 (by omega)).2 (hvb 1 (by omega)).1 (hvb 1 (by omega)).2; omega)
    have qc : IntKind.i64.wrap (uu 2 * vv 0) = uu 2 * vv 0 := IntWalk.i64_in _ (by have := prod_bound (A := 536870912) (B := 536870912) (hub 2 (by omega)).1 (hub 2 (by omega)).2 (hvb 0 (by omega)).1 (hvb 0 (by omega)).2; omega)
    have qd : IntKind.i64.wrap (uu 0 * vv 2) = uu 0 * vv 2 := IntWalk.i64_in _ (by have := prod_bound (A := 536870912) (B := 536870912) (hub 0 (by omega)).1 (hub 0 (by omega)).2 (hvb 2 (by omega)).1 (hvb 2 (by omega)).2; omega)
    have qe : IntKind.i64.wrap (uu 0 * vv 1) = uu 0 * vv 1 := IntWalk.i64_in _ (by have := prod_bound (A := 536870912) (B := 536870912) (hub 0 (by omega)).1 (hub 0 (by omega)).2 (hvb 1 (by omega)).1 (hvb 1 (by omega)).2; omega)
    have qf : IntKind.i64.wrap (uu 1 * vv 0) = uu 1 * vv 0 := IntWalk.i64_in _ (by have := prod_bound (A := 536870912) (B := 536870912) (hub 1 (by omega)).1 (hub 1 (by omega)).2 (hvb 0 (by omega)).1 (hvb 0 (by omega)).2; omega)
    have qn0 : IntKind.i64.wrap (uu 1 * vv 2 - uu 2 * vv 1) = n 0 := by rw [HE.out.1]; exact IntWalk.i64_in _ (by have := hnb 0; omega)
    have qn1 : IntKind.i64.wrap (uu 2 * vv 0 - uu 0 * vv 2) = n 1 := by rw [HE.out.2.1]; exact IntWalk.i64_in _ (by have := hnb 1; omega)
    have qn2 : IntKind.i64.wrap (uu 0 * vv 1 - uu 1 * vv 0) = n 2 := by rw [HE.out.2.2]; exact IntWalk.i64_in _ (by have := hnb 2; omega)
    have HNB := Lib.hid hnb
    clear hub hvb hnb HUB
    go_upto_region 5 with (fail)
    clear qa qb qc qd qe qf qn0 qn1 qn2
    have hXn : Ext w3 (w3.alloc (.cells #[.int .i64 (n 0), .int .i64 (n 1), .int .i64 (n 2)] 22)) := (Ext.refl _).alloc _
    have kM := Blk.new w3 22 #[.int .i64 (n 0), .int .i64 (n 1), .int .i64 (n 2)]
    replace KR := Lib.hid (KR.out.ext hXn)
    replace HX := Lib.hid (HX.out.trans hXn)
    generalize w3.heap.size = gn at kM ⊢
    generalize w3.alloc (.cells #[.int .i64 (n 0), .int .i64 (n 1), .int .i64 (n 2)] 22) = w4 at kM KR HX ⊢
    clear hXn u0 u1 u2 v0 v1 v2
    have hgs : ((Int.gcd (n 0) (n 1) : Nat) : Int) ≤ 4611686018427387904 := by
      have h0 := HNB.out 0
      have h1 := HNB.out 1
      by_cases e : n 1 = 0
      · rw [e, Int.gcd_zero_right]; omega
      · have q := Nat.le_of_dvd (by omega) (Int.gcd_dvd_natAbs_right (n 0) (n 1))
        omega
    refine facet_r5 gn n w4 (kM.cell 0) (kM.cell 1) (kM.cell 2) (HNB.out 0) (HNB.out 1) (HNB.out 2) hgs _ _ (by simp) rfl ?_
    rintro xv0 xv1 xv2 xv3 xv4 xv5 xv6 xv7 w5 rfl rfl rfl rfl rfl rfl rfl hv7 hX5
    simp only [rops, Try.f68, regOf, Option.bind_some, Nat.reduceBEq, if_true, if_false, Bool.false_eq_true, Option.getD_some, List.drop_succ_cons, List.drop_zero]
    simp only [Act.put, List.setIfInBounds_toArray, List.set_cons_succ, List.set_cons_zero]
    replace hv7 : xv7 = .int .i64 (facG n : Int) := hv7
    obtain ⟨g, hg⟩ : ∃ g, facG n = g := ⟨_, rfl⟩
    rw [hg] at hv7
    subst hv7
    replace KR := Lib.hid (KR.out.ext hX5)
    replace HX := Lib.hid (HX.out.trans hX5)
    have KM := Lib.hid (kM.ext hX5)
    clear hX5 kM hgs
    by_cases hg0 : g = 0
    · subst hg0
      have HA : Hid (facA pa pb pc = (fun _ => 0, 52)) := Lib.hid (facA_flat HP.out (by rw [HNN.out]; exact hg))
      have HGG := Lib.hid hg
      clear hg
      have r0 := KR.out.cell 0
      have f0 := KR.out.free 0
      have r1 := KR.out.cell 1
      have f1 := KR.out.free 1
      have r2 := KR.out.cell 2
      have f2 := KR.out.free 2
      simp only [List.getElem?_toArray, List.getElem?_cons_zero, List.getElem?_cons_succ] at r0 r1 r2
      go_wp2
      refine bodyPost_ret (v := .tuple #[.agg #[.int .i64 0, .int .i64 0, .int .i64 0], .int .i64 52]) (by simp [results, Try.results68, go_sem, *]) rfl ?_
      exact ⟨by rw [HA.out], (Ext.boxed HX.out (by omega) _ _ _)⟩
    · have q1 : ((g : Int) == 0) = false := by simpa using hg0
      have HG0 := Lib.hid hg0
      have HGS : Hid (g ≤ 576460752303423488) := Lib.hid (by rw [← hg]; exact facG_small (fun k => by have := HNB.out k; omega))
      have HGG := Lib.hid hg
      have qng : IntKind.i64.wrap (-(g : Int)) = -(g : Int) := IntWalk.i64_in _ (by have := HGS.out; omega)
      clear hg hg0
      obtain ⟨d, hd⟩ : ∃ d, facD n = d := ⟨_, rfl⟩
      have HD := Lib.hid hd
      clear hd
      go_upto_block 0 with (fail)
      go_cut [11] (fun gv W => gv = .int .i64 d ∧ Hid (Ext w5 W))
      case first =>
        go_wp2_with fail
        go_loopg [11, 12] 4 (fun fu gv kv W => ∃ k : Nat, fu = k + 1 ∧ k ≤ 3 ∧ gv = .int .i64 (g : Int) ∧ kv = .int .i64 ((k : Int) - 1) ∧ Hid (∀ j, k ≤ j → j < 3 → n j = 0) ∧ Hid (Ext w5 W))
        case atStart => exact ⟨3, rfl, by omega, rfl, rfl, Lib.hid (fun j hj hj2 => by omega), Lib.hid (Ext.refl _)⟩
        case round =>
          obtain ⟨k, rfl, hk, rfl, rfl, HZ, HXI⟩ := hrel
          rcases k with _ | k
          · exact absurd (facG_zero.2 ⟨HZ.out 0 (by omega) (by omega), HZ.out 1 (by omega) (by omega), HZ.out 2 (by omega) (by omega)⟩) (by rw [HGG.out]; exact HG0.out)
          have ek : ((k + 1 : Nat) : Int) - 1 = (k : Int) := by omega
          rw [ek]
          have q2 : decide ((0 : Int) ≤ (k : Int)) = true := decide_eq_true (by omega)
          have hk3 : k < 3 := by omega
          have hki : (k : Int) < 3 := by omega
          have hk0 : (0 : Int) ≤ (k : Int) := by omega
          have ck := cell3 (KM.out.ext HXI.out) hk3
          have qwk : IntKind.i64.wrap ((k : Int) - 1) = (k : Int) - 1 := IntWalk.i64_in _ (by omega)
          obtain ⟨x, hx⟩ : ∃ x, n k = x := ⟨_, rfl⟩
          rw [hx] at ck
          by_cases hx0 : x = 0
          · subst hx0
            have HZ2 : Hid (∀ j, k ≤ j → j < 3 → n j = 0) := Lib.hid (fun j hj hj2 => by by_cases e : j = k; (subst e; exact hx); exact HZ.out j (by omega) hj2)
            clear hx HZ
            go_wp2
            go_roundg (k + 1)
            case rel => exact ⟨k, rfl, by omega, rfl, rfl, HZ2, HXI⟩
            case measure => omega
          · have q3 : (x == 0) = false := by simpa using hx0
            have hS := facS_at hk3 hx hx0 HZ.out
            by_cases hx1 : x < 0
            · have q4 : decide (x < 0) = true := decide_eq_true hx1
              have HDV : Hid (-(g : Int) = d) := Lib.hid (by rw [← HD.out, facD, if_pos (hS.2 hx1), HGG.out])
              clear hx hx0 hx1 hS HZ
              go_wp2
              go_meet
              exact ⟨by rw [HDV.out], HXI⟩
            · have q4 : decide (x < 0) = false := decide_eq_false hx1
              have HDV : Hid ((g : Int) = d) := Lib.hid (by rw [← HD.out, facD, if_neg (fun h => hx1 (hS.1 h)), HGG.out])
              clear hx hx0 hx1 hS HZ
              go_wp2
              go_meet
              exact ⟨by rw [HDV.out], HXI⟩
      case rest =>
        obtain ⟨rfl, HXI⟩ := hcut
        replace KR := Lib.hid (KR.out.ext HXI.out)
        replace HX := Lib.hid (HX.out.trans HXI.out)
        replace KM := Lib.hid (KM.out.ext HXI.out)
        clear HXI qng q1
        have hd0 : d ≠ 0 := by
          rw [← HD.out, facD, HGG.out]
          have := HG0.out
          split <;> omega
        have hz1 : (d == 0) = false := by simpa using hd0
        have qw : ∀ k, IntKind.i64.wrap ((n k).tdiv d) = (n k).tdiv d := fun k => IntWalk.i64_in _ (by have := tdiv_bound (d := d) (HNB.out k); omega)
        go_upto_region 14 with (fail)
        refine facet_r14 gn n d wc (KM.out.cell 0) (KM.out.cell 1) (KM.out.cell 2) hz1 hd0 (qw 0) (qw 1) (qw 2) _ _ (by simp) rfl rfl ?_
        rintro xv0 xv1 xv2 xv3 xv4 xv5 xv6 xv7 xv8 xv9 xv10 xv11 xv12 w7 rfl rfl rfl rfl rfl rfl rfl rfl rfl rfl rfl rfl rfl hX7
        simp only [rops, Try.f68, regOf, Option.bind_some, Nat.reduceBEq, if_true, if_false, Bool.false_eq_true, Option.getD_some, List.drop_succ_cons, List.drop_zero]
        simp only [Act.put, List.setIfInBounds_toArray, List.set_cons_succ, List.set_cons_zero]
        replace KR := Lib.hid (KR.out.ext hX7)
        replace HX := Lib.hid (HX.out.trans hX7)
        clear hX7 KM qw hz1 hd0
        have HA : Hid (facA pa pb pc = (fun k => (n k).tdiv d, 0)) := Lib.hid (by rw [facA_ok HP.out (by rw [HNN.out, HGG.out]; exact HG0.out), HNN.out, HD.out])
        have r0 := KR.out.cell 0
        have f0 := KR.out.free 0
        have r1 := KR.out.cell 1
        have f1 := KR.out.free 1
        have r2 := KR.out.cell 2
        have f2 := KR.out.free 2
        simp only [List.getElem?_toArray, List.getElem?_cons_zero, List.getElem?_cons_succ] at r0 r1 r2
        go_wp2
        refine bodyPost_ret (v := .tuple #[.agg #[.int .i64 ((n 0).tdiv d), .int .i64 ((n 1).tdiv d), .int .i64 ((n 2).tdiv d)], .int .i64 0]) (by simp [results, Try.results68, go_sem, *]) rfl ?_
        exact ⟨by rw [HA.out], (Ext.boxed HX.out (by omega) _ _ _)⟩
  · have hbt : bb = false := by
      rcases h : bb with _ | _
      · rfl
      · exact absurd (HBB.out.1 h) hP
    subst hbt
    have HA : Hid (facA pa pb pc = (fun _ => 0, 2)) := Lib.hid (facA_far hP)
    clear hP HBB KA KB KC
    have r0 := KR.out.cell 0
    have f0 := KR.out.free 0
    have r1 := KR.out.cell 1
    have f1 := KR.out.free 1
    have r2 := KR.out.cell 2
    have f2 := KR.out.free 2
    simp only [List.getElem?_toArray, List.getElem?_cons_zero, List.getElem?_cons_succ] at r0 r1 r2
    go_wp2
    refine bodyPost_ret (v := .tuple #[.agg #[.int .i64 0, .int .i64 0, .int .i64 0], .int .i64 2]) (by simp [results, Try.results68, go_sem, *]) rfl ?_
    exact ⟨by rw [HA.out], (Ext.boxed HX.out (by omega) _ _ _)⟩

end Go.Proofs.Ytikhlcgnlbinfaa
