/- Lemmas of the proof that follows (Scales, part 13): walks of functions by contract, and plain lemmas. Conditions: none. -/
import Derived.Test.YtikhlcgnlbinfaaScalesL
namespace Go.Proofs.Ytikhlcgnlbinfaa
open Go.RowKit

def heavM (k : Int) (m : Mt) : Mt := { m with w := m.w * k }
def wideM (k : Int) (m : Mt) : Mt := { m with d := m.d * k }
/-- Within the limits when multiplied. -/
def ScOk (k : Int) (m : Mt) : Prop := m.w * k ≤ 1000 ∧ m.d * k ≤ 274877906944 ∧ -274877906944 ≤ m.d * k
theorem heav_vm {S k : Int} {m : Mt} (hk : 1 ≤ k) (h : VM S m) (ho : ScOk k m) : VM S (heavM k m) := by
  have h1 := ho.1
  have := h.w1
  have h2 : 1 ≤ m.w * k := by
    have := Int.mul_le_mul (a := 1) (c := m.w) (b := 1) (d := k) (by omega) (by omega) (by omega) (by omega)
    omega
  exact ⟨h.a0, h.aS, h.b0, h.bS, h.ne, h.nz, h.x1, h.x2, h.y1, h.y2, h.z1, h.z2, h.d1, h.d2, h2, h1⟩
theorem wide_vm {S k : Int} {m : Mt} (h : VM S m) (ho : ScOk k m) : VM S (wideM k m) := ⟨h.a0, h.aS, h.b0, h.bS, h.ne, h.nz, h.x1, h.x2, h.y1, h.y2, h.z1, h.z2, ho.2.2, ho.2.1, h.w1, h.w2⟩
theorem heav_vp {S k : Int} {ms : List Mt} (hk : 1 ≤ k) (h : VP S ms) (ho : ∀ m ∈ ms, ScOk k m) : VP S (ms.map (heavM k)) := by
  refine ⟨h.1, h.2.1, by rw [List.length_map]; exact h.2.2.1, fun m hm => ?_⟩
  obtain ⟨x, hx, rfl⟩ := List.mem_map.1 hm
  exact heav_vm hk (h.2.2.2 x hx) (ho x hx)
theorem wide_vp {S k : Int} {ms : List Mt} (h : VP S ms) (ho : ∀ m ∈ ms, ScOk k m) : VP S (ms.map (wideM k)) := by
  refine ⟨h.1, h.2.1, by rw [List.length_map]; exact h.2.2.1, fun m hm => ?_⟩
  obtain ⟨x, hx, rfl⟩ := List.mem_map.1 hm
  exact wide_vm (h.2.2.2 x hx) (ho x hx)
theorem take_all {α : Type} {Q : α → Prop} {ms : List α} {k : Nat} {m : α} (hm : ms[k]? = some m) (h : ∀ x ∈ ms.take k, Q x) (hq : Q m) : ∀ x ∈ ms.take (k + 1), Q x := fun x hx => by
  rw [take_snoc hm] at hx
  rcases List.mem_append.1 hx with h1 | h1
  · exact h x h1
  · simp at h1; subst h1; exact hq
theorem map_take_snoc {α β : Type} {f : α → β} {ms : List α} {k : Nat} {m : α} (hm : ms[k]? = some m) : (ms.take (k + 1)).map f = (ms.take k).map f ++ [f m] := by rw [take_snoc hm, List.map_append]; rfl
theorem scaled_w {S : Int} {m : Mt} (h : VM S m) {k : Int} (h1 : 1 ≤ k) (h2 : k ≤ 9) : -9223372036854775808 ≤ m.w * k ∧ m.w * k ≤ 9223372036854775807 ∧ -9223372036854775808 ≤ m.d * k ∧ m.d * k ≤ 9223372036854775807 := by
  have := h.w1; have := h.w2; have := h.d1; have := h.d2
  have a := prod_bound (x := m.w) (y := k) (A := 1000) (B := 9) (by omega) (by omega) (by omega) (by omega)
  have b := prod_bound (x := m.d) (y := k) (A := 274877906944) (B := 9) (by omega) (by omega) (by omega) (by omega)
  omega

set_option maxRecDepth 100000 in
set_option maxHeartbeats 2000000 in
theorem scales_r14 (gp gq oq nn cc kk : Nat) (ma mb mx my mz md mw : Int) (w : World) (v0 : w.cell? ⟨gq, oq + kk * 7, none⟩ = some (.int .i64 (ma))) (v1 : w.cell? ⟨gq, oq + kk * 7 + 1, none⟩ = some (.int .i64 (mb))) (v2 : w.cell? ⟨gq, oq + kk * 7 + 2, none⟩ = some (.int .i64 (mx))) (v3 : w.cell? ⟨gq, oq + kk * 7 + 3, none⟩ = some (.int .i64 (my))) (v4 : w.cell? ⟨gq, oq + kk * 7 + 4, none⟩ = some (.int .i64 (mz))) (v5 : w.cell? ⟨gq, oq + kk * 7 + 5, none⟩ = some (.int .i64 (md))) (v6 : w.cell? ⟨gq, oq + kk * 7 + 6, none⟩ = some (.int .i64 (mw))) (p1 : w.cell? ⟨gp, 1, none⟩ = some (.slice (some ⟨gq, oq, none⟩) nn cc)) (hjn : kk < nn) (a : Act) (Q : Exit → Act → World → Prop) (hsize : 80 ≤ a.tmps.size)
    (s2 : a.tmps[2]? = some (.pointer (some ⟨gp, 0, none⟩)))
    (s10 : a.tmps[10]? = some (.int .i64 (kk : Int)))
    (hend : ∀ (xv0 xv1 xv2 xv3 xv4 xv5 xv6 xv7 xv8 xv9 xv10 xv11 xv12 xv13 : Value) (W : World), (xv0 = .pointer (some ⟨gp, 1, none⟩)) → (xv1 = .slice (some ⟨gq, oq, none⟩) nn cc) → (xv2 = .int .i64 (kk : Int)) → (xv3 = .pointer (some ⟨gq, oq + kk * 7, none⟩)) → (xv4 = .agg #[.int .i64 (ma), .int .i64 (mb), .int .i64 (mx), .int .i64 (my), .int .i64 (mz), .int .i64 (md), .int .i64 (mw)]) → (xv5 = .pointer (some ⟨gp, 1, none⟩)) → (xv6 = .slice (some ⟨gq, oq, none⟩) nn cc) → (xv7 = .int .i64 (kk : Int)) → (xv8 = .pointer (some ⟨gq, oq + kk * 7, none⟩)) → (xv9 = .agg #[.int .i64 (ma), .int .i64 (mb), .int .i64 (mx), .int .i64 (my), .int .i64 (mz), .int .i64 (md), .int .i64 (mw)]) → (∃ g, xv10 = .pointer (some ⟨g, 0, none⟩) ∧ w.heap.size ≤ g ∧ Blk W g 90 #[.int .i64 (ma), .int .i64 (mb), .int .i64 (mx), .int .i64 (my), .int .i64 (mz), .int .i64 (md), .int .i64 (mw)]) → (∃ g, xv11 = .pointer (some ⟨g, 0, none⟩) ∧ w.heap.size ≤ g ∧ Blk W g 90 #[.int .i64 (ma), .int .i64 (mb), .int .i64 (mx), .int .i64 (my), .int .i64 (mz), .int .i64 (md), .int .i64 (mw)]) → (xv10 ≠ xv11) → Ext w W → wpList Try.prog (rops Try.f8 14).toArray Q [] ((((((((((((((a.put (some 70) xv0).put (some 71) xv1).put (some 72) xv2).put (some 73) xv3).put (some 74) xv4).put (some 75) xv5).put (some 76) xv6).put (some 77) xv7).put (some 78) xv8).put (some 79) xv9).put (some 11) xv10).put (some 12) xv11).put (none) xv12).put (none) xv13) W) :
    (Code.region 14 (rops Try.f8 14).toArray true).wp Try.prog Q a w := by
  have hsz : ∀ d, some d ∈ ([some 70, some 71, some 72, some 73, some 74, some 75, some 76, some 77, some 78, some 79, some 11, some 12, none, none] : List (Option Tmp)) → d < a.tmps.size := slots_lt (by decide) hsize
  refine wp_region_g 14 [some 70, some 71, some 72, some 73, some 74, some 75, some 76, some 77, some 78, some 79, some 11, some 12, none, none] [[], [0], [], [1, 2], [3], [], [5], [], [6, 7], [8], [], [], [4, 10], [9, 11]] [[], [], [], [], [], [], [], [], [], [], [12], [13], [], []] (fun (done : Nat → Prop) (us : Nat → Value) (W : World) => Ext w W ∧ (done 0 → us 0 = .pointer (some ⟨gp, 1, none⟩)) ∧ (done 1 → us 1 = .slice (some ⟨gq, oq, none⟩) nn cc) ∧ (done 2 → us 2 = .int .i64 (kk : Int)) ∧ (done 3 → us 3 = .pointer (some ⟨gq, oq + kk * 7, none⟩)) ∧ (done 4 → us 4 = .agg #[.int .i64 (ma), .int .i64 (mb), .int .i64 (mx), .int .i64 (my), .int .i64 (mz), .int .i64 (md), .int .i64 (mw)]) ∧ (done 5 → us 5 = .pointer (some ⟨gp, 1, none⟩)) ∧ (done 6 → us 6 = .slice (some ⟨gq, oq, none⟩) nn cc) ∧ (done 7 → us 7 = .int .i64 (kk : Int)) ∧ (done 8 → us 8 = .pointer (some ⟨gq, oq + kk * 7, none⟩)) ∧ (done 9 → us 9 = .agg #[.int .i64 (ma), .int .i64 (mb), .int .i64 (mx), .int .i64 (my), .int .i64 (mz), .int .i64 (md), .int .i64 (mw)]) ∧ Loc w W 90 #[.int .i64 (0), .int .i64 (0), .int .i64 (0), .int .i64 (0), .int .i64 (0), .int .i64 (0), .int .i64 (0)] #[.int .i64 (ma), .int .i64 (mb), .int .i64 (mx), .int .i64 (my), .int .i64 (mz), .int .i64 (md), .int .i64 (mw)] (done 10) (done 12) (us 10) ∧ Loc w W 90 #[.int .i64 (0), .int .i64 (0), .int .i64 (0), .int .i64 (0), .int .i64 (0), .int .i64 (0), .int .i64 (0)] #[.int .i64 (ma), .int .i64 (mb), .int .i64 (mx), .int .i64 (my), .int .i64 (mz), .int .i64 (md), .int .i64 (mw)] (done 11) (done 13) (us 11) ∧ Far (done 10) (done 11) (us 10) (us 11)) (by kernel_rfl) (by kernel_rfl) hsz (fun p q us W h => by have e : p = q := funext fun k => propext (h k); rw [e]; exact id) (fun us => ⟨(Ext.refl w).drew, fun h => h.elim, fun h => h.elim, fun h => h.elim, fun h => h.elim, fun h => h.elim, fun h => h.elim, fun h => h.elim, fun h => h.elim, fun h => h.elim, fun h => h.elim, Loc.unmade id, Loc.unmade id, fun h => h.elim⟩) ?_ ?_
  · clear hend
    simp only [rops, Try.f8, regOf, Option.bind_some, Nat.reduceBEq, if_true, if_false, Bool.false_eq_true, Option.getD_some]
    simp only [List.take_succ_cons, List.take_zero]
    refine ⟨?_, ?_, ?_, ?_, ?_, ?_, ?_, ?_, ?_, ?_, ?_, ?_, ?_, ?_, trivial⟩
    · intro done us W hJ hdep haft hnot b hb hb' K hK Q'
      obtain ⟨hX0, cc0, cc1, cc2, cc3, cc4, cc5, cc6, cc7, cc8, cc9, ll10, ll11, f10_11⟩ := hJ
      have e2 := (hb' 2 (by simp)).trans s2
      clear hb hb'
      have hfin := hK (.pointer (some ⟨gp, 1, none⟩)) _ ⟨hX0, fun _ => rfl, fun h => cc1 (h.resolve_right (by decide)), fun h => cc2 (h.resolve_right (by decide)), fun h => cc3 (h.resolve_right (by decide)), fun h => cc4 (h.resolve_right (by decide)), fun h => cc5 (h.resolve_right (by decide)), fun h => cc6 (h.resolve_right (by decide)), fun h => cc7 (h.resolve_right (by decide)), fun h => cc8 (h.resolve_right (by decide)), fun h => cc9 (h.resolve_right (by decide)), Loc.same ll10 ⟨fun h => h.resolve_right (by decide), .inl⟩ ⟨fun h => h.resolve_right (by decide), .inl⟩, Loc.same ll11 ⟨fun h => h.resolve_right (by decide), .inl⟩ ⟨fun h => h.resolve_right (by decide), .inl⟩, fun h h' => f10_11 (h.resolve_right (by decide)) (h'.resolve_right (by decide))⟩
      clear hK cc0 cc1 cc2 cc3 cc4 cc5 cc6 cc7 cc8 cc9 ll10 ll11 f10_11
      go_simp
      exact hfin
    · intro done us W hJ hdep haft hnot b hb hb' K hK Q'
      obtain ⟨hX0, cc0, cc1, cc2, cc3, cc4, cc5, cc6, cc7, cc8, cc9, ll10, ll11, f10_11⟩ := hJ
      simp only [List.getD_cons_succ, List.getD_cons_zero, List.mem_cons, List.not_mem_nil, or_false, forall_eq] at hdep
      have e70 := hb 0 70 rfl
      rw [cc0 hdep] at e70
      clear hb hb'
      have q0 := Ext.cell hX0 p1
      have hfin := hK (.slice (some ⟨gq, oq, none⟩) nn cc) _ ⟨hX0, fun h => cc0 (h.resolve_right (by decide)), fun _ => rfl, fun h => cc2 (h.resolve_right (by decide)), fun h => cc3 (h.resolve_right (by decide)), fun h => cc4 (h.resolve_right (by decide)), fun h => cc5 (h.resolve_right (by decide)), fun h => cc6 (h.resolve_right (by decide)), fun h => cc7 (h.resolve_right (by decide)), fun h => cc8 (h.resolve_right (by decide)), fun h => cc9 (h.resolve_right (by decide)), Loc.same ll10 ⟨fun h => h.resolve_right (by decide), .inl⟩ ⟨fun h => h.resolve_right (by decide), .inl⟩, Loc.same ll11 ⟨fun h => h.resolve_right (by decide), .inl⟩ ⟨fun h => h.resolve_right (by decide), .inl⟩, fun h h' => f10_11 (h.resolve_right (by decide)) (h'.resolve_right (by decide))⟩
      clear hK cc0 cc1 cc2 cc3 cc4 cc5 cc6 cc7 cc8 cc9 ll10 ll11 f10_11
      go_simp
      exact hfin
    · intro done us W hJ hdep haft hnot b hb hb' K hK Q'
      obtain ⟨hX0, cc0, cc1, cc2, cc3, cc4, cc5, cc6, cc7, cc8, cc9, ll10, ll11, f10_11⟩ := hJ
      have e10 := (hb' 10 (by simp)).trans s10
      clear hb hb'
      have hfin := hK (.int .i64 (kk : Int)) _ ⟨hX0, fun h => cc0 (h.resolve_right (by decide)), fun h => cc1 (h.resolve_right (by decide)), fun _ => rfl, fun h => cc3 (h.resolve_right (by decide)), fun h => cc4 (h.resolve_right (by decide)), fun h => cc5 (h.resolve_right (by decide)), fun h => cc6 (h.resolve_right (by decide)), fun h => cc7 (h.resolve_right (by decide)), fun h => cc8 (h.resolve_right (by decide)), fun h => cc9 (h.resolve_right (by decide)), Loc.same ll10 ⟨fun h => h.resolve_right (by decide), .inl⟩ ⟨fun h => h.resolve_right (by decide), .inl⟩, Loc.same ll11 ⟨fun h => h.resolve_right (by decide), .inl⟩ ⟨fun h => h.resolve_right (by decide), .inl⟩, fun h h' => f10_11 (h.resolve_right (by decide)) (h'.resolve_right (by decide))⟩
      clear hK cc0 cc1 cc2 cc3 cc4 cc5 cc6 cc7 cc8 cc9 ll10 ll11 f10_11
      go_simp
      exact hfin
    · intro done us W hJ hdep haft hnot b hb hb' K hK Q'
      obtain ⟨hX0, cc0, cc1, cc2, cc3, cc4, cc5, cc6, cc7, cc8, cc9, ll10, ll11, f10_11⟩ := hJ
      simp only [List.getD_cons_succ, List.getD_cons_zero, List.mem_cons, List.not_mem_nil, or_false, forall_eq_or_imp, forall_eq] at hdep
      have e71 := hb 1 71 rfl
      rw [cc1 hdep.1] at e71
      have e72 := hb 2 72 rfl
      rw [cc2 hdep.2] at e72
      clear hb hb'
      have hfin := hK (.pointer (some ⟨gq, oq + kk * 7, none⟩)) _ ⟨hX0, fun h => cc0 (h.resolve_right (by decide)), fun h => cc1 (h.resolve_right (by decide)), fun h => cc2 (h.resolve_right (by decide)), fun _ => rfl, fun h => cc4 (h.resolve_right (by decide)), fun h => cc5 (h.resolve_right (by decide)), fun h => cc6 (h.resolve_right (by decide)), fun h => cc7 (h.resolve_right (by decide)), fun h => cc8 (h.resolve_right (by decide)), fun h => cc9 (h.resolve_right (by decide)), Loc.same ll10 ⟨fun h => h.resolve_right (by decide), .inl⟩ ⟨fun h => h.resolve_right (by decide), .inl⟩, Loc.same ll11 ⟨fun h => h.resolve_right (by decide), .inl⟩ ⟨fun h => h.resolve_right (by decide), .inl⟩, fun h h' => f10_11 (h.resolve_right (by decide)) (h'.resolve_right (by decide))⟩
      clear hK cc0 cc1 cc2 cc3 cc4 cc5 cc6 cc7 cc8 cc9 ll10 ll11 f10_11
      go_simp
      exact hfin
    · intro done us W hJ hdep haft hnot b hb hb' K hK Q'
      obtain ⟨hX0, cc0, cc1, cc2, cc3, cc4, cc5, cc6, cc7, cc8, cc9, ll10, ll11, f10_11⟩ := hJ
      simp only [List.getD_cons_succ, List.getD_cons_zero, List.mem_cons, List.not_mem_nil, or_false, forall_eq] at hdep
      have e73 := hb 3 73 rfl
      rw [cc3 hdep] at e73
      clear hb hb'
      have q0 := Ext.cell hX0 v0
      have q1 := Ext.cell hX0 v1
      have q2 := Ext.cell hX0 v2
      have q3 := Ext.cell hX0 v3
      have q4 := Ext.cell hX0 v4
      have q5 := Ext.cell hX0 v5
      have q6 := Ext.cell hX0 v6
      have hfin := hK (.agg #[.int .i64 (ma), .int .i64 (mb), .int .i64 (mx), .int .i64 (my), .int .i64 (mz), .int .i64 (md), .int .i64 (mw)]) _ ⟨hX0, fun h => cc0 (h.resolve_right (by decide)), fun h => cc1 (h.resolve_right (by decide)), fun h => cc2 (h.resolve_right (by decide)), fun h => cc3 (h.resolve_right (by decide)), fun _ => rfl, fun h => cc5 (h.resolve_right (by decide)), fun h => cc6 (h.resolve_right (by decide)), fun h => cc7 (h.resolve_right (by decide)), fun h => cc8 (h.resolve_right (by decide)), fun h => cc9 (h.resolve_right (by decide)), Loc.same ll10 ⟨fun h => h.resolve_right (by decide), .inl⟩ ⟨fun h => h.resolve_right (by decide), .inl⟩, Loc.same ll11 ⟨fun h => h.resolve_right (by decide), .inl⟩ ⟨fun h => h.resolve_right (by decide), .inl⟩, fun h h' => f10_11 (h.resolve_right (by decide)) (h'.resolve_right (by decide))⟩
      clear hK cc0 cc1 cc2 cc3 cc4 cc5 cc6 cc7 cc8 cc9 ll10 ll11 f10_11
      go_simp
      exact hfin
    · intro done us W hJ hdep haft hnot b hb hb' K hK Q'
      obtain ⟨hX0, cc0, cc1, cc2, cc3, cc4, cc5, cc6, cc7, cc8, cc9, ll10, ll11, f10_11⟩ := hJ
      have e2 := (hb' 2 (by simp)).trans s2
      clear hb hb'
      have hfin := hK (.pointer (some ⟨gp, 1, none⟩)) _ ⟨hX0, fun h => cc0 (h.resolve_right (by decide)), fun h => cc1 (h.resolve_right (by decide)), fun h => cc2 (h.resolve_right (by decide)), fun h => cc3 (h.resolve_right (by decide)), fun h => cc4 (h.resolve_right (by decide)), fun _ => rfl, fun h => cc6 (h.resolve_right (by decide)), fun h => cc7 (h.resolve_right (by decide)), fun h => cc8 (h.resolve_right (by decide)), fun h => cc9 (h.resolve_right (by decide)), Loc.same ll10 ⟨fun h => h.resolve_right (by decide), .inl⟩ ⟨fun h => h.resolve_right (by decide), .inl⟩, Loc.same ll11 ⟨fun h => h.resolve_right (by decide), .inl⟩ ⟨fun h => h.resolve_right (by decide), .inl⟩, fun h h' => f10_11 (h.resolve_right (by decide)) (h'.resolve_right (by decide))⟩
      clear hK cc0 cc1 cc2 cc3 cc4 cc5 cc6 cc7 cc8 cc9 ll10 ll11 f10_11
      go_simp
      exact hfin
    · intro done us W hJ hdep haft hnot b hb hb' K hK Q'
      obtain ⟨hX0, cc0, cc1, cc2, cc3, cc4, cc5, cc6, cc7, cc8, cc9, ll10, ll11, f10_11⟩ := hJ
      simp only [List.getD_cons_succ, List.getD_cons_zero, List.mem_cons, List.not_mem_nil, or_false, forall_eq] at hdep
      have e75 := hb 5 75 rfl
      rw [cc5 hdep] at e75
      clear hb hb'
      have q0 := Ext.cell hX0 p1
      have hfin := hK (.slice (some ⟨gq, oq, none⟩) nn cc) _ ⟨hX0, fun h => cc0 (h.resolve_right (by decide)), fun h => cc1 (h.resolve_right (by decide)), fun h => cc2 (h.resolve_right (by decide)), fun h => cc3 (h.resolve_right (by decide)), fun h => cc4 (h.resolve_right (by decide)), fun h => cc5 (h.resolve_right (by decide)), fun _ => rfl, fun h => cc7 (h.resolve_right (by decide)), fun h => cc8 (h.resolve_right (by decide)), fun h => cc9 (h.resolve_right (by decide)), Loc.same ll10 ⟨fun h => h.resolve_right (by decide), .inl⟩ ⟨fun h => h.resolve_right (by decide), .inl⟩, Loc.same ll11 ⟨fun h => h.resolve_right (by decide), .inl⟩ ⟨fun h => h.resolve_right (by decide), .inl⟩, fun h h' => f10_11 (h.resolve_right (by decide)) (h'.resolve_right (by decide))⟩
      clear hK cc0 cc1 cc2 cc3 cc4 cc5 cc6 cc7 cc8 cc9 ll10 ll11 f10_11
      go_simp
      exact hfin
    · intro done us W hJ hdep haft hnot b hb hb' K hK Q'
      obtain ⟨hX0, cc0, cc1, cc2, cc3, cc4, cc5, cc6, cc7, cc8, cc9, ll10, ll11, f10_11⟩ := hJ
      have e10 := (hb' 10 (by simp)).trans s10
      clear hb hb'
      have hfin := hK (.int .i64 (kk : Int)) _ ⟨hX0, fun h => cc0 (h.resolve_right (by decide)), fun h => cc1 (h.resolve_right (by decide)), fun h => cc2 (h.resolve_right (by decide)), fun h => cc3 (h.resolve_right (by decide)), fun h => cc4 (h.resolve_right (by decide)), fun h => cc5 (h.resolve_right (by decide)), fun h => cc6 (h.resolve_right (by decide)), fun _ => rfl, fun h => cc8 (h.resolve_right (by decide)), fun h => cc9 (h.resolve_right (by decide)), Loc.same ll10 ⟨fun h => h.resolve_right (by decide), .inl⟩ ⟨fun h => h.resolve_right (by decide), .inl⟩, Loc.same ll11 ⟨fun h => h.resolve_right (by decide), .inl⟩ ⟨fun h => h.resolve_right (by decide), .inl⟩, fun h h' => f10_11 (h.resolve_right (by decide)) (h'.resolve_right (by decide))⟩
      clear hK cc0 cc1 cc2 cc3 cc4 cc5 cc6 cc7 cc8 cc9 ll10 ll11 f10_11
      go_simp
      exact hfin
    · intro done us W hJ hdep haft hnot b hb hb' K hK Q'
      obtain ⟨hX0, cc0, cc1, cc2, cc3, cc4, cc5, cc6, cc7, cc8, cc9, ll10, ll11, f10_11⟩ := hJ
      simp only [List.getD_cons_succ, List.getD_cons_zero, List.mem_cons, List.not_mem_nil, or_false, forall_eq_or_imp, forall_eq] at hdep
      have e76 := hb 6 76 rfl
      rw [cc6 hdep.1] at e76
      have e77 := hb 7 77 rfl
      rw [cc7 hdep.2] at e77
      clear hb hb'
      have hfin := hK (.pointer (some ⟨gq, oq + kk * 7, none⟩)) _ ⟨hX0, fun h => cc0 (h.resolve_right (by decide)), fun h => cc1 (h.resolve_right (by decide)), fun h => cc2 (h.resolve_right (by decide)), fun h => cc3 (h.resolve_right (by decide)), fun h => cc4 (h.resolve_right (by decide)), fun h => cc5 (h.resolve_right (by decide)), fun h => cc6 (h.resolve_right (by decide)), fun h => cc7 (h.resolve_right (by decide)), fun _ => rfl, fun h => cc9 (h.resolve_right (by decide)), Loc.same ll10 ⟨fun h => h.resolve_right (by decide), .inl⟩ ⟨fun h => h.resolve_right (by decide), .inl⟩, Loc.same ll11 ⟨fun h => h.resolve_right (by decide), .inl⟩ ⟨fun h => h.resolve_right (by decide), .inl⟩, fun h h' => f10_11 (h.resolve_right (by decide)) (h'.resolve_right (by decide))⟩
      clear hK cc0 cc1 cc2 cc3 cc4 cc5 cc6 cc7 cc8 cc9 ll10 ll11 f10_11
      go_simp
      exact hfin
    · intro done us W hJ hdep haft hnot b hb hb' K hK Q'
      obtain ⟨hX0, cc0, cc1, cc2, cc3, cc4, cc5, cc6, cc7, cc8, cc9, ll10, ll11, f10_11⟩ := hJ
      simp only [List.getD_cons_succ, List.getD_cons_zero, List.mem_cons, List.not_mem_nil, or_false, forall_eq] at hdep
      have e78 := hb 8 78 rfl
      rw [cc8 hdep] at e78
      clear hb hb'
      have q0 := Ext.cell hX0 v0
      have q1 := Ext.cell hX0 v1
      have q2 := Ext.cell hX0 v2
      have q3 := Ext.cell hX0 v3
      have q4 := Ext.cell hX0 v4
      have q5 := Ext.cell hX0 v5
      have q6 := Ext.cell hX0 v6
      have hfin := hK (.agg #[.int .i64 (ma), .int .i64 (mb), .int .i64 (mx), .int .i64 (my), .int .i64 (mz), .int .i64 (md), .int .i64 (mw)]) _ ⟨hX0, fun h => cc0 (h.resolve_right (by decide)), fun h => cc1 (h.resolve_right (by decide)), fun h => cc2 (h.resolve_right (by decide)), fun h => cc3 (h.resolve_right (by decide)), fun h => cc4 (h.resolve_right (by decide)), fun h => cc5 (h.resolve_right (by decide)), fun h => cc6 (h.resolve_right (by decide)), fun h => cc7 (h.resolve_right (by decide)), fun h => cc8 (h.resolve_right (by decide)), fun _ => rfl, Loc.same ll10 ⟨fun h => h.resolve_right (by decide), .inl⟩ ⟨fun h => h.resolve_right (by decide), .inl⟩, Loc.same ll11 ⟨fun h => h.resolve_right (by decide), .inl⟩ ⟨fun h => h.resolve_right (by decide), .inl⟩, fun h h' => f10_11 (h.resolve_right (by decide)) (h'.resolve_right (by decide))⟩
      clear hK cc0 cc1 cc2 cc3 cc4 cc5 cc6 cc7 cc8 cc9 ll10 ll11 f10_11
      go_simp
      exact hfin
    · intro done us W hJ hdep haft hnot b hb hb' K hK Q'
      obtain ⟨hX0, cc0, cc1, cc2, cc3, cc4, cc5, cc6, cc7, cc8, cc9, ll10, ll11, f10_11⟩ := hJ
      simp only [List.getD_cons_succ, List.getD_cons_zero, List.mem_cons, List.not_mem_nil, or_false, forall_eq] at haft
      clear hb hb'
      have hfin := hK _ _ ⟨hX0.alloc _, fun h => cc0 (h.resolve_right (by decide)), fun h => cc1 (h.resolve_right (by decide)), fun h => cc2 (h.resolve_right (by decide)), fun h => cc3 (h.resolve_right (by decide)), fun h => cc4 (h.resolve_right (by decide)), fun h => cc5 (h.resolve_right (by decide)), fun h => cc6 (h.resolve_right (by decide)), fun h => cc7 (h.resolve_right (by decide)), fun h => cc8 (h.resolve_right (by decide)), fun h => cc9 (h.resolve_right (by decide)), Loc.new w W hX0 (fun h => h.elim haft (by decide)) (Ext.refl _), Loc.same (ll11.ext ((Ext.refl _).alloc _)) ⟨fun h => h.resolve_right (by decide), .inl⟩ ⟨fun h => h.resolve_right (by decide), .inl⟩, fun _ h => Ne.symm (ll11.far_new (h.resolve_right (by decide)))⟩
      clear hK hX0 cc0 cc1 cc2 cc3 cc4 cc5 cc6 cc7 cc8 cc9 ll10 ll11 f10_11
      go_simp
      exact hfin
    · intro done us W hJ hdep haft hnot b hb hb' K hK Q'
      obtain ⟨hX0, cc0, cc1, cc2, cc3, cc4, cc5, cc6, cc7, cc8, cc9, ll10, ll11, f10_11⟩ := hJ
      simp only [List.getD_cons_succ, List.getD_cons_zero, List.mem_cons, List.not_mem_nil, or_false, forall_eq] at haft
      clear hb hb'
      have hfin := hK _ _ ⟨hX0.alloc _, fun h => cc0 (h.resolve_right (by decide)), fun h => cc1 (h.resolve_right (by decide)), fun h => cc2 (h.resolve_right (by decide)), fun h => cc3 (h.resolve_right (by decide)), fun h => cc4 (h.resolve_right (by decide)), fun h => cc5 (h.resolve_right (by decide)), fun h => cc6 (h.resolve_right (by decide)), fun h => cc7 (h.resolve_right (by decide)), fun h => cc8 (h.resolve_right (by decide)), fun h => cc9 (h.resolve_right (by decide)), Loc.same (ll10.ext ((Ext.refl _).alloc _)) ⟨fun h => h.resolve_right (by decide), .inl⟩ ⟨fun h => h.resolve_right (by decide), .inl⟩, Loc.new w W hX0 (fun h => h.elim haft (by decide)) (Ext.refl _), fun h _ => ll10.far_new (h.resolve_right (by decide))⟩
      clear hK hX0 cc0 cc1 cc2 cc3 cc4 cc5 cc6 cc7 cc8 cc9 ll10 ll11 f10_11
      go_simp
      exact hfin
    · intro done us W hJ hdep haft hnot b hb hb' K hK Q'
      obtain ⟨hX0, cc0, cc1, cc2, cc3, cc4, cc5, cc6, cc7, cc8, cc9, ll10, ll11, f10_11⟩ := hJ
      simp only [List.getD_cons_succ, List.getD_cons_zero, List.mem_cons, List.not_mem_nil, or_false, forall_eq_or_imp, forall_eq] at hdep
      have e11 := hb 10 11 rfl
      have e74 := hb 4 74 rfl
      rw [cc4 hdep.1] at e74
      obtain ⟨g, eg, hg, hB⟩ := ll10.stored hdep.2 hnot
      rw [eg] at e11
      have q0 : W.cell? ⟨g, 0, none⟩ = some (.int .i64 (0)) := hB.cell 0
      have z0 : W.frozen? ⟨g, 0, none⟩ = false := hB.free 0
      have q1 : W.cell? ⟨g, 1, none⟩ = some (.int .i64 (0)) := hB.cell 1
      have z1 : W.frozen? ⟨g, 1, none⟩ = false := hB.free 1
      have q2 : W.cell? ⟨g, 2, none⟩ = some (.int .i64 (0)) := hB.cell 2
      have z2 : W.frozen? ⟨g, 2, none⟩ = false := hB.free 2
      have q3 : W.cell? ⟨g, 3, none⟩ = some (.int .i64 (0)) := hB.cell 3
      have z3 : W.frozen? ⟨g, 3, none⟩ = false := hB.free 3
      have q4 : W.cell? ⟨g, 4, none⟩ = some (.int .i64 (0)) := hB.cell 4
      have z4 : W.frozen? ⟨g, 4, none⟩ = false := hB.free 4
      have q5 : W.cell? ⟨g, 5, none⟩ = some (.int .i64 (0)) := hB.cell 5
      have z5 : W.frozen? ⟨g, 5, none⟩ = false := hB.free 5
      have q6 : W.cell? ⟨g, 6, none⟩ = some (.int .i64 (0)) := hB.cell 6
      have z6 : W.frozen? ⟨g, 6, none⟩ = false := hB.free 6
      clear hb hb'
      have hfin := hK undef _ ⟨(((((((hX0.setCell hg _).setCell hg _).setCell hg _).setCell hg _).setCell hg _).setCell hg _).setCell hg _), fun h => cc0 (h.resolve_right (by decide)), fun h => cc1 (h.resolve_right (by decide)), fun h => cc2 (h.resolve_right (by decide)), fun h => cc3 (h.resolve_right (by decide)), fun h => cc4 (h.resolve_right (by decide)), fun h => cc5 (h.resolve_right (by decide)), fun h => cc6 (h.resolve_right (by decide)), fun h => cc7 (h.resolve_right (by decide)), fun h => cc8 (h.resolve_right (by decide)), fun h => cc9 (h.resolve_right (by decide)), ⟨fun _ => ⟨g, eg, hg, fun _ => (Blk.set (Blk.set (Blk.set (Blk.set (Blk.set (Blk.set (Blk.set hB 0 _) 1 _) 2 _) 3 _) 4 _) 5 _) 6 _), fun h => absurd (.inr rfl) h⟩⟩, Loc.same (Loc.keep (Loc.keep (Loc.keep (Loc.keep (Loc.keep (Loc.keep (Loc.keep ll11 (f := (fun h k => Ne.symm (f10_11 k h))) hdep.2 eg) (f := (fun h k => Ne.symm (f10_11 k h))) hdep.2 eg) (f := (fun h k => Ne.symm (f10_11 k h))) hdep.2 eg) (f := (fun h k => Ne.symm (f10_11 k h))) hdep.2 eg) (f := (fun h k => Ne.symm (f10_11 k h))) hdep.2 eg) (f := (fun h k => Ne.symm (f10_11 k h))) hdep.2 eg) (f := (fun h k => Ne.symm (f10_11 k h))) hdep.2 eg) ⟨fun h => h.resolve_right (by decide), .inl⟩ ⟨fun h => h.resolve_right (by decide), .inl⟩, fun h h' => f10_11 (h.resolve_right (by decide)) (h'.resolve_right (by decide))⟩
      clear hK hX0 cc0 cc1 cc2 cc3 cc4 cc5 cc6 cc7 cc8 cc9 ll10 ll11 f10_11
      go_simp
      exact hfin
    · intro done us W hJ hdep haft hnot b hb hb' K hK Q'
      obtain ⟨hX0, cc0, cc1, cc2, cc3, cc4, cc5, cc6, cc7, cc8, cc9, ll10, ll11, f10_11⟩ := hJ
      simp only [List.getD_cons_succ, List.getD_cons_zero, List.mem_cons, List.not_mem_nil, or_false, forall_eq_or_imp, forall_eq] at hdep
      have e12 := hb 11 12 rfl
      have e79 := hb 9 79 rfl
      rw [cc9 hdep.1] at e79
      obtain ⟨g, eg, hg, hB⟩ := ll11.stored hdep.2 hnot
      rw [eg] at e12
      have q0 : W.cell? ⟨g, 0, none⟩ = some (.int .i64 (0)) := hB.cell 0
      have z0 : W.frozen? ⟨g, 0, none⟩ = false := hB.free 0
      have q1 : W.cell? ⟨g, 1, none⟩ = some (.int .i64 (0)) := hB.cell 1
      have z1 : W.frozen? ⟨g, 1, none⟩ = false := hB.free 1
      have q2 : W.cell? ⟨g, 2, none⟩ = some (.int .i64 (0)) := hB.cell 2
      have z2 : W.frozen? ⟨g, 2, none⟩ = false := hB.free 2
      have q3 : W.cell? ⟨g, 3, none⟩ = some (.int .i64 (0)) := hB.cell 3
      have z3 : W.frozen? ⟨g, 3, none⟩ = false := hB.free 3
      have q4 : W.cell? ⟨g, 4, none⟩ = some (.int .i64 (0)) := hB.cell 4
      have z4 : W.frozen? ⟨g, 4, none⟩ = false := hB.free 4
      have q5 : W.cell? ⟨g, 5, none⟩ = some (.int .i64 (0)) := hB.cell 5
      have z5 : W.frozen? ⟨g, 5, none⟩ = false := hB.free 5
      have q6 : W.cell? ⟨g, 6, none⟩ = some (.int .i64 (0)) := hB.cell 6
      have z6 : W.frozen? ⟨g, 6, none⟩ = false := hB.free 6
      clear hb hb'
      have hfin := hK undef _ ⟨(((((((hX0.setCell hg _).setCell hg _).setCell hg _).setCell hg _).setCell hg _).setCell hg _).setCell hg _), fun h => cc0 (h.resolve_right (by decide)), fun h => cc1 (h.resolve_right (by decide)), fun h => cc2 (h.resolve_right (by decide)), fun h => cc3 (h.resolve_right (by decide)), fun h => cc4 (h.resolve_right (by decide)), fun h => cc5 (h.resolve_right (by decide)), fun h => cc6 (h.resolve_right (by decide)), fun h => cc7 (h.resolve_right (by decide)), fun h => cc8 (h.resolve_right (by decide)), fun h => cc9 (h.resolve_right (by decide)), Loc.same (Loc.keep (Loc.keep (Loc.keep (Loc.keep (Loc.keep (Loc.keep (Loc.keep ll10 (f := f10_11) hdep.2 eg) (f := f10_11) hdep.2 eg) (f := f10_11) hdep.2 eg) (f := f10_11) hdep.2 eg) (f := f10_11) hdep.2 eg) (f := f10_11) hdep.2 eg) (f := f10_11) hdep.2 eg) ⟨fun h => h.resolve_right (by decide), .inl⟩ ⟨fun h => h.resolve_right (by decide), .inl⟩, ⟨fun _ => ⟨g, eg, hg, fun _ => (Blk.set (Blk.set (Blk.set (Blk.set (Blk.set (Blk.set (Blk.set hB 0 _) 1 _) 2 _) 3 _) 4 _) 5 _) 6 _), fun h => absurd (.inr rfl) h⟩⟩, fun h h' => f10_11 (h.resolve_right (by decide)) (h'.resolve_right (by decide))⟩
      clear hK hX0 cc0 cc1 cc2 cc3 cc4 cc5 cc6 cc7 cc8 cc9 ll10 ll11 f10_11
      go_simp
      exact hfin
  · intro us W hJ
    obtain ⟨hX0, cc0, cc1, cc2, cc3, cc4, cc5, cc6, cc7, cc8, cc9, ll10, ll11, f10_11⟩ := hJ
    rw [show (rops Try.f8 14).drop 14 = [] by kernel_rfl]
    exact hend (us 0) (us 1) (us 2) (us 3) (us 4) (us 5) (us 6) (us 7) (us 8) (us 9) (us 10) (us 11) (us 12) (us 13) W (cc0 (show 0 < 14 by decide)) (cc1 (show 1 < 14 by decide)) (cc2 (show 2 < 14 by decide)) (cc3 (show 3 < 14 by decide)) (cc4 (show 4 < 14 by decide)) (cc5 (show 5 < 14 by decide)) (cc6 (show 6 < 14 by decide)) (cc7 (show 7 < 14 by decide)) (cc8 (show 8 < 14 by decide)) (cc9 (show 9 < 14 by decide)) (ll10.done (show 10 < 14 by decide) (show 12 < 14 by decide)) (ll11.done (show 11 < 14 by decide) (show 13 < 14 by decide)) (f10_11 (show 10 < 14 by decide) (show 11 < 14 by decide)) hX0
set_option maxRecDepth 100000 in
set_option maxHeartbeats 2000000 in
theorem scales_r30 (ga gb gc gt S ss kk : Nat) (su : Bool) (Au Bu : Option Addr) (lu cu mu ku : Nat) (se : Bool) (Ae Be : Option Addr) (le ce me ke : Nat) (st : Bool) (At Bt : Option Addr) (lt ct mt kt : Nat) (sf : Bool) (Af Bf : Option Addr) (lf cf mf kf : Nat) (q r : Rat) (w : World) (x0 : w.cell? ⟨ga, ss * 9 + kk * 3, none⟩ = some (.bool su)) (x1 : w.cell? ⟨ga, ss * 9 + kk * 3 + 1, none⟩ = some (.slice Au lu cu)) (x2 : w.cell? ⟨ga, ss * 9 + kk * 3 + 2, none⟩ = some (.slice Bu mu ku)) (y0 : w.cell? ⟨gb, ss * 9 + kk * 3, none⟩ = some (.bool se)) (y1 : w.cell? ⟨gb, ss * 9 + kk * 3 + 1, none⟩ = some (.slice Ae le ce)) (y2 : w.cell? ⟨gb, ss * 9 + kk * 3 + 2, none⟩ = some (.slice Be me ke)) (z0 : w.cell? ⟨gt, 0, none⟩ = some (.bool st)) (z1 : w.cell? ⟨gt, 1, none⟩ = some (.slice At lt ct)) (z2 : w.cell? ⟨gt, 2, none⟩ = some (.slice Bt mt kt)) (v0 : w.cell? ⟨gc, ss * 9 + kk * 3, none⟩ = some (.bool sf)) (v1 : w.cell? ⟨gc, ss * 9 + kk * 3 + 1, none⟩ = some (.slice Af lf cf)) (v2 : w.cell? ⟨gc, ss * 9 + kk * 3 + 2, none⟩ = some (.slice Bf mf kf)) (hx : RatG w (.agg #[.bool su, .slice Au lu cu, .slice Bu mu ku]) q) (hy : RatG w (.agg #[.bool se, .slice Ae le ce, .slice Be me ke]) q) (hx3 : RatG w (.agg #[.bool st, .slice At lt ct, .slice Bt mt kt]) r) (hx4 : RatG w (.agg #[.bool sf, .slice Af lf cf, .slice Bf mf kf]) r) (hs1 : ss < S) (hk3 : (kk : Int) < 3) (_hk4 : kk < 3) (a : Act) (Q : Exit → Act → World → Prop) (hsize : 200 ≤ a.tmps.size)
    (s13 : a.tmps[13]? = some (.slice (some ⟨ga, 0, none⟩) S S))
    (s15 : a.tmps[15]? = some (.slice (some ⟨gb, 0, none⟩) S S))
    (s17 : a.tmps[17]? = some (.slice (some ⟨gc, 0, none⟩) S S))
    (s19 : a.tmps[19]? = some (.int .i64 (ss : Int)))
    (s20 : a.tmps[20]? = some (.int .i64 (kk : Int)))
    (s21 : a.tmps[21]? = some (.pointer (some ⟨gt, 0, none⟩)))
    (s22 : a.tmps[22]? = some (.bool true))
    (hend : ∀ (xv0 xv1 xv2 xv3 xv4 xv5 xv6 xv7 xv8 xv9 xv10 xv11 xv12 xv13 xv14 xv15 xv16 xv17 xv18 xv19 xv20 xv21 xv22 xv23 xv24 xv25 xv26 xv27 xv28 : Value) (W : World), (xv0 = .bool true) → (xv1 = .bool false) → (xv2 = .bool false) → (xv3 = .slice (some ⟨ga, 0, none⟩) S S) → (xv4 = .int .i64 (ss : Int)) → (xv5 = .int .i64 (kk : Int)) → (xv6 = .pointer (some ⟨ga, ss * 9, none⟩)) → (xv7 = .pointer (some ⟨ga, ss * 9 + kk * 3, none⟩)) → (xv8 = .agg #[.bool su, .slice Au lu cu, .slice Bu mu ku]) → (xv9 = .slice (some ⟨gb, 0, none⟩) S S) → (xv10 = .int .i64 (ss : Int)) → (xv11 = .int .i64 (kk : Int)) → (xv12 = .pointer (some ⟨gb, ss * 9, none⟩)) → (xv13 = .pointer (some ⟨gb, ss * 9 + kk * 3, none⟩)) → (xv14 = .agg #[.bool se, .slice Ae le ce, .slice Be me ke]) → (xv15 = .bool true) → (xv16 = .bool false) → (xv17 = .bool false) → (xv18 = .bool false) → (xv19 = .agg #[.bool st, .slice At lt ct, .slice Bt mt kt]) → (xv20 = .slice (some ⟨gc, 0, none⟩) S S) → (xv21 = .int .i64 (ss : Int)) → (xv22 = .int .i64 (kk : Int)) → (xv23 = .pointer (some ⟨gc, ss * 9, none⟩)) → (xv24 = .pointer (some ⟨gc, ss * 9 + kk * 3, none⟩)) → (xv25 = .agg #[.bool sf, .slice Af lf cf, .slice Bf mf kf]) → (xv26 = .bool true) → (xv27 = .bool false) → (xv28 = .bool false) → Ext w W → wpList Try.prog (rops Try.f8 30).toArray Q ((rops Try.f8 30).drop 29) (((((((((((((((((((((((((((((a.put (some 171) xv0).put (some 172) xv1).put (some 173) xv2).put (some 174) xv3).put (some 175) xv4).put (some 176) xv5).put (some 177) xv6).put (some 178) xv7).put (some 179) xv8).put (some 180) xv9).put (some 181) xv10).put (some 182) xv11).put (some 183) xv12).put (some 184) xv13).put (some 185) xv14).put (some 186) xv15).put (some 187) xv16).put (some 188) xv17).put (some 189) xv18).put (some 190) xv19).put (some 191) xv20).put (some 192) xv21).put (some 193) xv22).put (some 194) xv23).put (some 195) xv24).put (some 196) xv25).put (some 197) xv26).put (some 198) xv27).put (some 199) xv28) W) :
    (Code.region 30 (rops Try.f8 30).toArray true).wp Try.prog Q a w := by
  have hmono : ∀ (W W' : World) (j : Nat) (u : Value), Ext W W' → (fun (i : Nat) (v : Value) (W : World) => match i with
    | 0 => v = .bool true
    | 1 => v = .bool false
    | 2 => v = .bool false
    | 3 => v = .slice (some ⟨ga, 0, none⟩) S S
    | 4 => v = .int .i64 (ss : Int)
    | 5 => v = .int .i64 (kk : Int)
    | 6 => v = .pointer (some ⟨ga, ss * 9, none⟩)
    | 7 => v = .pointer (some ⟨ga, ss * 9 + kk * 3, none⟩)
    | 8 => v = .agg #[.bool su, .slice Au lu cu, .slice Bu mu ku]
    | 9 => v = .slice (some ⟨gb, 0, none⟩) S S
    | 10 => v = .int .i64 (ss : Int)
    | 11 => v = .int .i64 (kk : Int)
    | 12 => v = .pointer (some ⟨gb, ss * 9, none⟩)
    | 13 => v = .pointer (some ⟨gb, ss * 9 + kk * 3, none⟩)
    | 14 => v = .agg #[.bool se, .slice Ae le ce, .slice Be me ke]
    | 15 => v = .bool true
    | 16 => v = .bool false
    | 17 => v = .bool false
    | 18 => v = .bool false
    | 19 => v = .agg #[.bool st, .slice At lt ct, .slice Bt mt kt]
    | 20 => v = .slice (some ⟨gc, 0, none⟩) S S
    | 21 => v = .int .i64 (ss : Int)
    | 22 => v = .int .i64 (kk : Int)
    | 23 => v = .pointer (some ⟨gc, ss * 9, none⟩)
    | 24 => v = .pointer (some ⟨gc, ss * 9 + kk * 3, none⟩)
    | 25 => v = .agg #[.bool sf, .slice Af lf cf, .slice Bf mf kf]
    | 26 => v = .bool true
    | 27 => v = .bool false
    | 28 => v = .bool false
    | _ => True) j u W → (fun (i : Nat) (v : Value) (W : World) => match i with
    | 0 => v = .bool true
    | 1 => v = .bool false
    | 2 => v = .bool false
    | 3 => v = .slice (some ⟨ga, 0, none⟩) S S
    | 4 => v = .int .i64 (ss : Int)
    | 5 => v = .int .i64 (kk : Int)
    | 6 => v = .pointer (some ⟨ga, ss * 9, none⟩)
    | 7 => v = .pointer (some ⟨ga, ss * 9 + kk * 3, none⟩)
    | 8 => v = .agg #[.bool su, .slice Au lu cu, .slice Bu mu ku]
    | 9 => v = .slice (some ⟨gb, 0, none⟩) S S
    | 10 => v = .int .i64 (ss : Int)
    | 11 => v = .int .i64 (kk : Int)
    | 12 => v = .pointer (some ⟨gb, ss * 9, none⟩)
    | 13 => v = .pointer (some ⟨gb, ss * 9 + kk * 3, none⟩)
    | 14 => v = .agg #[.bool se, .slice Ae le ce, .slice Be me ke]
    | 15 => v = .bool true
    | 16 => v = .bool false
    | 17 => v = .bool false
    | 18 => v = .bool false
    | 19 => v = .agg #[.bool st, .slice At lt ct, .slice Bt mt kt]
    | 20 => v = .slice (some ⟨gc, 0, none⟩) S S
    | 21 => v = .int .i64 (ss : Int)
    | 22 => v = .int .i64 (kk : Int)
    | 23 => v = .pointer (some ⟨gc, ss * 9, none⟩)
    | 24 => v = .pointer (some ⟨gc, ss * 9 + kk * 3, none⟩)
    | 25 => v = .agg #[.bool sf, .slice Af lf cf, .slice Bf mf kf]
    | 26 => v = .bool true
    | 27 => v = .bool false
    | 28 => v = .bool false
    | _ => True) j u W' := by
    intro W W' j u hX h
    match j, h with
    | 0, h => exact h
    | 1, h => exact h
    | 2, h => exact h
    | 3, h => exact h
    | 4, h => exact h
    | 5, h => exact h
    | 6, h => exact h
    | 7, h => exact h
    | 8, h => exact h
    | 9, h => exact h
    | 10, h => exact h
    | 11, h => exact h
    | 12, h => exact h
    | 13, h => exact h
    | 14, h => exact h
    | 15, h => exact h
    | 16, h => exact h
    | 17, h => exact h
    | 18, h => exact h
    | 19, h => exact h
    | 20, h => exact h
    | 21, h => exact h
    | 22, h => exact h
    | 23, h => exact h
    | 24, h => exact h
    | 25, h => exact h
    | 26, h => exact h
    | 27, h => exact h
    | 28, h => exact h
    | _ + 29, h => exact h
  have hsz : ∀ d, some d ∈ ([some 171, some 172, some 173, some 174, some 175, some 176, some 177, some 178, some 179, some 180, some 181, some 182, some 183, some 184, some 185, some 186, some 187, some 188, some 189, some 190, some 191, some 192, some 193, some 194, some 195, some 196, some 197, some 198, some 199] : List (Option Tmp)) → d < a.tmps.size := slots_lt (by decide) hsize
  refine wp_region_j 29 [some 171, some 172, some 173, some 174, some 175, some 176, some 177, some 178, some 179, some 180, some 181, some 182, some 183, some 184, some 185, some 186, some 187, some 188, some 189, some 190, some 191, some 192, some 193, some 194, some 195, some 196, some 197, some 198, some 199] [[], [0], [1], [2], [2], [2], [2, 3, 4], [2, 5, 6], [2, 7], [2], [2], [2], [2, 9, 10], [2, 11, 12], [2, 13], [2, 8, 14], [2, 15], [2, 16], [17], [18], [18], [18], [18], [18, 20, 21], [18, 22, 23], [18, 24], [18, 19, 25], [18, 26], [18, 27]] [[], [], [], [], [], [], [], [], [], [], [], [], [], [], [], [], [], [], [], [], [], [], [], [], [], [], [], [], []] (fun (i : Nat) (v : Value) (W : World) => match i with
    | 0 => v = .bool true
    | 1 => v = .bool false
    | 2 => v = .bool false
    | 3 => v = .slice (some ⟨ga, 0, none⟩) S S
    | 4 => v = .int .i64 (ss : Int)
    | 5 => v = .int .i64 (kk : Int)
    | 6 => v = .pointer (some ⟨ga, ss * 9, none⟩)
    | 7 => v = .pointer (some ⟨ga, ss * 9 + kk * 3, none⟩)
    | 8 => v = .agg #[.bool su, .slice Au lu cu, .slice Bu mu ku]
    | 9 => v = .slice (some ⟨gb, 0, none⟩) S S
    | 10 => v = .int .i64 (ss : Int)
    | 11 => v = .int .i64 (kk : Int)
    | 12 => v = .pointer (some ⟨gb, ss * 9, none⟩)
    | 13 => v = .pointer (some ⟨gb, ss * 9 + kk * 3, none⟩)
    | 14 => v = .agg #[.bool se, .slice Ae le ce, .slice Be me ke]
    | 15 => v = .bool true
    | 16 => v = .bool false
    | 17 => v = .bool false
    | 18 => v = .bool false
    | 19 => v = .agg #[.bool st, .slice At lt ct, .slice Bt mt kt]
    | 20 => v = .slice (some ⟨gc, 0, none⟩) S S
    | 21 => v = .int .i64 (ss : Int)
    | 22 => v = .int .i64 (kk : Int)
    | 23 => v = .pointer (some ⟨gc, ss * 9, none⟩)
    | 24 => v = .pointer (some ⟨gc, ss * 9 + kk * 3, none⟩)
    | 25 => v = .agg #[.bool sf, .slice Af lf cf, .slice Bf mf kf]
    | 26 => v = .bool true
    | 27 => v = .bool false
    | 28 => v = .bool false
    | _ => True) (fun _ W => Ext w W) (by kernel_rfl) (by kernel_rfl) hsz (fun _ _ _ _ h => h) ((Ext.refl w).drew) ?_ ?_
  · clear hend
    simp only [rops, Try.f8, regOf, Option.bind_some, Nat.reduceBEq, if_true, if_false, Bool.false_eq_true, Option.getD_some]
    simp only [List.take_succ_cons, List.take_zero]
    refine ⟨?_, ?_, ?_, ?_, ?_, ?_, ?_, ?_, ?_, ?_, ?_, ?_, ?_, ?_, ?_, ?_, ?_, ?_, ?_, ?_, ?_, ?_, ?_, ?_, ?_, ?_, ?_, ?_, ?_, trivial⟩
    · intro done us W hJ hdep haft hnot b hb hb' K hK Q'
      have e22 := (hb' 22 (by simp)).trans s22
      clear hb hb'
      go_simp
      exact hK _ _ rfl (fun _ _ _ h => h) hJ
    · intro done us W hJ hdep haft hnot b hb hb' K hK Q'
      simp only [List.getD_cons_succ, List.getD_cons_zero, List.mem_cons, List.not_mem_nil, or_false, forall_eq] at hdep
      have e171 := hb 0 171 rfl
      have d0 := hdep
      rw [d0.1] at e171
      clear hb hb' hdep d0
      go_simp
      exact hK _ _ rfl (fun _ _ _ h => h) hJ
    · intro done us W hJ hdep haft hnot b hb hb' K hK Q'
      simp only [List.getD_cons_succ, List.getD_cons_zero, List.mem_cons, List.not_mem_nil, or_false, forall_eq] at hdep
      have e172 := hb 1 172 rfl
      have d1 := hdep
      rw [d1.1] at e172
      clear hb hb' hdep d1
      go_simp
      exact hK _ _ rfl (fun _ _ _ h => h) hJ
    · intro done us W hJ hdep haft hnot b hb hb' K hK Q'
      simp only [List.getD_cons_succ, List.getD_cons_zero, List.mem_cons, List.not_mem_nil, or_false, forall_eq] at hdep
      have e13 := (hb' 13 (by simp)).trans s13
      have e173 := hb 2 173 rfl
      have d2 := hdep
      rw [d2.1] at e173
      clear hb hb' hdep d2
      go_simp
      exact hK _ _ rfl (fun _ _ _ h => h) hJ
    · intro done us W hJ hdep haft hnot b hb hb' K hK Q'
      simp only [List.getD_cons_succ, List.getD_cons_zero, List.mem_cons, List.not_mem_nil, or_false, forall_eq] at hdep
      have e19 := (hb' 19 (by simp)).trans s19
      have e173 := hb 2 173 rfl
      have d2 := hdep
      rw [d2.1] at e173
      clear hb hb' hdep d2
      go_simp
      exact hK _ _ rfl (fun _ _ _ h => h) hJ
    · intro done us W hJ hdep haft hnot b hb hb' K hK Q'
      simp only [List.getD_cons_succ, List.getD_cons_zero, List.mem_cons, List.not_mem_nil, or_false, forall_eq] at hdep
      have e20 := (hb' 20 (by simp)).trans s20
      have e173 := hb 2 173 rfl
      have d2 := hdep
      rw [d2.1] at e173
      clear hb hb' hdep d2
      go_simp
      exact hK _ _ rfl (fun _ _ _ h => h) hJ
    · intro done us W hJ hdep haft hnot b hb hb' K hK Q'
      simp only [List.getD_cons_succ, List.getD_cons_zero, List.mem_cons, List.not_mem_nil, or_false, forall_eq_or_imp, forall_eq] at hdep
      have e173 := hb 2 173 rfl
      have e174 := hb 3 174 rfl
      have e175 := hb 4 175 rfl
      have d2 := hdep.1
      have d3 := hdep.2.1
      have d4 := hdep.2.2
      rw [d2.1] at e173
      rw [d3.1] at e174
      rw [d4.1] at e175
      clear hb hb' hdep d2 d3 d4
      go_simp
      exact hK _ _ rfl (fun _ _ _ h => h) hJ
    · intro done us W hJ hdep haft hnot b hb hb' K hK Q'
      simp only [List.getD_cons_succ, List.getD_cons_zero, List.mem_cons, List.not_mem_nil, or_false, forall_eq_or_imp, forall_eq] at hdep
      have e173 := hb 2 173 rfl
      have e176 := hb 5 176 rfl
      have e177 := hb 6 177 rfl
      have d2 := hdep.1
      have d5 := hdep.2.1
      have d6 := hdep.2.2
      rw [d2.1] at e173
      rw [d5.1] at e176
      rw [d6.1] at e177
      clear hb hb' hdep d2 d5 d6
      go_simp
      exact hK _ _ rfl (fun _ _ _ h => h) hJ
    · intro done us W hJ hdep haft hnot b hb hb' K hK Q'
      simp only [List.getD_cons_succ, List.getD_cons_zero, List.mem_cons, List.not_mem_nil, or_false, forall_eq_or_imp, forall_eq] at hdep
      have e173 := hb 2 173 rfl
      have e178 := hb 7 178 rfl
      have d2 := hdep.1
      have d7 := hdep.2
      rw [d2.1] at e173
      rw [d7.1] at e178
      clear hb hb' hdep d2 d7
      have z0 := Ext.cell hJ x0
      have z1 := Ext.cell hJ x1
      have z2 := Ext.cell hJ x2
      go_simp
      exact hK _ _ rfl (fun _ _ _ h => h) hJ
    · intro done us W hJ hdep haft hnot b hb hb' K hK Q'
      simp only [List.getD_cons_succ, List.getD_cons_zero, List.mem_cons, List.not_mem_nil, or_false, forall_eq] at hdep
      have e15 := (hb' 15 (by simp)).trans s15
      have e173 := hb 2 173 rfl
      have d2 := hdep
      rw [d2.1] at e173
      clear hb hb' hdep d2
      go_simp
      exact hK _ _ rfl (fun _ _ _ h => h) hJ
    · intro done us W hJ hdep haft hnot b hb hb' K hK Q'
      simp only [List.getD_cons_succ, List.getD_cons_zero, List.mem_cons, List.not_mem_nil, or_false, forall_eq] at hdep
      have e19 := (hb' 19 (by simp)).trans s19
      have e173 := hb 2 173 rfl
      have d2 := hdep
      rw [d2.1] at e173
      clear hb hb' hdep d2
      go_simp
      exact hK _ _ rfl (fun _ _ _ h => h) hJ
    · intro done us W hJ hdep haft hnot b hb hb' K hK Q'
      simp only [List.getD_cons_succ, List.getD_cons_zero, List.mem_cons, List.not_mem_nil, or_false, forall_eq] at hdep
      have e20 := (hb' 20 (by simp)).trans s20
      have e173 := hb 2 173 rfl
      have d2 := hdep
      rw [d2.1] at e173
      clear hb hb' hdep d2
      go_simp
      exact hK _ _ rfl (fun _ _ _ h => h) hJ
    · intro done us W hJ hdep haft hnot b hb hb' K hK Q'
      simp only [List.getD_cons_succ, List.getD_cons_zero, List.mem_cons, List.not_mem_nil, or_false, forall_eq_or_imp, forall_eq] at hdep
      have e173 := hb 2 173 rfl
      have e180 := hb 9 180 rfl
      have e181 := hb 10 181 rfl
      have d2 := hdep.1
      have d9 := hdep.2.1
      have d10 := hdep.2.2
      rw [d2.1] at e173
      rw [d9.1] at e180
      rw [d10.1] at e181
      clear hb hb' hdep d2 d9 d10
      go_simp
      exact hK _ _ rfl (fun _ _ _ h => h) hJ
    · intro done us W hJ hdep haft hnot b hb hb' K hK Q'
      simp only [List.getD_cons_succ, List.getD_cons_zero, List.mem_cons, List.not_mem_nil, or_false, forall_eq_or_imp, forall_eq] at hdep
      have e173 := hb 2 173 rfl
      have e182 := hb 11 182 rfl
      have e183 := hb 12 183 rfl
      have d2 := hdep.1
      have d11 := hdep.2.1
      have d12 := hdep.2.2
      rw [d2.1] at e173
      rw [d11.1] at e182
      rw [d12.1] at e183
      clear hb hb' hdep d2 d11 d12
      go_simp
      exact hK _ _ rfl (fun _ _ _ h => h) hJ
    · intro done us W hJ hdep haft hnot b hb hb' K hK Q'
      simp only [List.getD_cons_succ, List.getD_cons_zero, List.mem_cons, List.not_mem_nil, or_false, forall_eq_or_imp, forall_eq] at hdep
      have e173 := hb 2 173 rfl
      have e184 := hb 13 184 rfl
      have d2 := hdep.1
      have d13 := hdep.2
      rw [d2.1] at e173
      rw [d13.1] at e184
      clear hb hb' hdep d2 d13
      have z0 := Ext.cell hJ y0
      have z1 := Ext.cell hJ y1
      have z2 := Ext.cell hJ y2
      go_simp
      exact hK _ _ rfl (fun _ _ _ h => h) hJ
    · intro done us W hJ hdep haft hnot b hb hb' K hK Q'
      simp only [List.getD_cons_succ, List.getD_cons_zero, List.mem_cons, List.not_mem_nil, or_false, forall_eq_or_imp, forall_eq] at hdep
      have e173 := hb 2 173 rfl
      have e179 := hb 8 179 rfl
      have e185 := hb 14 185 rfl
      have d2 := hdep.1
      have d8 := hdep.2.1
      have d14 := hdep.2.2
      rw [d2.1] at e173
      rw [d8.1] at e179
      rw [d14.1] at e185
      clear hb hb' hdep d2 d8 d14
      go_simp
      refine (sameG_any (hx.ext hJ) (hy.ext hJ)).mono ?_
      rw [decide_eq_true rfl]
      rintro e w' ⟨rfl, hX⟩
      exact hK _ _ rfl (fun j u _ h => hmono _ _ j u hX h) (Ext.trans hJ hX)
    · intro done us W hJ hdep haft hnot b hb hb' K hK Q'
      simp only [List.getD_cons_succ, List.getD_cons_zero, List.mem_cons, List.not_mem_nil, or_false, forall_eq_or_imp, forall_eq] at hdep
      have e173 := hb 2 173 rfl
      have e186 := hb 15 186 rfl
      have d2 := hdep.1
      have d15 := hdep.2
      rw [d2.1] at e173
      rw [d15.1] at e186
      clear hb hb' hdep d2 d15
      go_simp
      exact hK _ _ rfl (fun _ _ _ h => h) hJ
    · intro done us W hJ hdep haft hnot b hb hb' K hK Q'
      simp only [List.getD_cons_succ, List.getD_cons_zero, List.mem_cons, List.not_mem_nil, or_false, forall_eq_or_imp, forall_eq] at hdep
      have e173 := hb 2 173 rfl
      have e187 := hb 16 187 rfl
      have d2 := hdep.1
      have d16 := hdep.2
      rw [d2.1] at e173
      rw [d16.1] at e187
      clear hb hb' hdep d2 d16
      go_simp
      exact hK _ _ rfl (fun _ _ _ h => h) hJ
    · intro done us W hJ hdep haft hnot b hb hb' K hK Q'
      simp only [List.getD_cons_succ, List.getD_cons_zero, List.mem_cons, List.not_mem_nil, or_false, forall_eq] at hdep
      have e188 := hb 17 188 rfl
      have d17 := hdep
      rw [d17.1] at e188
      clear hb hb' hdep d17
      go_simp
      exact hK _ _ rfl (fun _ _ _ h => h) hJ
    · intro done us W hJ hdep haft hnot b hb hb' K hK Q'
      simp only [List.getD_cons_succ, List.getD_cons_zero, List.mem_cons, List.not_mem_nil, or_false, forall_eq] at hdep
      have e21 := (hb' 21 (by simp)).trans s21
      have e189 := hb 18 189 rfl
      have d18 := hdep
      rw [d18.1] at e189
      clear hb hb' hdep d18
      have z7 := Ext.cell hJ z0
      have z8 := Ext.cell hJ z1
      have z9 := Ext.cell hJ z2
      go_simp
      exact hK _ _ rfl (fun _ _ _ h => h) hJ
    · intro done us W hJ hdep haft hnot b hb hb' K hK Q'
      simp only [List.getD_cons_succ, List.getD_cons_zero, List.mem_cons, List.not_mem_nil, or_false, forall_eq] at hdep
      have e17 := (hb' 17 (by simp)).trans s17
      have e189 := hb 18 189 rfl
      have d18 := hdep
      rw [d18.1] at e189
      clear hb hb' hdep d18
      go_simp
      exact hK _ _ rfl (fun _ _ _ h => h) hJ
    · intro done us W hJ hdep haft hnot b hb hb' K hK Q'
      simp only [List.getD_cons_succ, List.getD_cons_zero, List.mem_cons, List.not_mem_nil, or_false, forall_eq] at hdep
      have e19 := (hb' 19 (by simp)).trans s19
      have e189 := hb 18 189 rfl
      have d18 := hdep
      rw [d18.1] at e189
      clear hb hb' hdep d18
      go_simp
      exact hK _ _ rfl (fun _ _ _ h => h) hJ
    · intro done us W hJ hdep haft hnot b hb hb' K hK Q'
      simp only [List.getD_cons_succ, List.getD_cons_zero, List.mem_cons, List.not_mem_nil, or_false, forall_eq] at hdep
      have e20 := (hb' 20 (by simp)).trans s20
      have e189 := hb 18 189 rfl
      have d18 := hdep
      rw [d18.1] at e189
      clear hb hb' hdep d18
      go_simp
      exact hK _ _ rfl (fun _ _ _ h => h) hJ
    · intro done us W hJ hdep haft hnot b hb hb' K hK Q'
      simp only [List.getD_cons_succ, List.getD_cons_zero, List.mem_cons, List.not_mem_nil, or_false, forall_eq_or_imp, forall_eq] at hdep
      have e189 := hb 18 189 rfl
      have e191 := hb 20 191 rfl
      have e192 := hb 21 192 rfl
      have d18 := hdep.1
      have d20 := hdep.2.1
      have d21 := hdep.2.2
      rw [d18.1] at e189
      rw [d20.1] at e191
      rw [d21.1] at e192
      clear hb hb' hdep d18 d20 d21
      go_simp
      exact hK _ _ rfl (fun _ _ _ h => h) hJ
    · intro done us W hJ hdep haft hnot b hb hb' K hK Q'
      simp only [List.getD_cons_succ, List.getD_cons_zero, List.mem_cons, List.not_mem_nil, or_false, forall_eq_or_imp, forall_eq] at hdep
      have e189 := hb 18 189 rfl
      have e193 := hb 22 193 rfl
      have e194 := hb 23 194 rfl
      have d18 := hdep.1
      have d22 := hdep.2.1
      have d23 := hdep.2.2
      rw [d18.1] at e189
      rw [d22.1] at e193
      rw [d23.1] at e194
      clear hb hb' hdep d18 d22 d23
      go_simp
      exact hK _ _ rfl (fun _ _ _ h => h) hJ
    · intro done us W hJ hdep haft hnot b hb hb' K hK Q'
      simp only [List.getD_cons_succ, List.getD_cons_zero, List.mem_cons, List.not_mem_nil, or_false, forall_eq_or_imp, forall_eq] at hdep
      have e189 := hb 18 189 rfl
      have e195 := hb 24 195 rfl
      have d18 := hdep.1
      have d24 := hdep.2
      rw [d18.1] at e189
      rw [d24.1] at e195
      clear hb hb' hdep d18 d24
      have z7 := Ext.cell hJ v0
      have z8 := Ext.cell hJ v1
      have z9 := Ext.cell hJ v2
      go_simp
      exact hK _ _ rfl (fun _ _ _ h => h) hJ
    · intro done us W hJ hdep haft hnot b hb hb' K hK Q'
      simp only [List.getD_cons_succ, List.getD_cons_zero, List.mem_cons, List.not_mem_nil, or_false, forall_eq_or_imp, forall_eq] at hdep
      have e189 := hb 18 189 rfl
      have e190 := hb 19 190 rfl
      have e196 := hb 25 196 rfl
      have d18 := hdep.1
      have d19 := hdep.2.1
      have d25 := hdep.2.2
      rw [d18.1] at e189
      rw [d19.1] at e190
      rw [d25.1] at e196
      clear hb hb' hdep d18 d19 d25
      go_simp
      refine (sameG_any (hx3.ext hJ) (hx4.ext hJ)).mono ?_
      rw [decide_eq_true rfl]
      rintro e w' ⟨rfl, hX⟩
      exact hK _ _ rfl (fun j u _ h => hmono _ _ j u hX h) (Ext.trans hJ hX)
    · intro done us W hJ hdep haft hnot b hb hb' K hK Q'
      simp only [List.getD_cons_succ, List.getD_cons_zero, List.mem_cons, List.not_mem_nil, or_false, forall_eq_or_imp, forall_eq] at hdep
      have e189 := hb 18 189 rfl
      have e197 := hb 26 197 rfl
      have d18 := hdep.1
      have d26 := hdep.2
      rw [d18.1] at e189
      rw [d26.1] at e197
      clear hb hb' hdep d18 d26
      go_simp
      exact hK _ _ rfl (fun _ _ _ h => h) hJ
    · intro done us W hJ hdep haft hnot b hb hb' K hK Q'
      simp only [List.getD_cons_succ, List.getD_cons_zero, List.mem_cons, List.not_mem_nil, or_false, forall_eq_or_imp, forall_eq] at hdep
      have e189 := hb 18 189 rfl
      have e198 := hb 27 198 rfl
      have d18 := hdep.1
      have d27 := hdep.2
      rw [d18.1] at e189
      rw [d27.1] at e198
      clear hb hb' hdep d18 d27
      go_simp
      exact hK _ _ rfl (fun _ _ _ h => h) hJ
  · intro us W hV hJ
    exact hend (us 0) (us 1) (us 2) (us 3) (us 4) (us 5) (us 6) (us 7) (us 8) (us 9) (us 10) (us 11) (us 12) (us 13) (us 14) (us 15) (us 16) (us 17) (us 18) (us 19) (us 20) (us 21) (us 22) (us 23) (us 24) (us 25) (us 26) (us 27) (us 28) W (hV 0 (by omega)) (hV 1 (by omega)) (hV 2 (by omega)) (hV 3 (by omega)) (hV 4 (by omega)) (hV 5 (by omega)) (hV 6 (by omega)) (hV 7 (by omega)) (hV 8 (by omega)) (hV 9 (by omega)) (hV 10 (by omega)) (hV 11 (by omega)) (hV 12 (by omega)) (hV 13 (by omega)) (hV 14 (by omega)) (hV 15 (by omega)) (hV 16 (by omega)) (hV 17 (by omega)) (hV 18 (by omega)) (hV 19 (by omega)) (hV 20 (by omega)) (hV 21 (by omega)) (hV 22 (by omega)) (hV 23 (by omega)) (hV 24 (by omega)) (hV 25 (by omega)) (hV 26 (by omega)) (hV 27 (by omega)) (hV 28 (by omega)) hJ
set_option maxRecDepth 100000 in
set_option maxHeartbeats 16000000 in
theorem scales_walk (S : Nat) (A : Option Addr) (n c mo : Nat) (ms : List Mt) (w : World) (h : MsAt w A n ms) (hv : VP (S : Int) ms) (hn10 : n ≤ 10) (hmo : mo ≤ 255) (hsm : smB S ms = true) :
    Calls Try.prog 8 #[.agg #[.int .i64 (S : Int), .slice A n c], .int .u8 (mo : Int)] w (fun e w' => e = .returned (.bool true) ∧ Ext w w') := by
  have H := Lib.hid h
  have HV := Lib.hid hv
  have HML := Lib.hid h.1
  have HSM := Lib.hid hsm
  have hS1 : 1 ≤ S := by have := hv.1; omega
  have hS8 : S ≤ 3 := by have := (smB_iff.1 hsm).1.2; omega
  have HX := Lib.hid ((Ext.refl w).alloc (.cells #[.int .i64 (S : Int), .slice A n c] 76))
  have HP := Lib.hid (Blk.new w 76 #[.int .i64 (S : Int), .slice A n c])
  obtain ⟨k9, hk9⟩ : ∃ k9, mo % 9 = k9 := ⟨_, rfl⟩
  have hrem : (mo : Int).tmod 9 = (k9 : Int) := by rw [Int.tmod_eq_emod_of_nonneg (by omega)]; omega
  have hmow : IntKind.i64.wrap (mo : Int) = (mo : Int) := IntWalk.i64_in _ (by omega)
  have hk9w : IntKind.i64.wrap (k9 : Int) = (k9 : Int) := IntWalk.i64_in _ (by omega)
  obtain ⟨fz, hfz⟩ : ∃ fz : Int, fz = 1 + (k9 : Int) := ⟨_, rfl⟩
  have hfzw : IntKind.i64.wrap (1 + (k9 : Int)) = fz := by rw [hfz]; exact IntWalk.i64_in _ (by omega)
  have hfz1 : 1 ≤ fz := by omega
  have hfz9 : fz ≤ 9 := by omega
  clear h hv hsm hk9 hfz
  go_enter Try.func8, Try.ntmps8
  go_upto_region 1 with (fail)
  generalize w.alloc (.cells #[.int .i64 (S : Int), .slice A n c] 76) = w1 at HX HP ⊢
  go_upto_region 2 with (fail)
  clear hrem hmow hk9w hfzw
  have p0 := HP.out.cell 0
  have p1 := HP.out.cell 1
  simp only [List.getElem?_toArray, List.getElem?_cons_zero, List.getElem?_cons_succ] at p0 p1
  go_wp2_with fail
  refine (small_any5 (S : Int) A n c ms _ (H.out.ext HX.out)).mono ?_
  rw [HSM.out]
  rintro e w2 ⟨rfl, hX⟩
  replace HX := Lib.hid (HX.out.trans hX)
  replace HP := Lib.hid (HP.out.ext hX)
  clear hX p0 p1
  go_wp2_with fail
  go_loopg [6] n (fun fu iv wr => ∃ i : Nat, fu = n - i ∧ i ≤ n ∧ iv = .int .i64 (i : Int) ∧ Hid (∀ m ∈ ms.take i, ScOk fz m) ∧ Hid (Blk wr w.heap.size 76 #[.int .i64 (S : Int), .slice A n c]) ∧ Hid (Ext w wr))
  case atStart => exact ⟨0, by omega, by omega, rfl, Lib.hid (fun m hm => by simp at hm), HP, HX⟩
  case round =>
    clear HP HX
    obtain ⟨i, rfl, hi, rfl, HOK, HP, HX⟩ := hrel
    have pl := HP.out
    have p0 := pl.cell 0
    have p1 := pl.cell 1
    simp only [List.getElem?_toArray, List.getElem?_cons_zero, List.getElem?_cons_succ] at p0 p1
    clear pl
    by_cases hin : i < n
    · have q1 : decide (i < n) = true := decide_eq_true hin
      obtain ⟨gm, om, ⟨a, b, x, y, z, d, ww⟩, rfl, hm, hmem, x0, x1, x2, x3, x4, x5, x6⟩ := (H.out.ext HX.out).get hin
      simp only at x0 x1 x2 x3 x4 x5 x6
      have hsc := scaled_w (HV.out.2.2.2 _ hmem) hfz1 hfz9
      simp only at hsc
      have HM := Lib.hid hm
      clear hm hmem
      obtain ⟨pw, hpw⟩ : ∃ pw, ww * fz = pw := ⟨_, rfl⟩
      obtain ⟨pd, hpd⟩ : ∃ pd, d * fz = pd := ⟨_, rfl⟩
      rw [hpw, hpd] at hsc
      have hww : IntKind.i64.wrap (ww * fz) = pw := by rw [hpw]; exact IntWalk.i64_in _ (by omega)
      have hdw : IntKind.i64.wrap (d * fz) = pd := by rw [hpd]; exact IntWalk.i64_in _ (by omega)
      have HPW := Lib.hid hpw
      have HPD := Lib.hid hpd
      clear hpw hpd hsc
      go_upto_region 8 with (fail)
      have hXa : Ext wr (wr.alloc (.cells #[.int .i64 a, .int .i64 b, .int .i64 x, .int .i64 y, .int .i64 z, .int .i64 d, .int .i64 ww] 90)) := (Ext.refl _).alloc _
      have kB := Blk.new wr 90 #[.int .i64 a, .int .i64 b, .int .i64 x, .int .i64 y, .int .i64 z, .int .i64 d, .int .i64 ww]
      replace HX := Lib.hid (HX.out.trans hXa)
      replace HP := Lib.hid (HP.out.ext hXa)
      clear hXa x0 x1 x2 x3 x4 x5 x6 p0 p1
      generalize wr.heap.size = gx at kB ⊢
      generalize wr.alloc (.cells #[.int .i64 a, .int .i64 b, .int .i64 x, .int .i64 y, .int .i64 z, .int .i64 d, .int .i64 ww] 90) = wb at kB HX HP ⊢
      have y0 := kB.cell 0
      have y1 := kB.cell 1
      have y2 := kB.cell 2
      have y3 := kB.cell 3
      have y4 := kB.cell 4
      have y5 := kB.cell 5
      have y6 := kB.cell 6
      simp only [List.getElem?_toArray, List.getElem?_cons_zero, List.getElem?_cons_succ] at y0 y1 y2 y3 y4 y5 y6
      clear kB
      by_cases h1 : 1000 < pw
      · have q2 : decide (1000 < pw) = true := decide_eq_true h1
        clear h1
        go_wp2_with fail
        refine (first_any _).mono ?_
        rintro e w11 ⟨rfl, hX⟩
        replace HX := Lib.hid (HX.out.trans hX)
        clear hX
        go_wp2
        go_ret
        exact ⟨rfl, HX.out⟩
      · have q2 : decide (1000 < pw) = false := decide_eq_false h1
        have HW := Lib.hid h1
        clear h1
        by_cases h2 : 274877906944 < pd
        · have q3 : decide (274877906944 < pd) = true := decide_eq_true h2
          clear h2
          go_wp2_with fail
          refine (first_any _).mono ?_
          rintro e w11 ⟨rfl, hX⟩
          replace HX := Lib.hid (HX.out.trans hX)
          clear hX
          go_wp2
          go_ret
          exact ⟨rfl, HX.out⟩
        · have q3 : decide (274877906944 < pd) = false := decide_eq_false h2
          have HD := Lib.hid h2
          clear h2
          by_cases h3 : pd < -274877906944
          · have q4 : decide (pd < -274877906944) = true := decide_eq_true h3
            clear h3
            go_wp2_with fail
            refine (first_any _).mono ?_
            rintro e w11 ⟨rfl, hX⟩
            replace HX := Lib.hid (HX.out.trans hX)
            clear hX
            go_wp2
            go_ret
            exact ⟨rfl, HX.out⟩
          · have q4 : decide (pd < -274877906944) = false := decide_eq_false h3
            have HD2 := Lib.hid h3
            clear h3
            go_wp2
            go_roundg (n - (i + 1))
            case rel => exact ⟨i + 1, rfl, by omega, by go_num, Lib.hid (take_all HM.out HOK.out ⟨by have := HW.out; have := HPW.out; simp only; omega, by have := HD.out; have := HPD.out; simp only; omega, by have := HD2.out; have := HPD.out; simp only; omega⟩), HP, HX⟩
            case measure => omega
    · obtain rfl : n = i := by omega
      have q1 : decide (n < n) = false := by simp
      have hall : ∀ m ∈ ms, ScOk fz m := by
        have := HOK.out
        rwa [List.take_of_length_le (by have := HML.out; omega)] at this
      have HVH := Lib.hid (heav_vp hfz1 HV.out hall)
      have HVW := Lib.hid (wide_vp HV.out hall)
      clear hall HOK
      go_upto_region 11 with (fail)
      go_wp2_with fail
      clear p0 p1
      go_loopg [8, 9, 10] n (fun fu va vb iv wz => ∃ k : Nat, fu = n - k ∧ k ≤ n ∧ iv = .int .i64 (k : Int) ∧ Hid (wz.ownsRow w.heap.size 90 7 va k (mtV ((ms.take k).map (heavM fz)))) ∧ Hid (wz.ownsRow w.heap.size 90 7 vb k (mtV ((ms.take k).map (wideM fz)))) ∧ Hid (∀ g, va.ownBlock = some g → vb.ownBlock ≠ some g ∧ g ≠ w.heap.size) ∧ Hid (∀ g, vb.ownBlock = some g → g ≠ w.heap.size) ∧ Hid (Blk wz w.heap.size 76 #[.int .i64 (S : Int), .slice A n c]) ∧ Hid (Ext w wz))
      case atStart => exact ⟨0, by omega, by omega, rfl, Lib.hid (World.ownsRow_nil _ _ _ _), Lib.hid (World.ownsRow_nil _ _ _ _), Lib.hid (fun g hg => by simp [Value.ownBlock] at hg), Lib.hid (fun g hg => by simp [Value.ownBlock] at hg), HP, HX⟩
      case round =>
        clear HP HX
        obtain ⟨k, rfl, hk, rfl, HA, HB, HAB, HBP, HP, HX⟩ := hrel
        obtain ⟨Aa, ca, rfl⟩ := own_slice HA.out
        obtain ⟨Ab, cb, rfl⟩ := own_slice HB.out
        have pl := HP.out
        have p0 := pl.cell 0
        have p1 := pl.cell 1
        simp only [List.getElem?_toArray, List.getElem?_cons_zero, List.getElem?_cons_succ] at p0 p1
        clear pl
        by_cases hkn : k < n
        · have q2 : decide (k < n) = true := decide_eq_true hkn
          obtain ⟨gm, om, ⟨a, b, x, y, z, d, ww⟩, rfl, hm, hmem, x0, x1, x2, x3, x4, x5, x6⟩ := (H.out.ext HX.out).get hkn
          simp only at x0 x1 x2 x3 x4 x5 x6
          have hsc := scaled_w (HV.out.2.2.2 _ hmem) hfz1 hfz9
          simp only at hsc
          have HM := Lib.hid hm
          clear hm hmem
          obtain ⟨pw, hpw⟩ : ∃ pw, ww * fz = pw := ⟨_, rfl⟩
          obtain ⟨pd, hpd⟩ : ∃ pd, d * fz = pd := ⟨_, rfl⟩
          rw [hpw, hpd] at hsc
          have hww : IntKind.i64.wrap (ww * fz) = pw := by rw [hpw]; exact IntWalk.i64_in _ (by omega)
          have hdw : IntKind.i64.wrap (d * fz) = pd := by rw [hpd]; exact IntWalk.i64_in _ (by omega)
          have HPW := Lib.hid hpw
          have HPD := Lib.hid hpd
          clear hpw hpd hsc
          go_upto_region 14 with (fail)
          refine scales_r14 w.heap.size gm om n c k a b x y z d ww wr x0 x1 x2 x3 x4 x5 x6 p1 hkn _ _ (by simp) rfl rfl ?_
          rintro xv0 xv1 xv2 xv3 xv4 xv5 xv6 xv7 xv8 xv9 xv10 xv11 xv12 xv13 W rfl rfl rfl rfl rfl rfl rfl rfl rfl rfl ⟨gx, rfl, hgx, kX⟩ ⟨gy, rfl, hgy, kY⟩ hxy hX
          simp only [rops, Try.f8, regOf, Option.bind_some, Nat.reduceBEq, if_true, if_false, Bool.false_eq_true, Option.getD_some]
          simp only [Act.put, List.setIfInBounds_toArray, List.set_cons_succ, List.set_cons_zero]
          have hxy2 : gx ≠ gy := fun e => hxy (by rw [e])
          have hla : ∀ g, (Value.slice Aa k ca).ownBlock = some g → g < wr.heap.size := fun g hg => (HA.out.lt g hg).2
          have hlb : ∀ g, (Value.slice Ab k cb).ownBlock = some g → g < wr.heap.size := fun g hg => (HB.out.lt g hg).2
          have HLA := Lib.hid hla
          have HLB := Lib.hid hlb
          have hpl := HP.out.lt
          replace HX := Lib.hid (HX.out.trans hX)
          replace HP := Lib.hid (HP.out.ext hX)
          replace HA := Lib.hid (own_ext HA.out hX)
          replace HB := Lib.hid (own_ext HB.out hX)
          have hwz := HX.out.size
          clear hxy x0 x1 x2 x3 x4 x5 x6 p0 p1 hX hla hlb
          have y4 := kX.cell 6
          have g4 := kX.free 6
          have y5 := kY.cell 5
          have g5 := kY.free 5
          simp only [List.getElem?_toArray, List.getElem?_cons_zero, List.getElem?_cons_succ] at y4 y5
          have y5b : (W.setCell ⟨gx, 6, none⟩ (.int .i64 pw)).cell? ⟨gy, 5, none⟩ = some (.int .i64 d) := ((kY.far (p := ⟨gx, 6, none⟩) (by simp only; omega) (.int .i64 pw)).cell 5)
          have g5b : (W.setCell ⟨gx, 6, none⟩ (.int .i64 pw)).frozen? ⟨gy, 5, none⟩ = false := ((kY.far (p := ⟨gx, 6, none⟩) (by simp only; omega) (.int .i64 pw)).free 5)
          have KX : Hid (Blk ((W.setCell ⟨gx, 6, none⟩ (.int .i64 pw)).setCell ⟨gy, 5, none⟩ (.int .i64 pd)) gx 90 #[.int .i64 a, .int .i64 b, .int .i64 x, .int .i64 y, .int .i64 z, .int .i64 d, .int .i64 pw]) := Lib.hid ((kX.set 6 _).far (p := ⟨gy, 5, none⟩) (by simp only; omega) _)
          have KY : Hid (Blk ((W.setCell ⟨gx, 6, none⟩ (.int .i64 pw)).setCell ⟨gy, 5, none⟩ (.int .i64 pd)) gy 90 #[.int .i64 a, .int .i64 b, .int .i64 x, .int .i64 y, .int .i64 z, .int .i64 pd, .int .i64 ww]) := Lib.hid ((kY.far (p := ⟨gx, 6, none⟩) (by simp only; omega) _).set 5 _)
          clear kX kY y5 g5
          go_upto_region 17 with (fail)
          clear y4 y5b g4 g5b
          have hkp : Keeps [gx, gy] W ((W.setCell ⟨gx, 6, none⟩ (.int .i64 pw)).setCell ⟨gy, 5, none⟩ (.int .i64 pd)) := ((Keeps.refl [gx, gy] W).setCell (.inl (by simp)) _).setCell (.inl (by simp)) _
          replace HA := Lib.hid (ownsRow_keeps HA.out hkp (fun g hg hl => by have := HLA.out g hg; simp at hl; omega))
          replace HB := Lib.hid (ownsRow_keeps HB.out hkp (fun g hg hl => by have := HLB.out g hg; simp at hl; omega))
          replace HX := Lib.hid ((HX.out.setCell (p := ⟨gx, 6, none⟩) (by simp only; omega) (.int .i64 pw)).setCell (p := ⟨gy, 5, none⟩) (by simp only; omega) (.int .i64 pd))
          replace HP := Lib.hid (HP.out.keeps hkp (by simp; omega))
          clear hkp
          generalize (W.setCell ⟨gx, 6, none⟩ (.int .i64 pw)).setCell ⟨gy, 5, none⟩ (.int .i64 pd) = wa at KX KY HA HB HX HP ⊢
          refine scales_r17 w.heap.size k gx gy (.slice Aa k ca) (.slice Ab k cb) _ _ a b x y z d pw a b x y z pd ww wa HA.out HB.out (fun g hg => (HAB.out g hg).1) KX.out KY.out (fun hg => by simp at hg; rcases hg with hg | hg; have := HLA.out gx hg; omega; have := HLB.out gx hg; omega) (fun hg => by simp at hg; rcases hg with hg | hg; have := HLA.out gy hg; omega; have := HLB.out gy hg; omega) (by omega) HX.out.size _ _ (by simp) rfl rfl rfl rfl ?_
          intro xv0 xv1 xv2 xv3 xv4 xv5 xv6 xv7 W2 ha2 hb2 hab2 hk2
          simp only [rops, Try.f8, regOf, Option.bind_some, Nat.reduceBEq, if_true, if_false, Bool.false_eq_true, Option.getD_some, List.drop_succ_cons, List.drop_zero]
          simp only [Act.put, List.setIfInBounds_toArray, List.set_cons_succ, List.set_cons_zero]
          have HA2 := Lib.hid ha2
          have HB2 := Lib.hid hb2
          have HAB2 := Lib.hid hab2
          have HK2 := Lib.hid hk2
          clear ha2 hb2 hab2 hk2
          go_wp2
          go_roundg (n - (k + 1))
          case rel =>
            have hlow : ∀ g ∈ (Value.slice Aa k ca).ownBlock.toList ++ (Value.slice Ab k cb).ownBlock.toList, w.heap.size ≤ g ∧ g ≠ w.heap.size := fun g hg => by
              simp at hg
              rcases hg with hg | hg
              · exact ⟨(HA.out.lt g hg).1, (HAB.out g hg).2⟩
              · exact ⟨(HB.out.lt g hg).1, HBP.out g hg⟩
            have hP2 := HP.out.keeps HK2.out (fun hg => (hlow _ hg).2 rfl)
            refine ⟨k + 1, rfl, by omega, by go_num, Lib.hid ?_, Lib.hid ?_, Lib.hid (fun g hg => ⟨HAB2.out g hg, fun e => own_blk_ne HA2.out hP2 (by decide) (by rw [hg, e])⟩), Lib.hid (fun g hg e => own_blk_ne HB2.out hP2 (by decide) (by rw [hg, e])), Lib.hid hP2, Lib.hid (HK2.out.ext HX.out (fun g hg => (hlow g hg).1))⟩
            · rw [map_take_snoc HM.out, mtV_snoc]
              have := HA2.out
              rw [← HPW.out] at this
              exact this
            · rw [map_take_snoc HM.out, mtV_snoc]
              have := HB2.out
              rw [← HPD.out] at this
              exact this
          case measure => omega
        · obtain rfl : n = k := by omega
          have q2 : decide (n < n) = false := by simp
          have HTA : Hid (ms.take n = ms) := Lib.hid (List.take_of_length_le (by have := HML.out; omega))
          rw [HTA.out] at HA HB
          have HMA : Hid (MsAt wr Aa n (ms.map (heavM fz))) := Lib.hid (MsAt.of_own HA.out (by rw [List.length_map]; exact HML.out))
          have HMB : Hid (MsAt wr Ab n (ms.map (wideM fz))) := Lib.hid (MsAt.of_own HB.out (by rw [List.length_map]; exact HML.out))
          clear HA HB HAB HBP
          have HF1 : Hid (∀ j, FitQW (solP (3 * S) ms j)) := Lib.hid (fun j => FitQW.of4 (solP_fit HV.out.2.2.2 HV.out.2.2.1 (by omega) j) (by omega))
          have HF2 : Hid (∀ j, FitQW (solP (3 * S) (ms.map (heavM fz)) j)) := Lib.hid (fun j => FitQW.of4 (solP_fit HVH.out.2.2.2 HVH.out.2.2.1 (by omega) j) (by omega))
          have HF3 : Hid (∀ j, FitQW (solP (3 * S) (ms.map (wideM fz)) j)) := Lib.hid (fun j => FitQW.of4 (solP_fit HVW.out.2.2.2 HVW.out.2.2.1 (by omega) j) (by omega))
          go_wp2_with fail
          refine (solveP_ok S A n c ms _ (H.out.ext HX.out) HV.out).mono ?_
          rintro e w5 ⟨ga, rfl, _, hS, hX⟩
          replace HX := Lib.hid (HX.out.trans hX)
          replace HP := Lib.hid (HP.out.ext hX)
          have HSA : Hid (ShP RatG w5 ga 0 S (solP (3 * S) (ms))) := Lib.hid (hS.imp2 (fun j x _ h => h.good (HF1.out j)))
          replace HMA := Lib.hid (HMA.out.ext hX)
          replace HMB := Lib.hid (HMB.out.ext hX)
          clear hS hX p0 p1
          replace HMA := Lib.hid (HMA.out.ext (Ext.refl _))
          have p0 := HP.out.cell 0
          have p1 := HP.out.cell 1
          simp only [List.getElem?_toArray, List.getElem?_cons_zero, List.getElem?_cons_succ] at p0 p1
          go_wp2_with fail
          refine (solveP_ok S Aa n ca (ms.map (heavM fz)) _ HMA.out HVH.out).mono ?_
          rintro e w6 ⟨gb, rfl, _, hS, hX⟩
          replace HX := Lib.hid (HX.out.trans hX)
          replace HP := Lib.hid (HP.out.ext hX)
          have HSB : Hid (ShP RatG w6 gb 0 S (solP (3 * S) ((ms.map (heavM fz))))) := Lib.hid (hS.imp2 (fun j x _ h => h.good (HF2.out j)))
          replace HMB := Lib.hid (HMB.out.ext hX)
          replace HSA := Lib.hid (HSA.out.ext growsG hX)
          clear hS hX p0 p1
          have p0 := HP.out.cell 0
          have p1 := HP.out.cell 1
          simp only [List.getElem?_toArray, List.getElem?_cons_zero, List.getElem?_cons_succ] at p0 p1
          go_wp2_with fail
          refine (solveP_ok S Ab n cb (ms.map (wideM fz)) _ HMB.out HVW.out).mono ?_
          rintro e w7 ⟨gc, rfl, _, hS, hX⟩
          replace HX := Lib.hid (HX.out.trans hX)
          replace HP := Lib.hid (HP.out.ext hX)
          have HSC : Hid (ShP RatG w7 gc 0 S (solP (3 * S) ((ms.map (wideM fz))))) := Lib.hid (hS.imp2 (fun j x _ h => h.good (HF3.out j)))
          replace HSA := Lib.hid (HSA.out.ext growsG hX)
          replace HSB := Lib.hid (HSB.out.ext growsG hX)
          clear hS hX p0 p1
          have p0 := HP.out.cell 0
          simp only [List.getElem?_toArray, List.getElem?_cons_zero] at p0
          go_wp2_with fail
          clear p0
          go_loopg [19] S (fun fu iv wy => ∃ s : Nat, fu = S - s ∧ s ≤ S ∧ iv = .int .i64 (s : Int) ∧ Hid (Ext w7 wy))
          case atStart => exact ⟨0, by omega, by omega, rfl, Lib.hid (Ext.refl _)⟩
          case round =>
            obtain ⟨s, rfl, hs, rfl, HXL⟩ := hrel
            have p0 := (HP.out.ext HXL.out).cell 0
            simp only [List.getElem?_toArray, List.getElem?_cons_zero] at p0
            by_cases hsS : s < S
            · have q3 : decide (s < S) = true := decide_eq_true hsS
              go_wp2_with fail
              clear p0
              go_loopg [20] 3 (fun fu iv wx => ∃ k : Nat, fu = 3 - k ∧ k ≤ 3 ∧ iv = .int .i64 (k : Int) ∧ Hid (Ext w7 wx))
              case atStart => exact ⟨0, rfl, by omega, rfl, HXL⟩
              case round =>
                clear HXL
                obtain ⟨k, rfl, hk, rfl, HXL⟩ := hrel
                by_cases hk3 : k < 3
                · have q4 : decide ((k : Int) < 3) = true := decide_eq_true (by omega)
                  have hk3z : (k : Int) < 3 := by omega
                  obtain ⟨su, Au, lu, cu, Bu, mu, ku, x0, x1, x2, hx⟩ := (HSA.out.ext growsG HXL.out) s k hsS hk3
                  simp only [Nat.zero_add] at x0 x1 x2
                  have HXV := Lib.hid hx
                  clear hx
                  have HFW : Hid (FitQW (fz * solP (3 * S) ms (3 * s + k))) := Lib.hid (by have := HF3.out (3 * s + k); rw [show ms.map (wideM fz) = ms.map (fun m => { m with d := m.d * fz }) from rfl, solP_wide] at this; exact this)
                  go_wp2_with fail
                  refine (times_any HXV.out ⟨hfz1, hfz9⟩ HFW.out).mono ?_
                  rintro e w8 ⟨v8, rfl, hv, hX⟩
                  obtain ⟨st, At, lt, ct, Bt, mt, kt, rfl⟩ := RatG.open hv
                  replace HXL := Lib.hid (HXL.out.trans hX)
                  have HTV := Lib.hid hv
                  clear hv hX x0 x1 x2 HXV
                  go_upto_region 30 with (fail)
                  have hXa : Ext w8 (w8.alloc (.cells #[.bool st, .slice At lt ct, .slice Bt mt kt] 97)) := (Ext.refl _).alloc _
                  have kT := Blk.new w8 97 #[.bool st, .slice At lt ct, .slice Bt mt kt]
                  replace HXL := Lib.hid (HXL.out.trans hXa)
                  replace HTV := Lib.hid (HTV.out.ext hXa)
                  clear hXa
                  generalize w8.heap.size = gt at kT ⊢
                  generalize w8.alloc (.cells #[.bool st, .slice At lt ct, .slice Bt mt kt] 97) = w9 at kT HXL HTV ⊢
                  have KT := Lib.hid kT
                  clear kT
                  obtain ⟨su, Au, lu, cu, Bu, mu, ku, x0, x1, x2, hx⟩ := (HSA.out.ext growsG HXL.out) s k hsS hk3
                  simp only [Nat.zero_add] at x0 x1 x2
                  have HXA := Lib.hid hx
                  clear hx
                  obtain ⟨se, Ae, le, ce, Be, me, ke, y0, y1, y2, hx⟩ := (HSB.out.ext growsG HXL.out) s k hsS hk3
                  simp only [Nat.zero_add] at y0 y1 y2
                  rw [show ms.map (heavM fz) = ms.map (fun m => { m with w := m.w * fz }) from rfl, solP_heavy (by omega)] at hx
                  have HXB := Lib.hid hx
                  clear hx
                  obtain ⟨sf, Af, lf, cf, Bf, mf, kf, v0, v1, v2, hx⟩ := (HSC.out.ext growsG HXL.out) s k hsS hk3
                  simp only [Nat.zero_add] at v0 v1 v2
                  rw [show ms.map (wideM fz) = ms.map (fun m => { m with d := m.d * fz }) from rfl, solP_wide] at hx
                  have HXC := Lib.hid hx
                  clear hx
                  refine scales_r30 ga gb gc gt S s k su Au Bu lu cu mu ku se Ae Be le ce me ke st At Bt lt ct mt kt sf Af Bf lf cf mf kf _ _ w9 x0 x1 x2 y0 y1 y2 (KT.out.cell 0) (KT.out.cell 1) (KT.out.cell 2) v0 v1 v2 HXA.out HXB.out HTV.out HXC.out hsS hk3z hk3 _ _ (by simp) rfl rfl rfl rfl rfl rfl rfl ?_
                  rintro xv0 xv1 xv2 xv3 xv4 xv5 xv6 xv7 xv8 xv9 xv10 xv11 xv12 xv13 xv14 xv15 xv16 xv17 xv18 xv19 xv20 xv21 xv22 xv23 xv24 xv25 xv26 xv27 xv28 W rfl rfl rfl rfl rfl rfl rfl rfl rfl rfl rfl rfl rfl rfl rfl rfl rfl rfl rfl rfl rfl rfl rfl rfl rfl rfl rfl rfl rfl hX
                  simp only [rops, Try.f8, regOf, Option.bind_some, Nat.reduceBEq, if_true, if_false, Bool.false_eq_true, Option.getD_some, List.drop_succ_cons, List.drop_zero]
                  simp only [Act.put, List.setIfInBounds_toArray, List.set_cons_succ, List.set_cons_zero]
                  replace HXL := Lib.hid (HXL.out.trans hX)
                  clear hX x0 x1 x2 y0 y1 y2 v0 v1 v2
                  go_wp2
                  go_roundg (3 - (k + 1))
                  case rel => exact ⟨k + 1, rfl, by omega, by go_num, HXL⟩
                  case measure => omega
                · obtain rfl : k = 3 := by omega
                  have q4 : decide (((3 : Nat) : Int) < 3) = false := by decide
                  go_wp2
                  go_roundg (S - (s + 1))
                  case rel => exact ⟨s + 1, rfl, by omega, by go_num, HXL⟩
                  case measure => omega
            · obtain rfl : S = s := by omega
              have q3 : decide (S < S) = false := by simp
              replace HX := Lib.hid (HX.out.trans HXL.out)
              go_wp2_with fail
              refine (first_any _).mono ?_
              rintro e w11 ⟨rfl, hX⟩
              replace HX := Lib.hid (HX.out.trans hX)
              clear hX
              go_wp2
              go_ret
              exact ⟨rfl, HX.out⟩
          

set_option maxRecDepth 100000 in
set_option maxHeartbeats 4000000 in
theorem scales_no (S : Int) (A : Option Addr) (n c mo : Nat) (ms : List Mt) (w : World) (h : MsAt w A n ms) (hmo : mo ≤ 255) (hsm : smB S ms = false) :
    Calls Try.prog 8 #[.agg #[.int .i64 S, .slice A n c], .int .u8 (mo : Int)] w (fun e w' => e = .returned (.bool true) ∧ Ext w w') := by
  have H := Lib.hid h
  have HSM := Lib.hid hsm
  have HX := Lib.hid ((Ext.refl w).alloc (.cells #[.int .i64 S, .slice A n c] 76))
  have HP := Lib.hid (Blk.new w 76 #[.int .i64 S, .slice A n c])
  obtain ⟨k9, hk9⟩ : ∃ k9, mo % 9 = k9 := ⟨_, rfl⟩
  have hrem : (mo : Int).tmod 9 = (k9 : Int) := by rw [Int.tmod_eq_emod_of_nonneg (by omega)]; omega
  have hmow : IntKind.i64.wrap (mo : Int) = (mo : Int) := IntWalk.i64_in _ (by omega)
  have hk9w : IntKind.i64.wrap (k9 : Int) = (k9 : Int) := IntWalk.i64_in _ (by omega)
  have hfzw : IntKind.i64.wrap (1 + (k9 : Int)) = 1 + (k9 : Int) := IntWalk.i64_in _ (by omega)
  clear h hsm hk9
  go_enter Try.func8, Try.ntmps8
  go_upto_region 1 with (fail)
  generalize w.alloc (.cells #[.int .i64 S, .slice A n c] 76) = w1 at HX HP ⊢
  have p0 := HP.out.cell 0
  have p1 := HP.out.cell 1
  simp only [List.getElem?_toArray, List.getElem?_cons_zero, List.getElem?_cons_succ] at p0 p1
  go_upto_region 2 with (fail)
  clear hrem hmow hk9w hfzw
  go_wp2_with fail
  refine (small_any5 S A n c ms _ (H.out.ext HX.out)).mono ?_
  rw [HSM.out]
  rintro e w2 ⟨rfl, hX⟩
  replace HX := Lib.hid (HX.out.trans hX)
  clear hX p0 p1
  go_wp2_with fail
  refine (first_any _).mono ?_
  rintro e w3 ⟨rfl, hX⟩
  replace HX := Lib.hid (HX.out.trans hX)
  clear hX
  go_wp2
  go_ret
  exact ⟨rfl, HX.out⟩
theorem stripScales_walk (S : Int) (A : Option Addr) (n c : Nat) (ms : List Mt) (mo : Int) (w : World) (h : MsAt w A n ms) (h0 : 0 ≤ mo) (h1 : mo ≤ 255) :
    Calls Try.prog 8 #[.agg #[.int .i64 S, .slice A n c], .int .u8 mo] w (fun e w' => e = .returned (.bool true) ∧ Ext w w') := by
  obtain ⟨mm, rfl⟩ : ∃ mm : Nat, mo = mm := ⟨mo.toNat, by omega⟩
  by_cases hs : smB S ms = true
  · obtain ⟨⟨h1, h2⟩, hv⟩ := smB_iff.1 hs
    obtain ⟨s, rfl⟩ : ∃ s : Nat, S = s := ⟨S.toNat, by have := hv.1; omega⟩
    exact scales_walk s A n c mm ms w h hv (by have := h.1; omega) (by omega) hs
  · exact scales_no S A n c mm ms w h (by omega) (by simpa using hs)
end Go.Proofs.Ytikhlcgnlbinfaa
