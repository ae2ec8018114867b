/- Lemmas of the proof that follows (Order, part 12): walks of functions by contract, and plain lemmas. Conditions: none. -/
import Derived.Test.YtikhlcgnlbinfaaOrderK
namespace Go.Proofs.Ytikhlcgnlbinfaa
open Go.RowKit

theorem elMt : Elem Try.prog 74 90 7 56 (.agg #[.int .i64 0, .int .i64 0, .int .i64 0, .int .i64 0, .int .i64 0, .int .i64 0, .int .i64 0]) := Elem.mk' (by kernel_rfl) (by kernel_rfl) rfl (by decide)
theorem flip_valid {S : Int} {m : Mt} (h : VM S m) (hb : 0 ≤ m.b) : VM S (flipM m) := by
  have := h.x1; have := h.x2; have := h.y1; have := h.y2; have := h.z1; have := h.z2; have := h.a0
  exact ⟨hb, h.bS, by simp only [flipM]; omega, h.aS, h.ne.symm, fun e => h.nz (by simp only [flipM] at e; omega), by simp only [flipM]; omega, by simp only [flipM]; omega, by simp only [flipM]; omega, by simp only [flipM]; omega, by simp only [flipM]; omega, by simp only [flipM]; omega, h.d1, h.d2, h.w1, h.w2⟩
/-- The matches in the other order. -/
def ordM (f : Int) (tt : Nat) (ms : List Mt) (i : Nat) : Mt := if (bits .and .u16 (f / 2 ^ (i % 16)) 1 == 1) && decide (0 ≤ (mtAt ms ((i + tt) % ms.length)).b) then flipM (mtAt ms ((i + tt) % ms.length)) else mtAt ms ((i + tt) % ms.length)
def ordL (f : Int) (tt : Nat) (ms : List Mt) (k : Nat) : List Mt := (List.range k).map (ordM f tt ms)
theorem ordL_succ (f : Int) (tt : Nat) (ms : List Mt) (k : Nat) : ordL f tt ms (k + 1) = ordL f tt ms k ++ [ordM f tt ms k] := by unfold ordL; rw [List.range_succ, List.map_append]; rfl
theorem ordL_len (f : Int) (tt : Nat) (ms : List Mt) (k : Nat) : (ordL f tt ms k).length = k := by unfold ordL; simp
theorem ordM_alike {f : Int} {tt : Nat} {ms : List Mt} {S : Int} (h : ∀ m ∈ ms, VM S m) {i : Nat} (hi : 0 < ms.length) : AlikeM (ordM f tt ms i) (mtAt ms ((i + tt) % ms.length)) ∧ VM S (ordM f tt ms i) := by
  have hm := h _ (mtAt_mem (ms := ms) (i := (i + tt) % ms.length) (Nat.mod_lt _ hi))
  unfold ordM
  split
  · rename_i hc
    simp only [Bool.and_eq_true, decide_eq_true_eq] at hc
    exact ⟨flip_alike hm.ne, flip_valid hm hc.2⟩
  · exact ⟨⟨rfl, rfl, fun _ => rfl⟩, hm⟩
theorem ordL_vp {f : Int} {tt : Nat} {ms : List Mt} {S : Int} (h : VP S ms) : VP S (ordL f tt ms ms.length) := by
  refine ⟨h.1, h.2.1, by rw [ordL_len]; exact h.2.2.1, fun m hm => ?_⟩
  obtain ⟨i, hi, rfl⟩ := List.mem_map.1 hm
  exact (ordM_alike h.2.2.2 (by have := List.mem_range.1 hi; omega)).2
theorem ordL_eq {f : Int} {tt : Nat} {ms : List Mt} {S : Int} (h : VP S ms) : (∀ i j, eqN (ordL f tt ms ms.length) i j = eqN ms i j) ∧ (∀ i, eqR (ordL f tt ms ms.length) i = eqR ms i) ∧ ∀ n u, misfit n (ordL f tt ms ms.length) u = misfit n ms u := by
  have ha : ∀ x ∈ List.range ms.length, AlikeM (ordM f tt ms x) (mtAt ms ((x + tt) % ms.length)) := fun x hx => (ordM_alike h.2.2.2 (by have := List.mem_range.1 hx; omega)).1
  have hp := turn_perm ms tt
  refine ⟨fun i j => ?_, fun i => ?_, fun n u => ?_⟩
  · rw [ordL, alike_eqN ha, eqN_perm hp]
  · rw [ordL, alike_eqR ha, eqR_perm hp]
  · rw [ordL, alike_misfit ha]
    unfold misfit
    exact sumM_perm hp _
theorem mtAt_some {ms : List Mt} {i : Nat} {m : Mt} (h : ms[i]? = some m) : mtAt ms i = m := by unfold mtAt; rw [h]; rfl

set_option maxRecDepth 100000 in
set_option maxHeartbeats 2000000 in
theorem order_r7 (gp gq oq nn cc kk tt jj : Nat) (ma mb mx my mz md mw : Int) (w : World) (v0 : w.cell? ⟨gq, oq + jj * 7, none⟩ = some (.int .i64 (ma))) (v1 : w.cell? ⟨gq, oq + jj * 7 + 1, none⟩ = some (.int .i64 (mb))) (v2 : w.cell? ⟨gq, oq + jj * 7 + 2, none⟩ = some (.int .i64 (mx))) (v3 : w.cell? ⟨gq, oq + jj * 7 + 3, none⟩ = some (.int .i64 (my))) (v4 : w.cell? ⟨gq, oq + jj * 7 + 4, none⟩ = some (.int .i64 (mz))) (v5 : w.cell? ⟨gq, oq + jj * 7 + 5, none⟩ = some (.int .i64 (md))) (v6 : w.cell? ⟨gq, oq + jj * 7 + 6, none⟩ = some (.int .i64 (mw))) (p1 : w.cell? ⟨gp, 1, none⟩ = some (.slice (some ⟨gq, oq, none⟩) nn cc)) (hjn : jj < nn) (hn0 : ((nn : Int) == 0) = false) (hn1 : (nn : Int) ≠ 0) (hn2 : ¬ nn = 0) (hkk : kk ≤ 1000) (htt : tt ≤ 255) (hmod : ((kk : Int) + (tt : Int)).tmod (nn : Int) = (jj : Int)) (hmw : IntKind.i64.wrap (jj : Int) = (jj : Int)) (a : Act) (Q : Exit → Act → World → Prop) (hsize : 44 ≤ a.tmps.size)
    (s1 : a.tmps[1]? = some (.int .u8 (tt : Int)))
    (s3 : a.tmps[3]? = some (.pointer (some ⟨gp, 0, none⟩)))
    (s8 : a.tmps[8]? = some (.int .i64 (kk : Int)))
    (hend : ∀ (xv0 xv1 xv2 xv3 xv4 xv5 xv6 xv7 xv8 xv9 xv10 xv11 xv12 xv13 : Value) (W : World), (xv0 = .pointer (some ⟨gp, 1, none⟩)) → (xv1 = .slice (some ⟨gq, oq, none⟩) nn cc) → (xv2 = .int .i64 (kk : Int)) → (xv3 = .int .u8 (tt : Int)) → (xv4 = .int .i64 (tt : Int)) → (xv5 = .int .i64 ((kk : Int) + (tt : Int))) → (xv6 = .pointer (some ⟨gp, 1, none⟩)) → (xv7 = .slice (some ⟨gq, oq, none⟩) nn cc) → (xv8 = .int .i64 (nn : Int)) → (xv9 = .int .i64 (jj : Int)) → (xv10 = .pointer (some ⟨gq, oq + jj * 7, none⟩)) → (xv11 = .agg #[.int .i64 (ma), .int .i64 (mb), .int .i64 (mx), .int .i64 (my), .int .i64 (mz), .int .i64 (md), .int .i64 (mw)]) → (∃ g, xv12 = .pointer (some ⟨g, 0, none⟩) ∧ w.heap.size ≤ g ∧ Blk W g 90 #[.int .i64 (ma), .int .i64 (mb), .int .i64 (mx), .int .i64 (my), .int .i64 (mz), .int .i64 (md), .int .i64 (mw)]) → Ext w W → wpList Try.prog (rops Try.f5 7).toArray Q [] ((((((((((((((a.put (some 32) xv0).put (some 33) xv1).put (some 34) xv2).put (some 35) xv3).put (some 36) xv4).put (some 37) xv5).put (some 38) xv6).put (some 39) xv7).put (some 40) xv8).put (some 41) xv9).put (some 42) xv10).put (some 43) xv11).put (some 9) xv12).put (none) xv13) W) :
    (Code.region 7 (rops Try.f5 7).toArray true).wp Try.prog Q a w := by
  have hsz : ∀ d, some d ∈ ([some 32, some 33, some 34, some 35, some 36, some 37, some 38, some 39, some 40, some 41, some 42, some 43, some 9, none] : List (Option Tmp)) → d < a.tmps.size := slots_lt (by decide) hsize
  refine wp_region_g 14 [some 32, some 33, some 34, some 35, some 36, some 37, some 38, some 39, some 40, some 41, some 42, some 43, some 9, none] [[], [0], [], [], [3], [2, 4], [], [6], [7], [5, 8], [1, 9], [10], [], [11, 12]] [[], [], [], [], [], [], [], [], [], [], [], [], [13], []] (fun (done : Nat → Prop) (us : Nat → Value) (W : World) => Ext w W ∧ (done 0 → us 0 = .pointer (some ⟨gp, 1, none⟩)) ∧ (done 1 → us 1 = .slice (some ⟨gq, oq, none⟩) nn cc) ∧ (done 2 → us 2 = .int .i64 (kk : Int)) ∧ (done 3 → us 3 = .int .u8 (tt : Int)) ∧ (done 4 → us 4 = .int .i64 (tt : Int)) ∧ (done 5 → us 5 = .int .i64 ((kk : Int) + (tt : Int))) ∧ (done 6 → us 6 = .pointer (some ⟨gp, 1, none⟩)) ∧ (done 7 → us 7 = .slice (some ⟨gq, oq, none⟩) nn cc) ∧ (done 8 → us 8 = .int .i64 (nn : Int)) ∧ (done 9 → us 9 = .int .i64 (jj : Int)) ∧ (done 10 → us 10 = .pointer (some ⟨gq, oq + jj * 7, none⟩)) ∧ (done 11 → us 11 = .agg #[.int .i64 (ma), .int .i64 (mb), .int .i64 (mx), .int .i64 (my), .int .i64 (mz), .int .i64 (md), .int .i64 (mw)]) ∧ Loc w W 90 #[.int .i64 (0), .int .i64 (0), .int .i64 (0), .int .i64 (0), .int .i64 (0), .int .i64 (0), .int .i64 (0)] #[.int .i64 (ma), .int .i64 (mb), .int .i64 (mx), .int .i64 (my), .int .i64 (mz), .int .i64 (md), .int .i64 (mw)] (done 12) (done 13) (us 12)) (by kernel_rfl) (by kernel_rfl) hsz (fun p q us W h => by have e : p = q := funext fun k => propext (h k); rw [e]; exact id) (fun us => ⟨(Ext.refl w).drew, fun h => h.elim, fun h => h.elim, fun h => h.elim, fun h => h.elim, fun h => h.elim, fun h => h.elim, fun h => h.elim, fun h => h.elim, fun h => h.elim, fun h => h.elim, fun h => h.elim, fun h => h.elim, Loc.unmade id⟩) ?_ ?_
  · clear hend
    simp only [rops, Try.f5, regOf, Option.bind_some, Nat.reduceBEq, if_true, if_false, Bool.false_eq_true, Option.getD_some]
    simp only [List.take_succ_cons, List.take_zero]
    refine ⟨?_, ?_, ?_, ?_, ?_, ?_, ?_, ?_, ?_, ?_, ?_, ?_, ?_, ?_, trivial⟩
    · intro done us W hJ hdep haft hnot b hb hb' K hK Q'
      obtain ⟨hX0, cc0, cc1, cc2, cc3, cc4, cc5, cc6, cc7, cc8, cc9, cc10, cc11, ll12⟩ := hJ
      have e3 := (hb' 3 (by simp)).trans s3
      clear hb hb'
      have hfin := hK (.pointer (some ⟨gp, 1, none⟩)) _ ⟨hX0, fun _ => rfl, fun h => cc1 (h.resolve_right (by decide)), fun h => cc2 (h.resolve_right (by decide)), fun h => cc3 (h.resolve_right (by decide)), fun h => cc4 (h.resolve_right (by decide)), fun h => cc5 (h.resolve_right (by decide)), fun h => cc6 (h.resolve_right (by decide)), fun h => cc7 (h.resolve_right (by decide)), fun h => cc8 (h.resolve_right (by decide)), fun h => cc9 (h.resolve_right (by decide)), fun h => cc10 (h.resolve_right (by decide)), fun h => cc11 (h.resolve_right (by decide)), Loc.same ll12 ⟨fun h => h.resolve_right (by decide), .inl⟩ ⟨fun h => h.resolve_right (by decide), .inl⟩⟩
      clear hK cc0 cc1 cc2 cc3 cc4 cc5 cc6 cc7 cc8 cc9 cc10 cc11 ll12
      go_simp
      exact hfin
    · intro done us W hJ hdep haft hnot b hb hb' K hK Q'
      obtain ⟨hX0, cc0, cc1, cc2, cc3, cc4, cc5, cc6, cc7, cc8, cc9, cc10, cc11, ll12⟩ := hJ
      simp only [List.getD_cons_succ, List.getD_cons_zero, List.mem_cons, List.not_mem_nil, or_false, forall_eq] at hdep
      have e32 := hb 0 32 rfl
      rw [cc0 hdep] at e32
      clear hb hb'
      have q0 := Ext.cell hX0 p1
      have hfin := hK (.slice (some ⟨gq, oq, none⟩) nn cc) _ ⟨hX0, fun h => cc0 (h.resolve_right (by decide)), fun _ => rfl, fun h => cc2 (h.resolve_right (by decide)), fun h => cc3 (h.resolve_right (by decide)), fun h => cc4 (h.resolve_right (by decide)), fun h => cc5 (h.resolve_right (by decide)), fun h => cc6 (h.resolve_right (by decide)), fun h => cc7 (h.resolve_right (by decide)), fun h => cc8 (h.resolve_right (by decide)), fun h => cc9 (h.resolve_right (by decide)), fun h => cc10 (h.resolve_right (by decide)), fun h => cc11 (h.resolve_right (by decide)), Loc.same ll12 ⟨fun h => h.resolve_right (by decide), .inl⟩ ⟨fun h => h.resolve_right (by decide), .inl⟩⟩
      clear hK cc0 cc1 cc2 cc3 cc4 cc5 cc6 cc7 cc8 cc9 cc10 cc11 ll12
      go_simp
      exact hfin
    · intro done us W hJ hdep haft hnot b hb hb' K hK Q'
      obtain ⟨hX0, cc0, cc1, cc2, cc3, cc4, cc5, cc6, cc7, cc8, cc9, cc10, cc11, ll12⟩ := hJ
      have e8 := (hb' 8 (by simp)).trans s8
      clear hb hb'
      have hfin := hK (.int .i64 (kk : Int)) _ ⟨hX0, fun h => cc0 (h.resolve_right (by decide)), fun h => cc1 (h.resolve_right (by decide)), fun _ => rfl, fun h => cc3 (h.resolve_right (by decide)), fun h => cc4 (h.resolve_right (by decide)), fun h => cc5 (h.resolve_right (by decide)), fun h => cc6 (h.resolve_right (by decide)), fun h => cc7 (h.resolve_right (by decide)), fun h => cc8 (h.resolve_right (by decide)), fun h => cc9 (h.resolve_right (by decide)), fun h => cc10 (h.resolve_right (by decide)), fun h => cc11 (h.resolve_right (by decide)), Loc.same ll12 ⟨fun h => h.resolve_right (by decide), .inl⟩ ⟨fun h => h.resolve_right (by decide), .inl⟩⟩
      clear hK cc0 cc1 cc2 cc3 cc4 cc5 cc6 cc7 cc8 cc9 cc10 cc11 ll12
      go_simp
      exact hfin
    · intro done us W hJ hdep haft hnot b hb hb' K hK Q'
      obtain ⟨hX0, cc0, cc1, cc2, cc3, cc4, cc5, cc6, cc7, cc8, cc9, cc10, cc11, ll12⟩ := hJ
      have e1 := (hb' 1 (by simp)).trans s1
      clear hb hb'
      have hfin := hK (.int .u8 (tt : Int)) _ ⟨hX0, fun h => cc0 (h.resolve_right (by decide)), fun h => cc1 (h.resolve_right (by decide)), fun h => cc2 (h.resolve_right (by decide)), fun _ => rfl, fun h => cc4 (h.resolve_right (by decide)), fun h => cc5 (h.resolve_right (by decide)), fun h => cc6 (h.resolve_right (by decide)), fun h => cc7 (h.resolve_right (by decide)), fun h => cc8 (h.resolve_right (by decide)), fun h => cc9 (h.resolve_right (by decide)), fun h => cc10 (h.resolve_right (by decide)), fun h => cc11 (h.resolve_right (by decide)), Loc.same ll12 ⟨fun h => h.resolve_right (by decide), .inl⟩ ⟨fun h => h.resolve_right (by decide), .inl⟩⟩
      clear hK cc0 cc1 cc2 cc3 cc4 cc5 cc6 cc7 cc8 cc9 cc10 cc11 ll12
      go_simp
      exact hfin
    · intro done us W hJ hdep haft hnot b hb hb' K hK Q'
      obtain ⟨hX0, cc0, cc1, cc2, cc3, cc4, cc5, cc6, cc7, cc8, cc9, cc10, cc11, ll12⟩ := hJ
      simp only [List.getD_cons_succ, List.getD_cons_zero, List.mem_cons, List.not_mem_nil, or_false, forall_eq] at hdep
      have e35 := hb 3 35 rfl
      rw [cc3 hdep] at e35
      clear hb hb'
      have qw : IntKind.i64.wrap (tt : Int) = (tt : Int) := IntWalk.i64_in _ (by omega)
      have hfin := hK (.int .i64 (tt : Int)) _ ⟨hX0, fun h => cc0 (h.resolve_right (by decide)), fun h => cc1 (h.resolve_right (by decide)), fun h => cc2 (h.resolve_right (by decide)), fun h => cc3 (h.resolve_right (by decide)), fun _ => rfl, fun h => cc5 (h.resolve_right (by decide)), fun h => cc6 (h.resolve_right (by decide)), fun h => cc7 (h.resolve_right (by decide)), fun h => cc8 (h.resolve_right (by decide)), fun h => cc9 (h.resolve_right (by decide)), fun h => cc10 (h.resolve_right (by decide)), fun h => cc11 (h.resolve_right (by decide)), Loc.same ll12 ⟨fun h => h.resolve_right (by decide), .inl⟩ ⟨fun h => h.resolve_right (by decide), .inl⟩⟩
      clear hK cc0 cc1 cc2 cc3 cc4 cc5 cc6 cc7 cc8 cc9 cc10 cc11 ll12
      go_simp
      exact hfin
    · intro done us W hJ hdep haft hnot b hb hb' K hK Q'
      obtain ⟨hX0, cc0, cc1, cc2, cc3, cc4, cc5, cc6, cc7, cc8, cc9, cc10, cc11, ll12⟩ := hJ
      simp only [List.getD_cons_succ, List.getD_cons_zero, List.mem_cons, List.not_mem_nil, or_false, forall_eq_or_imp, forall_eq] at hdep
      have e34 := hb 2 34 rfl
      rw [cc2 hdep.1] at e34
      have e36 := hb 4 36 rfl
      rw [cc4 hdep.2] at e36
      clear hb hb'
      have qw : IntKind.i64.wrap ((kk : Int) + (tt : Int)) = (kk : Int) + (tt : Int) := IntWalk.i64_in _ (by omega)
      have hfin := hK (.int .i64 ((kk : Int) + (tt : Int))) _ ⟨hX0, fun h => cc0 (h.resolve_right (by decide)), fun h => cc1 (h.resolve_right (by decide)), fun h => cc2 (h.resolve_right (by decide)), fun h => cc3 (h.resolve_right (by decide)), fun h => cc4 (h.resolve_right (by decide)), fun _ => rfl, fun h => cc6 (h.resolve_right (by decide)), fun h => cc7 (h.resolve_right (by decide)), fun h => cc8 (h.resolve_right (by decide)), fun h => cc9 (h.resolve_right (by decide)), fun h => cc10 (h.resolve_right (by decide)), fun h => cc11 (h.resolve_right (by decide)), Loc.same ll12 ⟨fun h => h.resolve_right (by decide), .inl⟩ ⟨fun h => h.resolve_right (by decide), .inl⟩⟩
      clear hK cc0 cc1 cc2 cc3 cc4 cc5 cc6 cc7 cc8 cc9 cc10 cc11 ll12
      go_simp
      exact hfin
    · intro done us W hJ hdep haft hnot b hb hb' K hK Q'
      obtain ⟨hX0, cc0, cc1, cc2, cc3, cc4, cc5, cc6, cc7, cc8, cc9, cc10, cc11, ll12⟩ := hJ
      have e3 := (hb' 3 (by simp)).trans s3
      clear hb hb'
      have hfin := hK (.pointer (some ⟨gp, 1, none⟩)) _ ⟨hX0, fun h => cc0 (h.resolve_right (by decide)), fun h => cc1 (h.resolve_right (by decide)), fun h => cc2 (h.resolve_right (by decide)), fun h => cc3 (h.resolve_right (by decide)), fun h => cc4 (h.resolve_right (by decide)), fun h => cc5 (h.resolve_right (by decide)), fun _ => rfl, fun h => cc7 (h.resolve_right (by decide)), fun h => cc8 (h.resolve_right (by decide)), fun h => cc9 (h.resolve_right (by decide)), fun h => cc10 (h.resolve_right (by decide)), fun h => cc11 (h.resolve_right (by decide)), Loc.same ll12 ⟨fun h => h.resolve_right (by decide), .inl⟩ ⟨fun h => h.resolve_right (by decide), .inl⟩⟩
      clear hK cc0 cc1 cc2 cc3 cc4 cc5 cc6 cc7 cc8 cc9 cc10 cc11 ll12
      go_simp
      exact hfin
    · intro done us W hJ hdep haft hnot b hb hb' K hK Q'
      obtain ⟨hX0, cc0, cc1, cc2, cc3, cc4, cc5, cc6, cc7, cc8, cc9, cc10, cc11, ll12⟩ := hJ
      simp only [List.getD_cons_succ, List.getD_cons_zero, List.mem_cons, List.not_mem_nil, or_false, forall_eq] at hdep
      have e38 := hb 6 38 rfl
      rw [cc6 hdep] at e38
      clear hb hb'
      have q0 := Ext.cell hX0 p1
      have hfin := hK (.slice (some ⟨gq, oq, none⟩) nn cc) _ ⟨hX0, fun h => cc0 (h.resolve_right (by decide)), fun h => cc1 (h.resolve_right (by decide)), fun h => cc2 (h.resolve_right (by decide)), fun h => cc3 (h.resolve_right (by decide)), fun h => cc4 (h.resolve_right (by decide)), fun h => cc5 (h.resolve_right (by decide)), fun h => cc6 (h.resolve_right (by decide)), fun _ => rfl, fun h => cc8 (h.resolve_right (by decide)), fun h => cc9 (h.resolve_right (by decide)), fun h => cc10 (h.resolve_right (by decide)), fun h => cc11 (h.resolve_right (by decide)), Loc.same ll12 ⟨fun h => h.resolve_right (by decide), .inl⟩ ⟨fun h => h.resolve_right (by decide), .inl⟩⟩
      clear hK cc0 cc1 cc2 cc3 cc4 cc5 cc6 cc7 cc8 cc9 cc10 cc11 ll12
      go_simp
      exact hfin
    · intro done us W hJ hdep haft hnot b hb hb' K hK Q'
      obtain ⟨hX0, cc0, cc1, cc2, cc3, cc4, cc5, cc6, cc7, cc8, cc9, cc10, cc11, ll12⟩ := hJ
      simp only [List.getD_cons_succ, List.getD_cons_zero, List.mem_cons, List.not_mem_nil, or_false, forall_eq] at hdep
      have e39 := hb 7 39 rfl
      rw [cc7 hdep] at e39
      clear hb hb'
      have hfin := hK (.int .i64 (nn : Int)) _ ⟨hX0, fun h => cc0 (h.resolve_right (by decide)), fun h => cc1 (h.resolve_right (by decide)), fun h => cc2 (h.resolve_right (by decide)), fun h => cc3 (h.resolve_right (by decide)), fun h => cc4 (h.resolve_right (by decide)), fun h => cc5 (h.resolve_right (by decide)), fun h => cc6 (h.resolve_right (by decide)), fun h => cc7 (h.resolve_right (by decide)), fun _ => rfl, fun h => cc9 (h.resolve_right (by decide)), fun h => cc10 (h.resolve_right (by decide)), fun h => cc11 (h.resolve_right (by decide)), Loc.same ll12 ⟨fun h => h.resolve_right (by decide), .inl⟩ ⟨fun h => h.resolve_right (by decide), .inl⟩⟩
      clear hK cc0 cc1 cc2 cc3 cc4 cc5 cc6 cc7 cc8 cc9 cc10 cc11 ll12
      go_simp
      exact hfin
    · intro done us W hJ hdep haft hnot b hb hb' K hK Q'
      obtain ⟨hX0, cc0, cc1, cc2, cc3, cc4, cc5, cc6, cc7, cc8, cc9, cc10, cc11, ll12⟩ := hJ
      simp only [List.getD_cons_succ, List.getD_cons_zero, List.mem_cons, List.not_mem_nil, or_false, forall_eq_or_imp, forall_eq] at hdep
      have e37 := hb 5 37 rfl
      rw [cc5 hdep.1] at e37
      have e40 := hb 8 40 rfl
      rw [cc8 hdep.2] at e40
      clear hb hb'
      have hfin := hK (.int .i64 (jj : Int)) _ ⟨hX0, fun h => cc0 (h.resolve_right (by decide)), fun h => cc1 (h.resolve_right (by decide)), fun h => cc2 (h.resolve_right (by decide)), fun h => cc3 (h.resolve_right (by decide)), fun h => cc4 (h.resolve_right (by decide)), fun h => cc5 (h.resolve_right (by decide)), fun h => cc6 (h.resolve_right (by decide)), fun h => cc7 (h.resolve_right (by decide)), fun h => cc8 (h.resolve_right (by decide)), fun _ => rfl, fun h => cc10 (h.resolve_right (by decide)), fun h => cc11 (h.resolve_right (by decide)), Loc.same ll12 ⟨fun h => h.resolve_right (by decide), .inl⟩ ⟨fun h => h.resolve_right (by decide), .inl⟩⟩
      clear hK cc0 cc1 cc2 cc3 cc4 cc5 cc6 cc7 cc8 cc9 cc10 cc11 ll12
      go_simp
      exact hfin
    · intro done us W hJ hdep haft hnot b hb hb' K hK Q'
      obtain ⟨hX0, cc0, cc1, cc2, cc3, cc4, cc5, cc6, cc7, cc8, cc9, cc10, cc11, ll12⟩ := hJ
      simp only [List.getD_cons_succ, List.getD_cons_zero, List.mem_cons, List.not_mem_nil, or_false, forall_eq_or_imp, forall_eq] at hdep
      have e33 := hb 1 33 rfl
      rw [cc1 hdep.1] at e33
      have e41 := hb 9 41 rfl
      rw [cc9 hdep.2] at e41
      clear hb hb'
      have hfin := hK (.pointer (some ⟨gq, oq + jj * 7, none⟩)) _ ⟨hX0, fun h => cc0 (h.resolve_right (by decide)), fun h => cc1 (h.resolve_right (by decide)), fun h => cc2 (h.resolve_right (by decide)), fun h => cc3 (h.resolve_right (by decide)), fun h => cc4 (h.resolve_right (by decide)), fun h => cc5 (h.resolve_right (by decide)), fun h => cc6 (h.resolve_right (by decide)), fun h => cc7 (h.resolve_right (by decide)), fun h => cc8 (h.resolve_right (by decide)), fun h => cc9 (h.resolve_right (by decide)), fun _ => rfl, fun h => cc11 (h.resolve_right (by decide)), Loc.same ll12 ⟨fun h => h.resolve_right (by decide), .inl⟩ ⟨fun h => h.resolve_right (by decide), .inl⟩⟩
      clear hK cc0 cc1 cc2 cc3 cc4 cc5 cc6 cc7 cc8 cc9 cc10 cc11 ll12
      go_simp
      exact hfin
    · intro done us W hJ hdep haft hnot b hb hb' K hK Q'
      obtain ⟨hX0, cc0, cc1, cc2, cc3, cc4, cc5, cc6, cc7, cc8, cc9, cc10, cc11, ll12⟩ := hJ
      simp only [List.getD_cons_succ, List.getD_cons_zero, List.mem_cons, List.not_mem_nil, or_false, forall_eq] at hdep
      have e42 := hb 10 42 rfl
      rw [cc10 hdep] at e42
      clear hb hb'
      have q0 := Ext.cell hX0 v0
      have q1 := Ext.cell hX0 v1
      have q2 := Ext.cell hX0 v2
      have q3 := Ext.cell hX0 v3
      have q4 := Ext.cell hX0 v4
      have q5 := Ext.cell hX0 v5
      have q6 := Ext.cell hX0 v6
      have hfin := hK (.agg #[.int .i64 (ma), .int .i64 (mb), .int .i64 (mx), .int .i64 (my), .int .i64 (mz), .int .i64 (md), .int .i64 (mw)]) _ ⟨hX0, fun h => cc0 (h.resolve_right (by decide)), fun h => cc1 (h.resolve_right (by decide)), fun h => cc2 (h.resolve_right (by decide)), fun h => cc3 (h.resolve_right (by decide)), fun h => cc4 (h.resolve_right (by decide)), fun h => cc5 (h.resolve_right (by decide)), fun h => cc6 (h.resolve_right (by decide)), fun h => cc7 (h.resolve_right (by decide)), fun h => cc8 (h.resolve_right (by decide)), fun h => cc9 (h.resolve_right (by decide)), fun h => cc10 (h.resolve_right (by decide)), fun _ => rfl, Loc.same ll12 ⟨fun h => h.resolve_right (by decide), .inl⟩ ⟨fun h => h.resolve_right (by decide), .inl⟩⟩
      clear hK cc0 cc1 cc2 cc3 cc4 cc5 cc6 cc7 cc8 cc9 cc10 cc11 ll12
      go_simp
      exact hfin
    · intro done us W hJ hdep haft hnot b hb hb' K hK Q'
      obtain ⟨hX0, cc0, cc1, cc2, cc3, cc4, cc5, cc6, cc7, cc8, cc9, cc10, cc11, ll12⟩ := hJ
      simp only [List.getD_cons_succ, List.getD_cons_zero, List.mem_cons, List.not_mem_nil, or_false, forall_eq_or_imp, forall_eq] at haft
      clear hb hb'
      have hfin := hK _ _ ⟨hX0.alloc _, fun h => cc0 (h.resolve_right (by decide)), fun h => cc1 (h.resolve_right (by decide)), fun h => cc2 (h.resolve_right (by decide)), fun h => cc3 (h.resolve_right (by decide)), fun h => cc4 (h.resolve_right (by decide)), fun h => cc5 (h.resolve_right (by decide)), fun h => cc6 (h.resolve_right (by decide)), fun h => cc7 (h.resolve_right (by decide)), fun h => cc8 (h.resolve_right (by decide)), fun h => cc9 (h.resolve_right (by decide)), fun h => cc10 (h.resolve_right (by decide)), fun h => cc11 (h.resolve_right (by decide)), Loc.new w W hX0 (fun h => h.elim haft (by decide)) (Ext.refl _)⟩
      clear hK hX0 cc0 cc1 cc2 cc3 cc4 cc5 cc6 cc7 cc8 cc9 cc10 cc11 ll12
      go_simp
      exact hfin
    · intro done us W hJ hdep haft hnot b hb hb' K hK Q'
      obtain ⟨hX0, cc0, cc1, cc2, cc3, cc4, cc5, cc6, cc7, cc8, cc9, cc10, cc11, ll12⟩ := hJ
      simp only [List.getD_cons_succ, List.getD_cons_zero, List.mem_cons, List.not_mem_nil, or_false, forall_eq_or_imp, forall_eq] at hdep
      have e9 := hb 12 9 rfl
      have e43 := hb 11 43 rfl
      rw [cc11 hdep.1] at e43
      obtain ⟨g, eg, hg, hB⟩ := ll12.stored hdep.2 hnot
      rw [eg] at e9
      have q0 : W.cell? ⟨g, 0, none⟩ = some (.int .i64 (0)) := hB.cell 0
      have z0 : W.frozen? ⟨g, 0, none⟩ = false := hB.free 0
      have q1 : W.cell? ⟨g, 1, none⟩ = some (.int .i64 (0)) := hB.cell 1
      have z1 : W.frozen? ⟨g, 1, none⟩ = false := hB.free 1
      have q2 : W.cell? ⟨g, 2, none⟩ = some (.int .i64 (0)) := hB.cell 2
      have z2 : W.frozen? ⟨g, 2, none⟩ = false := hB.free 2
      have q3 : W.cell? ⟨g, 3, none⟩ = some (.int .i64 (0)) := hB.cell 3
      have z3 : W.frozen? ⟨g, 3, none⟩ = false := hB.free 3
      have q4 : W.cell? ⟨g, 4, none⟩ = some (.int .i64 (0)) := hB.cell 4
      have z4 : W.frozen? ⟨g, 4, none⟩ = false := hB.free 4
      have q5 : W.cell? ⟨g, 5, none⟩ = some (.int .i64 (0)) := hB.cell 5
      have z5 : W.frozen? ⟨g, 5, none⟩ = false := hB.free 5
      have q6 : W.cell? ⟨g, 6, none⟩ = some (.int .i64 (0)) := hB.cell 6
      have z6 : W.frozen? ⟨g, 6, none⟩ = false := hB.free 6
      clear hb hb'
      have hfin := hK undef _ ⟨(((((((hX0.setCell hg _).setCell hg _).setCell hg _).setCell hg _).setCell hg _).setCell hg _).setCell hg _), fun h => cc0 (h.resolve_right (by decide)), fun h => cc1 (h.resolve_right (by decide)), fun h => cc2 (h.resolve_right (by decide)), fun h => cc3 (h.resolve_right (by decide)), fun h => cc4 (h.resolve_right (by decide)), fun h => cc5 (h.resolve_right (by decide)), fun h => cc6 (h.resolve_right (by decide)), fun h => cc7 (h.resolve_right (by decide)), fun h => cc8 (h.resolve_right (by decide)), fun h => cc9 (h.resolve_right (by decide)), fun h => cc10 (h.resolve_right (by decide)), fun h => cc11 (h.resolve_right (by decide)), ⟨fun _ => ⟨g, eg, hg, fun _ => (Blk.set (Blk.set (Blk.set (Blk.set (Blk.set (Blk.set (Blk.set hB 0 _) 1 _) 2 _) 3 _) 4 _) 5 _) 6 _), fun h => absurd (.inr rfl) h⟩⟩⟩
      clear hK hX0 cc0 cc1 cc2 cc3 cc4 cc5 cc6 cc7 cc8 cc9 cc10 cc11 ll12
      go_simp
      exact hfin
  · intro us W hJ
    obtain ⟨hX0, cc0, cc1, cc2, cc3, cc4, cc5, cc6, cc7, cc8, cc9, cc10, cc11, ll12⟩ := hJ
    rw [show (rops Try.f5 7).drop 14 = [] by kernel_rfl]
    exact hend (us 0) (us 1) (us 2) (us 3) (us 4) (us 5) (us 6) (us 7) (us 8) (us 9) (us 10) (us 11) (us 12) (us 13) W (cc0 (show 0 < 14 by decide)) (cc1 (show 1 < 14 by decide)) (cc2 (show 2 < 14 by decide)) (cc3 (show 3 < 14 by decide)) (cc4 (show 4 < 14 by decide)) (cc5 (show 5 < 14 by decide)) (cc6 (show 6 < 14 by decide)) (cc7 (show 7 < 14 by decide)) (cc8 (show 8 < 14 by decide)) (cc9 (show 9 < 14 by decide)) (cc10 (show 10 < 14 by decide)) (cc11 (show 11 < 14 by decide)) (ll12.done (show 12 < 14 by decide) (show 13 < 14 by decide)) hX0
set_option maxRecDepth 100000 in
set_option maxHeartbeats 2000000 in
theorem order_r22 (ga gb S ss kk : Nat) (su : Bool) (Au Bu : Option Addr) (lu cu mu ku : Nat) (se : Bool) (Ae Be : Option Addr) (le ce me ke : Nat) (q : Rat) (w : World) (x0 : w.cell? ⟨ga, ss * 9 + kk * 3, none⟩ = some (.bool su)) (x1 : w.cell? ⟨ga, ss * 9 + kk * 3 + 1, none⟩ = some (.slice Au lu cu)) (x2 : w.cell? ⟨ga, ss * 9 + kk * 3 + 2, none⟩ = some (.slice Bu mu ku)) (y0 : w.cell? ⟨gb, ss * 9 + kk * 3, none⟩ = some (.bool se)) (y1 : w.cell? ⟨gb, ss * 9 + kk * 3 + 1, none⟩ = some (.slice Ae le ce)) (y2 : w.cell? ⟨gb, ss * 9 + kk * 3 + 2, none⟩ = some (.slice Be me ke)) (hx : RatG w (.agg #[.bool su, .slice Au lu cu, .slice Bu mu ku]) q) (hy : RatG w (.agg #[.bool se, .slice Ae le ce, .slice Be me ke]) q) (hs1 : ss < S) (hk3 : (kk : Int) < 3) (hk4 : kk < 3) (a : Act) (Q : Exit → Act → World → Prop) (hsize : 135 ≤ a.tmps.size)
    (s10 : a.tmps[10]? = some (.slice (some ⟨ga, 0, none⟩) S S))
    (s12 : a.tmps[12]? = some (.slice (some ⟨gb, 0, none⟩) S S))
    (s14 : a.tmps[14]? = some (.int .i64 (ss : Int)))
    (s15 : a.tmps[15]? = some (.int .i64 (kk : Int)))
    (hend : ∀ (xv0 xv1 xv2 xv3 xv4 xv5 xv6 xv7 xv8 xv9 xv10 xv11 xv12 xv13 : Value) (W : World), (xv0 = .slice (some ⟨ga, 0, none⟩) S S) → (xv1 = .int .i64 (ss : Int)) → (xv2 = .int .i64 (kk : Int)) → (xv3 = .pointer (some ⟨ga, ss * 9, none⟩)) → (xv4 = .pointer (some ⟨ga, ss * 9 + kk * 3, none⟩)) → (xv5 = .agg #[.bool su, .slice Au lu cu, .slice Bu mu ku]) → (xv6 = .slice (some ⟨gb, 0, none⟩) S S) → (xv7 = .int .i64 (ss : Int)) → (xv8 = .int .i64 (kk : Int)) → (xv9 = .pointer (some ⟨gb, ss * 9, none⟩)) → (xv10 = .pointer (some ⟨gb, ss * 9 + kk * 3, none⟩)) → (xv11 = .agg #[.bool se, .slice Ae le ce, .slice Be me ke]) → (xv12 = .bool true) → (xv13 = .bool false) → Ext w W → wpList Try.prog (rops Try.f5 22).toArray Q ((rops Try.f5 22).drop 14) ((((((((((((((a.put (some 121) xv0).put (some 122) xv1).put (some 123) xv2).put (some 124) xv3).put (some 125) xv4).put (some 126) xv5).put (some 127) xv6).put (some 128) xv7).put (some 129) xv8).put (some 130) xv9).put (some 131) xv10).put (some 132) xv11).put (some 133) xv12).put (some 134) xv13) W) :
    (Code.region 22 (rops Try.f5 22).toArray true).wp Try.prog Q a w := by
  have hmono : ∀ (W W' : World) (j : Nat) (u : Value), Ext W W' → (fun (i : Nat) (v : Value) (W : World) => match i with
    | 0 => v = .slice (some ⟨ga, 0, none⟩) S S
    | 1 => v = .int .i64 (ss : Int)
    | 2 => v = .int .i64 (kk : Int)
    | 3 => v = .pointer (some ⟨ga, ss * 9, none⟩)
    | 4 => v = .pointer (some ⟨ga, ss * 9 + kk * 3, none⟩)
    | 5 => v = .agg #[.bool su, .slice Au lu cu, .slice Bu mu ku]
    | 6 => v = .slice (some ⟨gb, 0, none⟩) S S
    | 7 => v = .int .i64 (ss : Int)
    | 8 => v = .int .i64 (kk : Int)
    | 9 => v = .pointer (some ⟨gb, ss * 9, none⟩)
    | 10 => v = .pointer (some ⟨gb, ss * 9 + kk * 3, none⟩)
    | 11 => v = .agg #[.bool se, .slice Ae le ce, .slice Be me ke]
    | 12 => v = .bool true
    | 13 => v = .bool false
    | _ => True) j u W → (fun (i : Nat) (v : Value) (W : World) => match i with
    | 0 => v = .slice (some ⟨ga, 0, none⟩) S S
    | 1 => v = .int .i64 (ss : Int)
    | 2 => v = .int .i64 (kk : Int)
    | 3 => v = .pointer (some ⟨ga, ss * 9, none⟩)
    | 4 => v = .pointer (some ⟨ga, ss * 9 + kk * 3, none⟩)
    | 5 => v = .agg #[.bool su, .slice Au lu cu, .slice Bu mu ku]
    | 6 => v = .slice (some ⟨gb, 0, none⟩) S S
    | 7 => v = .int .i64 (ss : Int)
    | 8 => v = .int .i64 (kk : Int)
    | 9 => v = .pointer (some ⟨gb, ss * 9, none⟩)
    | 10 => v = .pointer (some ⟨gb, ss * 9 + kk * 3, none⟩)
    | 11 => v = .agg #[.bool se, .slice Ae le ce, .slice Be me ke]
    | 12 => v = .bool true
    | 13 => v = .bool false
    | _ => True) j u W' := by
    intro W W' j u hX h
    match j, h with
    | 0, h => exact h
    | 1, h => exact h
    | 2, h => exact h
    | 3, h => exact h
    | 4, h => exact h
    | 5, h => exact h
    | 6, h => exact h
    | 7, h => exact h
    | 8, h => exact h
    | 9, h => exact h
    | 10, h => exact h
    | 11, h => exact h
    | 12, h => exact h
    | 13, h => exact h
    | _ + 14, h => exact h
  have hsz : ∀ d, some d ∈ ([some 121, some 122, some 123, some 124, some 125, some 126, some 127, some 128, some 129, some 130, some 131, some 132, some 133, some 134] : List (Option Tmp)) → d < a.tmps.size := slots_lt (by decide) hsize
  refine wp_region_j 14 [some 121, some 122, some 123, some 124, some 125, some 126, some 127, some 128, some 129, some 130, some 131, some 132, some 133, some 134] [[], [], [], [0, 1], [2, 3], [4], [], [], [], [6, 7], [8, 9], [10], [5, 11], [12]] [[], [], [], [], [], [], [], [], [], [], [], [], [], []] (fun (i : Nat) (v : Value) (W : World) => match i with
    | 0 => v = .slice (some ⟨ga, 0, none⟩) S S
    | 1 => v = .int .i64 (ss : Int)
    | 2 => v = .int .i64 (kk : Int)
    | 3 => v = .pointer (some ⟨ga, ss * 9, none⟩)
    | 4 => v = .pointer (some ⟨ga, ss * 9 + kk * 3, none⟩)
    | 5 => v = .agg #[.bool su, .slice Au lu cu, .slice Bu mu ku]
    | 6 => v = .slice (some ⟨gb, 0, none⟩) S S
    | 7 => v = .int .i64 (ss : Int)
    | 8 => v = .int .i64 (kk : Int)
    | 9 => v = .pointer (some ⟨gb, ss * 9, none⟩)
    | 10 => v = .pointer (some ⟨gb, ss * 9 + kk * 3, none⟩)
    | 11 => v = .agg #[.bool se, .slice Ae le ce, .slice Be me ke]
    | 12 => v = .bool true
    | 13 => v = .bool false
    | _ => True) (fun _ W => Ext w W) (by kernel_rfl) (by kernel_rfl) hsz (fun _ _ _ _ h => h) ((Ext.refl w).drew) ?_ ?_
  · clear hend
    simp only [rops, Try.f5, regOf, Option.bind_some, Nat.reduceBEq, if_true, if_false, Bool.false_eq_true, Option.getD_some]
    simp only [List.take_succ_cons, List.take_zero]
    refine ⟨?_, ?_, ?_, ?_, ?_, ?_, ?_, ?_, ?_, ?_, ?_, ?_, ?_, ?_, trivial⟩
    · intro done us W hJ hdep haft hnot b hb hb' K hK Q'
      have e10 := (hb' 10 (by simp)).trans s10
      clear hb hb'
      go_simp
      exact hK _ _ rfl (fun _ _ _ h => h) hJ
    · intro done us W hJ hdep haft hnot b hb hb' K hK Q'
      have e14 := (hb' 14 (by simp)).trans s14
      clear hb hb'
      go_simp
      exact hK _ _ rfl (fun _ _ _ h => h) hJ
    · intro done us W hJ hdep haft hnot b hb hb' K hK Q'
      have e15 := (hb' 15 (by simp)).trans s15
      clear hb hb'
      go_simp
      exact hK _ _ rfl (fun _ _ _ h => h) hJ
    · intro done us W hJ hdep haft hnot b hb hb' K hK Q'
      simp only [List.getD_cons_succ, List.getD_cons_zero, List.mem_cons, List.not_mem_nil, or_false, forall_eq_or_imp, forall_eq] at hdep
      have e121 := hb 0 121 rfl
      have e122 := hb 1 122 rfl
      have d0 := hdep.1
      have d1 := hdep.2
      rw [d0.1] at e121
      rw [d1.1] at e122
      clear hb hb' hdep d0 d1
      go_simp
      exact hK _ _ rfl (fun _ _ _ h => h) hJ
    · intro done us W hJ hdep haft hnot b hb hb' K hK Q'
      simp only [List.getD_cons_succ, List.getD_cons_zero, List.mem_cons, List.not_mem_nil, or_false, forall_eq_or_imp, forall_eq] at hdep
      have e123 := hb 2 123 rfl
      have e124 := hb 3 124 rfl
      have d2 := hdep.1
      have d3 := hdep.2
      rw [d2.1] at e123
      rw [d3.1] at e124
      clear hb hb' hdep d2 d3
      go_simp
      exact hK _ _ rfl (fun _ _ _ h => h) hJ
    · intro done us W hJ hdep haft hnot b hb hb' K hK Q'
      simp only [List.getD_cons_succ, List.getD_cons_zero, List.mem_cons, List.not_mem_nil, or_false, forall_eq] at hdep
      have e125 := hb 4 125 rfl
      have d4 := hdep
      rw [d4.1] at e125
      clear hb hb' hdep d4
      have z0 := Ext.cell hJ x0
      have z1 := Ext.cell hJ x1
      have z2 := Ext.cell hJ x2
      go_simp
      exact hK _ _ rfl (fun _ _ _ h => h) hJ
    · intro done us W hJ hdep haft hnot b hb hb' K hK Q'
      have e12 := (hb' 12 (by simp)).trans s12
      clear hb hb'
      go_simp
      exact hK _ _ rfl (fun _ _ _ h => h) hJ
    · intro done us W hJ hdep haft hnot b hb hb' K hK Q'
      have e14 := (hb' 14 (by simp)).trans s14
      clear hb hb'
      go_simp
      exact hK _ _ rfl (fun _ _ _ h => h) hJ
    · intro done us W hJ hdep haft hnot b hb hb' K hK Q'
      have e15 := (hb' 15 (by simp)).trans s15
      clear hb hb'
      go_simp
      exact hK _ _ rfl (fun _ _ _ h => h) hJ
    · intro done us W hJ hdep haft hnot b hb hb' K hK Q'
      simp only [List.getD_cons_succ, List.getD_cons_zero, List.mem_cons, List.not_mem_nil, or_false, forall_eq_or_imp, forall_eq] at hdep
      have e127 := hb 6 127 rfl
      have e128 := hb 7 128 rfl
      have d6 := hdep.1
      have d7 := hdep.2
      rw [d6.1] at e127
      rw [d7.1] at e128
      clear hb hb' hdep d6 d7
      go_simp
      exact hK _ _ rfl (fun _ _ _ h => h) hJ
    · intro done us W hJ hdep haft hnot b hb hb' K hK Q'
      simp only [List.getD_cons_succ, List.getD_cons_zero, List.mem_cons, List.not_mem_nil, or_false, forall_eq_or_imp, forall_eq] at hdep
      have e129 := hb 8 129 rfl
      have e130 := hb 9 130 rfl
      have d8 := hdep.1
      have d9 := hdep.2
      rw [d8.1] at e129
      rw [d9.1] at e130
      clear hb hb' hdep d8 d9
      go_simp
      exact hK _ _ rfl (fun _ _ _ h => h) hJ
    · intro done us W hJ hdep haft hnot b hb hb' K hK Q'
      simp only [List.getD_cons_succ, List.getD_cons_zero, List.mem_cons, List.not_mem_nil, or_false, forall_eq] at hdep
      have e131 := hb 10 131 rfl
      have d10 := hdep
      rw [d10.1] at e131
      clear hb hb' hdep d10
      have z0 := Ext.cell hJ y0
      have z1 := Ext.cell hJ y1
      have z2 := Ext.cell hJ y2
      go_simp
      exact hK _ _ rfl (fun _ _ _ h => h) hJ
    · intro done us W hJ hdep haft hnot b hb hb' K hK Q'
      simp only [List.getD_cons_succ, List.getD_cons_zero, List.mem_cons, List.not_mem_nil, or_false, forall_eq_or_imp, forall_eq] at hdep
      have e126 := hb 5 126 rfl
      have e132 := hb 11 132 rfl
      have d5 := hdep.1
      have d11 := hdep.2
      rw [d5.1] at e126
      rw [d11.1] at e132
      clear hb hb' hdep d5 d11
      go_simp
      refine (sameG_any (hx.ext hJ) (hy.ext hJ)).mono ?_
      rw [decide_eq_true rfl]
      rintro e w' ⟨rfl, hX⟩
      exact hK _ _ rfl (fun j u _ h => hmono _ _ j u hX h) (Ext.trans hJ hX)
    · intro done us W hJ hdep haft hnot b hb hb' K hK Q'
      simp only [List.getD_cons_succ, List.getD_cons_zero, List.mem_cons, List.not_mem_nil, or_false, forall_eq] at hdep
      have e133 := hb 12 133 rfl
      have d12 := hdep
      rw [d12.1] at e133
      clear hb hb' hdep d12
      go_simp
      exact hK _ _ rfl (fun _ _ _ h => h) hJ
  · intro us W hV hJ
    exact hend (us 0) (us 1) (us 2) (us 3) (us 4) (us 5) (us 6) (us 7) (us 8) (us 9) (us 10) (us 11) (us 12) (us 13) W (hV 0 (by omega)) (hV 1 (by omega)) (hV 2 (by omega)) (hV 3 (by omega)) (hV 4 (by omega)) (hV 5 (by omega)) (hV 6 (by omega)) (hV 7 (by omega)) (hV 8 (by omega)) (hV 9 (by omega)) (hV 10 (by omega)) (hV 11 (by omega)) (hV 12 (by omega)) (hV 13 (by omega)) hJ
set_option maxRecDepth 100000 in
set_option maxHeartbeats 16000000 in
theorem order_walk (S : Nat) (A : Option Addr) (n c tt : Nat) (f : Int) (ms : List Mt) (w : World) (h : MsAt w A n ms) (hv : VP (S : Int) ms) (hn10 : n ≤ 10) (htt : tt ≤ 255) (hsm : smB S ms = true) :
    Calls Try.prog 5 #[.agg #[.int .i64 (S : Int), .slice A n c], .int .u8 (tt : Int), .int .u16 f] w (fun e w' => e = .returned (.bool true) ∧ Ext w w') := by
  have H := Lib.hid h
  have HV := Lib.hid hv
  have HML := Lib.hid h.1
  have HSM := Lib.hid hsm
  have HX := Lib.hid ((Ext.refl w).alloc (.cells #[.int .i64 (S : Int), .slice A n c] 76))
  have HP := Lib.hid (Blk.new w 76 #[.int .i64 (S : Int), .slice A n c])
  clear h hv hsm
  go_enter Try.func5, Try.ntmps5
  go_upto_region 1 with (fail)
  generalize w.alloc (.cells #[.int .i64 (S : Int), .slice A n c] 76) = w1 at HX HP ⊢
  have p0 := HP.out.cell 0
  have p1 := HP.out.cell 1
  simp only [List.getElem?_toArray, List.getElem?_cons_zero, List.getElem?_cons_succ] at p0 p1
  go_wp2_with fail
  refine (small_any5 (S : Int) A n c ms _ (H.out.ext HX.out)).mono ?_
  rw [HSM.out]
  rintro e w2 ⟨rfl, hX⟩
  replace HX := Lib.hid (HX.out.trans hX)
  replace HP := Lib.hid (HP.out.ext hX)
  clear hX p0 p1
  have p0 := HP.out.cell 0
  simp only [List.getElem?_toArray, List.getElem?_cons_zero, List.getElem?_cons_succ] at p0
  go_upto_region 4 with (fail)
  have hXa : Ext w2 (w2.alloc (.cells #[.int .i64 (S : Int), .slice none 0 0] 76)) := (Ext.refl _).alloc _
  have kQ := Blk.new w2 76 #[.int .i64 (S : Int), .slice none 0 0]
  have hpl := HP.out.lt
  replace HX := Lib.hid (HX.out.trans hXa)
  replace HP := Lib.hid (HP.out.ext hXa)
  clear hXa p0
  generalize w2.alloc (.cells #[.int .i64 (S : Int), .slice none 0 0] 76) = w3 at kQ HX HP ⊢
  generalize w2.heap.size = gq at kQ hpl ⊢
  have HQ := Lib.hid kQ
  clear kQ
  go_wp2_with fail
  go_loopg [8] n (fun fu iv wr => ∃ (k : Nat) (ov : Value), fu = n - k ∧ k ≤ n ∧ iv = .int .i64 (k : Int) ∧ Hid (wr.ownsRow (gq + 1) 90 7 ov k (mtV (ordL f tt ms k))) ∧ Hid (Blk wr gq 76 #[.int .i64 (S : Int), ov]) ∧ Hid (Blk wr w.heap.size 76 #[.int .i64 (S : Int), .slice A n c]) ∧ Hid (Ext w wr))
  case atStart => exact ⟨0, .slice none 0 0, rfl, by omega, rfl, Lib.hid (World.ownsRow_nil _ _ _ _), HQ, HP, HX⟩
  case round =>
    clear HQ HP HX
    obtain ⟨k, ov, rfl, hk, rfl, HO, HQ, HP, HX⟩ := hrel
    have p0 := HP.out.cell 0
    have p1 := HP.out.cell 1
    simp only [List.getElem?_toArray, List.getElem?_cons_zero, List.getElem?_cons_succ] at p0 p1
    obtain ⟨Ao, co, rfl⟩ := own_slice HO.out
    by_cases hlt : k < n
    · have q1 : decide (k < n) = true := decide_eq_true hlt
      obtain ⟨j, hj⟩ : ∃ j, (k + tt) % n = j := ⟨_, rfl⟩
      have hjn : j < n := by rw [← hj]; exact Nat.mod_lt _ (by omega)
      have hmod : ((k : Int) + (tt : Int)).tmod (n : Int) = (j : Int) := by rw [← hj, Int.tmod_eq_emod_of_nonneg (by omega)]; first | rfl | exact (Int.natCast_emod _ _).symm | (push_cast; rfl)
      have hmw : IntKind.i64.wrap (j : Int) = (j : Int) := IntWalk.i64_in _ (by omega)
      have hn0 : ((n : Int) == 0) = false := by simp; omega
      obtain ⟨gm, om, ⟨a, b, x, y, z, d, ww⟩, rfl, hm, hmem, x0, x1, x2, x3, x4, x5, x6⟩ := (H.out.ext HX.out).get hjn
      simp only at x0 x1 x2 x3 x4 x5 x6
      have HJ := Lib.hid hj
      have HM := Lib.hid hm
      have hvm := HV.out.2.2.2 _ hmem
      have nx : IntKind.i64.wrap (-x) = -x := IntWalk.i64_in _ (by have h1 := hvm.x1; have h2 := hvm.x2; simp only at h1 h2; omega)
      have ny : IntKind.i64.wrap (-y) = -y := IntWalk.i64_in _ (by have h1 := hvm.y1; have h2 := hvm.y2; simp only at h1 h2; omega)
      have nz : IntKind.i64.wrap (-z) = -z := IntWalk.i64_in _ (by have h1 := hvm.z1; have h2 := hvm.z2; simp only at h1 h2; omega)
      have hql := HQ.out.lt
      have HOL : Hid (∀ g, (Value.slice Ao k co).ownBlock = some g → g < wr.heap.size) := Lib.hid (fun g hg => (HO.out.lt g hg).2)
      clear hj hm hmem hvm
      go_upto_region 7 with (fail)
      refine order_r7 w.heap.size gm om n c k tt j a b x y z d ww wr x0 x1 x2 x3 x4 x5 x6 p1 hjn hn0 (by omega) (by omega) (by omega) htt hmod hmw _ _ (by simp) rfl rfl rfl ?_
      rintro xv0 xv1 xv2 xv3 xv4 xv5 xv6 xv7 xv8 xv9 xv10 xv11 xv12 xv13 W rfl rfl rfl rfl rfl rfl rfl rfl rfl rfl rfl rfl ⟨gx, rfl, hgx, hbx⟩ hX
      simp only [rops, Try.f5, regOf, Option.bind_some, Nat.reduceBEq, if_true, if_false, Bool.false_eq_true, Option.getD_some, List.drop_succ_cons, List.drop_zero]
      simp only [Act.put, List.setIfInBounds_toArray, List.set_cons_succ, List.set_cons_zero]
      clear x0 x1 x2 x3 x4 x5 x6 p1 p0 hn0 hmod hmw
      replace HX := Lib.hid (HX.out.trans hX)
      replace HP := Lib.hid (HP.out.ext hX)
      replace HO := Lib.hid (World.ownsRow.ext' HO.out hX)
      replace HQ := Lib.hid (HQ.out.ext hX)
      clear hX
      have hpx := HP.out.lt
      have HB := Lib.hid hbx
      have hgxl := hbx.lt
      clear hbx
      have y0 := HB.out.cell 0
      have y1 := HB.out.cell 1
      have y2 := HB.out.cell 2
      have y3 := HB.out.cell 3
      have y4 := HB.out.cell 4
      have y5 := HB.out.cell 5
      have y6 := HB.out.cell 6
      simp only [List.getElem?_toArray, List.getElem?_cons_zero, List.getElem?_cons_succ] at y0 y1 y2 y3 y4 y5 y6
      obtain ⟨cb, hcb⟩ : ∃ cb, (bits .and .u16 (f / 2 ^ (k % 16)) 1 == 1) = cb := ⟨_, rfl⟩
      by_cases hcc : cb = true
      · subst hcc
        by_cases hb0 : 0 ≤ b
        · have z0 := HB.out.free 0
          have z1 := HB.out.free 1
          have z2 := HB.out.free 2
          have z3 := HB.out.free 3
          have z4 := HB.out.free 4
          have HORD : Hid (ordM f tt ms k = ⟨b, a, -x, -y, -z, d, ww⟩) := Lib.hid (by unfold ordM; rw [HML.out, HJ.out, mtAt_some HM.out]; simp [hcb, hb0, flipM])
          clear HM
          go_upto_region 11 with (fail)
          have hkx : Blk (((((W.setCell ⟨gx, 0, none⟩ (.int .i64 b)).setCell ⟨gx, 1, none⟩ (.int .i64 a)).setCell ⟨gx, 2, none⟩ (.int .i64 (-x))).setCell ⟨gx, 3, none⟩ (.int .i64 (-y))).setCell ⟨gx, 4, none⟩ (.int .i64 (-z))) gx 90 #[.int .i64 b, .int .i64 a, .int .i64 (-x), .int .i64 (-y), .int .i64 (-z), .int .i64 d, .int .i64 ww] := ((((HB.out.set 0 _).set 1 _).set 2 _).set 3 _).set 4 _
          have hXs : Ext w (((((W.setCell ⟨gx, 0, none⟩ (.int .i64 b)).setCell ⟨gx, 1, none⟩ (.int .i64 a)).setCell ⟨gx, 2, none⟩ (.int .i64 (-x))).setCell ⟨gx, 3, none⟩ (.int .i64 (-y))).setCell ⟨gx, 4, none⟩ (.int .i64 (-z))) := ((((HX.out.setCell (by simp only; omega) _).setCell (by simp only; omega) _).setCell (by simp only; omega) _).setCell (by simp only; omega) _).setCell (by simp only; omega) _
          have hks : Keeps [gx] W (((((W.setCell ⟨gx, 0, none⟩ (.int .i64 b)).setCell ⟨gx, 1, none⟩ (.int .i64 a)).setCell ⟨gx, 2, none⟩ (.int .i64 (-x))).setCell ⟨gx, 3, none⟩ (.int .i64 (-y))).setCell ⟨gx, 4, none⟩ (.int .i64 (-z))) := (((((Keeps.refl [gx] W).setCell (.inl (by simp)) _).setCell (.inl (by simp)) _).setCell (.inl (by simp)) _).setCell (.inl (by simp)) _).setCell (.inl (by simp)) _
          replace HP := Lib.hid (HP.out.keeps hks (by simp; omega))
          replace HO := Lib.hid (ownsRow_keeps HO.out hks (fun g hg hl => by have := HOL.out g hg; simp at hl; omega))
          replace HQ := Lib.hid (HQ.out.keeps hks (by simp; omega))
          clear y0 y1 y2 y3 y4 y5 y6 z0 z1 z2 z3 z4 HX HB hks
          generalize (((((W.setCell ⟨gx, 0, none⟩ (.int .i64 b)).setCell ⟨gx, 1, none⟩ (.int .i64 a)).setCell ⟨gx, 2, none⟩ (.int .i64 (-x))).setCell ⟨gx, 3, none⟩ (.int .i64 (-y))).setCell ⟨gx, 4, none⟩ (.int .i64 (-z))) = wb at hkx hXs HP HO HQ ⊢
          have HX := Lib.hid hXs
          have HB := Lib.hid hkx
          clear hXs hkx
          have y0 := HB.out.cell 0
          have y1 := HB.out.cell 1
          have y2 := HB.out.cell 2
          have y3 := HB.out.cell 3
          have y4 := HB.out.cell 4
          have y5 := HB.out.cell 5
          have y6 := HB.out.cell 6
          simp only [List.getElem?_toArray, List.getElem?_cons_zero, List.getElem?_cons_succ] at y0 y1 y2 y3 y4 y5 y6
          have o1 := HQ.out.cell 1
          simp only [List.getElem?_toArray, List.getElem?_cons_zero, List.getElem?_cons_succ] at o1
          have hgxw := HB.out.lt
          go_wp2_with (at_builtin; refine wpList_app _ elMt rfl _ _ rfl (gq + 1) (.slice Ao k co) k (mtV (ordL f tt ms k)) rfl (HO.out.alloc _) _ 1 1 [.int .i64 b, .int .i64 a, .int .i64 (-x), .int .i64 (-y), .int .i64 (-z), .int .i64 d, .int .i64 ww] rfl rfl (At.new' _ [_, _, _, _, _, _, _] _ rfl) (by simp [Value.oneCell']) (by omega) (by unfold maxLen; omega) (by simp; omega) ?_; intro v8 w8 hown8 hgr8 _; have HG8 := Lib.hid hgr8; have HO8 := Lib.hid hown8; have hB8 := (HQ.out.alloc _).grown hgr8 (fun e => own_blk_ne HO.out HQ.out (by decide) e.symm); have o0' := hB8.cell 1; have o1' := hB8.free 1; have HB8 := Lib.hid hB8; simp only [List.getElem?_toArray, List.getElem?_cons_zero, List.getElem?_cons_succ] at o0'; obtain ⟨Ao8, co8, rfl⟩ := own_slice hown8; clear hgr8 hown8 hB8)
          go_roundg (n - (k + 1))
          case rel =>
            have hkw : Keeps [gq] w8 (w8.setCell ⟨gq, 1, none⟩ (.slice Ao8 (k + 1) co8)) := (Keeps.refl [gq] w8).setCell (.inl (by simp)) _
            have hgl : ∀ g, (Value.slice Ao k co).ownBlock = some g → w.heap.size < g := fun g hg => by have := (HO.out.lt g hg).1; omega
            refine ⟨k + 1, .slice Ao8 (k + 1) co8, rfl, by omega, by go_num, Lib.hid ?_, Lib.hid ?_, Lib.hid (((HP.out.alloc _).grown HG8.out (fun e => by have := hgl _ e.symm; omega)).far (by simp only; omega) _), Lib.hid (((HX.out.alloc _).grown HG8.out (fun b hb => by have := hgl _ hb; omega)).setCell (by simp only; omega) _)⟩
            · rw [ordL_succ, mtV_snoc, HORD.out]
              exact ownsRow_keeps HO8.out hkw (fun g hg hl => by simp at hl; subst hl; exact own_blk_ne HO8.out HB8.out (by decide) hg)
            · have := HB8.out.set 1 (.slice Ao8 (k + 1) co8)
              simpa using this
          case measure => omega
        · have HORD : Hid (ordM f tt ms k = ⟨a, b, x, y, z, d, ww⟩) := Lib.hid (by unfold ordM; rw [HML.out, HJ.out, mtAt_some HM.out]; simp [hcb, hb0])
          clear HM
          have o1 := HQ.out.cell 1
          simp only [List.getElem?_toArray, List.getElem?_cons_zero, List.getElem?_cons_succ] at o1
          have hgxw := HB.out.lt
          go_wp2_with (at_builtin; refine wpList_app _ elMt rfl _ _ rfl (gq + 1) (.slice Ao k co) k (mtV (ordL f tt ms k)) rfl (HO.out.alloc _) _ 1 1 [.int .i64 a, .int .i64 b, .int .i64 x, .int .i64 y, .int .i64 z, .int .i64 d, .int .i64 ww] rfl rfl (At.new' _ [_, _, _, _, _, _, _] _ rfl) (by simp [Value.oneCell']) (by omega) (by unfold maxLen; omega) (by simp; omega) ?_; intro v8 w8 hown8 hgr8 _; have HG8 := Lib.hid hgr8; have HO8 := Lib.hid hown8; have hB8 := (HQ.out.alloc _).grown hgr8 (fun e => own_blk_ne HO.out HQ.out (by decide) e.symm); have o0' := hB8.cell 1; have o1' := hB8.free 1; have HB8 := Lib.hid hB8; simp only [List.getElem?_toArray, List.getElem?_cons_zero, List.getElem?_cons_succ] at o0'; obtain ⟨Ao8, co8, rfl⟩ := own_slice hown8; clear hgr8 hown8 hB8)
          go_roundg (n - (k + 1))
          case rel =>
            have hkw : Keeps [gq] w8 (w8.setCell ⟨gq, 1, none⟩ (.slice Ao8 (k + 1) co8)) := (Keeps.refl [gq] w8).setCell (.inl (by simp)) _
            have hgl : ∀ g, (Value.slice Ao k co).ownBlock = some g → w.heap.size < g := fun g hg => by have := (HO.out.lt g hg).1; omega
            refine ⟨k + 1, .slice Ao8 (k + 1) co8, rfl, by omega, by go_num, Lib.hid ?_, Lib.hid ?_, Lib.hid (((HP.out.alloc _).grown HG8.out (fun e => by have := hgl _ e.symm; omega)).far (by simp only; omega) _), Lib.hid (((HX.out.alloc _).grown HG8.out (fun b hb => by have := hgl _ hb; omega)).setCell (by simp only; omega) _)⟩
            · rw [ordL_succ, mtV_snoc, HORD.out]
              exact ownsRow_keeps HO8.out hkw (fun g hg hl => by simp at hl; subst hl; exact own_blk_ne HO8.out HB8.out (by decide) hg)
            · have := HB8.out.set 1 (.slice Ao8 (k + 1) co8)
              simpa using this
          case measure => omega
      · obtain rfl : cb = false := by simpa using hcc
        clear hcc
        have HORD : Hid (ordM f tt ms k = ⟨a, b, x, y, z, d, ww⟩) := Lib.hid (by unfold ordM; rw [HML.out, HJ.out, mtAt_some HM.out]; simp [hcb])
        clear HM
        have o1 := HQ.out.cell 1
        simp only [List.getElem?_toArray, List.getElem?_cons_zero, List.getElem?_cons_succ] at o1
        have hgxw := HB.out.lt
        go_wp2_with (at_builtin; refine wpList_app _ elMt rfl _ _ rfl (gq + 1) (.slice Ao k co) k (mtV (ordL f tt ms k)) rfl (HO.out.alloc _) _ 1 1 [.int .i64 a, .int .i64 b, .int .i64 x, .int .i64 y, .int .i64 z, .int .i64 d, .int .i64 ww] rfl rfl (At.new' _ [_, _, _, _, _, _, _] _ rfl) (by simp [Value.oneCell']) (by omega) (by unfold maxLen; omega) (by simp; omega) ?_; intro v8 w8 hown8 hgr8 _; have HG8 := Lib.hid hgr8; have HO8 := Lib.hid hown8; have hB8 := (HQ.out.alloc _).grown hgr8 (fun e => own_blk_ne HO.out HQ.out (by decide) e.symm); have o0' := hB8.cell 1; have o1' := hB8.free 1; have HB8 := Lib.hid hB8; simp only [List.getElem?_toArray, List.getElem?_cons_zero, List.getElem?_cons_succ] at o0'; obtain ⟨Ao8, co8, rfl⟩ := own_slice hown8; clear hgr8 hown8 hB8)
        go_roundg (n - (k + 1))
        case rel =>
          have hkw : Keeps [gq] w8 (w8.setCell ⟨gq, 1, none⟩ (.slice Ao8 (k + 1) co8)) := (Keeps.refl [gq] w8).setCell (.inl (by simp)) _
          have hgl : ∀ g, (Value.slice Ao k co).ownBlock = some g → w.heap.size < g := fun g hg => by have := (HO.out.lt g hg).1; omega
          refine ⟨k + 1, .slice Ao8 (k + 1) co8, rfl, by omega, by go_num, Lib.hid ?_, Lib.hid ?_, Lib.hid (((HP.out.alloc _).grown HG8.out (fun e => by have := hgl _ e.symm; omega)).far (by simp only; omega) _), Lib.hid (((HX.out.alloc _).grown HG8.out (fun b hb => by have := hgl _ hb; omega)).setCell (by simp only; omega) _)⟩
          · rw [ordL_succ, mtV_snoc, HORD.out]
            exact ownsRow_keeps HO8.out hkw (fun g hg hl => by simp at hl; subst hl; exact own_blk_ne HO8.out HB8.out (by decide) hg)
          · have := HB8.out.set 1 (.slice Ao8 (k + 1) co8)
            simpa using this
        case measure => omega
    · obtain rfl : n = k := by omega
      have q1 : decide (n < n) = false := by simp
      have HEQ := Lib.hid (ordL_eq (f := f) (tt := tt) HV.out)
      have HVQ := Lib.hid (ordL_vp (f := f) (tt := tt) HV.out)
      rw [HML.out] at HEQ HVQ
      have HMQ : Hid (MsAt wr Ao n (ordL f tt ms n)) := Lib.hid (MsAt.of_own HO.out (ordL_len _ _ _ _))
      have HSE : Hid (solP (3 * S) (ordL f tt ms n) = solP (3 * S) ms) := Lib.hid (solP_congr HEQ.out.1 HEQ.out.2.1 _)
      have hS1 : 1 ≤ S := by have := HV.out.1; omega
      have hS8 : S ≤ 3 := by have := (smB_iff.1 HSM.out).1.2; omega
      have HFS : Hid (∀ j, FitQW (solP (3 * S) ms j)) := Lib.hid (fun j => FitQW.of4 (solP_fit HV.out.2.2.2 HV.out.2.2.1 (by omega) j) (by omega))
      have HFM : Hid (FitQW (misfit (3 * S) ms (solP (3 * S) ms))) := Lib.hid (misfit_fit HV.out.2.2.2 HV.out.2.2.1 (by omega) (solP_tame HV.out.2.2.2 HV.out.2.2.1 (by omega)))
      clear HO
      go_wp2_with fail
      refine (solveP_ok S A n c ms _ (H.out.ext HX.out) HV.out).mono ?_
      rintro e w4 ⟨ga, rfl, _, hS, hX⟩
      replace HX := Lib.hid (HX.out.trans hX)
      replace HP := Lib.hid (HP.out.ext hX)
      replace HQ := Lib.hid (HQ.out.ext hX)
      replace HMQ := Lib.hid (HMQ.out.ext hX)
      have HSP : Hid (ShP RatG w4 ga 0 S (solP (3 * S) ms)) := Lib.hid (hS.imp2 (fun j x _ h => h.good (HFS.out j)))
      clear hS hX p0 p1
      have o0 := HQ.out.cell 0
      have o1 := HQ.out.cell 1
      simp only [List.getElem?_toArray, List.getElem?_cons_zero, List.getElem?_cons_succ] at o0 o1
      go_wp2_with fail
      refine (solveP_ok S Ao n co (ordL f tt ms n) _ HMQ.out HVQ.out).mono ?_
      rintro e w5 ⟨gb, rfl, _, hS, hX⟩
      rw [HSE.out] at hS
      replace HX := Lib.hid (HX.out.trans hX)
      replace HP := Lib.hid (HP.out.ext hX)
      replace HQ := Lib.hid (HQ.out.ext hX)
      replace HMQ := Lib.hid (HMQ.out.ext hX)
      replace HSP := Lib.hid (HSP.out.ext growsG hX)
      have HSQ : Hid (ShP RatG w5 gb 0 S (solP (3 * S) ms)) := Lib.hid (hS.imp2 (fun j x _ h => h.good (HFS.out j)))
      clear hS hX o0 o1
      have p0 := HP.out.cell 0
      simp only [List.getElem?_toArray, List.getElem?_cons_zero, List.getElem?_cons_succ] at p0
      go_wp2_with fail
      clear p0
      go_loopg [14] S (fun fu iv wz => ∃ i : Nat, fu = S - i ∧ i ≤ S ∧ iv = .int .i64 (i : Int) ∧ Hid (Ext w5 wz))
      case atStart => exact ⟨0, by omega, by omega, rfl, Lib.hid (Ext.refl _)⟩
      case round =>
        obtain ⟨i, rfl, hi, rfl, HXL⟩ := hrel
        have pl := HP.out.ext HXL.out
        have p0 := pl.cell 0
        simp only [List.getElem?_toArray, List.getElem?_cons_zero, List.getElem?_cons_succ] at p0
        clear pl
        by_cases his : i < S
        · have q2 : decide (i < S) = true := decide_eq_true his
          go_wp2_with fail
          clear p0
          go_loopg [15] 3 (fun fu kv wz => ∃ k : Nat, fu = 3 - k ∧ k ≤ 3 ∧ kv = .int .i64 (k : Int) ∧ Hid (Ext w5 wz))
          case atStart => exact ⟨0, by omega, by omega, rfl, HXL⟩
          case round =>
            clear HXL
            obtain ⟨k, rfl, hk, rfl, HXL⟩ := hrel
            by_cases hkl : k < 3
            · have q3 : decide (k < 3) = true := decide_eq_true hkl
              obtain ⟨s1, A1, l1, c1, B1, m1, k1, x0, x1, x2, hx⟩ := (HSP.out.ext growsG HXL.out) i k his hkl
              obtain ⟨s2, A2, l2, c2, B2, m2, k2, y0, y1, y2, hy⟩ := (HSQ.out.ext growsG HXL.out) i k his hkl
              simp only [Nat.zero_add] at x0 x1 x2 y0 y1 y2
              go_upto_region 22 with (fail)
              refine order_r22 ga gb S i k s1 A1 B1 l1 c1 m1 k1 s2 A2 B2 l2 c2 m2 k2 _ wr x0 x1 x2 y0 y1 y2 hx hy his (by omega) hkl _ _ (by simp) rfl rfl rfl rfl ?_
              rintro xv0 xv1 xv2 xv3 xv4 xv5 xv6 xv7 xv8 xv9 xv10 xv11 xv12 xv13 W rfl rfl rfl rfl rfl rfl rfl rfl rfl rfl rfl rfl rfl rfl hX
              simp only [rops, Try.f5, regOf, Option.bind_some, Nat.reduceBEq, if_true, if_false, Bool.false_eq_true, Option.getD_some, List.drop_succ_cons, List.drop_zero]
              simp only [Act.put, List.setIfInBounds_toArray, List.set_cons_succ, List.set_cons_zero]
              replace HXL := Lib.hid (HXL.out.trans hX)
              clear x0 x1 x2 y0 y1 y2 hx hy hX
              go_wp2
              go_roundg (3 - (k + 1))
              case rel => exact ⟨k + 1, rfl, by omega, by go_num, HXL⟩
              case measure => omega
            · obtain rfl : k = 3 := by omega
              go_wp2
              go_roundg (S - (i + 1))
              case rel => exact ⟨i + 1, rfl, by omega, by go_num, HXL⟩
              case measure => omega
        · obtain rfl : S = i := by omega
          have q2 : decide (S < S) = false := by simp
          replace HX := Lib.hid (HX.out.trans HXL.out)
          replace HP := Lib.hid (HP.out.ext HXL.out)
          replace HQ := Lib.hid (HQ.out.ext HXL.out)
          replace HMQ := Lib.hid (HMQ.out.ext HXL.out)
          replace HSP := Lib.hid (HSP.out.ext growsG HXL.out)
          replace HSQ := Lib.hid (HSQ.out.ext growsG HXL.out)
          clear HXL
          have p1 := HP.out.cell 1
          simp only [List.getElem?_toArray, List.getElem?_cons_zero, List.getElem?_cons_succ] at p1
          go_wp2_with fail
          refine (misfit_ok S A n c ms ga 0 S (solP (3 * S) ms) _ (H.out.ext HX.out) HV.out HSP.out HFM.out).mono ?_
          rintro e w6 ⟨v6, rfl, hv, hX⟩
          obtain ⟨s4, A4, l4, c4, B4, m4, k4, rfl⟩ := RatC.open hv
          replace HX := Lib.hid (HX.out.trans hX)
          replace HQ := Lib.hid (HQ.out.ext hX)
          replace HMQ := Lib.hid (HMQ.out.ext hX)
          replace HSQ := Lib.hid (HSQ.out.ext growsG hX)
          have HC := Lib.hid (hv.good HFM.out)
          clear hv hX p0 p1
          go_upto_region 25 with (fail)
          have hXa : Ext w6 (w6.alloc (.cells #[.bool s4, .slice A4 l4 c4, .slice B4 m4 k4] 97)) := (Ext.refl _).alloc _
          have kB := Blk.new w6 97 #[.bool s4, .slice A4 l4 c4, .slice B4 m4 k4]
          replace HX := Lib.hid (HX.out.trans hXa)
          replace HQ := Lib.hid (HQ.out.ext hXa)
          replace HMQ := Lib.hid (HMQ.out.ext hXa)
          replace HSQ := Lib.hid (HSQ.out.ext growsG hXa)
          replace HC := Lib.hid (HC.out.ext hXa)
          clear hXa
          generalize w6.heap.size = gx at kB ⊢
          generalize w6.alloc (.cells #[.bool s4, .slice A4 l4 c4, .slice B4 m4 k4] 97) = w7 at kB HX HQ HMQ HSQ HC ⊢
          have KB := Lib.hid kB
          clear kB
          have o0 := HQ.out.cell 0
          have o1 := HQ.out.cell 1
          simp only [List.getElem?_toArray, List.getElem?_cons_zero, List.getElem?_cons_succ] at o0 o1
          have HFQ : Hid (FitQW (misfit (3 * S) (ordL f tt ms n) (solP (3 * S) ms))) := Lib.hid (by rw [HEQ.out.2.2]; exact HFM.out)
          go_wp2_with fail
          refine (misfit_ok S Ao n co (ordL f tt ms n) gb 0 S (solP (3 * S) ms) _ HMQ.out HVQ.out HSQ.out HFQ.out).mono ?_
          rintro e w8 ⟨v8, rfl, hv, hX⟩
          rw [HEQ.out.2.2] at hv
          obtain ⟨s5, A5, l5, c5, B5, m5, k5, rfl⟩ := RatC.open hv
          replace HX := Lib.hid (HX.out.trans hX)
          replace HC := Lib.hid (HC.out.ext hX)
          replace KB := Lib.hid (KB.out.ext hX)
          have HD := Lib.hid (hv.good HFM.out)
          clear hv hX o0 o1
          go_upto_region 26 with (fail)
          have hXa : Ext w8 (w8.alloc (.cells #[.bool s5, .slice A5 l5 c5, .slice B5 m5 k5] 97)) := (Ext.refl _).alloc _
          have kB := Blk.new w8 97 #[.bool s5, .slice A5 l5 c5, .slice B5 m5 k5]
          replace HX := Lib.hid (HX.out.trans hXa)
          replace HC := Lib.hid (HC.out.ext hXa)
          replace HD := Lib.hid (HD.out.ext hXa)
          replace KB := Lib.hid (KB.out.ext hXa)
          clear hXa
          generalize w8.heap.size = gy at kB ⊢
          generalize w8.alloc (.cells #[.bool s5, .slice A5 l5 c5, .slice B5 m5 k5] 97) = w9 at kB HX HC HD KB ⊢
          have x0 := KB.out.cell 0
          have x1 := KB.out.cell 1
          have x2 := KB.out.cell 2
          have y0 := kB.cell 0
          have y1 := kB.cell 1
          have y2 := kB.cell 2
          simp only [List.getElem?_toArray, List.getElem?_cons_zero, List.getElem?_cons_succ] at x0 x1 x2 y0 y1 y2
          clear kB
          go_wp2_with fail
          refine (sameG_any HC.out HD.out).mono ?_
          rw [decide_eq_true rfl]
          rintro e w10 ⟨rfl, hX⟩
          replace HX := Lib.hid (HX.out.trans hX)
          clear hX x0 x1 x2 y0 y1 y2
          go_wp2_with fail
          refine (first_any _).mono ?_
          rintro e w11 ⟨rfl, hX⟩
          replace HX := Lib.hid (HX.out.trans hX)
          clear hX
          go_wp2
          go_ret
          exact ⟨rfl, HX.out⟩

set_option maxRecDepth 100000 in
set_option maxHeartbeats 4000000 in
theorem order_no (S : Int) (A : Option Addr) (n c : Nat) (tt f : Int) (ms : List Mt) (w : World) (h : MsAt w A n ms) (hsm : smB S ms = false) :
    Calls Try.prog 5 #[.agg #[.int .i64 S, .slice A n c], .int .u8 tt, .int .u16 f] w (fun e w' => e = .returned (.bool true) ∧ Ext w w') := by
  have H := Lib.hid h
  have HSM := Lib.hid hsm
  have HX := Lib.hid ((Ext.refl w).alloc (.cells #[.int .i64 S, .slice A n c] 76))
  have HP := Lib.hid (Blk.new w 76 #[.int .i64 S, .slice A n c])
  clear h hsm
  go_enter Try.func5, Try.ntmps5
  go_upto_region 1 with (fail)
  generalize w.alloc (.cells #[.int .i64 S, .slice A n c] 76) = w1 at HX HP ⊢
  have p0 := HP.out.cell 0
  have p1 := HP.out.cell 1
  simp only [List.getElem?_toArray, List.getElem?_cons_zero, List.getElem?_cons_succ] at p0 p1
  go_wp2_with fail
  refine (small_any5 S A n c ms _ (H.out.ext HX.out)).mono ?_
  rw [HSM.out]
  rintro e w2 ⟨rfl, hX⟩
  replace HX := Lib.hid (HX.out.trans hX)
  clear hX p0 p1
  go_wp2_with fail
  refine (first_any _).mono ?_
  rintro e w3 ⟨rfl, hX⟩
  replace HX := Lib.hid (HX.out.trans hX)
  clear hX
  go_wp2
  go_ret
  exact ⟨rfl, HX.out⟩
theorem stripOrder_walk (S : Int) (A : Option Addr) (n c : Nat) (ms : List Mt) (tt f : Int) (w : World) (h : MsAt w A n ms) (ht : 0 ≤ tt ∧ tt ≤ 255) :
    Calls Try.prog 5 #[.agg #[.int .i64 S, .slice A n c], .int .u8 tt, .int .u16 f] w (fun e w' => e = .returned (.bool true) ∧ Ext w w') := by
  by_cases hs : smB S ms = true
  · obtain ⟨⟨h1, h2⟩, hv⟩ := smB_iff.1 hs
    obtain ⟨s, rfl⟩ : ∃ s : Nat, S = s := ⟨S.toNat, by have := hv.1; omega⟩
    obtain ⟨t, rfl⟩ : ∃ t : Nat, tt = t := ⟨tt.toNat, by omega⟩
    exact order_walk s A n c t f ms w h hv (by have := h.1; omega) (by omega) hs
  · exact order_no S A n c tt f ms w h (by simpa using hs)
end Go.Proofs.Ytikhlcgnlbinfaa
