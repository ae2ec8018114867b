/- Lemmas of the proof that follows (Drops, part 11): walks of functions by contract, and plain lemmas. Conditions: none. -/
import Derived.Test.YtikhlcgnlbinfaaDropsJ
namespace Go.Proofs.Ytikhlcgnlbinfaa
open Go.RowKit

theorem Keeps.cell {L : List Nat} {w W : World} {q : Addr} {v : Value} (hk : Keeps L w W) (h : w.cell? q = some v) (hn : q.block ∉ L) : W.cell? q = some v := by
  rw [← h]
  exact World.cell?_of_block (w := w) (hk.block _ (World.block_lt_of_cell? w _ h) hn)
theorem boolR_put {base g n : Nat} {w : World} {f : Nat → Bool} (h : BoolR base w (.slice (some ⟨g, 0, none⟩) n n) n f) {j : Nat} (b : Bool) : BoolR base (w.setCell ⟨g, j, none⟩ (.bool b)) (.slice (some ⟨g, 0, none⟩) n n) n (fun i => if i = j then b else f i) := by
  have h' := rowPut (i := j) (u := .bool b) h
  have e : ((List.range n).map fun i => Value.bool (f i)).set j (.bool b) = (List.range n).map fun i => Value.bool (if i = j then b else f i) := by
    apply List.ext_getElem
    · simp
    · intro i h1 h2
      rw [List.getElem_set]
      simp only [List.getElem_map, List.getElem_range]
      by_cases e : j = i
      · rw [if_pos e, if_pos e.symm]
      · rw [if_neg e, if_neg (Ne.symm e)]
  unfold BoolR
  rw [← e]
  exact h'
theorem boolR_cell {base g n : Nat} {w : World} {f : Nat → Bool} (h : BoolR base w (.slice (some ⟨g, 0, none⟩) n n) n f) {j : Nat} (hj : j < n) : w.cell? ⟨g, j, none⟩ = some (.bool (f j)) :=
  own_cell h (by rw [List.getElem?_map, List.getElem?_range hj]; rfl)
theorem boolR_free {base g n : Nat} {w : World} {f : Nat → Bool} (h : BoolR base w (.slice (some ⟨g, 0, none⟩) n n) n f) (j : Nat) : w.frozen? ⟨g, j, none⟩ = false := own_free h j
theorem boolR_congr {base n : Nat} {w : World} {v : Value} {f h : Nat → Bool} (k : BoolR base w v n f) (e : ∀ j, j < n → f j = h j) : BoolR base w v n h := by
  unfold BoolR at k ⊢
  rw [show ((List.range n).map fun j => Value.bool (h j)) = (List.range n).map fun j => Value.bool (f j) from List.map_congr_left (fun j hj => by rw [e j (List.mem_range.1 hj)])]
  exact k

set_option maxRecDepth 100000 in
set_option maxHeartbeats 4000000 in
theorem wor_r13 (base gq gp gm om nn cc kk lk co : Nat) (Ao : Option Addr) (xs : List Value) (ma mb mx my mz md mw : Int) (w : World) (hown : w.ownsRow base 90 7 (.slice Ao lk co) lk xs) (qv : w.cell? ⟨gq, 1, none⟩ = some (.slice Ao lk co)) (pv : w.cell? ⟨gp, 1, none⟩ = some (.slice (some ⟨gm, om, none⟩) nn cc)) (v0 : w.cell? ⟨gm, om + kk * 7, none⟩ = some (.int .i64 (ma))) (v1 : w.cell? ⟨gm, om + kk * 7 + 1, none⟩ = some (.int .i64 (mb))) (v2 : w.cell? ⟨gm, om + kk * 7 + 2, none⟩ = some (.int .i64 (mx))) (v3 : w.cell? ⟨gm, om + kk * 7 + 3, none⟩ = some (.int .i64 (my))) (v4 : w.cell? ⟨gm, om + kk * 7 + 4, none⟩ = some (.int .i64 (mz))) (v5 : w.cell? ⟨gm, om + kk * 7 + 5, none⟩ = some (.int .i64 (md))) (v6 : w.cell? ⟨gm, om + kk * 7 + 6, none⟩ = some (.int .i64 (mw))) (hq1 : gq ∉ (Value.slice Ao lk co).ownBlock.toList) (hp1 : gp ∉ (Value.slice Ao lk co).ownBlock.toList) (hm1 : gm ∉ (Value.slice Ao lk co).ownBlock.toList) (hkn : kk < nn) (hlk : lk ≤ 200) (hbase : base ≤ w.heap.size) (a : Act) (Q : Exit → Act → World → Prop) (hsize : 75 ≤ a.tmps.size)
    (s2 : a.tmps[2]? = some (.pointer (some ⟨gp, 0, none⟩)))
    (s8 : a.tmps[8]? = some (.pointer (some ⟨gq, 0, none⟩)))
    (s9 : a.tmps[9]? = some (.int .i64 (kk : Int)))
    (hend : ∀ (xv0 xv1 xv2 xv3 xv4 xv5 xv6 xv7 xv8 xv9 : Value) (W : World), (xv0 = .pointer (some ⟨gq, 1, none⟩)) → (xv1 = .slice Ao lk co) → (xv2 = .pointer (some ⟨gp, 1, none⟩)) → (xv3 = .slice (some ⟨gm, om, none⟩) nn cc) → (xv4 = .int .i64 (kk : Int)) → (xv5 = .pointer (some ⟨gm, om + kk * 7, none⟩)) → (xv6 = .agg #[.int .i64 (ma), .int .i64 (mb), .int .i64 (mx), .int .i64 (my), .int .i64 (mz), .int .i64 (md), .int .i64 (mw)]) → ((W.ownsRow base 90 7 (xv8) (lk + 1) (xs ++ [.int .i64 (ma), .int .i64 (mb), .int .i64 (mx), .int .i64 (my), .int .i64 (mz), .int .i64 (md), .int .i64 (mw)]) ∧ ((xv8).ownBlock = (Value.slice Ao lk co).ownBlock ∨ ∃ g, (xv8).ownBlock = some g ∧ w.heap.size ≤ g))) → (xv9 = .pointer (some ⟨gq, 1, none⟩)) → Keeps ((Value.slice Ao lk co).ownBlock.toList) w W → wpList Try.prog (rops Try.f52 13).toArray Q ((rops Try.f52 13).drop 10) ((((((((((a.put (some 65) xv0).put (some 66) xv1).put (some 67) xv2).put (some 68) xv3).put (some 69) xv4).put (some 70) xv5).put (some 71) xv6).put (some 72) xv7).put (some 73) xv8).put (some 74) xv9) W) :
    (Code.region 13 (rops Try.f52 13).toArray true).wp Try.prog Q a w := by
  have hsz : ∀ d, some d ∈ ([some 65, some 66, some 67, some 68, some 69, some 70, some 71, some 72, some 73, some 74] : List (Option Tmp)) → d < a.tmps.size := slots_lt (by decide) hsize
  refine wp_region_g 10 [some 65, some 66, some 67, some 68, some 69, some 70, some 71, some 72, some 73, some 74] [[], [0], [], [2], [], [3, 4], [5], [6], [1, 7], []] [[], [], [], [], [], [], [], [], [], []] (fun (done : Nat → Prop) (us : Nat → Value) (W : World) => Keeps ((Value.slice Ao lk co).ownBlock.toList) w W ∧ (¬ done 8 → Ext w W) ∧ (done 0 → us 0 = .pointer (some ⟨gq, 1, none⟩)) ∧ (done 1 → us 1 = .slice Ao lk co) ∧ (done 2 → us 2 = .pointer (some ⟨gp, 1, none⟩)) ∧ (done 3 → us 3 = .slice (some ⟨gm, om, none⟩) nn cc) ∧ (done 4 → us 4 = .int .i64 (kk : Int)) ∧ (done 5 → us 5 = .pointer (some ⟨gm, om + kk * 7, none⟩)) ∧ (done 6 → us 6 = .agg #[.int .i64 (ma), .int .i64 (mb), .int .i64 (mx), .int .i64 (my), .int .i64 (mz), .int .i64 (md), .int .i64 (mw)]) ∧ (done 7 → ¬ done 8 → ∃ g, us 7 = .slice (some ⟨g, 0, none⟩) 1 1 ∧ w.heap.size ≤ g ∧ Blk W g 90 #[.int .i64 (ma), .int .i64 (mb), .int .i64 (mx), .int .i64 (my), .int .i64 (mz), .int .i64 (md), .int .i64 (mw)]) ∧ (done 8 → (W.ownsRow base 90 7 (us 8) (lk + 1) (xs ++ [.int .i64 (ma), .int .i64 (mb), .int .i64 (mx), .int .i64 (my), .int .i64 (mz), .int .i64 (md), .int .i64 (mw)]) ∧ ((us 8).ownBlock = (Value.slice Ao lk co).ownBlock ∨ ∃ g, (us 8).ownBlock = some g ∧ w.heap.size ≤ g))) ∧ (done 9 → us 9 = .pointer (some ⟨gq, 1, none⟩))) (by kernel_rfl) (by kernel_rfl) hsz (fun p q us W h => by have e : p = q := funext fun k => propext (h k); rw [e]; exact id) (fun us => ⟨(Keeps.refl _ w).drew, fun _ => (Ext.refl w).drew, fun h => h.elim, fun h => h.elim, fun h => h.elim, fun h => h.elim, fun h => h.elim, fun h => h.elim, fun h => h.elim, fun h => h.elim, fun h => h.elim, fun h => h.elim⟩) ?_ ?_
  · clear hend
    simp only [rops, Try.f52, regOf, Option.bind_some, Nat.reduceBEq, if_true, if_false, Bool.false_eq_true, Option.getD_some]
    simp only [List.take_succ_cons, List.take_zero]
    refine ⟨?_, ?_, ?_, ?_, ?_, ?_, ?_, ?_, ?_, ?_, trivial⟩
    · intro done us W hJ hdep haft hnot b hb hb' K hK Q'
      obtain ⟨hX0, hE0, cc0, cc1, cc2, cc3, cc4, cc5, cc6, cc7, cc8, cc9⟩ := hJ
      have e8 := (hb' 8 (by simp)).trans s8
      clear hb hb'
      have hfin := hK (.pointer (some ⟨gq, 1, none⟩)) _ ⟨hX0, fun h => hE0 (fun d => h (.inl d)), fun _ => rfl, fun h => cc1 (h.resolve_right (by decide)), fun h => cc2 (h.resolve_right (by decide)), fun h => cc3 (h.resolve_right (by decide)), fun h => cc4 (h.resolve_right (by decide)), fun h => cc5 (h.resolve_right (by decide)), fun h => cc6 (h.resolve_right (by decide)), fun h h8 => (cc7 (h.resolve_right (by decide)) (fun d => h8 (.inl d))), fun h => (cc8 (h.resolve_right (by decide))), fun h => cc9 (h.resolve_right (by decide))⟩
      clear hK hE0 cc0 cc1 cc2 cc3 cc4 cc5 cc6 cc7 cc8 cc9
      go_simp
      exact hfin
    · intro done us W hJ hdep haft hnot b hb hb' K hK Q'
      obtain ⟨hX0, hE0, cc0, cc1, cc2, cc3, cc4, cc5, cc6, cc7, cc8, cc9⟩ := hJ
      simp only [List.getD_cons_succ, List.getD_cons_zero, List.mem_cons, List.not_mem_nil, or_false, forall_eq] at hdep
      have e65 := hb 0 65 rfl
      rw [cc0 hdep] at e65
      clear hb hb'
      have z0 := hX0.cell qv hq1
      have hfin := hK (.slice Ao lk co) _ ⟨hX0, fun h => hE0 (fun d => h (.inl d)), fun h => cc0 (h.resolve_right (by decide)), fun _ => rfl, fun h => cc2 (h.resolve_right (by decide)), fun h => cc3 (h.resolve_right (by decide)), fun h => cc4 (h.resolve_right (by decide)), fun h => cc5 (h.resolve_right (by decide)), fun h => cc6 (h.resolve_right (by decide)), fun h h8 => (cc7 (h.resolve_right (by decide)) (fun d => h8 (.inl d))), fun h => (cc8 (h.resolve_right (by decide))), fun h => cc9 (h.resolve_right (by decide))⟩
      clear hK hE0 cc0 cc1 cc2 cc3 cc4 cc5 cc6 cc7 cc8 cc9
      go_simp
      exact hfin
    · intro done us W hJ hdep haft hnot b hb hb' K hK Q'
      obtain ⟨hX0, hE0, cc0, cc1, cc2, cc3, cc4, cc5, cc6, cc7, cc8, cc9⟩ := hJ
      have e2 := (hb' 2 (by simp)).trans s2
      clear hb hb'
      have hfin := hK (.pointer (some ⟨gp, 1, none⟩)) _ ⟨hX0, fun h => hE0 (fun d => h (.inl d)), fun h => cc0 (h.resolve_right (by decide)), fun h => cc1 (h.resolve_right (by decide)), fun _ => rfl, fun h => cc3 (h.resolve_right (by decide)), fun h => cc4 (h.resolve_right (by decide)), fun h => cc5 (h.resolve_right (by decide)), fun h => cc6 (h.resolve_right (by decide)), fun h h8 => (cc7 (h.resolve_right (by decide)) (fun d => h8 (.inl d))), fun h => (cc8 (h.resolve_right (by decide))), fun h => cc9 (h.resolve_right (by decide))⟩
      clear hK hE0 cc0 cc1 cc2 cc3 cc4 cc5 cc6 cc7 cc8 cc9
      go_simp
      exact hfin
    · intro done us W hJ hdep haft hnot b hb hb' K hK Q'
      obtain ⟨hX0, hE0, cc0, cc1, cc2, cc3, cc4, cc5, cc6, cc7, cc8, cc9⟩ := hJ
      simp only [List.getD_cons_succ, List.getD_cons_zero, List.mem_cons, List.not_mem_nil, or_false, forall_eq] at hdep
      have e67 := hb 2 67 rfl
      rw [cc2 hdep] at e67
      clear hb hb'
      have z0 := hX0.cell pv hp1
      have hfin := hK (.slice (some ⟨gm, om, none⟩) nn cc) _ ⟨hX0, fun h => hE0 (fun d => h (.inl d)), fun h => cc0 (h.resolve_right (by decide)), fun h => cc1 (h.resolve_right (by decide)), fun h => cc2 (h.resolve_right (by decide)), fun _ => rfl, fun h => cc4 (h.resolve_right (by decide)), fun h => cc5 (h.resolve_right (by decide)), fun h => cc6 (h.resolve_right (by decide)), fun h h8 => (cc7 (h.resolve_right (by decide)) (fun d => h8 (.inl d))), fun h => (cc8 (h.resolve_right (by decide))), fun h => cc9 (h.resolve_right (by decide))⟩
      clear hK hE0 cc0 cc1 cc2 cc3 cc4 cc5 cc6 cc7 cc8 cc9
      go_simp
      exact hfin
    · intro done us W hJ hdep haft hnot b hb hb' K hK Q'
      obtain ⟨hX0, hE0, cc0, cc1, cc2, cc3, cc4, cc5, cc6, cc7, cc8, cc9⟩ := hJ
      have e9 := (hb' 9 (by simp)).trans s9
      clear hb hb'
      have hfin := hK (.int .i64 (kk : Int)) _ ⟨hX0, fun h => hE0 (fun d => h (.inl d)), fun h => cc0 (h.resolve_right (by decide)), fun h => cc1 (h.resolve_right (by decide)), fun h => cc2 (h.resolve_right (by decide)), fun h => cc3 (h.resolve_right (by decide)), fun _ => rfl, fun h => cc5 (h.resolve_right (by decide)), fun h => cc6 (h.resolve_right (by decide)), fun h h8 => (cc7 (h.resolve_right (by decide)) (fun d => h8 (.inl d))), fun h => (cc8 (h.resolve_right (by decide))), fun h => cc9 (h.resolve_right (by decide))⟩
      clear hK hE0 cc0 cc1 cc2 cc3 cc4 cc5 cc6 cc7 cc8 cc9
      go_simp
      exact hfin
    · intro done us W hJ hdep haft hnot b hb hb' K hK Q'
      obtain ⟨hX0, hE0, cc0, cc1, cc2, cc3, cc4, cc5, cc6, cc7, cc8, cc9⟩ := hJ
      simp only [List.getD_cons_succ, List.getD_cons_zero, List.mem_cons, List.not_mem_nil, or_false, forall_eq_or_imp, forall_eq] at hdep
      have e68 := hb 3 68 rfl
      rw [cc3 hdep.1] at e68
      have e69 := hb 4 69 rfl
      rw [cc4 hdep.2] at e69
      clear hb hb'
      have hfin := hK (.pointer (some ⟨gm, om + kk * 7, none⟩)) _ ⟨hX0, fun h => hE0 (fun d => h (.inl d)), fun h => cc0 (h.resolve_right (by decide)), fun h => cc1 (h.resolve_right (by decide)), fun h => cc2 (h.resolve_right (by decide)), fun h => cc3 (h.resolve_right (by decide)), fun h => cc4 (h.resolve_right (by decide)), fun _ => rfl, fun h => cc6 (h.resolve_right (by decide)), fun h h8 => (cc7 (h.resolve_right (by decide)) (fun d => h8 (.inl d))), fun h => (cc8 (h.resolve_right (by decide))), fun h => cc9 (h.resolve_right (by decide))⟩
      clear hK hE0 cc0 cc1 cc2 cc3 cc4 cc5 cc6 cc7 cc8 cc9
      go_simp
      exact hfin
    · intro done us W hJ hdep haft hnot b hb hb' K hK Q'
      obtain ⟨hX0, hE0, cc0, cc1, cc2, cc3, cc4, cc5, cc6, cc7, cc8, cc9⟩ := hJ
      simp only [List.getD_cons_succ, List.getD_cons_zero, List.mem_cons, List.not_mem_nil, or_false, forall_eq] at hdep
      have e70 := hb 5 70 rfl
      rw [cc5 hdep] at e70
      clear hb hb'
      have z0 := hX0.cell v0 hm1
      have z1 := hX0.cell v1 hm1
      have z2 := hX0.cell v2 hm1
      have z3 := hX0.cell v3 hm1
      have z4 := hX0.cell v4 hm1
      have z5 := hX0.cell v5 hm1
      have z6 := hX0.cell v6 hm1
      have hfin := hK (.agg #[.int .i64 (ma), .int .i64 (mb), .int .i64 (mx), .int .i64 (my), .int .i64 (mz), .int .i64 (md), .int .i64 (mw)]) _ ⟨hX0, fun h => hE0 (fun d => h (.inl d)), fun h => cc0 (h.resolve_right (by decide)), fun h => cc1 (h.resolve_right (by decide)), fun h => cc2 (h.resolve_right (by decide)), fun h => cc3 (h.resolve_right (by decide)), fun h => cc4 (h.resolve_right (by decide)), fun h => cc5 (h.resolve_right (by decide)), fun _ => rfl, fun h h8 => (cc7 (h.resolve_right (by decide)) (fun d => h8 (.inl d))), fun h => (cc8 (h.resolve_right (by decide))), fun h => cc9 (h.resolve_right (by decide))⟩
      clear hK hE0 cc0 cc1 cc2 cc3 cc4 cc5 cc6 cc7 cc8 cc9
      go_simp
      exact hfin
    · intro done us W hJ hdep haft hnot b hb hb' K hK Q'
      obtain ⟨hX0, hE0, cc0, cc1, cc2, cc3, cc4, cc5, cc6, cc7, cc8, cc9⟩ := hJ
      simp only [List.getD_cons_succ, List.getD_cons_zero, List.mem_cons, List.not_mem_nil, or_false, forall_eq] at hdep
      have e71 := hb 6 71 rfl
      rw [cc6 hdep] at e71
      clear hb hb'
      have hX := (Ext.refl W).alloc (.cells #[.int .i64 (ma), .int .i64 (mb), .int .i64 (mx), .int .i64 (my), .int .i64 (mz), .int .i64 (md), .int .i64 (mw)] 90)
      have hn := Blk.new W 90 #[.int .i64 (ma), .int .i64 (mb), .int .i64 (mx), .int .i64 (my), .int .i64 (mz), .int .i64 (md), .int .i64 (mw)]
      have hlo := hX0.size
      go_simp
      exact hK _ _ ⟨hX0.trans (.of_ext hX _), fun h => (hE0 (fun d => h (.inl d))).trans hX, fun h => cc0 (h.resolve_right (by decide)), fun h => cc1 (h.resolve_right (by decide)), fun h => cc2 (h.resolve_right (by decide)), fun h => cc3 (h.resolve_right (by decide)), fun h => cc4 (h.resolve_right (by decide)), fun h => cc5 (h.resolve_right (by decide)), fun h => cc6 (h.resolve_right (by decide)), fun _ _ => ⟨_, rfl, hlo, hn⟩, fun h => ⟨World.ownsRow.ext' (cc8 (h.resolve_right (by decide))).1 hX, (cc8 (h.resolve_right (by decide))).2⟩, fun h => cc9 (h.resolve_right (by decide))⟩
    · intro done us W hJ hdep haft hnot b hb hb' K hK Q'
      obtain ⟨hX0, hE0, cc0, cc1, cc2, cc3, cc4, cc5, cc6, cc7, cc8, cc9⟩ := hJ
      simp only [List.getD_cons_succ, List.getD_cons_zero, List.mem_cons, List.not_mem_nil, or_false, forall_eq_or_imp, forall_eq] at hdep
      have e66 := hb 1 66 rfl
      rw [cc1 hdep.1] at e66
      have e72 := hb 7 72 rfl
      clear hb hb'
      obtain ⟨g', e', hg', hb1⟩ := cc7 hdep.2 hnot
      rw [e'] at e72
      have hlow := hX0.size
      obtain ⟨v', W', q, ho, hG, hv⟩ := run_app (P := Try.prog) W elMt2 74 base (Value.slice Ao lk co) lk xs (World.ownsRow.ext' hown (hE0 hnot)) (some ⟨g', 0, none⟩) 1 1 [.int .i64 (ma), .int .i64 (mb), .int .i64 (mx), .int .i64 (my), .int .i64 (mz), .int .i64 (md), .int .i64 (mw)] rfl (fun _ => ⟨g', 0, rfl, fun j y hy => by rw [Nat.zero_add]; exact (hb1.cell j).trans (by rw [List.getElem?_toArray]; exact hy)⟩) (by simp [Value.oneCell']) (by omega) (by unfold maxLen; omega) (by omega)
      have hk := keeps_own hG
      have hv2 : v'.ownBlock = (Value.slice Ao lk co).ownBlock ∨ ∃ g, v'.ownBlock = some g ∧ w.heap.size ≤ g := hv.imp_right fun e => ⟨_, e, hlow⟩
      exact jop_app rfl rfl e66 e72 q (hK _ _ ⟨hX0.trans hk, fun h => absurd (.inr rfl) h, fun h => cc0 (h.resolve_right (by decide)), fun h => cc1 (h.resolve_right (by decide)), fun h => cc2 (h.resolve_right (by decide)), fun h => cc3 (h.resolve_right (by decide)), fun h => cc4 (h.resolve_right (by decide)), fun h => cc5 (h.resolve_right (by decide)), fun h => cc6 (h.resolve_right (by decide)), fun _ h => absurd (.inr rfl) h, fun _ => ⟨ho, hv2⟩, fun h => cc9 (h.resolve_right (by decide))⟩)
    · intro done us W hJ hdep haft hnot b hb hb' K hK Q'
      obtain ⟨hX0, hE0, cc0, cc1, cc2, cc3, cc4, cc5, cc6, cc7, cc8, cc9⟩ := hJ
      have e8 := (hb' 8 (by simp)).trans s8
      clear hb hb'
      have hfin := hK (.pointer (some ⟨gq, 1, none⟩)) _ ⟨hX0, fun h => hE0 (fun d => h (.inl d)), fun h => cc0 (h.resolve_right (by decide)), fun h => cc1 (h.resolve_right (by decide)), fun h => cc2 (h.resolve_right (by decide)), fun h => cc3 (h.resolve_right (by decide)), fun h => cc4 (h.resolve_right (by decide)), fun h => cc5 (h.resolve_right (by decide)), fun h => cc6 (h.resolve_right (by decide)), fun h h8 => (cc7 (h.resolve_right (by decide)) (fun d => h8 (.inl d))), fun h => (cc8 (h.resolve_right (by decide))), fun _ => rfl⟩
      clear hK hE0 cc0 cc1 cc2 cc3 cc4 cc5 cc6 cc7 cc8 cc9
      go_simp
      exact hfin
  · intro us W hJ
    obtain ⟨hX0, hE0, cc0, cc1, cc2, cc3, cc4, cc5, cc6, cc7, cc8, cc9⟩ := hJ
    exact hend (us 0) (us 1) (us 2) (us 3) (us 4) (us 5) (us 6) (us 7) (us 8) (us 9) W (cc0 (show 0 < 10 by decide)) (cc1 (show 1 < 10 by decide)) (cc2 (show 2 < 10 by decide)) (cc3 (show 3 < 10 by decide)) (cc4 (show 4 < 10 by decide)) (cc5 (show 5 < 10 by decide)) (cc6 (show 6 < 10 by decide)) (cc8 (show 8 < 10 by decide)) (cc9 (show 9 < 10 by decide)) hX0
set_option maxRecDepth 100000 in
set_option maxHeartbeats 16000000 in
theorem withoutR_any (S : Int) (A : Option Addr) (n c : Nat) (ms : List Mt) (Ad : Option Addr) (nd cd : Nat) (ds : List Int) (w : World) (h : MsAt w A n ms) (hn : ds.length = nd) (hI : Ints .i64 w Ad nd ds) (hnd : nd ≤ 1000) (hn2 : n ≤ 200) :
    Calls Try.prog 52 #[.agg #[.int .i64 S, .slice A n c], .slice Ad nd cd] w (fun e w' => (DropOk n ds → ∃ v, e = .returned (.tuple #[.agg #[.int .i64 S, v], .bool true]) ∧ w'.ownsRow w.heap.size 90 7 v (wout ms ds).length (mtV (wout ms ds))) ∧ (¬ DropOk n ds → e = .returned (.tuple #[.agg #[.int .i64 0, .slice none 0 0], .bool false])) ∧ Ext w w') := by
  have H := Lib.hid h
  have HI := Lib.hid hI
  have HLD := Lib.hid hn
  have hXe : Ext w ((w.alloc (.cells #[.int .i64 S, .slice A n c] 76)).alloc (.cells #[.int .i64 0, .slice none 0 0] 76)) := ((Ext.refl w).alloc _).alloc _
  have kP : Blk ((w.alloc (.cells #[.int .i64 S, .slice A n c] 76)).alloc (.cells #[.int .i64 0, .slice none 0 0] 76)) w.heap.size 76 #[.int .i64 S, .slice A n c] := Blk.alloc (Blk.new w _ _) _
  have kR : Blk ((w.alloc (.cells #[.int .i64 S, .slice A n c] 76)).alloc (.cells #[.int .i64 0, .slice none 0 0] 76)) (w.heap.size + 1) 76 #[.int .i64 0, .slice none 0 0] := Blk.at_ (by simp)
  clear h hI hn
  go_enter Try.func52, Try.ntmps52
  go_upto_region 1 with (fail)
  generalize (w.alloc (.cells #[.int .i64 S, .slice A n c] 76)).alloc (.cells #[.int .i64 0, .slice none 0 0] 76) = w1 at hXe kP kR ⊢
  have HX := Lib.hid hXe
  have HP := Lib.hid kP
  have HR := Lib.hid kR
  clear hXe kP kR
  have p0 := HP.out.cell 0
  have p1 := HP.out.cell 1
  simp only [List.getElem?_toArray, List.getElem?_cons_zero, List.getElem?_cons_succ] at p0 p1
  have hxs := HX.out.size
  have hrl := HR.out.lt
  go_upto_region 2 with (at_make; refine wpList_mk w1 elBo rfl rfl _ _ rfl w.heap.size _ _ _ _ n n rfl rfl (by first | rfl | omega) (by first | rfl | omega) (Nat.le_refl _) (by omega) (by unfold maxLen; omega) hxs ?_; intro w3 hown hext hsz)
  have hrow : BoolR w.heap.size w3 (.slice (some ⟨w1.heap.size, 0, none⟩) n n) n (fun i => ([] : List Int).contains (i : Int)) := by
    unfold BoolR
    rw [show ((List.range n).map fun j => Value.bool (([] : List Int).contains ((j : Nat) : Int))) = List.replicate n (Value.bool false) from by
      apply List.ext_getElem
      · simp
      · intro i h1 h2; simp]
    exact hown
  replace HX := Lib.hid (HX.out.trans hext)
  replace HP := Lib.hid (HP.out.ext hext)
  replace HR := Lib.hid (HR.out.ext hext)
  generalize w1.heap.size = gb at hrow hrl hxs ⊢
  have HG := Lib.hid hrow
  clear hrow hown hext p0 p1 hsz
  go_wp2_with fail
  go_loopg [7] nd (fun fu iv wr => ∃ j : Nat, fu = nd - j ∧ j ≤ nd ∧ iv = .int .i64 (j : Int) ∧ Hid (DropOk n (ds.take j)) ∧ Hid (BoolR w.heap.size wr (.slice (some ⟨gb, 0, none⟩) n n) n (fun i => (ds.take j).contains (i : Int))) ∧ Hid (Blk wr w.heap.size 76 #[.int .i64 S, .slice A n c]) ∧ Hid (Blk wr (w.heap.size + 1) 76 #[.int .i64 0, .slice none 0 0]) ∧ Hid (Ext w wr))
  case atStart => exact ⟨0, rfl, by omega, rfl, Lib.hid (DropOk.nil n), HG, HP, HR, HX⟩
  case round =>
    clear HG HP HR HX
    obtain ⟨j, rfl, hj, rfl, HOK, HG, HP, HR, HX⟩ := hrel
    by_cases hlt : j < nd
    · have q1 : decide (j < nd) = true := decide_eq_true hlt
      obtain ⟨gd, od, d, hAd, hd, hwf, x0⟩ := (HI.out.ext HX.out).get hlt
      subst hAd
      have HSN := Lib.hid (dropOk_snoc (n := n) hd)
      have HD := Lib.hid hd
      clear hd hwf
      by_cases h1 : d < 0
      · have q2 : decide (d < 0) = true := decide_eq_true h1
        have HN : Hid (¬ DropOk n ds) := Lib.hid (fun h => by have := (HSN.out.1 (dropOk_take h (j + 1))).2.1; omega)
        clear h1
        have r0 := HR.out.cell 0
        have r1 := HR.out.cell 1
        have f0 := HR.out.free 0
        have f1 := HR.out.free 1
        simp only [List.getElem?_toArray, List.getElem?_cons_zero, List.getElem?_cons_succ] at r0 r1
        go_wp2
        refine bodyPost_ret (v := .tuple #[.agg #[.int .i64 0, .slice none 0 0], .bool false]) (by simp [results, Try.results52, go_sem, *]) rfl ?_
        exact ⟨fun h => absurd h HN.out, fun _ => rfl, (HX.out.setCell (p := ⟨w.heap.size + 1, 0, none⟩) (by simp only; omega) _).setCell (p := ⟨w.heap.size + 1, 1, none⟩) (by simp only; omega) _⟩
      · have q2 : decide (d < 0) = false := decide_eq_false h1
        obtain ⟨dn, rfl⟩ : ∃ dn : Nat, d = dn := ⟨d.toNat, by omega⟩
        clear h1
        by_cases h2 : n ≤ dn
        · have q3 : decide ((n : Int) ≤ (dn : Int)) = true := decide_eq_true (by omega)
          have q3b : decide (n ≤ dn) = true := decide_eq_true h2
          have HN : Hid (¬ DropOk n ds) := Lib.hid (fun h => by have := (HSN.out.1 (dropOk_take h (j + 1))).2.2.1; omega)
          clear h2
          have r0 := HR.out.cell 0
          have r1 := HR.out.cell 1
          have f0 := HR.out.free 0
          have f1 := HR.out.free 1
          simp only [List.getElem?_toArray, List.getElem?_cons_zero, List.getElem?_cons_succ] at r0 r1
          go_wp2
          refine bodyPost_ret (v := .tuple #[.agg #[.int .i64 0, .slice none 0 0], .bool false]) (by simp [results, Try.results52, go_sem, *]) rfl ?_
          exact ⟨fun h => absurd h HN.out, fun _ => rfl, (HX.out.setCell (p := ⟨w.heap.size + 1, 0, none⟩) (by simp only; omega) _).setCell (p := ⟨w.heap.size + 1, 1, none⟩) (by simp only; omega) _⟩
        · have q3 : decide ((n : Int) ≤ (dn : Int)) = false := decide_eq_false (by omega)
          have q3b : decide (n ≤ dn) = false := decide_eq_false h2
          have hdn : dn < n := by omega
          have g0 := boolR_cell HG.out hdn
          obtain ⟨cb, hcb⟩ : ∃ cb, (ds.take j).contains (dn : Int) = cb := ⟨_, rfl⟩
          rw [hcb] at g0
          have HCB := Lib.hid hcb
          clear hcb
          by_cases h3 : cb = true
          · subst h3
            have HN : Hid (¬ DropOk n ds) := Lib.hid (fun h => (HSN.out.1 (dropOk_take h (j + 1))).2.2.2 (by have := HCB.out; simpa using this))
            have r0 := HR.out.cell 0
            have r1 := HR.out.cell 1
            have f0 := HR.out.free 0
            have f1 := HR.out.free 1
            simp only [List.getElem?_toArray, List.getElem?_cons_zero, List.getElem?_cons_succ] at r0 r1
            go_wp2
            refine bodyPost_ret (v := .tuple #[.agg #[.int .i64 0, .slice none 0 0], .bool false]) (by simp [results, Try.results52, go_sem, *]) rfl ?_
            exact ⟨fun h => absurd h HN.out, fun _ => rfl, (HX.out.setCell (p := ⟨w.heap.size + 1, 0, none⟩) (by simp only; omega) _).setCell (p := ⟨w.heap.size + 1, 1, none⟩) (by simp only; omega) _⟩
          · obtain rfl : cb = false := by simpa using h3
            have HO2 : Hid (DropOk n (ds.take (j + 1))) := Lib.hid (HSN.out.2 ⟨HOK.out, by omega, by omega, by have := HCB.out; simpa using this⟩)
            have gf := boolR_free HG.out dn
            have HPUT := Lib.hid (boolR_put HG.out (j := dn) true)
            have hgl : w.heap.size + 1 < gb ∧ gb < wr.heap.size := ⟨hrl, (HG.out.lt gb (by simp [Value.ownBlock])).2⟩
            clear h2 h3
            go_wp2
            go_roundg (nd - (j + 1))
            case rel =>
              refine ⟨j + 1, rfl, by omega, by go_num, HO2, Lib.hid (boolR_congr HPUT.out (fun i _ => ?_)), Lib.hid (HP.out.far (by simp only; omega) _), Lib.hid (HR.out.far (by simp only; omega) _), Lib.hid (HX.out.setCell (by simp only; omega) _)⟩
              rw [show ds.take (j + 1) = ds.take j ++ [(dn : Int)] by rw [List.take_add_one, HD.out]; rfl]
              by_cases e : i = dn
              · subst e; rw [if_pos rfl]; simp
              · rw [if_neg e]
                have : (i : Int) ≠ (dn : Int) := by omega
                rw [Bool.eq_iff_iff]
                simp [this]
            case measure => omega
    · obtain rfl : nd = j := by omega
      have q1 : decide (nd < nd) = false := by simp
      have HDT : Hid (ds.take nd = ds) := Lib.hid (List.take_of_length_le (by have := HLD.out; omega))
      rw [HDT.out] at HG HOK
      clear HDT
      have pl := HP.out
      have p0 := pl.cell 0
      have p1 := pl.cell 1
      simp only [List.getElem?_toArray, List.getElem?_cons_zero, List.getElem?_cons_succ] at p0 p1
      clear pl
      go_upto_region 9 with (fail)
      have hXa : Ext wr (wr.alloc (.cells #[.int .i64 S, .slice none 0 0] 76)) := (Ext.refl _).alloc _
      have kQ := Blk.new wr 76 #[.int .i64 S, .slice none 0 0]
      have hgl : gb < wr.heap.size := (HG.out.lt gb (by simp [Value.ownBlock])).2
      replace HX := Lib.hid (HX.out.trans hXa)
      replace HP := Lib.hid (HP.out.ext hXa)
      replace HR := Lib.hid (HR.out.ext hXa)
      replace HG := Lib.hid (BoolR.ext HG.out hXa)
      clear hXa p0 p1
      generalize wr.heap.size = gq at kQ hgl ⊢
      generalize wr.alloc (.cells #[.int .i64 S, .slice none 0 0] 76) = w4 at kQ HX HP HR HG ⊢
      have HQ := Lib.hid kQ
      clear kQ
      go_wp2_with fail
      go_loopg [9] n (fun fu iv wz => ∃ (k : Nat) (ov : Value), fu = n - k ∧ k ≤ n ∧ iv = .int .i64 (k : Int) ∧ Hid (wz.ownsRow (gq + 1) 90 7 ov (keepI ds k).length (mtV ((keepI ds k).map (mtAt ms)))) ∧ Hid (Blk wz gq 76 #[.int .i64 S, ov]) ∧ Hid (BoolR w.heap.size wz (.slice (some ⟨gb, 0, none⟩) n n) n (fun i => (ds).contains (i : Int))) ∧ Hid (Blk wz w.heap.size 76 #[.int .i64 S, .slice A n c]) ∧ Hid (Blk wz (w.heap.size + 1) 76 #[.int .i64 0, .slice none 0 0]) ∧ Hid (Ext w wz))
      case atStart => exact ⟨0, .slice none 0 0, rfl, by omega, rfl, Lib.hid (World.ownsRow_nil _ _ _ _), HQ, HG, HP, HR, HX⟩
      case round =>
        clear HQ HG HP HR HX
        obtain ⟨k, ov, rfl, hk, rfl, HO, HQ, HG, HP, HR, HX⟩ := hrel
        obtain ⟨Ao, co, rfl⟩ := own_slice HO.out
        have pl := HP.out
        have p0 := pl.cell 0
        have p1 := pl.cell 1
        simp only [List.getElem?_toArray, List.getElem?_cons_zero, List.getElem?_cons_succ] at p0 p1
        clear pl
        by_cases hkn : k < n
        · have q2 : decide (k < n) = true := decide_eq_true hkn
          obtain ⟨gm, om, ⟨a, b, x, y, z, dd, ww⟩, rfl, hm, hmem, x0, x1, x2, x3, x4, x5, x6⟩ := (H.out.ext HX.out).get hkn
          simp only at x0 x1 x2 x3 x4 x5 x6
          have HMK : Hid (mtAt ms k = ⟨a, b, x, y, z, dd, ww⟩) := Lib.hid (by unfold mtAt; rw [hm]; rfl)
          have HKM := Lib.hid (keepI_map ms ds k)
          have HKL := Lib.hid (keepI_succ ds k)
          have hgmw : gm < w.heap.size := by
            obtain ⟨_, _, _, hA2, _, _, y0, _⟩ := H.out.get hkn
            injection hA2 with hA2
            injection hA2 with hA2 _
            subst hA2
            exact World.block_lt_of_cell? w _ y0
          have g0 := boolR_cell HG.out hkn
          obtain ⟨cb, hcb⟩ : ∃ cb, ds.contains (k : Int) = cb := ⟨_, rfl⟩
          rw [hcb] at g0 HKM HKL
          clear hcb hm hmem
          by_cases hc : cb = true
          · subst hc
            have HK1 : Hid ((keepI ds (k + 1)).map (mtAt ms) = (keepI ds k).map (mtAt ms)) := Lib.hid (by rw [HKM.out]; simp)
            have HK2 : Hid ((keepI ds (k + 1)).length = (keepI ds k).length) := Lib.hid (by rw [HKL.out]; simp)
            clear HKM HKL
            go_wp2
            go_roundg (n - (k + 1))
            case rel =>
              refine ⟨k + 1, _, rfl, by omega, by go_num, Lib.hid ?_, HQ, HG, HP, HR, HX⟩
              rw [HK1.out, HK2.out]
              exact HO.out
            case measure => omega
          · obtain rfl : cb = false := by simpa using hc
            clear hc
            have HK1 : Hid ((keepI ds (k + 1)).map (mtAt ms) = (keepI ds k).map (mtAt ms) ++ [⟨a, b, x, y, z, dd, ww⟩]) := Lib.hid (by rw [HKM.out, HMK.out]; rfl)
            have HK2 : Hid ((keepI ds (k + 1)).length = (keepI ds k).length + 1) := Lib.hid (by rw [HKL.out]; simp)
            obtain ⟨lk, hlk⟩ : ∃ lk, (keepI ds k).length = lk := ⟨_, rfl⟩
            have hlk64 : lk ≤ 200 := by have := keepI_le ds k; omega
            rw [hlk] at HO HQ HK2
            clear HKM HKL hlk
            have hol : ∀ g ∈ (Value.slice Ao lk co).ownBlock.toList, gq < g ∧ g < wr.heap.size := fun g hg => by
              have := HO.out.lt g (by simpa using hg)
              omega
            have HOL := Lib.hid hol
            clear hol
            have hqs : gq + 1 ≤ wr.heap.size := HQ.out.lt
            go_upto_region 13 with (fail)
            refine wor_r13 (gq + 1) gq w.heap.size gm om n c k lk co Ao _ a b x y z dd ww wr HO.out (HQ.out.cell 1) p1 x0 x1 x2 x3 x4 x5 x6 (fun h => by have := HOL.out _ h; omega) (fun h => by have := HOL.out _ h; omega) (fun h => by have := HOL.out _ h; omega) hkn hlk64 hqs _ _ (by simp) rfl rfl rfl ?_
            intro xv0 xv1 xv2 xv3 xv4 xv5 xv6 xv7 xv8 xv9 W e0 e1 e2 e3 e4 e5 e6 hrow e9 hk9
            subst e0 e1 e2 e3 e4 e5 e6 e9
            obtain ⟨ho8, hb8⟩ := hrow
            obtain ⟨A8, c8, rfl⟩ := own_slice ho8
            simp only [rops, Try.f52, regOf, Option.bind_some, Nat.reduceBEq, if_true, if_false, Bool.false_eq_true, Option.getD_some, List.drop_succ_cons, List.drop_zero]
            simp only [Act.put, List.setIfInBounds_toArray, List.set_cons_succ, List.set_cons_zero]
            have HO8 := Lib.hid ho8
            have HB8 := Lib.hid hb8
            have HK9 := Lib.hid hk9
            have HQ9 := Lib.hid (HQ.out.keeps hk9 (fun h => by have := HOL.out _ h; omega))
            have HP9 := Lib.hid (HP.out.keeps hk9 (fun h => by have := HOL.out _ h; omega))
            have HR9 := Lib.hid (HR.out.keeps hk9 (fun h => by have := HOL.out _ h; omega))
            have HG9 : Hid (BoolR w.heap.size W (.slice (some ⟨gb, 0, none⟩) n n) n (fun i => (ds).contains (i : Int))) := Lib.hid (ownsRow_keeps HG.out hk9 (fun g hg h => by have := HOL.out _ h; simp [Value.ownBlock] at hg; omega))
            have HX9 := Lib.hid (hk9.ext HX.out (fun g hg => by have := HOL.out _ hg; omega))
            clear ho8 hb8 hk9 x0 x1 x2 x3 x4 x5 x6 p0 p1 g0
            have o1 := HQ9.out.cell 1
            have o1f := HQ9.out.free 1
            simp only [List.getElem?_toArray, List.getElem?_cons_zero, List.getElem?_cons_succ] at o1
            go_wp2
            go_roundg (n - (k + 1))
            case rel =>
              have hkw : Keeps [gq] W (W.setCell ⟨gq, 1, none⟩ (.slice A8 (lk + 1) c8)) := (Keeps.refl [gq] W).setCell (.inl (by simp)) _
              refine ⟨k + 1, .slice A8 (lk + 1) c8, rfl, by omega, by go_num, Lib.hid ?_, Lib.hid ?_, Lib.hid (ownsRow_keeps HG9.out hkw (fun g hg h => by simp [Value.ownBlock] at hg; simp at h; omega)), Lib.hid (HP9.out.far (by simp only; omega) _), Lib.hid (HR9.out.far (by simp only; omega) _), Lib.hid (HX9.out.setCell (by simp only; omega) _)⟩
              · rw [HK1.out, HK2.out, mtV_snoc]
                exact ownsRow_keeps HO8.out hkw (fun g hg hl => by have := (HO8.out.lt g hg).1; simp at hl; omega)
              · have := HQ9.out.set 1 (.slice A8 (lk + 1) c8)
                simpa using this
            case measure => omega
        · obtain rfl : n = k := by omega
          have q2 : decide (n < n) = false := by simp
          have HWO : Hid ((keepI ds n).map (mtAt ms) = wout ms ds ∧ (keepI ds n).length = (wout ms ds).length) := Lib.hid (by unfold wout; rw [H.out.1, List.length_map]; exact ⟨rfl, rfl⟩)
          rw [HWO.out.1, HWO.out.2] at HO
          obtain ⟨lk, hlk⟩ : ∃ lk, (wout ms ds).length = lk := ⟨_, rfl⟩
          rw [hlk] at HO
          rw [HWO.out.2, hlk] at HQ
          clear HWO
          have HLK := Lib.hid hlk
          clear hlk
          have r0 := HR.out.cell 0
          have r1 := HR.out.cell 1
          have f0 := HR.out.free 0
          have f1 := HR.out.free 1
          simp only [List.getElem?_toArray, List.getElem?_cons_zero, List.getElem?_cons_succ] at r0 r1
          have o0 := HQ.out.cell 0
          have o1 := HQ.out.cell 1
          simp only [List.getElem?_toArray, List.getElem?_cons_zero, List.getElem?_cons_succ] at o0 o1
          go_wp2
          refine bodyPost_ret (v := .tuple #[.agg #[.int .i64 S, .slice Ao lk co], .bool true]) (by simp [results, Try.results52, go_sem, *]) rfl ?_
          refine ⟨fun _ => ⟨.slice Ao lk co, rfl, ?_⟩, fun h => absurd HOK.out h, (HX.out.setCell (p := ⟨w.heap.size + 1, 0, none⟩) (by simp only; omega) _).setCell (p := ⟨w.heap.size + 1, 1, none⟩) (by simp only; omega) _⟩
          have hkw : Keeps [w.heap.size + 1] wr ((wr.setCell ⟨w.heap.size + 1, 0, none⟩ (.int .i64 S)).setCell ⟨w.heap.size + 1, 1, none⟩ (.slice Ao lk co)) := ((Keeps.refl [w.heap.size + 1] wr).setCell (.inl (by simp)) _).setCell (.inl (by simp)) _
          rw [HLK.out]
          exact ownsRow_keeps (World.ownsRow.mono' HO.out (show w.heap.size ≤ gq + 1 by omega)) hkw (fun g hg hl => by have := (HO.out.lt g hg).1; simp at hl; omega)

end Go.Proofs.Ytikhlcgnlbinfaa
namespace Go.Proofs.Ytikhlcgnlbinfaa
open Go.RowKit

theorem vmr_first (S a b x y z d ww : Int) : (0 ≤ a ∧ a < S ∧ -1 ≤ b ∧ b < S ∧ b ≠ a ∧ -274877906944 ≤ d ∧ d ≤ 274877906944 ∧ 1 ≤ ww ∧ ww ≤ 1000 ∧ ¬ (x = 0 ∧ y = 0 ∧ z = 0)) ∨ (a < 0) ∨ (0 ≤ a ∧ S ≤ a) ∨ (0 ≤ a ∧ a < S ∧ b < -1) ∨ (0 ≤ a ∧ a < S ∧ -1 ≤ b ∧ S ≤ b) ∨ (0 ≤ a ∧ a < S ∧ -1 ≤ b ∧ b < S ∧ b = a) ∨ (0 ≤ a ∧ a < S ∧ -1 ≤ b ∧ b < S ∧ b ≠ a ∧ d < -274877906944) ∨ (0 ≤ a ∧ a < S ∧ -1 ≤ b ∧ b < S ∧ b ≠ a ∧ -274877906944 ≤ d ∧ 274877906944 < d) ∨ (0 ≤ a ∧ a < S ∧ -1 ≤ b ∧ b < S ∧ b ≠ a ∧ -274877906944 ≤ d ∧ d ≤ 274877906944 ∧ ww < 1) ∨ (0 ≤ a ∧ a < S ∧ -1 ≤ b ∧ b < S ∧ b ≠ a ∧ -274877906944 ≤ d ∧ d ≤ 274877906944 ∧ 1 ≤ ww ∧ 1000 < ww) ∨ (0 ≤ a ∧ a < S ∧ -1 ≤ b ∧ b < S ∧ b ≠ a ∧ -274877906944 ≤ d ∧ d ≤ 274877906944 ∧ 1 ≤ ww ∧ ww ≤ 1000 ∧ (x = 0 ∧ y = 0 ∧ z = 0)) := by
  by_cases c0 : 0 ≤ a
  · by_cases c1 : a < S
    · by_cases c2 : -1 ≤ b
      · by_cases c3 : b < S
        · by_cases c4 : b ≠ a
          · by_cases c5 : -274877906944 ≤ d
            · by_cases c6 : d ≤ 274877906944
              · by_cases c7 : 1 ≤ ww
                · by_cases c8 : ww ≤ 1000
                  · by_cases c9 : ¬ (x = 0 ∧ y = 0 ∧ z = 0)
                    · exact .inl ⟨c0, c1, c2, c3, c4, c5, c6, c7, c8, c9⟩
                    · exact .inr (.inr (.inr (.inr (.inr (.inr (.inr (.inr (.inr (.inr (⟨c0, c1, c2, c3, c4, c5, c6, c7, c8, Decidable.not_not.1 c9⟩))))))))))
                  · exact .inr (.inr (.inr (.inr (.inr (.inr (.inr (.inr (.inr (.inl ⟨c0, c1, c2, c3, c4, c5, c6, c7, by omega⟩)))))))))
                · exact .inr (.inr (.inr (.inr (.inr (.inr (.inr (.inr (.inl ⟨c0, c1, c2, c3, c4, c5, c6, by omega⟩))))))))
              · exact .inr (.inr (.inr (.inr (.inr (.inr (.inr (.inl ⟨c0, c1, c2, c3, c4, c5, by omega⟩)))))))
            · exact .inr (.inr (.inr (.inr (.inr (.inr (.inl ⟨c0, c1, c2, c3, c4, by omega⟩))))))
          · exact .inr (.inr (.inr (.inr (.inr (.inl ⟨c0, c1, c2, c3, Decidable.not_not.1 c4⟩)))))
        · exact .inr (.inr (.inr (.inr (.inl ⟨c0, c1, c2, by omega⟩))))
      · exact .inr (.inr (.inr (.inl ⟨c0, c1, by omega⟩)))
    · exact .inr (.inr (.inl ⟨c0, by omega⟩))
  · exact .inr (.inl ((by omega)))

set_option maxRecDepth 100000 in
set_option maxHeartbeats 32000000 in
theorem valid5R_any (S : Int) (A : Option Addr) (n c : Nat) (ms : List Mt) (w : World) (h : MsAt w A n ms) :
    Calls Try.prog 42 #[.agg #[.int .i64 S, .slice A n c]] w (fun e w' => e = .returned (.bool (vpB S ms)) ∧ Ext w w') := by
  have HX := Lib.hid ((Ext.refl w).alloc (.cells #[.int .i64 S, .slice A n c] 76))
  have HP := Lib.hid (Blk.new w 76 #[.int .i64 S, .slice A n c])
  have H := Lib.hid h
  have HL := Lib.hid h.1
  clear h
  obtain ⟨R, hR⟩ : ∃ R, vpB S ms = R := ⟨_, rfl⟩
  have HR := Lib.hid hR
  rw [hR]
  clear hR
  rcases vp_first (S := S) (n := n) with ⟨h1, h2, h3⟩ | h1 | ⟨h1, h2⟩ | ⟨h1, h2, h3⟩
  rotate_left
  · obtain rfl : R = false := by rw [← HR.out]; exact vpB_no (fun h => by have := h.1; omega)
    go_enter Try.func42, Try.ntmps42
    go_wp2
    go_ret
    exact ⟨rfl, HX.out⟩
  · obtain rfl : R = false := by rw [← HR.out]; exact vpB_no (fun h => by have := h.2.1; omega)
    go_enter Try.func42, Try.ntmps42
    go_wp2
    go_ret
    exact ⟨rfl, HX.out⟩
  · obtain rfl : R = false := by rw [← HR.out]; exact vpB_no (fun h => by have := h.2.2.1; have := HL.out; omega)
    go_enter Try.func42, Try.ntmps42
    go_wp2
    go_ret
    exact ⟨rfl, HX.out⟩
  go_enter Try.func42, Try.ntmps42
  go_upto_region 1 with (fail)
  generalize w.alloc (.cells #[.int .i64 S, .slice A n c] 76) = w1 at HX HP ⊢
  have p0 := HP.out.cell 0
  have p1 := HP.out.cell 1
  simp only [List.getElem?_toArray, List.getElem?_cons_zero, List.getElem?_cons_succ] at p0 p1
  go_wp2_with fail
  clear p0 p1
  go_loopg [3] n (fun f iv wr => ∃ k : Nat, f = n - k ∧ k ≤ n ∧ iv = .int .i64 (k : Int) ∧ Hid (∀ m ∈ ms.take k, vmB S m = true) ∧ Hid (Blk wr w.heap.size 76 #[.int .i64 S, .slice A n c]) ∧ Hid (Ext w wr))
  case atStart => exact ⟨0, rfl, by omega, rfl, Lib.hid (by simp), HP, HX⟩
  case round =>
    clear HX HP
    obtain ⟨k, rfl, hk, rfl, HV, HP, HX⟩ := hrel
    have p0 := HP.out.cell 0
    have p1 := HP.out.cell 1
    simp only [List.getElem?_toArray, List.getElem?_cons_zero, List.getElem?_cons_succ] at p0 p1
    by_cases hlt : k < n
    · have q1 : decide (k < n) = true := decide_eq_true hlt
      obtain ⟨g, o, ⟨a, b, x, y, z, d, ww⟩, rfl, hm, hmem, x0, x1, x2, x3, x4, x5, x6⟩ := (H.out.ext HX.out).get hlt
      simp only at x0 x1 x2 x3 x4 x5 x6
      have HM := Lib.hid hm
      have HME := Lib.hid hmem
      clear hm hmem
      go_upto_region 7 with (fail)
      have hXa : Ext wr (wr.alloc (.cells #[.int .i64 (a), .int .i64 (b), .int .i64 (x), .int .i64 (y), .int .i64 (z), .int .i64 (d), .int .i64 (ww)] 90)) := (Ext.refl _).alloc _
      have hB := Blk.new wr 90 #[.int .i64 (a), .int .i64 (b), .int .i64 (x), .int .i64 (y), .int .i64 (z), .int .i64 (d), .int .i64 (ww)]
      replace HX := Lib.hid (HX.out.trans hXa)
      replace HP := Lib.hid (HP.out.ext hXa)
      clear hXa x0 x1 x2 x3 x4 x5 x6 p0 p1
      generalize wr.heap.size = gm at hB ⊢
      generalize wr.alloc (.cells #[.int .i64 (a), .int .i64 (b), .int .i64 (x), .int .i64 (y), .int .i64 (z), .int .i64 (d), .int .i64 (ww)] 90) = w2 at hB HX HP ⊢
      have HB := Lib.hid hB
      clear hB
      have y0 := HB.out.cell 0
      have y1 := HB.out.cell 1
      have y2 := HB.out.cell 2
      have y3 := HB.out.cell 3
      have y4 := HB.out.cell 4
      have y5 := HB.out.cell 5
      have y6 := HB.out.cell 6
      simp only [List.getElem?_toArray, List.getElem?_cons_zero, List.getElem?_cons_succ] at y0 y1 y2 y3 y4 y5 y6
      have p0 := HP.out.cell 0
      simp only [List.getElem?_toArray, List.getElem?_cons_zero] at p0
      rcases vmr_first S a b x y z d ww with ⟨c0, c1, c2, c3, c4, c5, c6, c7, c8, c9⟩ | c0 | ⟨c0, c1⟩ | ⟨c0, c1, c2⟩ | ⟨c0, c1, c2, c3⟩ | ⟨c0, c1, c2, c3, c4⟩ | ⟨c0, c1, c2, c3, c4, c5⟩ | ⟨c0, c1, c2, c3, c4, c5, c6⟩ | ⟨c0, c1, c2, c3, c4, c5, c6, c7⟩ | ⟨c0, c1, c2, c3, c4, c5, c6, c7, c8⟩ | ⟨c0, c1, c2, c3, c4, c5, c6, c7, c8, rfl, rfl, rfl⟩
      rotate_left
      · obtain rfl : R = false := by rw [← HR.out]; exact vpB_no (fun h => by have h := h.2.2.2 _ HME.out; have := h.a0; have := h.aS; have := h.b0; have := h.bS; have := h.ne; have := h.nz; have := h.d1; have := h.d2; have := h.w1; have := h.w2; simp only at *; omega)
        go_wp2
        go_ret
        exact ⟨rfl, HX.out⟩
      · obtain rfl : R = false := by rw [← HR.out]; exact vpB_no (fun h => by have h := h.2.2.2 _ HME.out; have := h.a0; have := h.aS; have := h.b0; have := h.bS; have := h.ne; have := h.nz; have := h.d1; have := h.d2; have := h.w1; have := h.w2; simp only at *; omega)
        go_wp2
        go_ret
        exact ⟨rfl, HX.out⟩
      · obtain rfl : R = false := by rw [← HR.out]; exact vpB_no (fun h => by have h := h.2.2.2 _ HME.out; have := h.a0; have := h.aS; have := h.b0; have := h.bS; have := h.ne; have := h.nz; have := h.d1; have := h.d2; have := h.w1; have := h.w2; simp only at *; omega)
        go_wp2
        go_ret
        exact ⟨rfl, HX.out⟩
      · obtain rfl : R = false := by rw [← HR.out]; exact vpB_no (fun h => by have h := h.2.2.2 _ HME.out; have := h.a0; have := h.aS; have := h.b0; have := h.bS; have := h.ne; have := h.nz; have := h.d1; have := h.d2; have := h.w1; have := h.w2; simp only at *; omega)
        go_wp2
        go_ret
        exact ⟨rfl, HX.out⟩
      · obtain rfl : R = false := by rw [← HR.out]; exact vpB_no (fun h => by have h := h.2.2.2 _ HME.out; have := h.a0; have := h.aS; have := h.b0; have := h.bS; have := h.ne; have := h.nz; have := h.d1; have := h.d2; have := h.w1; have := h.w2; simp only at *; omega)
        subst c4
        have g5 : (b == b) = true := by simp
        go_wp2
        go_ret
        exact ⟨rfl, HX.out⟩
      · obtain rfl : R = false := by rw [← HR.out]; exact vpB_no (fun h => by have h := h.2.2.2 _ HME.out; have := h.a0; have := h.aS; have := h.b0; have := h.bS; have := h.ne; have := h.nz; have := h.d1; have := h.d2; have := h.w1; have := h.w2; simp only at *; omega)
        have g5 : (b == a) = false := by simpa using c4
        go_wp2
        go_ret
        exact ⟨rfl, HX.out⟩
      · obtain rfl : R = false := by rw [← HR.out]; exact vpB_no (fun h => by have h := h.2.2.2 _ HME.out; have := h.a0; have := h.aS; have := h.b0; have := h.bS; have := h.ne; have := h.nz; have := h.d1; have := h.d2; have := h.w1; have := h.w2; simp only at *; omega)
        have g5 : (b == a) = false := by simpa using c4
        go_wp2
        go_ret
        exact ⟨rfl, HX.out⟩
      · obtain rfl : R = false := by rw [← HR.out]; exact vpB_no (fun h => by have h := h.2.2.2 _ HME.out; have := h.a0; have := h.aS; have := h.b0; have := h.bS; have := h.ne; have := h.nz; have := h.d1; have := h.d2; have := h.w1; have := h.w2; simp only at *; omega)
        have g5 : (b == a) = false := by simpa using c4
        go_wp2
        go_ret
        exact ⟨rfl, HX.out⟩
      · obtain rfl : R = false := by rw [← HR.out]; exact vpB_no (fun h => by have h := h.2.2.2 _ HME.out; have := h.a0; have := h.aS; have := h.b0; have := h.bS; have := h.ne; have := h.nz; have := h.d1; have := h.d2; have := h.w1; have := h.w2; simp only at *; omega)
        have g5 : (b == a) = false := by simpa using c4
        go_wp2
        go_ret
        exact ⟨rfl, HX.out⟩
      · obtain rfl : R = false := by rw [← HR.out]; exact vpB_no (fun h => (h.2.2.2 _ HME.out).nz ⟨rfl, rfl, rfl⟩)
        have g5 : (b == a) = false := by simpa using c4
        have g6 : ∀ w, (Op.equalIn 10000 22 (.agg #[.int .i64 0, .int .i64 0, .int .i64 0]) (.agg #[.int .i64 0, .int .i64 0, .int .i64 0])).run Try.prog w = .ok true w := fun w => by rw [run_eq3 9998, decide_eq_true ⟨rfl, rfl, rfl⟩]
        go_wp2
        go_ret
        exact ⟨rfl, HX.out⟩
      have g5 : (b == a) = false := by simpa using c4
      have g6 : ∀ w, (Op.equalIn 10000 22 (.agg #[.int .i64 x, .int .i64 y, .int .i64 z]) (.agg #[.int .i64 0, .int .i64 0, .int .i64 0])).run Try.prog w = .ok false w := fun w => by rw [run_eq3 9998, decide_eq_false c9]
      have HC9 := Lib.hid c9
      clear c9
      go_wp2_with fail
      go_loopg [5] 3 (fun f iv wz => ∃ r : Nat, f = 3 - r ∧ r ≤ 3 ∧ iv = .int .i64 (r : Int) ∧ Hid (∀ q, q < r → -100 ≤ pick3 x y z q ∧ pick3 x y z q ≤ 100) ∧ wz = w2)
      case atStart => exact ⟨0, rfl, by omega, rfl, Lib.hid (fun q hq => by omega), rfl⟩
      case round =>
        obtain ⟨r, rfl, hr, rfl, HPK, rfl⟩ := hrel
        by_cases hrl : r < 3
        · have q2 : decide (r < 3) = true := decide_eq_true hrl
          obtain ⟨v, hv⟩ : ∃ v, pick3 x y z r = v := ⟨_, rfl⟩
          have yv : wr.cell? ⟨gm, 2 + r, none⟩ = some (.int .i64 v) := by
            rw [← hv]
            match r, hrl with
            | 0, _ => exact y2
            | 1, _ => exact y3
            | 2, _ => exact y4
            | _ + 3, h => omega
          have HVV := Lib.hid hv
          have HVB : Hid (vpB S ms = true → -100 ≤ v ∧ v ≤ 100) := Lib.hid (fun e => by
            have h := (vpB_iff.1 e).2.2.2 _ HME.out
            have h1 := h.x1; have h2 := h.x2; have h3 := h.y1; have h4 := h.y2; have h5 := h.z1; have h6 := h.z2
            simp only at h1 h2 h3 h4 h5 h6
            rw [← hv]
            unfold pick3; split; omega; split <;> omega)
          clear hv
          by_cases c10 : v < -100
          · obtain rfl : R = false := by
              rw [← HR.out]
              rcases hb : vpB S ms with _ | _
              · rfl
              · have := HVB.out hb; omega
            go_wp2
            go_ret
            exact ⟨rfl, HX.out⟩
          · by_cases c11 : 100 < v
            · obtain rfl : R = false := by
                rw [← HR.out]
                rcases hb : vpB S ms with _ | _
                · rfl
                · have := HVB.out hb; omega
              go_wp2
              go_ret
              exact ⟨rfl, HX.out⟩
            · go_wp2
              go_roundg (3 - (r + 1))
              case rel =>
                refine ⟨r + 1, rfl, by omega, by go_num, Lib.hid (fun q hq => ?_), rfl⟩
                rcases Nat.lt_or_ge q r with h | h
                · exact HPK.out q h
                · obtain rfl : q = r := by omega
                  rw [HVV.out]; omega
              case measure => omega
        · obtain rfl : r = 3 := by omega
          have HBT : Hid (vmB S ⟨a, b, x, y, z, d, ww⟩ = true) := Lib.hid (by
            have e0 := HPK.out 0 (by omega)
            have e1 := HPK.out 1 (by omega)
            have e2 := HPK.out 2 (by omega)
            simp only [pick3] at e0 e1 e2
            simp only [if_true, Nat.reduceEqDiff, if_false, Nat.succ_ne_zero] at e0 e1 e2
            have h9 := HC9.out
            exact vmB_iff.2 ⟨c0, c1, c2, c3, fun e => c4 e.symm, h9, e0.1, e0.2, e1.1, e1.2, e2.1, e2.2, c5, c6, c7, c8⟩)
          clear HPK
          go_wp2
          go_roundg (n - (k + 1))
          case rel =>
            refine ⟨k + 1, rfl, by omega, by go_num, Lib.hid (fun m hm => ?_), HP, HX⟩
            rw [List.take_add_one, HM.out] at hm
            rcases List.mem_append.1 hm with h | h
            · exact HV.out m h
            · simp at h; subst h; exact HBT.out
          case measure => omega
    · obtain rfl : k = n := by omega
      have q1 : decide (k < k) = false := by simp
      obtain rfl : R = true := by
        rw [← HR.out]
        refine vpB_iff.2 ⟨h1, h2, by have := HL.out; omega, fun m hm => vmB_iff.1 (HV.out m ?_)⟩
        rw [List.take_of_length_le (by have := HL.out; omega)]
        exact hm
      go_wp2
      go_ret
      exact ⟨rfl, HX.out⟩

end Go.Proofs.Ytikhlcgnlbinfaa
namespace Go.Proofs.Ytikhlcgnlbinfaa
open Go.RowKit

theorem fitQ_zero (L : Nat) : FitQ 0 (L + 1) := ⟨Fit.zero (by decide), Fit.one (by decide) (by omega)⟩
theorem solP_fit {S : Int} {ms : List Mt} (h : ∀ m ∈ ms, VM S m) (hl : ms.length ≤ 64) {n : Nat} (hn : n ≤ 24) (j : Nat) : FitQ (solP n ms j) 53 := by
  unfold solP solG
  split
  · rename_i i hp
    have hi := Stage.pivtop n j i hp
    have h2 := redG_top n (tabM ms n) n
    exact redG_fit h hl hn n (Nat.le_refl _) i (by omega) n (Nat.le_refl _)
  · exact fitQ_zero 52

set_option maxRecDepth 100000 in
set_option maxHeartbeats 2000000 in
theorem solveP_ok (S : Nat) (A : Option Addr) (n c : Nat) (ms : List Mt) (w : World) (h : MsAt w A n ms) (hv : VP (S : Int) ms) :
    Calls Try.prog 48 #[.agg #[.int .i64 (S : Int), .slice A n c]] w (fun e w' => ∃ go, e = .returned (.tuple #[.slice (some ⟨go, 0, none⟩) S S, .int .i64 0]) ∧ w.heap.size ≤ go ∧ ShP RatC w' go 0 S (solP (3 * S) ms) ∧ Ext w w') := by
  have HX := Lib.hid ((Ext.refl w).alloc (.cells #[.int .i64 (S : Int), .slice A n c] 76))
  have HP := Lib.hid (Blk.new w 76 #[.int .i64 (S : Int), .slice A n c])
  have HB := Lib.hid (vpB_iff.2 hv)
  have H := Lib.hid h
  have HV := Lib.hid hv
  clear h hv
  go_enter Try.func48, Try.ntmps48
  go_upto_region 1 with (fail)
  generalize w.alloc (.cells #[.int .i64 (S : Int), .slice A n c] 76) = w1 at HX HP ⊢
  have p0 := HP.out.cell 0
  have p1 := HP.out.cell 1
  simp only [List.getElem?_toArray, List.getElem?_cons_zero, List.getElem?_cons_succ] at p0 p1
  go_wp2_with fail
  refine (valid5_any (S : Int) A n c ms _ (H.out.ext HX.out)).mono ?_
  rw [HB.out]
  rintro e w2 ⟨rfl, hX⟩
  replace HX := Lib.hid (HX.out.trans hX)
  replace HP := Lib.hid (HP.out.ext hX)
  clear hX p0 p1
  have hS8 : S ≤ 8 := by have := HV.out.2.1; omega
  have HF : Hid (∀ j, j < 3 * S → FitQW (solP (3 * S) ms j)) := Lib.hid (fun j _ => FitQW.of4 ((solP_fit HV.out.2.2.2 HV.out.2.2.1 (by omega) j)) (by omega))
  have p0 := HP.out.cell 0
  have p1 := HP.out.cell 1
  simp only [List.getElem?_toArray, List.getElem?_cons_zero, List.getElem?_cons_succ] at p0 p1
  go_wp2_with fail
  refine (solve_ok S A n c ms _ (H.out.ext HX.out) HV.out).mono ?_
  rintro e w3 ⟨go, rfl, hgo, hS, hX⟩
  have HS := Lib.hid hS
  have hs := HX.out.size
  replace HX := Lib.hid (HX.out.trans hX)
  clear hS hX p0 p1
  go_wp2_with fail
  refine (done_S 53 go 0 S S (solP (3 * S) ms) _ HS.out (by omega) HF.out (by omega)).mono ?_
  rintro e w4 ⟨g2, rfl, hg2, hS2, hX⟩
  have hs3 := HX.out.size
  replace HX := Lib.hid (HX.out.trans hX)
  have HS2 := Lib.hid hS2
  clear hS2 hX
  go_wp2
  go_ret2
  exact ⟨g2, rfl, by omega, HS2.out, HX.out⟩

end Go.Proofs.Ytikhlcgnlbinfaa
namespace Go.Proofs.Ytikhlcgnlbinfaa
open Go.RowKit

set_option maxRecDepth 100000 in
set_option maxHeartbeats 2000000 in
theorem read_r14 (go S ss kk gr : Nat) (sy : Bool) (Ay By : Option Addr) (ly cy my ky : Nat) (q : Rat) (w : World) (x0 : w.cell? ⟨gr, 0, none⟩ = some (.bool sy)) (x1 : w.cell? ⟨gr, 1, none⟩ = some (.slice Ay ly cy)) (x2 : w.cell? ⟨gr, 2, none⟩ = some (.slice By my ky)) (hx : RatG w (.agg #[.bool sy, .slice Ay ly cy, .slice By my ky]) q) (hs1 : ss < S) (hk3 : (kk : Int) < 3) (_hk4 : kk < 3) (a : Act) (Q : Exit → Act → World → Prop) (hsize : 43 ≤ a.tmps.size)
    (s6 : a.tmps[6]? = some (.slice (some ⟨go, 0, none⟩) S S))
    (s7 : a.tmps[7]? = some (.int .i64 (ss : Int)))
    (s9 : a.tmps[9]? = some (.int .i64 (kk : Int)))
    (s10 : a.tmps[10]? = some (.pointer (some ⟨gr, 0, none⟩)))
    (hend : ∀ (xv0 xv1 xv2 xv3 xv4 xv5 xv6 : Value) (W : World), (xv0 = .slice (some ⟨go, 0, none⟩) S S) → (xv1 = .int .i64 (ss : Int)) → (xv2 = .int .i64 (kk : Int)) → (xv3 = .agg #[.bool sy, .slice Ay ly cy, .slice By my ky]) → (NumX W xv4 (q) (256)) → (xv5 = .pointer (some ⟨go, ss * 9, none⟩)) → (xv6 = .pointer (some ⟨go, ss * 9 + kk * 3, none⟩)) → Ext w W → wpList Try.prog (rops Try.f126 14).toArray Q ((rops Try.f126 14).drop 7) (((((((a.put (some 36) xv0).put (some 37) xv1).put (some 38) xv2).put (some 39) xv3).put (some 40) xv4).put (some 41) xv5).put (some 42) xv6) W) :
    (Code.region 14 (rops Try.f126 14).toArray true).wp Try.prog Q a w := by
  have hmono : ∀ (W W' : World) (j : Nat) (u : Value), Ext W W' → (fun (i : Nat) (v : Value) (W : World) => match i with
    | 0 => v = .slice (some ⟨go, 0, none⟩) S S
    | 1 => v = .int .i64 (ss : Int)
    | 2 => v = .int .i64 (kk : Int)
    | 3 => v = .agg #[.bool sy, .slice Ay ly cy, .slice By my ky]
    | 4 => NumX W v (q) (256)
    | 5 => v = .pointer (some ⟨go, ss * 9, none⟩)
    | 6 => v = .pointer (some ⟨go, ss * 9 + kk * 3, none⟩)
    | _ => True) j u W → (fun (i : Nat) (v : Value) (W : World) => match i with
    | 0 => v = .slice (some ⟨go, 0, none⟩) S S
    | 1 => v = .int .i64 (ss : Int)
    | 2 => v = .int .i64 (kk : Int)
    | 3 => v = .agg #[.bool sy, .slice Ay ly cy, .slice By my ky]
    | 4 => NumX W v (q) (256)
    | 5 => v = .pointer (some ⟨go, ss * 9, none⟩)
    | 6 => v = .pointer (some ⟨go, ss * 9 + kk * 3, none⟩)
    | _ => True) j u W' := by
    intro W W' j u hX h
    match j, h with
    | 0, h => exact h
    | 1, h => exact h
    | 2, h => exact h
    | 3, h => exact h
    | 4, h => exact NumX.ext h hX
    | 5, h => exact h
    | 6, h => exact h
    | _ + 7, h => exact h
  have hsz : ∀ d, some d ∈ ([some 36, some 37, some 38, some 39, some 40, some 41, some 42] : List (Option Tmp)) → d < a.tmps.size := slots_lt (by decide) hsize
  refine wp_region_j 7 [some 36, some 37, some 38, some 39, some 40, some 41, some 42] [[], [], [], [], [3], [0, 1], [2, 5]] [[], [], [], [], [], [], []] (fun (i : Nat) (v : Value) (W : World) => match i with
    | 0 => v = .slice (some ⟨go, 0, none⟩) S S
    | 1 => v = .int .i64 (ss : Int)
    | 2 => v = .int .i64 (kk : Int)
    | 3 => v = .agg #[.bool sy, .slice Ay ly cy, .slice By my ky]
    | 4 => NumX W v (q) (256)
    | 5 => v = .pointer (some ⟨go, ss * 9, none⟩)
    | 6 => v = .pointer (some ⟨go, ss * 9 + kk * 3, none⟩)
    | _ => True) (fun _ W => Ext w W) (by kernel_rfl) (by kernel_rfl) hsz (fun _ _ _ _ h => h) ((Ext.refl w).drew) ?_ ?_
  · clear hend
    simp only [rops, Try.f126, regOf, Option.bind_some, Nat.reduceBEq, if_true, if_false, Bool.false_eq_true, Option.getD_some]
    simp only [List.take_succ_cons, List.take_zero]
    refine ⟨?_, ?_, ?_, ?_, ?_, ?_, ?_, trivial⟩
    · intro done us W hJ hdep haft hnot b hb hb' K hK Q'
      have e6 := (hb' 6 (by simp)).trans s6
      clear hb hb'
      go_simp
      exact hK _ _ rfl (fun _ _ _ h => h) hJ
    · intro done us W hJ hdep haft hnot b hb hb' K hK Q'
      have e7 := (hb' 7 (by simp)).trans s7
      clear hb hb'
      go_simp
      exact hK _ _ rfl (fun _ _ _ h => h) hJ
    · intro done us W hJ hdep haft hnot b hb hb' K hK Q'
      have e9 := (hb' 9 (by simp)).trans s9
      clear hb hb'
      go_simp
      exact hK _ _ rfl (fun _ _ _ h => h) hJ
    · intro done us W hJ hdep haft hnot b hb hb' K hK Q'
      have e10 := (hb' 10 (by simp)).trans s10
      clear hb hb'
      have z0 := Ext.cell hJ x0
      have z1 := Ext.cell hJ x1
      have z2 := Ext.cell hJ x2
      go_simp
      exact hK _ _ rfl (fun _ _ _ h => h) hJ
    · intro done us W hJ hdep haft hnot b hb hb' K hK Q'
      simp only [List.getD_cons_succ, List.getD_cons_zero, List.mem_cons, List.not_mem_nil, or_false, forall_eq] at hdep
      have e39 := hb 3 39 rfl
      have d3 := hdep
      rw [d3.1] at e39
      clear hb hb' hdep d3
      go_simp
      refine (ofG (hx.ext hJ)).mono ?_
      rintro e w' ⟨v, rfl, hv, hX⟩
      exact hK _ _ hv (fun j u _ h => hmono _ _ j u hX h) (Ext.trans hJ hX)
    · intro done us W hJ hdep haft hnot b hb hb' K hK Q'
      simp only [List.getD_cons_succ, List.getD_cons_zero, List.mem_cons, List.not_mem_nil, or_false, forall_eq_or_imp, forall_eq] at hdep
      have e36 := hb 0 36 rfl
      have e37 := hb 1 37 rfl
      have d0 := hdep.1
      have d1 := hdep.2
      rw [d0.1] at e36
      rw [d1.1] at e37
      clear hb hb' hdep d0 d1
      go_simp
      exact hK _ _ rfl (fun _ _ _ h => h) hJ
    · intro done us W hJ hdep haft hnot b hb hb' K hK Q'
      simp only [List.getD_cons_succ, List.getD_cons_zero, List.mem_cons, List.not_mem_nil, or_false, forall_eq_or_imp, forall_eq] at hdep
      have e38 := hb 2 38 rfl
      have e41 := hb 5 41 rfl
      have d2 := hdep.1
      have d5 := hdep.2
      rw [d2.1] at e38
      rw [d5.1] at e41
      clear hb hb' hdep d2 d5
      go_simp
      exact hK _ _ rfl (fun _ _ _ h => h) hJ
  · intro us W hV hJ
    exact hend (us 0) (us 1) (us 2) (us 3) (us 4) (us 5) (us 6) W (hV 0 (by omega)) (hV 1 (by omega)) (hV 2 (by omega)) (hV 3 (by omega)) (hV 4 (by omega)) (hV 5 (by omega)) (hV 6 (by omega)) hJ
set_option maxRecDepth 100000 in
set_option maxHeartbeats 16000000 in
theorem rdP_ok (S : Nat) (A : Option Addr) (n c : Nat) (ms : List Mt) (gt ot ct : Nat) (u : Nat → Rat) (w : World) (h : MsAt w A n ms) (hv : VP (S : Int) ms) (hS : ShP RatG w gt ot S u) :
    Calls Try.prog 126 #[.agg #[.int .i64 (S : Int), .slice A n c], .slice (some ⟨gt, ot, none⟩) S ct] w (fun e w' => ∃ go, e = .returned (.tuple #[.slice (some ⟨go, 0, none⟩) S S, .int .i64 0]) ∧ w.heap.size ≤ go ∧ ShP (fun w v q => NumX w v q 256) w' go 0 S u ∧ Ext w w') := by
  have HX := Lib.hid ((Ext.refl w).alloc (.cells #[.int .i64 (S : Int), .slice A n c] 76))
  have HP := Lib.hid (Blk.new w 76 #[.int .i64 (S : Int), .slice A n c])
  have HB := Lib.hid (vpB_iff.2 hv)
  have H := Lib.hid h
  have HV := Lib.hid hv
  clear h hv
  go_enter Try.func126, Try.ntmps126
  go_upto_region 1 with (fail)
  generalize w.alloc (.cells #[.int .i64 (S : Int), .slice A n c] 76) = w1 at HX HP ⊢
  have p0 := HP.out.cell 0
  have p1 := HP.out.cell 1
  simp only [List.getElem?_toArray, List.getElem?_cons_zero, List.getElem?_cons_succ] at p0 p1
  go_wp2_with fail
  refine (valid5_any (S : Int) A n c ms _ (H.out.ext HX.out)).mono ?_
  rw [HB.out]
  rintro e w2 ⟨rfl, hX⟩
  replace HX := Lib.hid (HX.out.trans hX)
  replace HP := Lib.hid (HP.out.ext hX)
  clear hX p0 p1
  have p0 := HP.out.cell 0
  simp only [List.getElem?_toArray, List.getElem?_cons_zero] at p0
  have q0 : ((S : Int) != (S : Int)) = false := by simp
  have hS8 : S ≤ 8 := by have := HV.out.2.1; omega
  have HS := Lib.hid hS
  clear hS
  have hsx := HX.out.size
  go_upto_region 6 with (at_make; refine wpList_mkS w2 elS9 rfl _ _ rfl w.heap.size _ _ _ _ S S rfl rfl (by first | rfl | omega) (by first | rfl | omega) (Nat.le_refl _) (by omega) (by unfold maxLen; omega) hsx ?_; intro w4 us hown hz1 hz2 hext hsz)
  have hrow : RowN (fun w v q => NumX w v q 256) 263 9 w.heap.size w4 w2.heap.size S S (3 * S) (fun _ => none) := RowN.make9 hown hz1 hz2
  replace HX := Lib.hid (HX.out.trans hext)
  generalize w2.heap.size = go at hrow hsx hsz ⊢
  have HR := Lib.hid hrow
  clear hrow hown hz1 hz2 hext p0
  go_wp2_with fail
  go_loopg [24] S (fun f iv wr => ∃ i : Nat, f = S - i ∧ i ≤ S ∧ iv = .int .i64 (i : Int) ∧ Hid (RowN (fun w v q => NumX w v q 256) 263 9 w.heap.size wr go S S (3 * S) (fun j => if j < 3 * i then some (u j) else none)) ∧ Hid (Ext w wr))
  case atStart => exact ⟨0, by omega, by omega, rfl, Lib.hid (HR.out.congr (fun j _ => by rw [if_neg (by omega)])), HX⟩
  case round =>
    clear HR HX hsz
    obtain ⟨i, rfl, hi, rfl, HR, HX⟩ := hrel
    by_cases hlt : i < S
    · have q1 : decide (i < S) = true := decide_eq_true hlt
      obtain ⟨s0, A0, l0, c0, B0, m0, k0, a0, b0, d0, e0⟩ := HS.out i 0 hlt (by omega)
      replace a0 := HX.out.cell a0
      replace b0 := HX.out.cell b0
      replace d0 := HX.out.cell d0
      obtain ⟨s1, A1, l1, c1, B1, m1, k1, a1, b1, d1, e1⟩ := HS.out i 1 hlt (by omega)
      replace a1 := HX.out.cell a1
      replace b1 := HX.out.cell b1
      replace d1 := HX.out.cell d1
      obtain ⟨s2, A2, l2, c2, B2, m2, k2, a2, b2, d2, e2⟩ := HS.out i 2 hlt (by omega)
      replace a2 := HX.out.cell a2
      replace b2 := HX.out.cell b2
      replace d2 := HX.out.cell d2
      have HE0 := Lib.hid e0
      have HE1 := Lib.hid e1
      have HE2 := Lib.hid e2
      clear e0 e1 e2
      simp only [Nat.zero_mul, Nat.add_zero, Nat.one_mul] at a0 b0 d0 a1 b1 d1
      have e3 : ot + i * 9 + 3 + 1 = ot + i * 9 + 4 := by omega
      have e4 : ot + i * 9 + 3 + 2 = ot + i * 9 + 5 := by omega
      have e6 : ot + i * 9 + 2 * 3 = ot + i * 9 + 6 := by omega
      have e7 : ot + i * 9 + 2 * 3 + 1 = ot + i * 9 + 7 := by omega
      have e8 : ot + i * 9 + 2 * 3 + 2 = ot + i * 9 + 8 := by omega
      rw [e3] at b1
      rw [e4] at d1
      rw [e7] at b2
      rw [e8] at d2
      rw [e6] at a2
      clear e3 e4 e6 e7 e8
      go_upto_region 9 with (fail)
      have hXa : Ext wr (wr.alloc (.cells #[.bool s0, .slice A0 l0 c0, .slice B0 m0 k0, .bool s1, .slice A1 l1 c1, .slice B1 m1 k1, .bool s2, .slice A2 l2 c2, .slice B2 m2 k2] 98)) := (Ext.refl _).alloc _
      have kB := Blk.new wr 98 #[.bool s0, .slice A0 l0 c0, .slice B0 m0 k0, .bool s1, .slice A1 l1 c1, .slice B1 m1 k1, .bool s2, .slice A2 l2 c2, .slice B2 m2 k2]
      replace HR := Lib.hid (HR.out.ext (staysNum 256) hXa)
      replace HX := Lib.hid (HX.out.trans hXa)
      clear hXa a0 b0 d0 a1 b1 d1 a2 b2 d2
      generalize wr.heap.size = gv at kB ⊢
      generalize wr.alloc (.cells #[.bool s0, .slice A0 l0 c0, .slice B0 m0 k0, .bool s1, .slice A1 l1 c1, .slice B1 m1 k1, .bool s2, .slice A2 l2 c2, .slice B2 m2 k2] 98) = w5 at kB HR HX ⊢
      have y0 := kB.cell 0
      have y1 := kB.cell 1
      have y2 := kB.cell 2
      have y3 := kB.cell 3
      have y4 := kB.cell 4
      have y5 := kB.cell 5
      have y6 := kB.cell 6
      have y7 := kB.cell 7
      have y8 := kB.cell 8
      simp only [List.getElem?_toArray, List.getElem?_cons_zero, List.getElem?_cons_succ] at y0 y1 y2 y3 y4 y5 y6 y7 y8
      clear kB
      go_wp2_with fail
      clear y0 y1 y2 y3 y4 y5 y6 y7 y8
      go_loopg [30] 3 (fun f kv wr => ∃ k : Nat, f = 3 - k ∧ k ≤ 3 ∧ kv = .int .i64 (k : Int) ∧ Hid (RowN (fun w v q => NumX w v q 256) 263 9 w.heap.size wr go S S (3 * S) (fun j => if j < 3 * i + k then some (u j) else none)) ∧ Hid (Ext w wr))
      case atStart => exact ⟨0, by omega, by omega, rfl, HR, HX⟩
      case round =>
        clear HR HX
        obtain ⟨k, rfl, hk, rfl, HR, HX⟩ := hrel
        by_cases hkl : k < 3
        · have q2 : decide (k < 3) = true := decide_eq_true hkl
          obtain ⟨s9, A9, l9, c9, B9, m9, k9, g1, g2, g3, hq⟩ := pick_agg (P := RatG) (w := wr) (q := fun k => u (3 * i + k)) hkl (HE0.out.ext HX.out) (HE1.out.ext HX.out) (HE2.out.ext HX.out)
          have ik := idx9R (.bool s0) (.slice A0 l0 c0) (.slice B0 m0 k0) (.bool s1) (.slice A1 l1 c1) (.slice B1 m1 k1) (.bool s2) (.slice A2 l2 c2) (.slice B2 m2 k2) hkl
          rw [g1, g2, g3] at ik
          have HQ := Lib.hid hq
          clear hq g1 g2 g3
          have hj3 : 3 * i + k < 3 * S := by omega
          go_upto_region 12 with (fail)
          have hXa : Ext wr (wr.alloc (.cells #[.bool s9, .slice A9 l9 c9, .slice B9 m9 k9] 97)) := (Ext.refl _).alloc _
          have kB := Blk.new wr 97 #[.bool s9, .slice A9 l9 c9, .slice B9 m9 k9]
          replace HR := Lib.hid (HR.out.ext (staysNum 256) hXa)
          replace HX := Lib.hid (HX.out.trans hXa)
          replace HQ := Lib.hid (HQ.out.ext hXa)
          clear hXa ik
          generalize wr.heap.size = gn at kB ⊢
          generalize wr.alloc (.cells #[.bool s9, .slice A9 l9 c9, .slice B9 m9 k9] 97) = w6 at kB HR HX HQ ⊢
          have KB := Lib.hid kB
          have y0 := kB.cell 0
          have y1 := kB.cell 1
          have y2 := kB.cell 2
          simp only [List.getElem?_toArray, List.getElem?_cons_zero, List.getElem?_cons_succ] at y0 y1 y2
          clear kB
          go_wp2_with fail
          refine (RatL.is HQ.out.small).mono ?_
          rintro e w7 ⟨rfl, hX⟩
          clear y0 y1 y2
          replace HR := Lib.hid (HR.out.ext (staysNum 256) hX)
          replace HX := Lib.hid (HX.out.trans hX)
          replace HQ := Lib.hid (HQ.out.ext hX)
          replace KB := Lib.hid (KB.out.ext hX)
          clear hX
          go_upto_region 14 with (fail)
          refine read_r14 go S i k gn s9 A9 B9 l9 c9 m9 k9 _ w7 (KB.out.cell 0) (KB.out.cell 1) (KB.out.cell 2) HQ.out hlt (by omega) hkl _ _ (by simp) rfl rfl rfl rfl ?_
          rintro xv0 xv1 xv2 xv3 xv4 xv5 xv6 W rfl rfl rfl rfl hv rfl rfl hX
          simp only [rops, Try.f126, regOf, Option.bind_some, Nat.reduceBEq, if_true, if_false, Bool.false_eq_true, Option.getD_some, List.drop_succ_cons, List.drop_zero]
          simp only [Act.put, List.setIfInBounds_toArray, List.set_cons_succ, List.set_cons_zero]
          obtain ⟨s4, A4, l4, c4, B4, m4, k4, rfl⟩ := NumX.open hv
          have HV4 := Lib.hid hv
          clear hv
          replace HR := Lib.hid (HR.out.ext (staysNum 256) hX)
          replace HX := Lib.hid (HX.out.trans hX)
          clear hX KB HQ
          have hpj : i * 9 + k * 3 = (3 * i + k) * 3 := by omega
          obtain ⟨s2, A2, l2, c2, B2, m2, k2, z0, z1, z2, _⟩ := HR.out.cells hj3 hpj
          have f0 := HR.out.free (i * 9 + k * 3)
          have f1 := HR.out.free (i * 9 + k * 3 + 1)
          have f2 := HR.out.free (i * 9 + k * 3 + 2)
          have HPUT := Lib.hid (HR.out.put (staysNum 256) hj3 hpj HV4.out)
          clear hpj
          go_wp2
          go_roundg (3 - (k + 1))
          case rel =>
            refine ⟨k + 1, rfl, by omega, by go_num, Lib.hid (HPUT.out.congr (fun j _ => ?_)), Lib.hid (((HX.out.setCell (by simp only; omega) _).setCell (by simp only; omega) _).setCell (by simp only; omega) _)⟩
            by_cases e : j = 3 * i + k
            · rw [if_pos e, e, if_pos (by omega)]
            · rw [if_neg e]
              by_cases h2 : j < 3 * i + k
              · rw [if_pos h2, if_pos (by omega)]
              · rw [if_neg h2, if_neg (by omega)]
          case measure => omega
        · obtain rfl : k = 3 := by omega
          go_wp2
          go_roundg (S - (i + 1))
          case rel => exact ⟨i + 1, rfl, by omega, by go_num, Lib.hid (HR.out.congr (fun j _ => by rw [show 3 * (i + 1) = 3 * i + 3 by omega])), HX⟩
          case measure => omega
    · obtain rfl : i = S := by omega
      go_wp2
      go_ret2
      exact ⟨go, rfl, by omega, HR.out.shp (fun j hj => by rw [if_pos hj]), HX.out⟩

end Go.Proofs.Ytikhlcgnlbinfaa
namespace Go.Proofs.Ytikhlcgnlbinfaa
open Go.RowKit

theorem misfit_take {n : Nat} {ms : List Mt} {u : Nat → Rat} {k : Nat} {m : Mt} (h : ms[k]? = some m) : misfit n (ms.take (k + 1)) u = misfit n (ms.take k) u + wsq n u m := by
  unfold misfit
  rw [take_snoc h, sumM_append]
  simp only [sumM]
  grind

set_option maxRecDepth 100000 in
set_option maxHeartbeats 2000000 in
theorem misfit_r8 (gs gt ot S ct gm L M : Nat) (ma mb mx my mz md mw : Int) (un : Nat → Rat) (su : Bool) (Au Bu : Option Addr) (lu cu mu ku : Nat) (q : Rat) (w : World) (x0 : w.cell? ⟨gs, 0, none⟩ = some (.bool su)) (x1 : w.cell? ⟨gs, 1, none⟩ = some (.slice Au lu cu)) (x2 : w.cell? ⟨gs, 2, none⟩ = some (.slice Bu mu ku)) (v0 : w.cell? ⟨gm, 0, none⟩ = some (.int .i64 (ma))) (v1 : w.cell? ⟨gm, 1, none⟩ = some (.int .i64 (mb))) (v2 : w.cell? ⟨gm, 2, none⟩ = some (.int .i64 (mx))) (v3 : w.cell? ⟨gm, 3, none⟩ = some (.int .i64 (my))) (v4 : w.cell? ⟨gm, 4, none⟩ = some (.int .i64 (mz))) (v5 : w.cell? ⟨gm, 5, none⟩ = some (.int .i64 (md))) (v6 : w.cell? ⟨gm, 6, none⟩ = some (.int .i64 (mw))) (hS : ShP (fun w v q => NumX w v q L) w gt ot S un) (hm : VM S ⟨ma, mb, mx, my, mz, md, mw⟩) (hx : NumX w (.agg #[.bool su, .slice Au lu cu, .slice Bu mu ku]) q M) (hL : L ≤ 100000) (hM : M ≤ 1000000000) (a : Act) (Q : Exit → Act → World → Prop) (hsize : 35 ≤ a.tmps.size)
    (s6 : a.tmps[6]? = some (.slice (some ⟨gt, ot, none⟩) S ct))
    (s8 : a.tmps[8]? = some (.pointer (some ⟨gs, 0, none⟩)))
    (s10 : a.tmps[10]? = some (.pointer (some ⟨gm, 0, none⟩)))
    (hend : ∀ (xv0 xv1 xv2 xv3 xv4 xv5 : Value) (W : World), (xv0 = .agg #[.bool su, .slice Au lu cu, .slice Bu mu ku]) → (xv1 = .slice (some ⟨gt, ot, none⟩) S ct) → (xv2 = .agg #[.int .i64 (ma), .int .i64 (mb), .int .i64 (mx), .int .i64 (my), .int .i64 (mz), .int .i64 (md), .int .i64 (mw)]) → (NumX W xv3 (wsq (3 * S) un ⟨ma, mb, mx, my, mz, md, mw⟩) (12 * L + 30)) → (NumX W xv4 (q + wsq (3 * S) un ⟨ma, mb, mx, my, mz, md, mw⟩) (M + (12 * L + 30) + 1)) → (NumX W xv5 (q + wsq (3 * S) un ⟨ma, mb, mx, my, mz, md, mw⟩) (M + (12 * L + 30) + 1)) → Ext w W → wpList Try.prog (rops Try.f50 8).toArray Q ((rops Try.f50 8).drop 6) ((((((a.put (some 29) xv0).put (some 30) xv1).put (some 31) xv2).put (some 32) xv3).put (some 33) xv4).put (some 34) xv5) W) :
    (Code.region 8 (rops Try.f50 8).toArray true).wp Try.prog Q a w := by
  have hmono : ∀ (W W' : World) (j : Nat) (u : Value), Ext W W' → (fun (i : Nat) (v : Value) (W : World) => match i with
    | 0 => v = .agg #[.bool su, .slice Au lu cu, .slice Bu mu ku]
    | 1 => v = .slice (some ⟨gt, ot, none⟩) S ct
    | 2 => v = .agg #[.int .i64 (ma), .int .i64 (mb), .int .i64 (mx), .int .i64 (my), .int .i64 (mz), .int .i64 (md), .int .i64 (mw)]
    | 3 => NumX W v (wsq (3 * S) un ⟨ma, mb, mx, my, mz, md, mw⟩) (12 * L + 30)
    | 4 => NumX W v (q + wsq (3 * S) un ⟨ma, mb, mx, my, mz, md, mw⟩) (M + (12 * L + 30) + 1)
    | 5 => NumX W v (q + wsq (3 * S) un ⟨ma, mb, mx, my, mz, md, mw⟩) (M + (12 * L + 30) + 1)
    | _ => True) j u W → (fun (i : Nat) (v : Value) (W : World) => match i with
    | 0 => v = .agg #[.bool su, .slice Au lu cu, .slice Bu mu ku]
    | 1 => v = .slice (some ⟨gt, ot, none⟩) S ct
    | 2 => v = .agg #[.int .i64 (ma), .int .i64 (mb), .int .i64 (mx), .int .i64 (my), .int .i64 (mz), .int .i64 (md), .int .i64 (mw)]
    | 3 => NumX W v (wsq (3 * S) un ⟨ma, mb, mx, my, mz, md, mw⟩) (12 * L + 30)
    | 4 => NumX W v (q + wsq (3 * S) un ⟨ma, mb, mx, my, mz, md, mw⟩) (M + (12 * L + 30) + 1)
    | 5 => NumX W v (q + wsq (3 * S) un ⟨ma, mb, mx, my, mz, md, mw⟩) (M + (12 * L + 30) + 1)
    | _ => True) j u W' := by
    intro W W' j u hX h
    match j, h with
    | 0, h => exact h
    | 1, h => exact h
    | 2, h => exact h
    | 3, h => exact NumX.ext h hX
    | 4, h => exact NumX.ext h hX
    | 5, h => exact NumX.ext h hX
    | _ + 6, h => exact h
  have hsz : ∀ d, some d ∈ ([some 29, some 30, some 31, some 32, some 33, some 34] : List (Option Tmp)) → d < a.tmps.size := slots_lt (by decide) hsize
  refine wp_region_j 6 [some 29, some 30, some 31, some 32, some 33, some 34] [[], [], [], [1, 2], [0, 3], [4]] [[], [], [], [], [], []] (fun (i : Nat) (v : Value) (W : World) => match i with
    | 0 => v = .agg #[.bool su, .slice Au lu cu, .slice Bu mu ku]
    | 1 => v = .slice (some ⟨gt, ot, none⟩) S ct
    | 2 => v = .agg #[.int .i64 (ma), .int .i64 (mb), .int .i64 (mx), .int .i64 (my), .int .i64 (mz), .int .i64 (md), .int .i64 (mw)]
    | 3 => NumX W v (wsq (3 * S) un ⟨ma, mb, mx, my, mz, md, mw⟩) (12 * L + 30)
    | 4 => NumX W v (q + wsq (3 * S) un ⟨ma, mb, mx, my, mz, md, mw⟩) (M + (12 * L + 30) + 1)
    | 5 => NumX W v (q + wsq (3 * S) un ⟨ma, mb, mx, my, mz, md, mw⟩) (M + (12 * L + 30) + 1)
    | _ => True) (fun _ W => Ext w W) (by kernel_rfl) (by kernel_rfl) hsz (fun _ _ _ _ h => h) ((Ext.refl w).drew) ?_ ?_
  · clear hend
    simp only [rops, Try.f50, regOf, Option.bind_some, Nat.reduceBEq, if_true, if_false, Bool.false_eq_true, Option.getD_some]
    simp only [List.take_succ_cons, List.take_zero]
    refine ⟨?_, ?_, ?_, ?_, ?_, ?_, trivial⟩
    · intro done us W hJ hdep haft hnot b hb hb' K hK Q'
      have e8 := (hb' 8 (by simp)).trans s8
      clear hb hb'
      have z0 := Ext.cell hJ x0
      have z1 := Ext.cell hJ x1
      have z2 := Ext.cell hJ x2
      go_simp
      exact hK _ _ rfl (fun _ _ _ h => h) hJ
    · intro done us W hJ hdep haft hnot b hb hb' K hK Q'
      have e6 := (hb' 6 (by simp)).trans s6
      clear hb hb'
      go_simp
      exact hK _ _ rfl (fun _ _ _ h => h) hJ
    · intro done us W hJ hdep haft hnot b hb hb' K hK Q'
      have e10 := (hb' 10 (by simp)).trans s10
      clear hb hb'
      have z0 := Ext.cell hJ v0
      have z1 := Ext.cell hJ v1
      have z2 := Ext.cell hJ v2
      have z3 := Ext.cell hJ v3
      have z4 := Ext.cell hJ v4
      have z5 := Ext.cell hJ v5
      have z6 := Ext.cell hJ v6
      go_simp
      exact hK _ _ rfl (fun _ _ _ h => h) hJ
    · intro done us W hJ hdep haft hnot b hb hb' K hK Q'
      simp only [List.getD_cons_succ, List.getD_cons_zero, List.mem_cons, List.not_mem_nil, or_false, forall_eq_or_imp, forall_eq] at hdep
      have e30 := hb 1 30 rfl
      have e31 := hb 2 31 rfl
      have d1 := hdep.1
      have d2 := hdep.2
      rw [d1.1] at e30
      rw [d2.1] at e31
      clear hb hb' hdep d1 d2
      go_simp
      refine (weighted_any (m := ⟨ma, mb, mx, my, mz, md, mw⟩) (hS.ext (growsNum L) hJ) hm hL).mono ?_
      rintro e w' ⟨v, rfl, hv, hX⟩
      exact hK _ _ hv (fun j u _ h => hmono _ _ j u hX h) (Ext.trans hJ hX)
    · intro done us W hJ hdep haft hnot b hb hb' K hK Q'
      simp only [List.getD_cons_succ, List.getD_cons_zero, List.mem_cons, List.not_mem_nil, or_false, forall_eq_or_imp, forall_eq] at hdep
      have e29 := hb 0 29 rfl
      have e32 := hb 3 32 rfl
      have d0 := hdep.1
      have d3 := hdep.2
      rw [d0.1] at e29
      clear hb hb' hdep d0
      go_simp
      refine (addX (hx.ext hJ) d3.1 (by omega)).mono ?_
      rintro e w' ⟨v, rfl, hv, hX⟩
      exact hK _ _ hv (fun j u _ h => hmono _ _ j u hX h) (Ext.trans hJ hX)
    · intro done us W hJ hdep haft hnot b hb hb' K hK Q'
      simp only [List.getD_cons_succ, List.getD_cons_zero, List.mem_cons, List.not_mem_nil, or_false, forall_eq] at hdep
      have e33 := hb 4 33 rfl
      have d4 := hdep
      clear hb hb' hdep 
      go_simp
      refine (reducedX d4.1 (by omega)).mono ?_
      rintro e w' ⟨v, rfl, hv, hX⟩
      exact hK _ _ (hv.numx d4.1.fit) (fun j u _ h => hmono _ _ j u hX h) (Ext.trans hJ hX)
  · intro us W hV hJ
    exact hend (us 0) (us 1) (us 2) (us 3) (us 4) (us 5) W (hV 0 (by omega)) (hV 1 (by omega)) (hV 2 (by omega)) (hV 3 (by omega)) (hV 4 (by omega)) (hV 5 (by omega)) hJ
set_option maxRecDepth 100000 in
set_option maxHeartbeats 16000000 in
theorem misfit_ok (S : Nat) (A : Option Addr) (n c : Nat) (ms : List Mt) (gt ot ct : Nat) (u : Nat → Rat) (w : World) (h : MsAt w A n ms) (hv : VP (S : Int) ms) (hS : ShP RatG w gt ot S u) (hf : FitQW (misfit (3 * S) ms u)) :
    Calls Try.prog 50 #[.agg #[.int .i64 (S : Int), .slice A n c], .slice (some ⟨gt, ot, none⟩) S ct] w (fun e w' => ∃ v, e = .returned (.tuple #[v, .int .i64 0]) ∧ RatC w' v (misfit (3 * S) ms u) ∧ Ext w w') := by
  have H := Lib.hid h
  have HV := Lib.hid hv
  clear h hv
  have hXe : Ext w ((w.alloc (.cells #[.int .i64 (S : Int), .slice A n c] 76)).alloc (.cells #[.bool false, .slice none 0 0, .slice none 0 0] 97)) := ((Ext.refl w).alloc _).alloc _
  have kP : Blk ((w.alloc (.cells #[.int .i64 (S : Int), .slice A n c] 76)).alloc (.cells #[.bool false, .slice none 0 0, .slice none 0 0] 97)) w.heap.size 76 #[.int .i64 (S : Int), .slice A n c] := Blk.alloc (Blk.new w _ _) _
  have kR : Blk ((w.alloc (.cells #[.int .i64 (S : Int), .slice A n c] 76)).alloc (.cells #[.bool false, .slice none 0 0, .slice none 0 0] 97)) (w.heap.size + 1) 97 #[.bool false, .slice none 0 0, .slice none 0 0] := Blk.at_ (by simp)
  go_enter Try.func50, Try.ntmps50
  go_upto_region 1 with (fail)
  generalize (w.alloc (.cells #[.int .i64 (S : Int), .slice A n c] 76)).alloc (.cells #[.bool false, .slice none 0 0, .slice none 0 0] 97) = w1 at hXe kP kR ⊢
  have HX := Lib.hid hXe
  have HP := Lib.hid kP
  have HR := Lib.hid kR
  clear hXe kP kR
  have p0 := HP.out.cell 0
  have p1 := HP.out.cell 1
  simp only [List.getElem?_toArray, List.getElem?_cons_zero, List.getElem?_cons_succ] at p0 p1
  go_wp2_with fail
  have HS0 := Lib.hid hS
  have HF := Lib.hid hf
  have HVM := Lib.hid HV.out.2.2.2
  have HL := Lib.hid H.out.1
  have hn64 : n ≤ 64 := by have := HV.out.2.2.1; have := HL.out; omega
  clear hS hf
  refine (rdP_ok S A n c ms gt ot ct u _ (H.out.ext HX.out) HV.out (HS0.out.ext growsG HX.out)).mono ?_
  rintro e w2 ⟨go, rfl, hgo, hS, hX⟩
  have HS := Lib.hid hS
  replace HX := Lib.hid (HX.out.trans hX)
  replace HP := Lib.hid (HP.out.ext hX)
  replace HR := Lib.hid (HR.out.ext hX)
  clear hS hX p0 p1 hgo
  go_wp2_with fail
  refine (intX 0 _ (by omega) (by omega)).mono ?_
  rintro e w3 ⟨v3, rfl, hv, hX⟩
  obtain ⟨s0, A0, l0, c0, B0, m0, k0, rfl⟩ := NumX.open hv
  replace HX := Lib.hid (HX.out.trans hX)
  replace HP := Lib.hid (HP.out.ext hX)
  replace HR := Lib.hid (HR.out.ext hX)
  replace HS := Lib.hid (HS.out.ext (growsNum 256) hX)
  have HN := Lib.hid hv
  clear hv hX
  go_upto_region 5 with (fail)
  have hXa : Ext w3 (w3.alloc (.cells #[.bool s0, .slice A0 l0 c0, .slice B0 m0 k0] 217)) := (Ext.refl _).alloc _
  have kS := Blk.new w3 217 #[.bool s0, .slice A0 l0 c0, .slice B0 m0 k0]
  have hrl := HR.out.lt
  have hgl := HS.out.low (by have := HV.out.1; omega)
  replace HX := Lib.hid (HX.out.trans hXa)
  replace HP := Lib.hid (HP.out.ext hXa)
  replace HR := Lib.hid (HR.out.ext hXa)
  replace HS := Lib.hid (HS.out.ext (growsNum 256) hXa)
  replace HN : Hid (NumX _ (.agg #[.bool s0, .slice A0 l0 c0, .slice B0 m0 k0]) (misfit (3 * S) (ms.take 0) u) (2 + 0 * 3103)) := Lib.hid (HN.out.ext hXa)
  clear hXa
  generalize w3.alloc (.cells #[.bool s0, .slice A0 l0 c0, .slice B0 m0 k0] 217) = w4 at kS HX HP HR HS HN ⊢
  generalize w3.heap.size = gs at kS hrl hgl ⊢
  have KS := Lib.hid kS
  clear kS
  have p1 := HP.out.cell 1
  simp only [List.getElem?_toArray, List.getElem?_cons_zero, List.getElem?_cons_succ] at p1
  go_wp2_with fail
  clear p1
  go_loopg [25] n (fun f iv wr => ∃ (k : Nat) (s0 : Bool) (A0 B0 : Option Addr) (l0 c0 m0 k0 : Nat), f = n - k ∧ k ≤ n ∧ iv = .int .i64 (k : Int) ∧ Hid (NumX wr (.agg #[.bool s0, .slice A0 l0 c0, .slice B0 m0 k0]) (misfit (3 * S) (ms.take k) u) (2 + k * 3103)) ∧ Hid (Blk wr gs 217 #[.bool s0, .slice A0 l0 c0, .slice B0 m0 k0]) ∧ Hid (Blk wr (w.heap.size + 1) 97 #[.bool false, .slice none 0 0, .slice none 0 0]) ∧ Hid (Ext w wr) ∧ Hid (ShP (fun w v q => NumX w v q 256) wr go 0 S u))
  case atStart => exact ⟨0, s0, A0, B0, l0, c0, m0, k0, rfl, by omega, rfl, HN, KS, HR, HX, HS⟩
  case round =>
    clear HN KS HR HX HS
    obtain ⟨k, s0, A0, B0, l0, c0, m0, k0, rfl, hk, rfl, HN, KS, HR, HX, HS⟩ := hrel
    by_cases hlt : k < n
    · have q1 : decide (k < n) = true := decide_eq_true hlt
      obtain ⟨g, o, ⟨a, b, x, y, z, d, ww⟩, rfl, hm, hmem, x0, x1, x2, x3, x4, x5, x6⟩ := (H.out.ext HX.out).get hlt
      simp only at x0 x1 x2 x3 x4 x5 x6
      have HTK := Lib.hid (misfit_take (n := 3 * S) (u := u) hm)
      have HMM := Lib.hid (HVM.out _ hmem)
      clear hm hmem
      go_upto_region 8 with (fail)
      have hXa : Ext wr (wr.alloc (.cells #[.int .i64 (a), .int .i64 (b), .int .i64 (x), .int .i64 (y), .int .i64 (z), .int .i64 (d), .int .i64 (ww)] 90)) := (Ext.refl _).alloc _
      have kM := Blk.new wr 90 #[.int .i64 (a), .int .i64 (b), .int .i64 (x), .int .i64 (y), .int .i64 (z), .int .i64 (d), .int .i64 (ww)]
      replace HX := Lib.hid (HX.out.trans hXa)
      replace HR := Lib.hid (HR.out.ext hXa)
      replace KS := Lib.hid (KS.out.ext hXa)
      replace HN := Lib.hid (HN.out.ext hXa)
      replace HS := Lib.hid (HS.out.ext (growsNum 256) hXa)
      clear hXa x0 x1 x2 x3 x4 x5 x6
      generalize wr.heap.size = gm at kM ⊢
      generalize wr.alloc (.cells #[.int .i64 (a), .int .i64 (b), .int .i64 (x), .int .i64 (y), .int .i64 (z), .int .i64 (d), .int .i64 (ww)] 90) = w5 at kM HX HR KS HN HS ⊢
      refine misfit_r8 gs go 0 S S gm 256 (2 + k * 3103) a b x y z d ww u s0 A0 B0 l0 c0 m0 k0 _ w5 (KS.out.cell 0) (KS.out.cell 1) (KS.out.cell 2) (kM.cell 0) (kM.cell 1) (kM.cell 2) (kM.cell 3) (kM.cell 4) (kM.cell 5) (kM.cell 6) HS.out HMM.out HN.out (by omega) (by omega) _ _ (by simp) rfl rfl rfl ?_
      rintro xv0 xv1 xv2 xv3 xv4 xv5 W rfl rfl rfl _ _ hv hX
      simp only [rops, Try.f50, regOf, Option.bind_some, Nat.reduceBEq, if_true, if_false, Bool.false_eq_true, Option.getD_some, List.drop_succ_cons, List.drop_zero]
      simp only [Act.put, List.setIfInBounds_toArray, List.set_cons_succ, List.set_cons_zero]
      clear kM HN
      obtain ⟨s4, A4, l4, c4, B4, m4, k4, rfl⟩ := NumX.open hv
      have HN := Lib.hid hv
      replace HX := Lib.hid (HX.out.trans hX)
      replace HR := Lib.hid (HR.out.ext hX)
      replace KS := Lib.hid (KS.out.ext hX)
      replace HS := Lib.hid (HS.out.ext (growsNum 256) hX)
      clear hv hX
      obtain ⟨r0, r1, r2, f0, f1, f2⟩ := KS.out.three
      have HNI := Lib.hid (NoInts.three KS.out)
      go_wp2
      go_roundg (n - (k + 1))
      case rel =>
        refine ⟨k + 1, s4, A4, B4, l4, c4, m4, k4, rfl, by omega, by go_num, Lib.hid ?_, Lib.hid (((KS.out.set 0 _).set 1 _).set 2 _), Lib.hid (((HR.out.far (by simp only; omega) _).far (by simp only; omega) _).far (by simp only; omega) _), Lib.hid (Ext.boxed HX.out (by omega) _ _ _), Lib.hid (ShP.keeps (staysNum 256) HS.out ((((Keeps.refl [gs] W).setCell (.inl (by simp)) _).setCell (.inl (by simp)) _).setCell (.inl (by simp)) _) (fun g hg => by simp at hg; subst hg; exact HNI.out) (by simp; omega))⟩
        rw [HTK.out]
        exact (HN.out.mono (show 2 + k * 3103 + (12 * 256 + 30) + 1 ≤ 2 + (k + 1) * 3103 by omega)).boxed HNI.out _ _ _ _ _ _ _
      case measure => omega
    · obtain rfl : k = n := by omega
      have q1 : decide (k < k) = false := by simp
      have HTK : Hid (ms.take k = ms) := Lib.hid (List.take_of_length_le (by have := HL.out; omega))
      rw [HTK.out] at HN
      obtain ⟨r0, r1, r2, f0, f1, f2⟩ := KS.out.three
      clear f0 f1 f2
      go_wp2_with fail
      refine (doneG HN.out (by omega) HF.out).mono ?_
      rintro e w5 ⟨v5, rfl, hv, hX⟩
      obtain ⟨s4, A4, l4, c4, B4, m4, k4, rfl⟩ := RatC.open hv
      have HC := Lib.hid hv
      replace HX := Lib.hid (HX.out.trans hX)
      replace HR := Lib.hid (HR.out.ext hX)
      clear hv hX r0 r1 r2
      obtain ⟨r0, r1, r2, f0, f1, f2⟩ := HR.out.three
      have HNI := Lib.hid (NoInts.three HR.out)
      go_wp2
      refine bodyPost_ret (v := .tuple #[.agg #[.bool s4, .slice A4 l4 c4, .slice B4 m4 k4], .int .i64 0]) (by simp [results, Try.results50, go_sem, *]) rfl ?_
      exact ⟨_, rfl, staysC _ _ _ _ _ HC.out ((((Keeps.refl [w.heap.size + 1] w5).setCell (.inl (by simp)) _).setCell (.inl (by simp)) _).setCell (.inl (by simp)) _) (fun g hg => by simp at hg; subst hg; exact HNI.out), Ext.boxed HX.out (by omega) _ _ _⟩

end Go.Proofs.Ytikhlcgnlbinfaa
