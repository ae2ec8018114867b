/- Lemmas of the proof that follows (Moves, part 10): walks of functions by contract, and plain lemmas. Conditions: none. -/
import Derived.Test.YtikhlcgnlbinfaaMovesI
namespace Go.Proofs.Ytikhlcgnlbinfaa
open Lib (hid)
open Go.RowKit
/-- Some rational numbers of the reference in a row. -/
def QsAt (w : World) (A : Option Addr) (n : Nat) (qs : List Rat) : Prop := qs.length = n ∧ ∀ j q, qs[j]? = some q → ∃ b o s A' l c B m k, A = some ⟨b, o, none⟩ ∧ w.cell? ⟨b, o + j * 3, none⟩ = some (.bool s) ∧ w.cell? ⟨b, o + j * 3 + 1, none⟩ = some (.slice A' l c) ∧ w.cell? ⟨b, o + j * 3 + 2, none⟩ = some (.slice B m k) ∧ QZ w (.agg #[.bool s, .slice A' l c, .slice B m k]) q
theorem QsAt.ext {w w' : World} {A : Option Addr} {n : Nat} {qs : List Rat} (h : QsAt w A n qs) (he : Ext w w') : QsAt w' A n qs := ⟨h.1, fun j q hq => by
 obtain ⟨b, o, s, A', l, c, B, m, k, h1, h2, h3, h4, h5⟩ := h.2 j q hq
 exact ⟨b, o, s, A', l, c, B, m, k, h1, he.cell h2, he.cell h3, he.cell h4, h5.ext he⟩⟩
/-- The least and the greatest of some numbers. -/
def lowN (qs : List Rat) : Nat → Rat
 | 0 => qs.getD 0 0
 | k + 1 => if sgnQ (qs.getD (k + 1) 0 - lowN qs k) < 0 then qs.getD (k + 1) 0 else lowN qs k
def highN (qs : List Rat) : Nat → Rat
 | 0 => qs.getD 0 0
 | k + 1 => if 0 < sgnQ (qs.getD (k + 1) 0 - highN qs k) then qs.getD (k + 1) 0 else highN qs k
theorem lowN_mem {qs : List Rat} {k : Nat} (h : k < qs.length) : lowN qs k ∈ qs := by
 induction k with
 | zero => simp [lowN, List.getD, h]
 | succ k ih =>
  have ih := ih (by omega)
  simp only [lowN]
  split
  ·
   simp [List.getD, h]
  ·
   exact ih
theorem highN_mem {qs : List Rat} {k : Nat} (h : k < qs.length) : highN qs k ∈ qs := by
 induction k with
 | zero => simp [highN, List.getD, h]
 | succ k ih =>
  have ih := ih (by omega)
  simp only [highN]
  split
  ·
   simp [List.getD, h]
  ·
   exact ih
theorem cell_far3 {w : World} {b o x : Nat} {v v0 v1 v2 : Value} (h : w.cell? ⟨b, o, none⟩ = some v) (hb : b ≠ x) : (((w.setCell ⟨x, 0, none⟩ v0).setCell ⟨x, 1, none⟩ v1).setCell ⟨x, 2, none⟩ v2).cell? ⟨b, o, none⟩ = some v := by
 rw [World.cell?_of_block (w := w), h]
 exact (Below.heap_setCell _ _ _ b hb).trans ((Below.heap_setCell _ _ _ b hb).trans (Below.heap_setCell _ _ _ b hb))
theorem QsAt.past3 {w : World} {bq oq n : Nat} {qs : List Rat} {x : Nat} (h : QsAt w (some ⟨bq, oq, none⟩) n qs) (hN : NoInts w x) (hb : bq ≠ x) (s : Bool) (A B : Option Addr) (l c m k : Nat) : QsAt (((w.setCell ⟨x, 0, none⟩ (.bool s)).setCell ⟨x, 1, none⟩ (.slice A l c)).setCell ⟨x, 2, none⟩ (.slice B m k)) (some ⟨bq, oq, none⟩) n qs := ⟨h.1, fun j q hq => by
 obtain ⟨b, o, s', A', l', c', B', m', k', h1, h2, h3, h4, h5⟩ := h.2 j q hq
 injection h1 with h1
 injection h1 with e1 e2
 subst e1 e2
 exact ⟨_, _, s', A', l', c', B', m', k', rfl, cell_far3 h2 hb, cell_far3 h3 hb, cell_far3 h4 hb, QZ.past' h5 hN⟩⟩
theorem endV_of {z : Int} (h : endE z = 0) : endV z = z := by
 unfold endE at h
 unfold endV
 split at h
 ·
  rename_i h2; rw [if_pos h2]
 ·
  omega
set_option maxRecDepth 100000 in
set_option maxHeartbeats 2000000 in
theorem around_r1 (bq oq nq cq : Nat) (s21 : Bool) (A21 B21 : Option Addr) (l21 c21 m21 k21 : Nat) (w : World) (x0 : w.cell? ⟨bq, oq, none⟩ = some (.bool s21)) (x1 : w.cell? ⟨bq, oq + 1, none⟩ = some (.slice A21 l21 c21)) (x2 : w.cell? ⟨bq, oq + 2, none⟩ = some (.slice B21 m21 k21)) (_hn0 : 0 < nq) (_hn1 : (0 : Int) < (nq : Int)) (a : Act) (Q : Exit → Act → World → Prop) (hsize : 17 ≤ a.tmps.size)
  (s0 : a.tmps[0]? = some (.slice (some ⟨bq, oq, none⟩) nq cq))
  (hend : ∀ (xv0 xv1 xv2 xv3 xv4 xv5 xv6 xv7 xv8 xv9 : Value) (W : World), (xv0 = .slice (some ⟨bq, oq, none⟩) nq cq) → (xv1 = .pointer (some ⟨bq, oq, none⟩)) → (xv2 = .agg #[.bool s21, .slice A21 l21 c21, .slice B21 m21 k21]) → (xv3 = .slice (some ⟨bq, oq, none⟩) nq cq) → (xv4 = .pointer (some ⟨bq, oq, none⟩)) → (xv5 = .agg #[.bool s21, .slice A21 l21 c21, .slice B21 m21 k21]) → (∃ g, xv6 = .pointer (some ⟨g, 0, none⟩) ∧ w.heap.size ≤ g ∧ Blk W g 65 #[.bool s21, .slice A21 l21 c21, .slice B21 m21 k21]) → (∃ g, xv7 = .pointer (some ⟨g, 0, none⟩) ∧ w.heap.size ≤ g ∧ Blk W g 65 #[.bool s21, .slice A21 l21 c21, .slice B21 m21 k21]) → (xv6 ≠ xv7) → Ext w W → wpList Try.prog (rops Try.f110 1).toArray Q [] ((((((((((a.put (some 11) xv0).put (some 12) xv1).put (some 13) xv2).put (some 14) xv3).put (some 15) xv4).put (some 16) xv5).put (some 4) xv6).put (some 5) xv7).put (none) xv8).put (none) xv9) W) :
  (Code.region 1 (rops Try.f110 1).toArray true).wp Try.prog Q a w := by
 have hsz : ∀ d, some d ∈ ([some 11, some 12, some 13, some 14, some 15, some 16, some 4, some 5, none, none] : List (Option Tmp)) → d < a.tmps.size := slots_lt (by decide) hsize
 refine wp_region_g 10 [some 11, some 12, some 13, some 14, some 15, some 16, some 4, some 5, none, none] [[], [0], [1], [], [3], [4], [], [], [2, 6], [5, 7]] [[], [], [], [], [], [], [8], [9], [], []] (fun (done : Nat → Prop) (us : Nat → Value) (W : World) => Ext w W ∧ (done 0 → us 0 = .slice (some ⟨bq, oq, none⟩) nq cq) ∧ (done 1 → us 1 = .pointer (some ⟨bq, oq, none⟩)) ∧ (done 2 → us 2 = .agg #[.bool s21, .slice A21 l21 c21, .slice B21 m21 k21]) ∧ (done 3 → us 3 = .slice (some ⟨bq, oq, none⟩) nq cq) ∧ (done 4 → us 4 = .pointer (some ⟨bq, oq, none⟩)) ∧ (done 5 → us 5 = .agg #[.bool s21, .slice A21 l21 c21, .slice B21 m21 k21]) ∧ Loc w W 65 #[.bool false, .slice none 0 0, .slice none 0 0] #[.bool s21, .slice A21 l21 c21, .slice B21 m21 k21] (done 6) (done 8) (us 6) ∧ Loc w W 65 #[.bool false, .slice none 0 0, .slice none 0 0] #[.bool s21, .slice A21 l21 c21, .slice B21 m21 k21] (done 7) (done 9) (us 7) ∧ Far (done 6) (done 7) (us 6) (us 7)) (by kernel_rfl) (by kernel_rfl) hsz (fun p q us W h => by have e : p = q := funext fun k => propext (h k); rw [e]; exact id) (fun us => ⟨(Ext.refl w).drew, fun h => h.elim, fun h => h.elim, fun h => h.elim, fun h => h.elim, fun h => h.elim, fun h => h.elim, Loc.unmade id, Loc.unmade id, fun h => h.elim⟩) ?_ ?_
 ·
  clear hend
  simp only [rops, Try.f110, regOf, Option.bind_some, Nat.reduceBEq, if_true, if_false, Bool.false_eq_true, Option.getD_some]
  simp only [List.take_succ_cons, List.take_zero]
  refine ⟨?_, ?_, ?_, ?_, ?_, ?_, ?_, ?_, ?_, ?_, trivial⟩
  ·
   intro done us W hJ hdep haft hnot b hb hb' K hK Q'
   obtain ⟨hX0, cc0, cc1, cc2, cc3, cc4, cc5, ll6, ll7, f6_7⟩ := hJ
   have e0 := (hb' 0 (by simp)).trans s0
   clear hb hb'
   have hfin := hK (.slice (some ⟨bq, oq, none⟩) nq cq) _ ⟨hX0, fun _ => rfl, fun h => cc1 (h.resolve_right (by decide)), fun h => cc2 (h.resolve_right (by decide)), fun h => cc3 (h.resolve_right (by decide)), fun h => cc4 (h.resolve_right (by decide)), fun h => cc5 (h.resolve_right (by decide)), Loc.same ll6 ⟨fun h => h.resolve_right (by decide), .inl⟩ ⟨fun h => h.resolve_right (by decide), .inl⟩, Loc.same ll7 ⟨fun h => h.resolve_right (by decide), .inl⟩ ⟨fun h => h.resolve_right (by decide), .inl⟩, fun h h' => f6_7 (h.resolve_right (by decide)) (h'.resolve_right (by decide))⟩
   clear hK cc0 cc1 cc2 cc3 cc4 cc5 ll6 ll7 f6_7
   go_simp
   exact hfin
  ·
   intro done us W hJ hdep haft hnot b hb hb' K hK Q'
   obtain ⟨hX0, cc0, cc1, cc2, cc3, cc4, cc5, ll6, ll7, f6_7⟩ := hJ
   simp only [List.getD_cons_succ, List.getD_cons_zero, List.mem_cons, List.not_mem_nil, or_false, forall_eq_or_imp, forall_eq] at hdep
   have e11 := hb 0 11 rfl
   rw [cc0 hdep] at e11
   clear hb hb'
   have hfin := hK (.pointer (some ⟨bq, oq, none⟩)) _ ⟨hX0, fun h => cc0 (h.resolve_right (by decide)), fun _ => rfl, fun h => cc2 (h.resolve_right (by decide)), fun h => cc3 (h.resolve_right (by decide)), fun h => cc4 (h.resolve_right (by decide)), fun h => cc5 (h.resolve_right (by decide)), Loc.same ll6 ⟨fun h => h.resolve_right (by decide), .inl⟩ ⟨fun h => h.resolve_right (by decide), .inl⟩, Loc.same ll7 ⟨fun h => h.resolve_right (by decide), .inl⟩ ⟨fun h => h.resolve_right (by decide), .inl⟩, fun h h' => f6_7 (h.resolve_right (by decide)) (h'.resolve_right (by decide))⟩
   clear hK cc0 cc1 cc2 cc3 cc4 cc5 ll6 ll7 f6_7
   go_simp
   exact hfin
  ·
   intro done us W hJ hdep haft hnot b hb hb' K hK Q'
   obtain ⟨hX0, cc0, cc1, cc2, cc3, cc4, cc5, ll6, ll7, f6_7⟩ := hJ
   simp only [List.getD_cons_succ, List.getD_cons_zero, List.mem_cons, List.not_mem_nil, or_false, forall_eq_or_imp, forall_eq] at hdep
   have e12 := hb 1 12 rfl
   rw [cc1 hdep] at e12
   clear hb hb'
   have z0 := Ext.cell hX0 x0
   have z1 := Ext.cell hX0 x1
   have z2 := Ext.cell hX0 x2
   have hfin := hK (.agg #[.bool s21, .slice A21 l21 c21, .slice B21 m21 k21]) _ ⟨hX0, fun h => cc0 (h.resolve_right (by decide)), fun h => cc1 (h.resolve_right (by decide)), fun _ => rfl, fun h => cc3 (h.resolve_right (by decide)), fun h => cc4 (h.resolve_right (by decide)), fun h => cc5 (h.resolve_right (by decide)), Loc.same ll6 ⟨fun h => h.resolve_right (by decide), .inl⟩ ⟨fun h => h.resolve_right (by decide), .inl⟩, Loc.same ll7 ⟨fun h => h.resolve_right (by decide), .inl⟩ ⟨fun h => h.resolve_right (by decide), .inl⟩, fun h h' => f6_7 (h.resolve_right (by decide)) (h'.resolve_right (by decide))⟩
   clear hK cc0 cc1 cc2 cc3 cc4 cc5 ll6 ll7 f6_7
   go_simp
   exact hfin
  ·
   intro done us W hJ hdep haft hnot b hb hb' K hK Q'
   obtain ⟨hX0, cc0, cc1, cc2, cc3, cc4, cc5, ll6, ll7, f6_7⟩ := hJ
   have e0 := (hb' 0 (by simp)).trans s0
   clear hb hb'
   have hfin := hK (.slice (some ⟨bq, oq, none⟩) nq cq) _ ⟨hX0, fun h => cc0 (h.resolve_right (by decide)), fun h => cc1 (h.resolve_right (by decide)), fun h => cc2 (h.resolve_right (by decide)), fun _ => rfl, fun h => cc4 (h.resolve_right (by decide)), fun h => cc5 (h.resolve_right (by decide)), Loc.same ll6 ⟨fun h => h.resolve_right (by decide), .inl⟩ ⟨fun h => h.resolve_right (by decide), .inl⟩, Loc.same ll7 ⟨fun h => h.resolve_right (by decide), .inl⟩ ⟨fun h => h.resolve_right (by decide), .inl⟩, fun h h' => f6_7 (h.resolve_right (by decide)) (h'.resolve_right (by decide))⟩
   clear hK cc0 cc1 cc2 cc3 cc4 cc5 ll6 ll7 f6_7
   go_simp
   exact hfin
  ·
   intro done us W hJ hdep haft hnot b hb hb' K hK Q'
   obtain ⟨hX0, cc0, cc1, cc2, cc3, cc4, cc5, ll6, ll7, f6_7⟩ := hJ
   simp only [List.getD_cons_succ, List.getD_cons_zero, List.mem_cons, List.not_mem_nil, or_false, forall_eq_or_imp, forall_eq] at hdep
   have e14 := hb 3 14 rfl
   rw [cc3 hdep] at e14
   clear hb hb'
   have hfin := hK (.pointer (some ⟨bq, oq, none⟩)) _ ⟨hX0, fun h => cc0 (h.resolve_right (by decide)), fun h => cc1 (h.resolve_right (by decide)), fun h => cc2 (h.resolve_right (by decide)), fun h => cc3 (h.resolve_right (by decide)), fun _ => rfl, fun h => cc5 (h.resolve_right (by decide)), Loc.same ll6 ⟨fun h => h.resolve_right (by decide), .inl⟩ ⟨fun h => h.resolve_right (by decide), .inl⟩, Loc.same ll7 ⟨fun h => h.resolve_right (by decide), .inl⟩ ⟨fun h => h.resolve_right (by decide), .inl⟩, fun h h' => f6_7 (h.resolve_right (by decide)) (h'.resolve_right (by decide))⟩
   clear hK cc0 cc1 cc2 cc3 cc4 cc5 ll6 ll7 f6_7
   go_simp
   exact hfin
  ·
   intro done us W hJ hdep haft hnot b hb hb' K hK Q'
   obtain ⟨hX0, cc0, cc1, cc2, cc3, cc4, cc5, ll6, ll7, f6_7⟩ := hJ
   simp only [List.getD_cons_succ, List.getD_cons_zero, List.mem_cons, List.not_mem_nil, or_false, forall_eq_or_imp, forall_eq] at hdep
   have e15 := hb 4 15 rfl
   rw [cc4 hdep] at e15
   clear hb hb'
   have z0 := Ext.cell hX0 x0
   have z1 := Ext.cell hX0 x1
   have z2 := Ext.cell hX0 x2
   have hfin := hK (.agg #[.bool s21, .slice A21 l21 c21, .slice B21 m21 k21]) _ ⟨hX0, fun h => cc0 (h.resolve_right (by decide)), fun h => cc1 (h.resolve_right (by decide)), fun h => cc2 (h.resolve_right (by decide)), fun h => cc3 (h.resolve_right (by decide)), fun h => cc4 (h.resolve_right (by decide)), fun _ => rfl, Loc.same ll6 ⟨fun h => h.resolve_right (by decide), .inl⟩ ⟨fun h => h.resolve_right (by decide), .inl⟩, Loc.same ll7 ⟨fun h => h.resolve_right (by decide), .inl⟩ ⟨fun h => h.resolve_right (by decide), .inl⟩, fun h h' => f6_7 (h.resolve_right (by decide)) (h'.resolve_right (by decide))⟩
   clear hK cc0 cc1 cc2 cc3 cc4 cc5 ll6 ll7 f6_7
   go_simp
   exact hfin
  ·
   intro done us W hJ hdep haft hnot b hb hb' K hK Q'
   obtain ⟨hX0, cc0, cc1, cc2, cc3, cc4, cc5, ll6, ll7, f6_7⟩ := hJ
   simp only [List.getD_cons_succ, List.getD_cons_zero, List.mem_cons, List.not_mem_nil, or_false, forall_eq_or_imp, forall_eq] at haft
   clear hb hb'
   have hfin := hK _ _ ⟨hX0.alloc _, fun h => cc0 (h.resolve_right (by decide)), fun h => cc1 (h.resolve_right (by decide)), fun h => cc2 (h.resolve_right (by decide)), fun h => cc3 (h.resolve_right (by decide)), fun h => cc4 (h.resolve_right (by decide)), fun h => cc5 (h.resolve_right (by decide)), Loc.new w W hX0 (fun h => h.elim haft (by decide)) (Ext.refl _), Loc.same (ll7.ext ((Ext.refl _).alloc _)) ⟨fun h => h.resolve_right (by decide), .inl⟩ ⟨fun h => h.resolve_right (by decide), .inl⟩, fun _ h => Ne.symm (ll7.far_new (h.resolve_right (by decide)))⟩
   clear hK hX0 cc0 cc1 cc2 cc3 cc4 cc5 ll6 ll7 f6_7
   go_simp
   exact hfin
  ·
   intro done us W hJ hdep haft hnot b hb hb' K hK Q'
   obtain ⟨hX0, cc0, cc1, cc2, cc3, cc4, cc5, ll6, ll7, f6_7⟩ := hJ
   simp only [List.getD_cons_succ, List.getD_cons_zero, List.mem_cons, List.not_mem_nil, or_false, forall_eq_or_imp, forall_eq] at haft
   clear hb hb'
   have hfin := hK _ _ ⟨hX0.alloc _, fun h => cc0 (h.resolve_right (by decide)), fun h => cc1 (h.resolve_right (by decide)), fun h => cc2 (h.resolve_right (by decide)), fun h => cc3 (h.resolve_right (by decide)), fun h => cc4 (h.resolve_right (by decide)), fun h => cc5 (h.resolve_right (by decide)), Loc.same (ll6.ext ((Ext.refl _).alloc _)) ⟨fun h => h.resolve_right (by decide), .inl⟩ ⟨fun h => h.resolve_right (by decide), .inl⟩, Loc.new w W hX0 (fun h => h.elim haft (by decide)) (Ext.refl _), fun h _ => ll6.far_new (h.resolve_right (by decide))⟩
   clear hK hX0 cc0 cc1 cc2 cc3 cc4 cc5 ll6 ll7 f6_7
   go_simp
   exact hfin
  ·
   intro done us W hJ hdep haft hnot b hb hb' K hK Q'
   obtain ⟨hX0, cc0, cc1, cc2, cc3, cc4, cc5, ll6, ll7, f6_7⟩ := hJ
   simp only [List.getD_cons_succ, List.getD_cons_zero, List.mem_cons, List.not_mem_nil, or_false, forall_eq_or_imp, forall_eq] at hdep
   have e4 := hb 6 4 rfl
   have e13 := hb 2 13 rfl
   rw [cc2 hdep.1] at e13
   obtain ⟨g, eg, hg, hB⟩ := ll6.stored hdep.2 hnot
   rw [eg] at e4
   have q0 : W.cell? ⟨g, 0, none⟩ = some (.bool false) := hB.cell 0
   have z0 : W.frozen? ⟨g, 0, none⟩ = false := hB.free 0
   have q1 : W.cell? ⟨g, 1, none⟩ = some (.slice none 0 0) := hB.cell 1
   have z1 : W.frozen? ⟨g, 1, none⟩ = false := hB.free 1
   have q2 : W.cell? ⟨g, 2, none⟩ = some (.slice none 0 0) := hB.cell 2
   have z2 : W.frozen? ⟨g, 2, none⟩ = false := hB.free 2
   clear hb hb'
   have hfin := hK undef _ ⟨(((hX0.setCell hg _).setCell hg _).setCell hg _), fun h => cc0 (h.resolve_right (by decide)), fun h => cc1 (h.resolve_right (by decide)), fun h => cc2 (h.resolve_right (by decide)), fun h => cc3 (h.resolve_right (by decide)), fun h => cc4 (h.resolve_right (by decide)), fun h => cc5 (h.resolve_right (by decide)), ⟨fun _ => ⟨g, eg, hg, fun _ => (Blk.set (Blk.set (Blk.set hB 0 _) 1 _) 2 _), fun h => absurd (.inr rfl) h⟩⟩, Loc.same (Loc.keep (Loc.keep (Loc.keep ll7 (f := (fun h k => Ne.symm (f6_7 k h))) hdep.2 eg) (f := (fun h k => Ne.symm (f6_7 k h))) hdep.2 eg) (f := (fun h k => Ne.symm (f6_7 k h))) hdep.2 eg) ⟨fun h => h.resolve_right (by decide), .inl⟩ ⟨fun h => h.resolve_right (by decide), .inl⟩, fun h h' => f6_7 (h.resolve_right (by decide)) (h'.resolve_right (by decide))⟩
   clear hK hX0 cc0 cc1 cc2 cc3 cc4 cc5 ll6 ll7 f6_7
   go_simp
   exact hfin
  ·
   intro done us W hJ hdep haft hnot b hb hb' K hK Q'
   obtain ⟨hX0, cc0, cc1, cc2, cc3, cc4, cc5, ll6, ll7, f6_7⟩ := hJ
   simp only [List.getD_cons_succ, List.getD_cons_zero, List.mem_cons, List.not_mem_nil, or_false, forall_eq_or_imp, forall_eq] at hdep
   have e5 := hb 7 5 rfl
   have e16 := hb 5 16 rfl
   rw [cc5 hdep.1] at e16
   obtain ⟨g, eg, hg, hB⟩ := ll7.stored hdep.2 hnot
   rw [eg] at e5
   have q0 : W.cell? ⟨g, 0, none⟩ = some (.bool false) := hB.cell 0
   have z0 : W.frozen? ⟨g, 0, none⟩ = false := hB.free 0
   have q1 : W.cell? ⟨g, 1, none⟩ = some (.slice none 0 0) := hB.cell 1
   have z1 : W.frozen? ⟨g, 1, none⟩ = false := hB.free 1
   have q2 : W.cell? ⟨g, 2, none⟩ = some (.slice none 0 0) := hB.cell 2
   have z2 : W.frozen? ⟨g, 2, none⟩ = false := hB.free 2
   clear hb hb'
   have hfin := hK undef _ ⟨(((hX0.setCell hg _).setCell hg _).setCell hg _), fun h => cc0 (h.resolve_right (by decide)), fun h => cc1 (h.resolve_right (by decide)), fun h => cc2 (h.resolve_right (by decide)), fun h => cc3 (h.resolve_right (by decide)), fun h => cc4 (h.resolve_right (by decide)), fun h => cc5 (h.resolve_right (by decide)), Loc.same (Loc.keep (Loc.keep (Loc.keep ll6 (f := f6_7) hdep.2 eg) (f := f6_7) hdep.2 eg) (f := f6_7) hdep.2 eg) ⟨fun h => h.resolve_right (by decide), .inl⟩ ⟨fun h => h.resolve_right (by decide), .inl⟩, ⟨fun _ => ⟨g, eg, hg, fun _ => (Blk.set (Blk.set (Blk.set hB 0 _) 1 _) 2 _), fun h => absurd (.inr rfl) h⟩⟩, fun h h' => f6_7 (h.resolve_right (by decide)) (h'.resolve_right (by decide))⟩
   clear hK hX0 cc0 cc1 cc2 cc3 cc4 cc5 ll6 ll7 f6_7
   go_simp
   exact hfin
 ·
  intro us W hJ
  obtain ⟨hX0, cc0, cc1, cc2, cc3, cc4, cc5, ll6, ll7, f6_7⟩ := hJ
  rw [show (rops Try.f110 1).drop 10 = [] by kernel_rfl]
  exact hend (us 0) (us 1) (us 2) (us 3) (us 4) (us 5) (us 6) (us 7) (us 8) (us 9) W (cc0 (show 0 < 10 by decide)) (cc1 (show 1 < 10 by decide)) (cc2 (show 2 < 10 by decide)) (cc3 (show 3 < 10 by decide)) (cc4 (show 4 < 10 by decide)) (cc5 (show 5 < 10 by decide)) (ll6.done (show 6 < 10 by decide) (show 8 < 10 by decide)) (ll7.done (show 7 < 10 by decide) (show 9 < 10 by decide)) (f6_7 (show 6 < 10 by decide) (show 7 < 10 by decide)) hX0
set_option maxRecDepth 100000 in
set_option maxHeartbeats 2000000 in
theorem around_r5 (bq oq nq cq jq gl L : Nat) (s22 : Bool) (A22 B22 : Option Addr) (l22 c22 m22 k22 : Nat) (s23 : Bool) (A23 B23 : Option Addr) (l23 c23 m23 k23 : Nat) (q r : Rat) (sg : Int) (w : World) (x0 : w.cell? ⟨bq, oq + jq * 3, none⟩ = some (.bool s22)) (x1 : w.cell? ⟨bq, oq + jq * 3 + 1, none⟩ = some (.slice A22 l22 c22)) (x2 : w.cell? ⟨bq, oq + jq * 3 + 2, none⟩ = some (.slice B22 m22 k22)) (y0 : w.cell? ⟨gl, 0, none⟩ = some (.bool s23)) (y1 : w.cell? ⟨gl, 1, none⟩ = some (.slice A23 l23 c23)) (y2 : w.cell? ⟨gl, 2, none⟩ = some (.slice B23 m23 k23)) (hx : QZ w (.agg #[.bool s22, .slice A22 l22 c22, .slice B22 m22 k22]) q) (hy : QZ w (.agg #[.bool s23, .slice A23 l23 c23, .slice B23 m23 k23]) r) (fq : FitR q L) (fr : FitR r L) (hL : L + L + 1 ≤ 400000) (hsg : sgnQ (q - r) = sg) (_hk0 : (0 : Int) ≤ (jq : Int)) (_hkn : (jq : Int) < (nq : Int)) (a : Act) (Q : Exit → Act → World → Prop) (hsize : 30 ≤ a.tmps.size)
  (s0 : a.tmps[0]? = some (.slice (some ⟨bq, oq, none⟩) nq cq))
  (s4 : a.tmps[4]? = some (.pointer (some ⟨gl, 0, none⟩)))
  (s6 : a.tmps[6]? = some (.int .i64 (jq : Int)))
  (hend : ∀ (xv0 xv1 xv2 xv3 xv4 xv5 xv6 : Value) (W : World), (xv0 = .slice (some ⟨bq, oq, none⟩) nq cq) → (xv1 = .int .i64 (jq : Int)) → (xv2 = .pointer (some ⟨bq, oq + jq * 3, none⟩)) → (xv3 = .agg #[.bool s22, .slice A22 l22 c22, .slice B22 m22 k22]) → (xv4 = .agg #[.bool s23, .slice A23 l23 c23, .slice B23 m23 k23]) → (xv5 = .int .i64 sg) → (xv6 = .bool (decide (sg < 0))) → Ext w W → wpList Try.prog (rops Try.f110 5).toArray Q ((rops Try.f110 5).drop 7) (((((((a.put (some 23) xv0).put (some 24) xv1).put (some 25) xv2).put (some 26) xv3).put (some 27) xv4).put (some 28) xv5).put (some 29) xv6) W) :
  (Code.region 5 (rops Try.f110 5).toArray true).wp Try.prog Q a w := by
 refine wp_region_k 7 [some 23, some 24, some 25, some 26, some 27, some 28, some 29] [[], [], [0, 1], [2], [], [3, 4], [5]] [eqv (.slice (some ⟨bq, oq, none⟩) nq cq), eqv (.int .i64 (jq : Int)), eqv (.pointer (some ⟨bq, oq + jq * 3, none⟩)), eqv (.agg #[.bool s22, .slice A22 l22 c22, .slice B22 m22 k22]), eqv (.agg #[.bool s23, .slice A23 l23 c23, .slice B23 m23 k23]), eqv (.int .i64 sg), eqv (.bool (decide (sg < 0)))] (by kernel_rfl) (by kernel_rfl) rfl (by decide) hsize ⟨monC, monC, monC, monC, monC, monC, monC, trivial⟩ ?_ ?_
 ·
  clear hend
  simp only [rops, Try.f110, regOf, Option.bind_some, Nat.reduceBEq, if_true, if_false, Bool.false_eq_true, Option.getD_some]
  simp only [List.take_succ_cons, List.take_zero]
  refine ⟨?_, ?_, ?_, ?_, ?_, ?_, ?_, trivial⟩
  ·
   rintro us W hJ _ b hb hbz K hK0 hK Qz
   have e0 := (hbz 0 (by simp)).trans s0
   clear hb hbz
   go_simp
   exact hK0 _ rfl
  ·
   rintro us W hJ _ b hb hbz K hK0 hK Qz
   have e6 := (hbz 6 (by simp)).trans s6
   clear hb hbz
   go_simp
   exact hK0 _ rfl
  ·
   rintro us W hJ ⟨d0, d1⟩ b hb hbz K hK0 hK Qz
   have e23 := slotV (hb 0 23 rfl) d0
   have e24 := slotV (hb 1 24 rfl) d1
   clear hb hbz d0 d1
   go_simp
   exact hK0 _ rfl
  ·
   rintro us W hJ d2 b hb hbz K hK0 hK Qz
   have e25 := slotV (hb 2 25 rfl) d2
   clear hb hbz d2
   have u0 := Ext.cell hJ x0
   have u1 := Ext.cell hJ x1
   have u2 := Ext.cell hJ x2
   go_simp
   exact hK0 _ rfl
  ·
   rintro us W hJ _ b hb hbz K hK0 hK Qz
   have e4 := (hbz 4 (by simp)).trans s4
   clear hb hbz
   have u0 := Ext.cell hJ y0
   have u1 := Ext.cell hJ y1
   have u2 := Ext.cell hJ y2
   go_simp
   exact hK0 _ rfl
  ·
   rintro us W hJ ⟨d3, d4⟩ b hb hbz K hK0 hK Qz
   have e26 := slotV (hb 3 26 rfl) d3
   have e27 := slotV (hb 4 27 rfl) d4
   clear hb hbz d3 d4
   go_simp
   refine ((qcmp_any _ _ q r L L _ (QZ.ext hx hJ) (QZ.ext hy hJ) fq fr hL).mono (fun e w' h => by rw [hsg] at h; exact h)).mono ?_
   rintro e w' ⟨rfl, hX⟩
   exact hK _ _ rfl hX
  ·
   rintro us W hJ d5 b hb hbz K hK0 hK Qz
   have e28 := slotV (hb 5 28 rfl) d5
   clear hb hbz d5
   go_simp
   exact hK0 _ rfl
 ·
  rintro us W ⟨v0, v1, v2, v3, v4, v5, v6, _⟩ hJ
  exact hend _ _ _ _ _ _ _ W v0 v1 v2 v3 v4 v5 v6 hJ
set_option maxRecDepth 100000 in
set_option maxHeartbeats 2000000 in
theorem around_r7 (bq oq nq cq jq gl L : Nat) (s22 : Bool) (A22 B22 : Option Addr) (l22 c22 m22 k22 : Nat) (s23 : Bool) (A23 B23 : Option Addr) (l23 c23 m23 k23 : Nat) (q r : Rat) (sg : Int) (w : World) (x0 : w.cell? ⟨bq, oq + jq * 3, none⟩ = some (.bool s22)) (x1 : w.cell? ⟨bq, oq + jq * 3 + 1, none⟩ = some (.slice A22 l22 c22)) (x2 : w.cell? ⟨bq, oq + jq * 3 + 2, none⟩ = some (.slice B22 m22 k22)) (y0 : w.cell? ⟨gl, 0, none⟩ = some (.bool s23)) (y1 : w.cell? ⟨gl, 1, none⟩ = some (.slice A23 l23 c23)) (y2 : w.cell? ⟨gl, 2, none⟩ = some (.slice B23 m23 k23)) (hx : QZ w (.agg #[.bool s22, .slice A22 l22 c22, .slice B22 m22 k22]) q) (hy : QZ w (.agg #[.bool s23, .slice A23 l23 c23, .slice B23 m23 k23]) r) (fq : FitR q L) (fr : FitR r L) (hL : L + L + 1 ≤ 400000) (hsg : sgnQ (q - r) = sg) (_hk0 : (0 : Int) ≤ (jq : Int)) (_hkn : (jq : Int) < (nq : Int)) (a : Act) (Q : Exit → Act → World → Prop) (hsize : 41 ≤ a.tmps.size)
  (s0 : a.tmps[0]? = some (.slice (some ⟨bq, oq, none⟩) nq cq))
  (s5 : a.tmps[5]? = some (.pointer (some ⟨gl, 0, none⟩)))
  (s6 : a.tmps[6]? = some (.int .i64 (jq : Int)))
  (hend : ∀ (xv0 xv1 xv2 xv3 xv4 xv5 xv6 : Value) (W : World), (xv0 = .slice (some ⟨bq, oq, none⟩) nq cq) → (xv1 = .int .i64 (jq : Int)) → (xv2 = .pointer (some ⟨bq, oq + jq * 3, none⟩)) → (xv3 = .agg #[.bool s22, .slice A22 l22 c22, .slice B22 m22 k22]) → (xv4 = .agg #[.bool s23, .slice A23 l23 c23, .slice B23 m23 k23]) → (xv5 = .int .i64 sg) → (xv6 = .bool (decide (0 < sg))) → Ext w W → wpList Try.prog (rops Try.f110 7).toArray Q ((rops Try.f110 7).drop 7) (((((((a.put (some 34) xv0).put (some 35) xv1).put (some 36) xv2).put (some 37) xv3).put (some 38) xv4).put (some 39) xv5).put (some 40) xv6) W) :
  (Code.region 7 (rops Try.f110 7).toArray true).wp Try.prog Q a w := by
 refine wp_region_k 7 [some 34, some 35, some 36, some 37, some 38, some 39, some 40] [[], [], [0, 1], [2], [], [3, 4], [5]] [eqv (.slice (some ⟨bq, oq, none⟩) nq cq), eqv (.int .i64 (jq : Int)), eqv (.pointer (some ⟨bq, oq + jq * 3, none⟩)), eqv (.agg #[.bool s22, .slice A22 l22 c22, .slice B22 m22 k22]), eqv (.agg #[.bool s23, .slice A23 l23 c23, .slice B23 m23 k23]), eqv (.int .i64 sg), eqv (.bool (decide (0 < sg)))] (by kernel_rfl) (by kernel_rfl) rfl (by decide) hsize ⟨monC, monC, monC, monC, monC, monC, monC, trivial⟩ ?_ ?_
 ·
  clear hend
  simp only [rops, Try.f110, regOf, Option.bind_some, Nat.reduceBEq, if_true, if_false, Bool.false_eq_true, Option.getD_some]
  simp only [List.take_succ_cons, List.take_zero]
  refine ⟨?_, ?_, ?_, ?_, ?_, ?_, ?_, trivial⟩
  ·
   rintro us W hJ _ b hb hbz K hK0 hK Qz
   have e0 := (hbz 0 (by simp)).trans s0
   clear hb hbz
   go_simp
   exact hK0 _ rfl
  ·
   rintro us W hJ _ b hb hbz K hK0 hK Qz
   have e6 := (hbz 6 (by simp)).trans s6
   clear hb hbz
   go_simp
   exact hK0 _ rfl
  ·
   rintro us W hJ ⟨d0, d1⟩ b hb hbz K hK0 hK Qz
   have e34 := slotV (hb 0 34 rfl) d0
   have e35 := slotV (hb 1 35 rfl) d1
   clear hb hbz d0 d1
   go_simp
   exact hK0 _ rfl
  ·
   rintro us W hJ d2 b hb hbz K hK0 hK Qz
   have e36 := slotV (hb 2 36 rfl) d2
   clear hb hbz d2
   have u0 := Ext.cell hJ x0
   have u1 := Ext.cell hJ x1
   have u2 := Ext.cell hJ x2
   go_simp
   exact hK0 _ rfl
  ·
   rintro us W hJ _ b hb hbz K hK0 hK Qz
   have e5 := (hbz 5 (by simp)).trans s5
   clear hb hbz
   have u0 := Ext.cell hJ y0
   have u1 := Ext.cell hJ y1
   have u2 := Ext.cell hJ y2
   go_simp
   exact hK0 _ rfl
  ·
   rintro us W hJ ⟨d3, d4⟩ b hb hbz K hK0 hK Qz
   have e37 := slotV (hb 3 37 rfl) d3
   have e38 := slotV (hb 4 38 rfl) d4
   clear hb hbz d3 d4
   go_simp
   refine ((qcmp_any _ _ q r L L _ (QZ.ext hx hJ) (QZ.ext hy hJ) fq fr hL).mono (fun e w' h => by rw [hsg] at h; exact h)).mono ?_
   rintro e w' ⟨rfl, hX⟩
   exact hK _ _ rfl hX
  ·
   rintro us W hJ d5 b hb hbz K hK0 hK Qz
   have e39 := slotV (hb 5 39 rfl) d5
   clear hb hbz d5
   go_simp
   exact hK0 _ rfl
 ·
  rintro us W ⟨v0, v1, v2, v3, v4, v5, v6, _⟩ hJ
  exact hend _ _ _ _ _ _ _ W v0 v1 v2 v3 v4 v5 v6 hJ
theorem low_next {qs : List Rat} {k : Nat} {q a : Rat} (hq : qs[k + 1]? = some q) (ha : lowN qs k = a) : lowN qs (k + 1) = if sgnQ (q - a) < 0 then q else a := by
 simp only [lowN, List.getD, hq, Option.getD_some, ha]
theorem high_next {qs : List Rat} {k : Nat} {q a : Rat} (hq : qs[k + 1]? = some q) (ha : highN qs k = a) : highN qs (k + 1) = if 0 < sgnQ (q - a) then q else a := by
 simp only [highN, List.getD, hq, Option.getD_some, ha]
set_option maxRecDepth 100000 in
set_option maxHeartbeats 2000000 in
theorem around_ok (A : Option Addr) (p cq L : Nat) (qs : List Rat) (w : World) (hq : QsAt w A (p + 1) qs) (_hp : p ≤ 1000) (hf : ∀ q ∈ qs, FitR q L) (hL : L + L + 1 ≤ 400000) (hlo : endE (lowN qs p).floor = 0) (hhi : endE (-(-(highN qs p)).floor) = 0) :
  Calls Try.prog 110 #[.slice A (p + 1) cq] w (RetE w (.agg #[.int .i64 (lowN qs p).floor, .int .i64 (-(-(highN qs p)).floor)]) 0) := by
 have HQ := hid hq
 have HF := hid hf
 clear hq hf
 have HL : Hid (qs.length = p + 1) := HQ.out.1
 obtain ⟨q0, hq0⟩ : ∃ q, qs[0]? = some q := ⟨qs[0]'(by rw [HL.out]; omega), List.getElem?_eq_getElem _⟩
 obtain ⟨bq, oq, s21, A21, l21, c21, B21, m21, k21, rfl, x0, x1, x2, hz⟩ := HQ.out.2 0 q0 hq0
 simp only [Nat.zero_mul, Nat.add_zero] at x0 x1 x2
 have HZ := hid hz
 have HQ0 := hid hq0
 have hn1 : (0 : Int) < ((p + 1 : Nat) : Int) := by omega
 clear hz hq0
 obtain ⟨lo, hlw⟩ : ∃ q, lowN qs p = q := ⟨_, rfl⟩
 obtain ⟨hi, hhw⟩ : ∃ q, highN qs p = q := ⟨_, rfl⟩
 have HLW := hid hlw
 have HHW := hid hhw
 rw [hlw] at hlo
 rw [hhw] at hhi
 rw [hlw, hhw]
 obtain ⟨zl, hzl⟩ : ∃ z, lo.floor = z := ⟨_, rfl⟩
 obtain ⟨zh, hzh⟩ : ∃ z, -(-hi).floor = z := ⟨_, rfl⟩
 have HZL := hid hzl
 have HZH := hid hzh
 rw [hzl] at hlo
 rw [hzh] at hhi
 rw [hzl, hzh]
 obtain ⟨nl, hnl⟩ : ∃ z, endV zl = z := ⟨_, rfl⟩
 obtain ⟨nh, hnh⟩ : ∃ z, endV zh = z := ⟨_, rfl⟩
 obtain ⟨eh, heh⟩ : ∃ z, endE zh = z := ⟨_, rfl⟩
 have HNL := hid hnl
 have HNH := hid hnh
 have HEH := hid heh
 have HLO := hid hlo
 have HHI := hid hhi
 have HVL : Hid (zl = nl) := by rw [← hnl]; exact (endV_of hlo).symm
 have HVH : Hid (zh = nh) := by rw [← hnh]; exact (endV_of hhi).symm
 clear hlw hhw hzl hzh hnl hnh heh hlo hhi
 have hXe : Ext w (w.alloc (.cells #[.int .i64 0, .int .i64 0] 31)) := ((Ext.refl w).alloc _)
 have kR : Blk (w.alloc (.cells #[.int .i64 0, .int .i64 0] 31)) w.heap.size 31 #[.int .i64 0, .int .i64 0] := Blk.at_ (by simp)
 have y0 := hXe.cell x0
 have y1 := hXe.cell x1
 have y2 := hXe.cell x2
 go_enter Try.func110, Try.ntmps110
 go_wp2_with fail
 generalize (w.alloc (.cells #[.int .i64 0, .int .i64 0] 31)) = w1 at hXe y0 y1 y2 kR ⊢
 have HX := hid hXe
 clear hXe
 have KR := hid kR
 clear kR
 replace HZ := hid (HZ.out.ext HX.out)
 replace HQ := hid (HQ.out.ext HX.out)
 go_upto_region 1 with (fail)
 refine around_r1 bq oq (p + 1) cq s21 A21 B21 l21 c21 m21 k21 w1 y0 y1 y2 (by omega) hn1 _ _ (by simp) rfl ?_
 rintro xv0 xv1 xv2 xv3 xv4 xv5 xv6 xv7 xv8 xv9 w2 rfl rfl rfl rfl rfl rfl ⟨gl, rfl, hgl, hBl⟩ ⟨gh, rfl, hgh, hBh⟩ hne hXW
 simp only [rops, Try.f110, regOf, Option.bind_some, Nat.reduceBEq, if_true, if_false, Bool.false_eq_true, Option.getD_some, List.drop_succ_cons, List.drop_zero]
 simp only [Act.put, List.setIfInBounds_toArray, List.set_cons_succ, List.set_cons_zero]
 have HBQ : Hid (bq ≠ gl ∧ bq ≠ gh) := by
  have hb : bq < w.heap.size := World.block_lt_of_cell? w _ x0
  have hz1 := HX.out.size
  exact ⟨by omega, by omega⟩
 have hll : gl ≠ gh := by
  rintro rfl
  exact hne rfl
 have zr := KR.out.lt
 have hgr : w.heap.size ≠ gl ∧ w.heap.size ≠ gh := by omega
 obtain ⟨hgr1, hgr2⟩ := hgr
 have hwl : w.heap.size ≤ gl := by omega
 have hwh : w.heap.size ≤ gh := by omega
 clear y0 y1 y2 x0 x1 x2 hne hgl hgh
 replace HX := hid (HX.out.trans hXW)
 replace HZ := hid (HZ.out.ext hXW)
 replace HQ := hid (HQ.out.ext hXW)
 replace KR := hid (KR.out.ext hXW)
 clear hXW
 have KL := hid hBl
 have KH := hid hBh
 clear hBl hBh
 go_wp2_with fail
 go_loopg [6] p (fun g' s6 wr => ∃ (k : Nat) (s24 : Bool) (A24 B24 : Option Addr) (l24 c24 m24 k24 : Nat) (s25 : Bool) (A25 B25 : Option Addr) (l25 c25 m25 k25 : Nat) (a z : Rat), g' = p - k ∧ k ≤ p ∧ s6 = .int .i64 ((k : Int) + 1) ∧ Hid (Blk wr gl 65 #[.bool s24, .slice A24 l24 c24, .slice B24 m24 k24]) ∧ Hid (Blk wr gh 65 #[.bool s25, .slice A25 l25 c25, .slice B25 m25 k25]) ∧ Hid (QZ wr (.agg #[.bool s24, .slice A24 l24 c24, .slice B24 m24 k24]) a) ∧ Hid (QZ wr (.agg #[.bool s25, .slice A25 l25 c25, .slice B25 m25 k25]) z) ∧ Hid (lowN qs k = a) ∧ Hid (highN qs k = z) ∧ Hid (Blk wr w.heap.size 31 #[.int .i64 0, .int .i64 0]) ∧ Hid (QsAt wr (some ⟨bq, oq, none⟩) (p + 1) qs) ∧ Hid (Ext w wr))
 case atStart => exact ⟨0, s21, A21, B21, l21, c21, m21, k21, s21, A21, B21, l21, c21, m21, k21, q0, q0, rfl, by omega, rfl, KL.out, KH.out, HZ.out, HZ.out, by show _ = _; simp [lowN, List.getD, HQ0.out], by show _ = _; simp [highN, List.getD, HQ0.out], KR.out, HQ.out, HX.out⟩
 case round =>
  clear KL KH KR HX HQ HZ
  obtain ⟨k, s24, A24, B24, l24, c24, m24, k24, s25, A25, B25, l25, c25, m25, k25, a, z, rfl, hk, rfl, KL, KH, HA, HZZ, HAL, HAH, KR, HQ, HX⟩ := hrel
  by_cases hlt : k < p
  ·
   obtain ⟨q, hq⟩ : ∃ q, qs[k + 1]? = some q := ⟨qs[k + 1]'(by rw [HL.out]; omega), List.getElem?_eq_getElem _⟩
   have HLN := hid (low_next hq HAL.out)
   have HHN := hid (high_next hq HAH.out)
   obtain ⟨bq', oq', s26, A26, l26, c26, B26, m26, k26, hA, x0, x1, x2, hz⟩ := HQ.out.2 (k + 1) q hq
   injection hA with hA
   injection hA with e1 e2
   subst e1 e2
   have HZ := hid hz
   have hkI : ((k + 1 : Nat) : Int) = (k : Int) + 1 := by omega
   have hfq : FitR q L := HF.out _ (List.mem_of_getElem? hq)
   have hfa : FitR a L := by rw [← HAL.out]; exact HF.out _ (lowN_mem (by rw [HL.out]; omega))
   have hfz : FitR z L := by rw [← HAH.out]; exact HF.out _ (highN_mem (by rw [HL.out]; omega))
   have HFQ := hid hfq
   have HFA := hid hfa
   have HFZ := hid hfz
   have hk0 : (0 : Int) ≤ ((k + 1 : Nat) : Int) := by omega
   have hkn : ((k + 1 : Nat) : Int) < ((p + 1 : Nat) : Int) := by omega
   obtain ⟨sa, hsa⟩ : ∃ s, sgnQ (q - a) = s := ⟨_, rfl⟩
   obtain ⟨sz, hsz⟩ : ∃ s, sgnQ (q - z) = s := ⟨_, rfl⟩
   rw [hsa] at HLN
   rw [hsz] at HHN
   have HSA := hid hsa
   have HSZ := hid hsz
   have HI := hid hkI
   have HK0 := hid hk0
   have HKN := hid hkn
   have X0 := hid x0
   have X1 := hid x1
   have X2 := hid x2
   clear hz hq hfq hfa hfz hsa hsz hk0 hkn x0 x1 x2
   rw [← HI.out]
   clear hkI
   go_upto_region 5 with (fail)
   refine around_r5 bq oq (p + 1) cq (k + 1) gl L s26 A26 B26 l26 c26 m26 k26 s24 A24 B24 l24 c24 m24 k24 q a sa wr X0.out X1.out X2.out (KL.out.cell 0) (KL.out.cell 1) (KL.out.cell 2) HZ.out HA.out HFQ.out HFA.out hL HSA.out HK0.out HKN.out _ _ (by simp) rfl rfl rfl ?_
   rintro xv0 xv1 xv2 xv3 xv4 xv5 xv6 w3 rfl rfl rfl rfl rfl rfl rfl hXW
   simp only [rops, Try.f110, regOf, Option.bind_some, Nat.reduceBEq, if_true, if_false, Bool.false_eq_true, Option.getD_some, List.drop_succ_cons, List.drop_zero]
   simp only [Act.put, List.setIfInBounds_toArray, List.set_cons_succ, List.set_cons_zero]
   replace KL := hid (KL.out.ext hXW)
   replace KH := hid (KH.out.ext hXW)
   replace KR := hid (KR.out.ext hXW)
   replace HA := hid (HA.out.ext hXW)
   replace HZZ := hid (HZZ.out.ext hXW)
   replace HZ := hid (HZ.out.ext hXW)
   replace HQ := hid (HQ.out.ext hXW)
   replace HX := hid (HX.out.trans hXW)
   replace X0 := hid (hXW.cell X0.out)
   replace X1 := hid (hXW.cell X1.out)
   replace X2 := hid (hXW.cell X2.out)
   clear hXW
   by_cases hsa : sa < 0
   ·
    rw [if_pos hsa] at HLN
    have f0 : w3.frozen? ⟨gl, 0, none⟩ = false := KL.out.free 0
    have f1 : w3.frozen? ⟨gl, 1, none⟩ = false := KL.out.free 1
    have f2 : w3.frozen? ⟨gl, 2, none⟩ = false := KL.out.free 2
    have t0 := KL.out.cell 0
    have t1 := KL.out.cell 1
    have t2 := KL.out.cell 2
    have x0 := X0.out
    have x1 := X1.out
    have x2 := X2.out
    have hk0 := HK0.out
    have hkn := HKN.out
    go_upto_region 7 with (fail)
    clear f0 f1 f2 t0 t1 t2 x0 x1 x2 hk0 hkn
    have hNI := NoInts.three KL.out
    have hXs : Ext w (((w3.setCell ⟨gl, 0, none⟩ (.bool s26)).setCell ⟨gl, 1, none⟩ (.slice A26 l26 c26)).setCell ⟨gl, 2, none⟩ (.slice B26 m26 k26)) := ((HX.out.setCell hwl _).setCell hwl _).setCell hwl _
    have kL : Blk (((w3.setCell ⟨gl, 0, none⟩ (.bool s26)).setCell ⟨gl, 1, none⟩ (.slice A26 l26 c26)).setCell ⟨gl, 2, none⟩ (.slice B26 m26 k26)) gl 65 #[.bool s26, .slice A26 l26 c26, .slice B26 m26 k26] := ((KL.out.set 0 _).set 1 _).set 2 _
    have kH : Blk (((w3.setCell ⟨gl, 0, none⟩ (.bool s26)).setCell ⟨gl, 1, none⟩ (.slice A26 l26 c26)).setCell ⟨gl, 2, none⟩ (.slice B26 m26 k26)) gh 65 #[.bool s25, .slice A25 l25 c25, .slice B25 m25 k25] := ((KH.out.far (Ne.symm hll) _).far (Ne.symm hll) _).far (Ne.symm hll) _
    have kR : Blk (((w3.setCell ⟨gl, 0, none⟩ (.bool s26)).setCell ⟨gl, 1, none⟩ (.slice A26 l26 c26)).setCell ⟨gl, 2, none⟩ (.slice B26 m26 k26)) w.heap.size 31 #[.int .i64 0, .int .i64 0] := ((KR.out.far hgr1 _).far hgr1 _).far hgr1 _
    have hA := QZ.past' HZ.out hNI (b := s26) (A := A26) (l := l26) (c := c26) (B := B26) (m := m26) (k := k26)
    have hZ := QZ.past' HZZ.out hNI (b := s26) (A := A26) (l := l26) (c := c26) (B := B26) (m := m26) (k := k26)
    have hQ : QsAt (((w3.setCell ⟨gl, 0, none⟩ (.bool s26)).setCell ⟨gl, 1, none⟩ (.slice A26 l26 c26)).setCell ⟨gl, 2, none⟩ (.slice B26 m26 k26)) (some ⟨bq, oq, none⟩) (p + 1) qs := HQ.out.past3 (x := gl) hNI (HBQ.out.1) s26 A26 B26 l26 c26 m26 k26
    have y0 : (((w3.setCell ⟨gl, 0, none⟩ (.bool s26)).setCell ⟨gl, 1, none⟩ (.slice A26 l26 c26)).setCell ⟨gl, 2, none⟩ (.slice B26 m26 k26)).cell? ⟨bq, oq + (k + 1) * 3, none⟩ = some (.bool s26) := cell_far3 X0.out HBQ.out.1
    have y1 : (((w3.setCell ⟨gl, 0, none⟩ (.bool s26)).setCell ⟨gl, 1, none⟩ (.slice A26 l26 c26)).setCell ⟨gl, 2, none⟩ (.slice B26 m26 k26)).cell? ⟨bq, oq + (k + 1) * 3 + 1, none⟩ = some (.slice A26 l26 c26) := cell_far3 X1.out HBQ.out.1
    have y2 : (((w3.setCell ⟨gl, 0, none⟩ (.bool s26)).setCell ⟨gl, 1, none⟩ (.slice A26 l26 c26)).setCell ⟨gl, 2, none⟩ (.slice B26 m26 k26)).cell? ⟨bq, oq + (k + 1) * 3 + 2, none⟩ = some (.slice B26 m26 k26) := cell_far3 X2.out HBQ.out.1
    generalize (((w3.setCell ⟨gl, 0, none⟩ (.bool s26)).setCell ⟨gl, 1, none⟩ (.slice A26 l26 c26)).setCell ⟨gl, 2, none⟩ (.slice B26 m26 k26)) = w4 at hXs kL kH kR hA hZ hQ y0 y1 y2 ⊢
    clear HX KL KH KR HA HZZ HQ HZ X0 X1 X2 hNI
    have HX := hid hXs
    have KL := hid kL
    have KH := hid kH
    have KR := hid kR
    have HA := hid hA
    have HZ := hid hA
    have HZZ := hid hZ
    have HQ := hid hQ
    have X0 := hid y0
    have X1 := hid y1
    have X2 := hid y2
    clear hXs kL kH kR hA hZ hQ y0 y1 y2
    go_upto_region 7 with (fail)
    refine around_r7 bq oq (p + 1) cq (k + 1) gh L s26 A26 B26 l26 c26 m26 k26 s25 A25 B25 l25 c25 m25 k25 q z sz w4 X0.out X1.out X2.out (KH.out.cell 0) (KH.out.cell 1) (KH.out.cell 2) HZ.out HZZ.out HFQ.out HFZ.out hL HSZ.out HK0.out HKN.out _ _ (by simp) rfl rfl rfl ?_
    rintro xv0 xv1 xv2 xv3 xv4 xv5 xv6 w5 rfl rfl rfl rfl rfl rfl rfl hXW
    simp only [rops, Try.f110, regOf, Option.bind_some, Nat.reduceBEq, if_true, if_false, Bool.false_eq_true, Option.getD_some, List.drop_succ_cons, List.drop_zero]
    simp only [Act.put, List.setIfInBounds_toArray, List.set_cons_succ, List.set_cons_zero]
    replace KL := hid (KL.out.ext hXW)
    replace KH := hid (KH.out.ext hXW)
    replace KR := hid (KR.out.ext hXW)
    replace HA := hid (HA.out.ext hXW)
    replace HZZ := hid (HZZ.out.ext hXW)
    replace HZ := hid (HZ.out.ext hXW)
    replace HQ := hid (HQ.out.ext hXW)
    replace HX := hid (HX.out.trans hXW)
    replace X0 := hid (hXW.cell X0.out)
    replace X1 := hid (hXW.cell X1.out)
    replace X2 := hid (hXW.cell X2.out)
    clear hXW
    by_cases hsz : 0 < sz
    ·
     rw [if_pos hsz] at HHN
     have f0 : w5.frozen? ⟨gh, 0, none⟩ = false := KH.out.free 0
     have f1 : w5.frozen? ⟨gh, 1, none⟩ = false := KH.out.free 1
     have f2 : w5.frozen? ⟨gh, 2, none⟩ = false := KH.out.free 2
     have t0 := KH.out.cell 0
     have t1 := KH.out.cell 1
     have t2 := KH.out.cell 2
     have x0 := X0.out
     have x1 := X1.out
     have x2 := X2.out
     have hk0 := HK0.out
     have hkn := HKN.out
     have hNI := hid (NoInts.three KH.out)
     have HXs : Hid (Ext w (((w5.setCell ⟨gh, 0, none⟩ (.bool s26)).setCell ⟨gh, 1, none⟩ (.slice A26 l26 c26)).setCell ⟨gh, 2, none⟩ (.slice B26 m26 k26))) := ((HX.out.setCell hwh _).setCell hwh _).setCell hwh _
     have kH : Hid (Blk (((w5.setCell ⟨gh, 0, none⟩ (.bool s26)).setCell ⟨gh, 1, none⟩ (.slice A26 l26 c26)).setCell ⟨gh, 2, none⟩ (.slice B26 m26 k26)) gh 65 #[.bool s26, .slice A26 l26 c26, .slice B26 m26 k26]) := ((KH.out.set 0 _).set 1 _).set 2 _
     have kL : Hid (Blk (((w5.setCell ⟨gh, 0, none⟩ (.bool s26)).setCell ⟨gh, 1, none⟩ (.slice A26 l26 c26)).setCell ⟨gh, 2, none⟩ (.slice B26 m26 k26)) gl 65 #[.bool s26, .slice A26 l26 c26, .slice B26 m26 k26]) := ((KL.out.far hll _).far hll _).far hll _
     have kR : Hid (Blk (((w5.setCell ⟨gh, 0, none⟩ (.bool s26)).setCell ⟨gh, 1, none⟩ (.slice A26 l26 c26)).setCell ⟨gh, 2, none⟩ (.slice B26 m26 k26)) w.heap.size 31 #[.int .i64 0, .int .i64 0]) := ((KR.out.far hgr2 _).far hgr2 _).far hgr2 _
     have hQ : Hid (QsAt (((w5.setCell ⟨gh, 0, none⟩ (.bool s26)).setCell ⟨gh, 1, none⟩ (.slice A26 l26 c26)).setCell ⟨gh, 2, none⟩ (.slice B26 m26 k26)) (some ⟨bq, oq, none⟩) (p + 1) qs) := HQ.out.past3 (x := gh) hNI.out (HBQ.out.2) s26 A26 B26 l26 c26 m26 k26
     go_wp2
     go_roundg (p - (k + 1))
     case rel => exact ⟨k + 1, s26, A26, B26, l26, c26, m26, k26, s26, A26, B26, l26, c26, m26, k26, q, q, rfl, by omega, by go_num, kL.out, kH.out, QZ.past' HZ.out hNI.out, QZ.past' HZ.out hNI.out, HLN.out, HHN.out, kR.out, hQ.out, HXs.out⟩
     case measure => omega

    ·
     rw [if_neg hsz] at HHN
     go_wp2
     go_roundg (p - (k + 1))
     case rel => exact ⟨k + 1, s26, A26, B26, l26, c26, m26, k26, s25, A25, B25, l25, c25, m25, k25, q, z, rfl, by omega, by go_num, KL.out, KH.out, HA.out, HZZ.out, HLN.out, HHN.out, KR.out, HQ.out, HX.out⟩
     case measure => omega

   ·
    rw [if_neg hsa] at HLN
    go_upto_region 7 with (fail)
    refine around_r7 bq oq (p + 1) cq (k + 1) gh L s26 A26 B26 l26 c26 m26 k26 s25 A25 B25 l25 c25 m25 k25 q z sz w3 X0.out X1.out X2.out (KH.out.cell 0) (KH.out.cell 1) (KH.out.cell 2) HZ.out HZZ.out HFQ.out HFZ.out hL HSZ.out HK0.out HKN.out _ _ (by simp) rfl rfl rfl ?_
    rintro xv0 xv1 xv2 xv3 xv4 xv5 xv6 w5 rfl rfl rfl rfl rfl rfl rfl hXW
    simp only [rops, Try.f110, regOf, Option.bind_some, Nat.reduceBEq, if_true, if_false, Bool.false_eq_true, Option.getD_some, List.drop_succ_cons, List.drop_zero]
    simp only [Act.put, List.setIfInBounds_toArray, List.set_cons_succ, List.set_cons_zero]
    replace KL := hid (KL.out.ext hXW)
    replace KH := hid (KH.out.ext hXW)
    replace KR := hid (KR.out.ext hXW)
    replace HA := hid (HA.out.ext hXW)
    replace HZZ := hid (HZZ.out.ext hXW)
    replace HZ := hid (HZ.out.ext hXW)
    replace HQ := hid (HQ.out.ext hXW)
    replace HX := hid (HX.out.trans hXW)
    replace X0 := hid (hXW.cell X0.out)
    replace X1 := hid (hXW.cell X1.out)
    replace X2 := hid (hXW.cell X2.out)
    clear hXW
    by_cases hsz : 0 < sz
    ·
     rw [if_pos hsz] at HHN
     have f0 : w5.frozen? ⟨gh, 0, none⟩ = false := KH.out.free 0
     have f1 : w5.frozen? ⟨gh, 1, none⟩ = false := KH.out.free 1
     have f2 : w5.frozen? ⟨gh, 2, none⟩ = false := KH.out.free 2
     have t0 := KH.out.cell 0
     have t1 := KH.out.cell 1
     have t2 := KH.out.cell 2
     have x0 := X0.out
     have x1 := X1.out
     have x2 := X2.out
     have hk0 := HK0.out
     have hkn := HKN.out
     have hNI := hid (NoInts.three KH.out)
     have HXs : Hid (Ext w (((w5.setCell ⟨gh, 0, none⟩ (.bool s26)).setCell ⟨gh, 1, none⟩ (.slice A26 l26 c26)).setCell ⟨gh, 2, none⟩ (.slice B26 m26 k26))) := ((HX.out.setCell hwh _).setCell hwh _).setCell hwh _
     have kH : Hid (Blk (((w5.setCell ⟨gh, 0, none⟩ (.bool s26)).setCell ⟨gh, 1, none⟩ (.slice A26 l26 c26)).setCell ⟨gh, 2, none⟩ (.slice B26 m26 k26)) gh 65 #[.bool s26, .slice A26 l26 c26, .slice B26 m26 k26]) := ((KH.out.set 0 _).set 1 _).set 2 _
     have kL : Hid (Blk (((w5.setCell ⟨gh, 0, none⟩ (.bool s26)).setCell ⟨gh, 1, none⟩ (.slice A26 l26 c26)).setCell ⟨gh, 2, none⟩ (.slice B26 m26 k26)) gl 65 #[.bool s24, .slice A24 l24 c24, .slice B24 m24 k24]) := ((KL.out.far hll _).far hll _).far hll _
     have kR : Hid (Blk (((w5.setCell ⟨gh, 0, none⟩ (.bool s26)).setCell ⟨gh, 1, none⟩ (.slice A26 l26 c26)).setCell ⟨gh, 2, none⟩ (.slice B26 m26 k26)) w.heap.size 31 #[.int .i64 0, .int .i64 0]) := ((KR.out.far hgr2 _).far hgr2 _).far hgr2 _
     have hQ : Hid (QsAt (((w5.setCell ⟨gh, 0, none⟩ (.bool s26)).setCell ⟨gh, 1, none⟩ (.slice A26 l26 c26)).setCell ⟨gh, 2, none⟩ (.slice B26 m26 k26)) (some ⟨bq, oq, none⟩) (p + 1) qs) := HQ.out.past3 (x := gh) hNI.out (HBQ.out.2) s26 A26 B26 l26 c26 m26 k26
     go_wp2
     go_roundg (p - (k + 1))
     case rel => exact ⟨k + 1, s24, A24, B24, l24, c24, m24, k24, s26, A26, B26, l26, c26, m26, k26, a, q, rfl, by omega, by go_num, kL.out, kH.out, QZ.past' HA.out hNI.out, QZ.past' HZ.out hNI.out, HLN.out, HHN.out, kR.out, hQ.out, HXs.out⟩
     case measure => omega

    ·
     rw [if_neg hsz] at HHN
     go_wp2
     go_roundg (p - (k + 1))
     case rel => exact ⟨k + 1, s24, A24, B24, l24, c24, m24, k24, s25, A25, B25, l25, c25, m25, k25, a, z, rfl, by omega, by go_num, KL.out, KH.out, HA.out, HZZ.out, HLN.out, HHN.out, KR.out, HQ.out, HX.out⟩
     case measure => omega
  ·
   obtain rfl : p = k := by omega
   have ea : a = lo := by rw [← HAL.out, HLW.out]
   have ez : z = hi := by rw [← HAH.out, HHW.out]
   subst ea ez
   have HFA : Hid (FitR a L) := by have h := HF.out _ (lowN_mem (qs := qs) (k := p) (by rw [HL.out]; omega)); rw [HAL.out] at h; exact h
   have HFZ : Hid (FitR z L) := by have h := HF.out _ (highN_mem (qs := qs) (k := p) (by rw [HL.out]; omega)); rw [HAH.out] at h; exact h
   clear HAL HAH HQ hlt
   have cL0 : wr.cell? ⟨gl, 0, none⟩ = some (.bool s24) := KL.out.cell 0
   have cL1 : wr.cell? ⟨gl, 1, none⟩ = some (.slice A24 l24 c24) := KL.out.cell 1
   have cL2 : wr.cell? ⟨gl, 2, none⟩ = some (.slice B24 m24 k24) := KL.out.cell 2
   go_wp2_with fail
   clear cL0 cL1 cL2
   refine (qfloor_any _ a L _ HA.out HFA.out (by omega)).mono ?_
   rw [HZL.out]
   rintro e w11 ⟨v30, rfl, hv, hX⟩
   replace hX : Ext wr w11 := by with_reducible exact hX
   replace HX := hid (HX.out.trans hX)
   replace HA := hid (HA.out.ext hX)
   replace HZZ := hid (HZZ.out.ext hX)
   replace KR := hid (KR.out.ext hX)
   replace KL := hid (KL.out.ext hX)
   replace KH := hid (KH.out.ext hX)
   clear hX
   have HV := hid hv
   clear hv
   go_wp2_with fail
   refine (rend_any HV.out).mono ?_
   rw [HNL.out, HLO.out]
   rintro e w12 ⟨rfl, hX⟩
   replace hX : Ext w11 w12 := by with_reducible exact hX
   replace HX := hid (HX.out.trans hX)
   replace HA := hid (HA.out.ext hX)
   replace HZZ := hid (HZZ.out.ext hX)
   replace HV := hid (HV.out.ext hX)
   replace KR := hid (KR.out.ext hX)
   replace KL := hid (KL.out.ext hX)
   replace KH := hid (KH.out.ext hX)
   clear hX
   clear HV
   have cH0 : w12.cell? ⟨gh, 0, none⟩ = some (.bool s25) := KH.out.cell 0
   have cH1 : w12.cell? ⟨gh, 1, none⟩ = some (.slice A25 l25 c25) := KH.out.cell 1
   have cH2 : w12.cell? ⟨gh, 2, none⟩ = some (.slice B25 m25 k25) := KH.out.cell 2
   go_wp2_with fail
   clear cH0 cH1 cH2
   refine (qceil_any _ z L _ HZZ.out HFZ.out (by omega)).mono ?_
   rw [HZH.out]
   rintro e w13 ⟨v31, rfl, hv, hX⟩
   replace hX : Ext w12 w13 := by with_reducible exact hX
   replace HX := hid (HX.out.trans hX)
   replace HA := hid (HA.out.ext hX)
   replace HZZ := hid (HZZ.out.ext hX)
   replace KR := hid (KR.out.ext hX)
   replace KL := hid (KL.out.ext hX)
   replace KH := hid (KH.out.ext hX)
   clear hX
   have HV := hid hv
   clear hv
   go_wp2_with fail
   refine (rend_any HV.out).mono ?_
   rw [HNH.out, HHI.out]
   rintro e w14 ⟨rfl, hX⟩
   replace hX : Ext w13 w14 := by with_reducible exact hX
   replace HX := hid (HX.out.trans hX)
   replace HA := hid (HA.out.ext hX)
   replace HZZ := hid (HZZ.out.ext hX)
   replace HV := hid (HV.out.ext hX)
   replace KR := hid (KR.out.ext hX)
   replace KL := hid (KL.out.ext hX)
   replace KH := hid (KH.out.ext hX)
   clear hX
   have cR0 : w14.cell? ⟨w.heap.size, 0, none⟩ = some (.int .i64 0) := KR.out.cell 0
   have fR0 : w14.frozen? ⟨w.heap.size, 0, none⟩ = false := KR.out.free 0
   have cR1 : w14.cell? ⟨w.heap.size, 1, none⟩ = some (.int .i64 0) := KR.out.cell 1
   have fR1 : w14.frozen? ⟨w.heap.size, 1, none⟩ = false := KR.out.free 1
   go_wp2
   refine bodyPost_ret (v := .tuple #[.agg #[.int .i64 nl, .int .i64 nh], .int .i64 0]) (by simp [results, Try.results110, go_sem, *]) rfl ?_
   exact ⟨by rw [HVL.out, HVH.out], HX.out.two (Nat.le_refl _) _ _⟩
set_option maxRecDepth 100000 in
set_option maxHeartbeats 2000000 in
theorem around_lo (A : Option Addr) (p cq L : Nat) (qs : List Rat) (w : World) (hq : QsAt w A (p + 1) qs) (_hp : p ≤ 1000) (hf : ∀ q ∈ qs, FitR q L) (hL : L + L + 1 ≤ 400000) (hlo : endE (lowN qs p).floor = 3) :
  Calls Try.prog 110 #[.slice A (p + 1) cq] w (RetE w (.agg #[.int .i64 0, .int .i64 0]) 3) := by
 have HQ := hid hq
 have HF := hid hf
 clear hq hf
 have HL : Hid (qs.length = p + 1) := HQ.out.1
 obtain ⟨q0, hq0⟩ : ∃ q, qs[0]? = some q := ⟨qs[0]'(by rw [HL.out]; omega), List.getElem?_eq_getElem _⟩
 obtain ⟨bq, oq, s21, A21, l21, c21, B21, m21, k21, rfl, x0, x1, x2, hz⟩ := HQ.out.2 0 q0 hq0
 simp only [Nat.zero_mul, Nat.add_zero] at x0 x1 x2
 have HZ := hid hz
 have HQ0 := hid hq0
 have hn1 : (0 : Int) < ((p + 1 : Nat) : Int) := by omega
 clear hz hq0
 obtain ⟨lo, hlw⟩ : ∃ q, lowN qs p = q := ⟨_, rfl⟩
 obtain ⟨hi, hhw⟩ : ∃ q, highN qs p = q := ⟨_, rfl⟩
 have HLW := hid hlw
 have HHW := hid hhw
 rw [hlw] at hlo
 obtain ⟨zl, hzl⟩ : ∃ z, lo.floor = z := ⟨_, rfl⟩
 obtain ⟨zh, hzh⟩ : ∃ z, -(-hi).floor = z := ⟨_, rfl⟩
 have HZL := hid hzl
 have HZH := hid hzh
 rw [hzl] at hlo
 obtain ⟨nl, hnl⟩ : ∃ z, endV zl = z := ⟨_, rfl⟩
 obtain ⟨nh, hnh⟩ : ∃ z, endV zh = z := ⟨_, rfl⟩
 obtain ⟨eh, heh⟩ : ∃ z, endE zh = z := ⟨_, rfl⟩
 have HNL := hid hnl
 have HNH := hid hnh
 have HEH := hid heh
 have HLO := hid hlo
 clear hlw hhw hzl hzh hnl hnh heh hlo
 have hXe : Ext w (w.alloc (.cells #[.int .i64 0, .int .i64 0] 31)) := ((Ext.refl w).alloc _)
 have kR : Blk (w.alloc (.cells #[.int .i64 0, .int .i64 0] 31)) w.heap.size 31 #[.int .i64 0, .int .i64 0] := Blk.at_ (by simp)
 have y0 := hXe.cell x0
 have y1 := hXe.cell x1
 have y2 := hXe.cell x2
 go_enter Try.func110, Try.ntmps110
 go_wp2_with fail
 generalize (w.alloc (.cells #[.int .i64 0, .int .i64 0] 31)) = w1 at hXe y0 y1 y2 kR ⊢
 have HX := hid hXe
 clear hXe
 have KR := hid kR
 clear kR
 replace HZ := hid (HZ.out.ext HX.out)
 replace HQ := hid (HQ.out.ext HX.out)
 go_upto_region 1 with (fail)
 refine around_r1 bq oq (p + 1) cq s21 A21 B21 l21 c21 m21 k21 w1 y0 y1 y2 (by omega) hn1 _ _ (by simp) rfl ?_
 rintro xv0 xv1 xv2 xv3 xv4 xv5 xv6 xv7 xv8 xv9 w2 rfl rfl rfl rfl rfl rfl ⟨gl, rfl, hgl, hBl⟩ ⟨gh, rfl, hgh, hBh⟩ hne hXW
 simp only [rops, Try.f110, regOf, Option.bind_some, Nat.reduceBEq, if_true, if_false, Bool.false_eq_true, Option.getD_some, List.drop_succ_cons, List.drop_zero]
 simp only [Act.put, List.setIfInBounds_toArray, List.set_cons_succ, List.set_cons_zero]
 have HBQ : Hid (bq ≠ gl ∧ bq ≠ gh) := by
  have hb : bq < w.heap.size := World.block_lt_of_cell? w _ x0
  have hz1 := HX.out.size
  exact ⟨by omega, by omega⟩
 have hll : gl ≠ gh := by
  rintro rfl
  exact hne rfl
 have zr := KR.out.lt
 have hgr : w.heap.size ≠ gl ∧ w.heap.size ≠ gh := by omega
 obtain ⟨hgr1, hgr2⟩ := hgr
 have hwl : w.heap.size ≤ gl := by omega
 have hwh : w.heap.size ≤ gh := by omega
 clear y0 y1 y2 x0 x1 x2 hne hgl hgh
 replace HX := hid (HX.out.trans hXW)
 replace HZ := hid (HZ.out.ext hXW)
 replace HQ := hid (HQ.out.ext hXW)
 replace KR := hid (KR.out.ext hXW)
 clear hXW
 have KL := hid hBl
 have KH := hid hBh
 clear hBl hBh
 go_wp2_with fail
 go_loopg [6] p (fun g' s6 wr => ∃ (k : Nat) (s24 : Bool) (A24 B24 : Option Addr) (l24 c24 m24 k24 : Nat) (s25 : Bool) (A25 B25 : Option Addr) (l25 c25 m25 k25 : Nat) (a z : Rat), g' = p - k ∧ k ≤ p ∧ s6 = .int .i64 ((k : Int) + 1) ∧ Hid (Blk wr gl 65 #[.bool s24, .slice A24 l24 c24, .slice B24 m24 k24]) ∧ Hid (Blk wr gh 65 #[.bool s25, .slice A25 l25 c25, .slice B25 m25 k25]) ∧ Hid (QZ wr (.agg #[.bool s24, .slice A24 l24 c24, .slice B24 m24 k24]) a) ∧ Hid (QZ wr (.agg #[.bool s25, .slice A25 l25 c25, .slice B25 m25 k25]) z) ∧ Hid (lowN qs k = a) ∧ Hid (highN qs k = z) ∧ Hid (Blk wr w.heap.size 31 #[.int .i64 0, .int .i64 0]) ∧ Hid (QsAt wr (some ⟨bq, oq, none⟩) (p + 1) qs) ∧ Hid (Ext w wr))
 case atStart => exact ⟨0, s21, A21, B21, l21, c21, m21, k21, s21, A21, B21, l21, c21, m21, k21, q0, q0, rfl, by omega, rfl, KL.out, KH.out, HZ.out, HZ.out, by show _ = _; simp [lowN, List.getD, HQ0.out], by show _ = _; simp [highN, List.getD, HQ0.out], KR.out, HQ.out, HX.out⟩
 case round =>
  clear KL KH KR HX HQ HZ
  obtain ⟨k, s24, A24, B24, l24, c24, m24, k24, s25, A25, B25, l25, c25, m25, k25, a, z, rfl, hk, rfl, KL, KH, HA, HZZ, HAL, HAH, KR, HQ, HX⟩ := hrel
  by_cases hlt : k < p
  ·
   obtain ⟨q, hq⟩ : ∃ q, qs[k + 1]? = some q := ⟨qs[k + 1]'(by rw [HL.out]; omega), List.getElem?_eq_getElem _⟩
   have HLN := hid (low_next hq HAL.out)
   have HHN := hid (high_next hq HAH.out)
   obtain ⟨bq', oq', s26, A26, l26, c26, B26, m26, k26, hA, x0, x1, x2, hz⟩ := HQ.out.2 (k + 1) q hq
   injection hA with hA
   injection hA with e1 e2
   subst e1 e2
   have HZ := hid hz
   have hkI : ((k + 1 : Nat) : Int) = (k : Int) + 1 := by omega
   have hfq : FitR q L := HF.out _ (List.mem_of_getElem? hq)
   have hfa : FitR a L := by rw [← HAL.out]; exact HF.out _ (lowN_mem (by rw [HL.out]; omega))
   have hfz : FitR z L := by rw [← HAH.out]; exact HF.out _ (highN_mem (by rw [HL.out]; omega))
   have HFQ := hid hfq
   have HFA := hid hfa
   have HFZ := hid hfz
   have hk0 : (0 : Int) ≤ ((k + 1 : Nat) : Int) := by omega
   have hkn : ((k + 1 : Nat) : Int) < ((p + 1 : Nat) : Int) := by omega
   obtain ⟨sa, hsa⟩ : ∃ s, sgnQ (q - a) = s := ⟨_, rfl⟩
   obtain ⟨sz, hsz⟩ : ∃ s, sgnQ (q - z) = s := ⟨_, rfl⟩
   rw [hsa] at HLN
   rw [hsz] at HHN
   have HSA := hid hsa
   have HSZ := hid hsz
   have HI := hid hkI
   have HK0 := hid hk0
   have HKN := hid hkn
   have X0 := hid x0
   have X1 := hid x1
   have X2 := hid x2
   clear hz hq hfq hfa hfz hsa hsz hk0 hkn x0 x1 x2
   rw [← HI.out]
   clear hkI
   go_upto_region 5 with (fail)
   refine around_r5 bq oq (p + 1) cq (k + 1) gl L s26 A26 B26 l26 c26 m26 k26 s24 A24 B24 l24 c24 m24 k24 q a sa wr X0.out X1.out X2.out (KL.out.cell 0) (KL.out.cell 1) (KL.out.cell 2) HZ.out HA.out HFQ.out HFA.out hL HSA.out HK0.out HKN.out _ _ (by simp) rfl rfl rfl ?_
   rintro xv0 xv1 xv2 xv3 xv4 xv5 xv6 w3 rfl rfl rfl rfl rfl rfl rfl hXW
   simp only [rops, Try.f110, regOf, Option.bind_some, Nat.reduceBEq, if_true, if_false, Bool.false_eq_true, Option.getD_some, List.drop_succ_cons, List.drop_zero]
   simp only [Act.put, List.setIfInBounds_toArray, List.set_cons_succ, List.set_cons_zero]
   replace KL := hid (KL.out.ext hXW)
   replace KH := hid (KH.out.ext hXW)
   replace KR := hid (KR.out.ext hXW)
   replace HA := hid (HA.out.ext hXW)
   replace HZZ := hid (HZZ.out.ext hXW)
   replace HZ := hid (HZ.out.ext hXW)
   replace HQ := hid (HQ.out.ext hXW)
   replace HX := hid (HX.out.trans hXW)
   replace X0 := hid (hXW.cell X0.out)
   replace X1 := hid (hXW.cell X1.out)
   replace X2 := hid (hXW.cell X2.out)
   clear hXW
   by_cases hsa : sa < 0
   ·
    rw [if_pos hsa] at HLN
    have f0 : w3.frozen? ⟨gl, 0, none⟩ = false := KL.out.free 0
    have f1 : w3.frozen? ⟨gl, 1, none⟩ = false := KL.out.free 1
    have f2 : w3.frozen? ⟨gl, 2, none⟩ = false := KL.out.free 2
    have t0 := KL.out.cell 0
    have t1 := KL.out.cell 1
    have t2 := KL.out.cell 2
    have x0 := X0.out
    have x1 := X1.out
    have x2 := X2.out
    have hk0 := HK0.out
    have hkn := HKN.out
    go_upto_region 7 with (fail)
    clear f0 f1 f2 t0 t1 t2 x0 x1 x2 hk0 hkn
    have hNI := NoInts.three KL.out
    have hXs : Ext w (((w3.setCell ⟨gl, 0, none⟩ (.bool s26)).setCell ⟨gl, 1, none⟩ (.slice A26 l26 c26)).setCell ⟨gl, 2, none⟩ (.slice B26 m26 k26)) := ((HX.out.setCell hwl _).setCell hwl _).setCell hwl _
    have kL : Blk (((w3.setCell ⟨gl, 0, none⟩ (.bool s26)).setCell ⟨gl, 1, none⟩ (.slice A26 l26 c26)).setCell ⟨gl, 2, none⟩ (.slice B26 m26 k26)) gl 65 #[.bool s26, .slice A26 l26 c26, .slice B26 m26 k26] := ((KL.out.set 0 _).set 1 _).set 2 _
    have kH : Blk (((w3.setCell ⟨gl, 0, none⟩ (.bool s26)).setCell ⟨gl, 1, none⟩ (.slice A26 l26 c26)).setCell ⟨gl, 2, none⟩ (.slice B26 m26 k26)) gh 65 #[.bool s25, .slice A25 l25 c25, .slice B25 m25 k25] := ((KH.out.far (Ne.symm hll) _).far (Ne.symm hll) _).far (Ne.symm hll) _
    have kR : Blk (((w3.setCell ⟨gl, 0, none⟩ (.bool s26)).setCell ⟨gl, 1, none⟩ (.slice A26 l26 c26)).setCell ⟨gl, 2, none⟩ (.slice B26 m26 k26)) w.heap.size 31 #[.int .i64 0, .int .i64 0] := ((KR.out.far hgr1 _).far hgr1 _).far hgr1 _
    have hA := QZ.past' HZ.out hNI (b := s26) (A := A26) (l := l26) (c := c26) (B := B26) (m := m26) (k := k26)
    have hZ := QZ.past' HZZ.out hNI (b := s26) (A := A26) (l := l26) (c := c26) (B := B26) (m := m26) (k := k26)
    have hQ : QsAt (((w3.setCell ⟨gl, 0, none⟩ (.bool s26)).setCell ⟨gl, 1, none⟩ (.slice A26 l26 c26)).setCell ⟨gl, 2, none⟩ (.slice B26 m26 k26)) (some ⟨bq, oq, none⟩) (p + 1) qs := HQ.out.past3 (x := gl) hNI (HBQ.out.1) s26 A26 B26 l26 c26 m26 k26
    have y0 : (((w3.setCell ⟨gl, 0, none⟩ (.bool s26)).setCell ⟨gl, 1, none⟩ (.slice A26 l26 c26)).setCell ⟨gl, 2, none⟩ (.slice B26 m26 k26)).cell? ⟨bq, oq + (k + 1) * 3, none⟩ = some (.bool s26) := cell_far3 X0.out HBQ.out.1
    have y1 : (((w3.setCell ⟨gl, 0, none⟩ (.bool s26)).setCell ⟨gl, 1, none⟩ (.slice A26 l26 c26)).setCell ⟨gl, 2, none⟩ (.slice B26 m26 k26)).cell? ⟨bq, oq + (k + 1) * 3 + 1, none⟩ = some (.slice A26 l26 c26) := cell_far3 X1.out HBQ.out.1
    have y2 : (((w3.setCell ⟨gl, 0, none⟩ (.bool s26)).setCell ⟨gl, 1, none⟩ (.slice A26 l26 c26)).setCell ⟨gl, 2, none⟩ (.slice B26 m26 k26)).cell? ⟨bq, oq + (k + 1) * 3 + 2, none⟩ = some (.slice B26 m26 k26) := cell_far3 X2.out HBQ.out.1
    generalize (((w3.setCell ⟨gl, 0, none⟩ (.bool s26)).setCell ⟨gl, 1, none⟩ (.slice A26 l26 c26)).setCell ⟨gl, 2, none⟩ (.slice B26 m26 k26)) = w4 at hXs kL kH kR hA hZ hQ y0 y1 y2 ⊢
    clear HX KL KH KR HA HZZ HQ HZ X0 X1 X2 hNI
    have HX := hid hXs
    have KL := hid kL
    have KH := hid kH
    have KR := hid kR
    have HA := hid hA
    have HZ := hid hA
    have HZZ := hid hZ
    have HQ := hid hQ
    have X0 := hid y0
    have X1 := hid y1
    have X2 := hid y2
    clear hXs kL kH kR hA hZ hQ y0 y1 y2
    go_upto_region 7 with (fail)
    refine around_r7 bq oq (p + 1) cq (k + 1) gh L s26 A26 B26 l26 c26 m26 k26 s25 A25 B25 l25 c25 m25 k25 q z sz w4 X0.out X1.out X2.out (KH.out.cell 0) (KH.out.cell 1) (KH.out.cell 2) HZ.out HZZ.out HFQ.out HFZ.out hL HSZ.out HK0.out HKN.out _ _ (by simp) rfl rfl rfl ?_
    rintro xv0 xv1 xv2 xv3 xv4 xv5 xv6 w5 rfl rfl rfl rfl rfl rfl rfl hXW
    simp only [rops, Try.f110, regOf, Option.bind_some, Nat.reduceBEq, if_true, if_false, Bool.false_eq_true, Option.getD_some, List.drop_succ_cons, List.drop_zero]
    simp only [Act.put, List.setIfInBounds_toArray, List.set_cons_succ, List.set_cons_zero]
    replace KL := hid (KL.out.ext hXW)
    replace KH := hid (KH.out.ext hXW)
    replace KR := hid (KR.out.ext hXW)
    replace HA := hid (HA.out.ext hXW)
    replace HZZ := hid (HZZ.out.ext hXW)
    replace HZ := hid (HZ.out.ext hXW)
    replace HQ := hid (HQ.out.ext hXW)
    replace HX := hid (HX.out.trans hXW)
    replace X0 := hid (hXW.cell X0.out)
    replace X1 := hid (hXW.cell X1.out)
    replace X2 := hid (hXW.cell X2.out)
    clear hXW
    by_cases hsz : 0 < sz
    ·
     rw [if_pos hsz] at HHN
     have f0 : w5.frozen? ⟨gh, 0, none⟩ = false := KH.out.free 0
     have f1 : w5.frozen? ⟨gh, 1, none⟩ = false := KH.out.free 1
     have f2 : w5.frozen? ⟨gh, 2, none⟩ = false := KH.out.free 2
     have t0 := KH.out.cell 0
     have t1 := KH.out.cell 1
     have t2 := KH.out.cell 2
     have x0 := X0.out
     have x1 := X1.out
     have x2 := X2.out
     have hk0 := HK0.out
     have hkn := HKN.out
     have hNI := hid (NoInts.three KH.out)
     have HXs : Hid (Ext w (((w5.setCell ⟨gh, 0, none⟩ (.bool s26)).setCell ⟨gh, 1, none⟩ (.slice A26 l26 c26)).setCell ⟨gh, 2, none⟩ (.slice B26 m26 k26))) := ((HX.out.setCell hwh _).setCell hwh _).setCell hwh _
     have kH : Hid (Blk (((w5.setCell ⟨gh, 0, none⟩ (.bool s26)).setCell ⟨gh, 1, none⟩ (.slice A26 l26 c26)).setCell ⟨gh, 2, none⟩ (.slice B26 m26 k26)) gh 65 #[.bool s26, .slice A26 l26 c26, .slice B26 m26 k26]) := ((KH.out.set 0 _).set 1 _).set 2 _
     have kL : Hid (Blk (((w5.setCell ⟨gh, 0, none⟩ (.bool s26)).setCell ⟨gh, 1, none⟩ (.slice A26 l26 c26)).setCell ⟨gh, 2, none⟩ (.slice B26 m26 k26)) gl 65 #[.bool s26, .slice A26 l26 c26, .slice B26 m26 k26]) := ((KL.out.far hll _).far hll _).far hll _
     have kR : Hid (Blk (((w5.setCell ⟨gh, 0, none⟩ (.bool s26)).setCell ⟨gh, 1, none⟩ (.slice A26 l26 c26)).setCell ⟨gh, 2, none⟩ (.slice B26 m26 k26)) w.heap.size 31 #[.int .i64 0, .int .i64 0]) := ((KR.out.far hgr2 _).far hgr2 _).far hgr2 _
     have hQ : Hid (QsAt (((w5.setCell ⟨gh, 0, none⟩ (.bool s26)).setCell ⟨gh, 1, none⟩ (.slice A26 l26 c26)).setCell ⟨gh, 2, none⟩ (.slice B26 m26 k26)) (some ⟨bq, oq, none⟩) (p + 1) qs) := HQ.out.past3 (x := gh) hNI.out (HBQ.out.2) s26 A26 B26 l26 c26 m26 k26
     go_wp2
     go_roundg (p - (k + 1))
     case rel => exact ⟨k + 1, s26, A26, B26, l26, c26, m26, k26, s26, A26, B26, l26, c26, m26, k26, q, q, rfl, by omega, by go_num, kL.out, kH.out, QZ.past' HZ.out hNI.out, QZ.past' HZ.out hNI.out, HLN.out, HHN.out, kR.out, hQ.out, HXs.out⟩
     case measure => omega

    ·
     rw [if_neg hsz] at HHN
     go_wp2
     go_roundg (p - (k + 1))
     case rel => exact ⟨k + 1, s26, A26, B26, l26, c26, m26, k26, s25, A25, B25, l25, c25, m25, k25, q, z, rfl, by omega, by go_num, KL.out, KH.out, HA.out, HZZ.out, HLN.out, HHN.out, KR.out, HQ.out, HX.out⟩
     case measure => omega

   ·
    rw [if_neg hsa] at HLN
    go_upto_region 7 with (fail)
    refine around_r7 bq oq (p + 1) cq (k + 1) gh L s26 A26 B26 l26 c26 m26 k26 s25 A25 B25 l25 c25 m25 k25 q z sz w3 X0.out X1.out X2.out (KH.out.cell 0) (KH.out.cell 1) (KH.out.cell 2) HZ.out HZZ.out HFQ.out HFZ.out hL HSZ.out HK0.out HKN.out _ _ (by simp) rfl rfl rfl ?_
    rintro xv0 xv1 xv2 xv3 xv4 xv5 xv6 w5 rfl rfl rfl rfl rfl rfl rfl hXW
    simp only [rops, Try.f110, regOf, Option.bind_some, Nat.reduceBEq, if_true, if_false, Bool.false_eq_true, Option.getD_some, List.drop_succ_cons, List.drop_zero]
    simp only [Act.put, List.setIfInBounds_toArray, List.set_cons_succ, List.set_cons_zero]
    replace KL := hid (KL.out.ext hXW)
    replace KH := hid (KH.out.ext hXW)
    replace KR := hid (KR.out.ext hXW)
    replace HA := hid (HA.out.ext hXW)
    replace HZZ := hid (HZZ.out.ext hXW)
    replace HZ := hid (HZ.out.ext hXW)
    replace HQ := hid (HQ.out.ext hXW)
    replace HX := hid (HX.out.trans hXW)
    replace X0 := hid (hXW.cell X0.out)
    replace X1 := hid (hXW.cell X1.out)
    replace X2 := hid (hXW.cell X2.out)
    clear hXW
    by_cases hsz : 0 < sz
    ·
     rw [if_pos hsz] at HHN
     have f0 : w5.frozen? ⟨gh, 0, none⟩ = false := KH.out.free 0
     have f1 : w5.frozen? ⟨gh, 1, none⟩ = false := KH.out.free 1
     have f2 : w5.frozen? ⟨gh, 2, none⟩ = false := KH.out.free 2
     have t0 := KH.out.cell 0
     have t1 := KH.out.cell 1
     have t2 := KH.out.cell 2
     have x0 := X0.out
     have x1 := X1.out
     have x2 := X2.out
     have hk0 := HK0.out
     have hkn := HKN.out
     have hNI := hid (NoInts.three KH.out)
     have HXs : Hid (Ext w (((w5.setCell ⟨gh, 0, none⟩ (.bool s26)).setCell ⟨gh, 1, none⟩ (.slice A26 l26 c26)).setCell ⟨gh, 2, none⟩ (.slice B26 m26 k26))) := ((HX.out.setCell hwh _).setCell hwh _).setCell hwh _
     have kH : Hid (Blk (((w5.setCell ⟨gh, 0, none⟩ (.bool s26)).setCell ⟨gh, 1, none⟩ (.slice A26 l26 c26)).setCell ⟨gh, 2, none⟩ (.slice B26 m26 k26)) gh 65 #[.bool s26, .slice A26 l26 c26, .slice B26 m26 k26]) := ((KH.out.set 0 _).set 1 _).set 2 _
     have kL : Hid (Blk (((w5.setCell ⟨gh, 0, none⟩ (.bool s26)).setCell ⟨gh, 1, none⟩ (.slice A26 l26 c26)).setCell ⟨gh, 2, none⟩ (.slice B26 m26 k26)) gl 65 #[.bool s24, .slice A24 l24 c24, .slice B24 m24 k24]) := ((KL.out.far hll _).far hll _).far hll _
     have kR : Hid (Blk (((w5.setCell ⟨gh, 0, none⟩ (.bool s26)).setCell ⟨gh, 1, none⟩ (.slice A26 l26 c26)).setCell ⟨gh, 2, none⟩ (.slice B26 m26 k26)) w.heap.size 31 #[.int .i64 0, .int .i64 0]) := ((KR.out.far hgr2 _).far hgr2 _).far hgr2 _
     have hQ : Hid (QsAt (((w5.setCell ⟨gh, 0, none⟩ (.bool s26)).setCell ⟨gh, 1, none⟩ (.slice A26 l26 c26)).setCell ⟨gh, 2, none⟩ (.slice B26 m26 k26)) (some ⟨bq, oq, none⟩) (p + 1) qs) := HQ.out.past3 (x := gh) hNI.out (HBQ.out.2) s26 A26 B26 l26 c26 m26 k26
     go_wp2
     go_roundg (p - (k + 1))
     case rel => exact ⟨k + 1, s24, A24, B24, l24, c24, m24, k24, s26, A26, B26, l26, c26, m26, k26, a, q, rfl, by omega, by go_num, kL.out, kH.out, QZ.past' HA.out hNI.out, QZ.past' HZ.out hNI.out, HLN.out, HHN.out, kR.out, hQ.out, HXs.out⟩
     case measure => omega

    ·
     rw [if_neg hsz] at HHN
     go_wp2
     go_roundg (p - (k + 1))
     case rel => exact ⟨k + 1, s24, A24, B24, l24, c24, m24, k24, s25, A25, B25, l25, c25, m25, k25, a, z, rfl, by omega, by go_num, KL.out, KH.out, HA.out, HZZ.out, HLN.out, HHN.out, KR.out, HQ.out, HX.out⟩
     case measure => omega
  ·
   obtain rfl : p = k := by omega
   have ea : a = lo := by rw [← HAL.out, HLW.out]
   have ez : z = hi := by rw [← HAH.out, HHW.out]
   subst ea ez
   have HFA : Hid (FitR a L) := by have h := HF.out _ (lowN_mem (qs := qs) (k := p) (by rw [HL.out]; omega)); rw [HAL.out] at h; exact h
   have HFZ : Hid (FitR z L) := by have h := HF.out _ (highN_mem (qs := qs) (k := p) (by rw [HL.out]; omega)); rw [HAH.out] at h; exact h
   clear HAL HAH HQ hlt
   have cL0 : wr.cell? ⟨gl, 0, none⟩ = some (.bool s24) := KL.out.cell 0
   have cL1 : wr.cell? ⟨gl, 1, none⟩ = some (.slice A24 l24 c24) := KL.out.cell 1
   have cL2 : wr.cell? ⟨gl, 2, none⟩ = some (.slice B24 m24 k24) := KL.out.cell 2
   go_wp2_with fail
   clear cL0 cL1 cL2
   refine (qfloor_any _ a L _ HA.out HFA.out (by omega)).mono ?_
   rw [HZL.out]
   rintro e w11 ⟨v30, rfl, hv, hX⟩
   replace hX : Ext wr w11 := by with_reducible exact hX
   replace HX := hid (HX.out.trans hX)
   replace HA := hid (HA.out.ext hX)
   replace HZZ := hid (HZZ.out.ext hX)
   replace KR := hid (KR.out.ext hX)
   replace KL := hid (KL.out.ext hX)
   replace KH := hid (KH.out.ext hX)
   clear hX
   have HV := hid hv
   clear hv
   go_wp2_with fail
   refine (rend_any HV.out).mono ?_
   rw [HNL.out, HLO.out]
   rintro e w12 ⟨rfl, hX⟩
   replace hX : Ext w11 w12 := by with_reducible exact hX
   replace HX := hid (HX.out.trans hX)
   replace HA := hid (HA.out.ext hX)
   replace HZZ := hid (HZZ.out.ext hX)
   replace HV := hid (HV.out.ext hX)
   replace KR := hid (KR.out.ext hX)
   replace KL := hid (KL.out.ext hX)
   replace KH := hid (KH.out.ext hX)
   clear hX
   clear HV
   have cH0 : w12.cell? ⟨gh, 0, none⟩ = some (.bool s25) := KH.out.cell 0
   have cH1 : w12.cell? ⟨gh, 1, none⟩ = some (.slice A25 l25 c25) := KH.out.cell 1
   have cH2 : w12.cell? ⟨gh, 2, none⟩ = some (.slice B25 m25 k25) := KH.out.cell 2
   go_wp2_with fail
   clear cH0 cH1 cH2
   refine (qceil_any _ z L _ HZZ.out HFZ.out (by omega)).mono ?_
   rw [HZH.out]
   rintro e w13 ⟨v31, rfl, hv, hX⟩
   replace hX : Ext w12 w13 := by with_reducible exact hX
   replace HX := hid (HX.out.trans hX)
   replace HA := hid (HA.out.ext hX)
   replace HZZ := hid (HZZ.out.ext hX)
   replace KR := hid (KR.out.ext hX)
   replace KL := hid (KL.out.ext hX)
   replace KH := hid (KH.out.ext hX)
   clear hX
   have HV := hid hv
   clear hv
   go_wp2_with fail
   refine (rend_any HV.out).mono ?_
   rw [HNH.out, HEH.out]
   rintro e w14 ⟨rfl, hX⟩
   replace hX : Ext w13 w14 := by with_reducible exact hX
   replace HX := hid (HX.out.trans hX)
   replace HA := hid (HA.out.ext hX)
   replace HZZ := hid (HZZ.out.ext hX)
   replace HV := hid (HV.out.ext hX)
   replace KR := hid (KR.out.ext hX)
   replace KL := hid (KL.out.ext hX)
   replace KH := hid (KH.out.ext hX)
   clear hX
   have cR0 : w14.cell? ⟨w.heap.size, 0, none⟩ = some (.int .i64 0) := KR.out.cell 0
   have fR0 : w14.frozen? ⟨w.heap.size, 0, none⟩ = false := KR.out.free 0
   have cR1 : w14.cell? ⟨w.heap.size, 1, none⟩ = some (.int .i64 0) := KR.out.cell 1
   have fR1 : w14.frozen? ⟨w.heap.size, 1, none⟩ = false := KR.out.free 1
   go_wp2
   refine bodyPost_ret (v := .tuple #[.agg #[.int .i64 0, .int .i64 0], .int .i64 3]) (by simp [results, Try.results110, go_sem, *]) rfl ?_
   exact ⟨rfl, HX.out.two (Nat.le_refl _) _ _⟩
set_option maxRecDepth 100000 in
set_option maxHeartbeats 2000000 in
theorem around_hi (A : Option Addr) (p cq L : Nat) (qs : List Rat) (w : World) (hq : QsAt w A (p + 1) qs) (_hp : p ≤ 1000) (hf : ∀ q ∈ qs, FitR q L) (hL : L + L + 1 ≤ 400000) (hlo : endE (lowN qs p).floor = 0) (hhi : endE (-(-(highN qs p)).floor) = 3) :
  Calls Try.prog 110 #[.slice A (p + 1) cq] w (RetE w (.agg #[.int .i64 0, .int .i64 0]) 3) := by
 have HQ := hid hq
 have HF := hid hf
 clear hq hf
 have HL : Hid (qs.length = p + 1) := HQ.out.1
 obtain ⟨q0, hq0⟩ : ∃ q, qs[0]? = some q := ⟨qs[0]'(by rw [HL.out]; omega), List.getElem?_eq_getElem _⟩
 obtain ⟨bq, oq, s21, A21, l21, c21, B21, m21, k21, rfl, x0, x1, x2, hz⟩ := HQ.out.2 0 q0 hq0
 simp only [Nat.zero_mul, Nat.add_zero] at x0 x1 x2
 have HZ := hid hz
 have HQ0 := hid hq0
 have hn1 : (0 : Int) < ((p + 1 : Nat) : Int) := by omega
 clear hz hq0
 obtain ⟨lo, hlw⟩ : ∃ q, lowN qs p = q := ⟨_, rfl⟩
 obtain ⟨hi, hhw⟩ : ∃ q, highN qs p = q := ⟨_, rfl⟩
 have HLW := hid hlw
 have HHW := hid hhw
 rw [hlw] at hlo
 rw [hhw] at hhi
 obtain ⟨zl, hzl⟩ : ∃ z, lo.floor = z := ⟨_, rfl⟩
 obtain ⟨zh, hzh⟩ : ∃ z, -(-hi).floor = z := ⟨_, rfl⟩
 have HZL := hid hzl
 have HZH := hid hzh
 rw [hzl] at hlo
 rw [hzh] at hhi
 obtain ⟨nl, hnl⟩ : ∃ z, endV zl = z := ⟨_, rfl⟩
 obtain ⟨nh, hnh⟩ : ∃ z, endV zh = z := ⟨_, rfl⟩
 obtain ⟨eh, heh⟩ : ∃ z, endE zh = z := ⟨_, rfl⟩
 have HNL := hid hnl
 have HNH := hid hnh
 have HEH := hid heh
 have HLO := hid hlo
 have HHI := hid hhi
 clear hlw hhw hzl hzh hnl hnh heh hlo hhi
 have hXe : Ext w (w.alloc (.cells #[.int .i64 0, .int .i64 0] 31)) := ((Ext.refl w).alloc _)
 have kR : Blk (w.alloc (.cells #[.int .i64 0, .int .i64 0] 31)) w.heap.size 31 #[.int .i64 0, .int .i64 0] := Blk.at_ (by simp)
 have y0 := hXe.cell x0
 have y1 := hXe.cell x1
 have y2 := hXe.cell x2
 go_enter Try.func110, Try.ntmps110
 go_wp2_with fail
 generalize (w.alloc (.cells #[.int .i64 0, .int .i64 0] 31)) = w1 at hXe y0 y1 y2 kR ⊢
 have HX := hid hXe
 clear hXe
 have KR := hid kR
 clear kR
 replace HZ := hid (HZ.out.ext HX.out)
 replace HQ := hid (HQ.out.ext HX.out)
 go_upto_region 1 with (fail)
 refine around_r1 bq oq (p + 1) cq s21 A21 B21 l21 c21 m21 k21 w1 y0 y1 y2 (by omega) hn1 _ _ (by simp) rfl ?_
 rintro xv0 xv1 xv2 xv3 xv4 xv5 xv6 xv7 xv8 xv9 w2 rfl rfl rfl rfl rfl rfl ⟨gl, rfl, hgl, hBl⟩ ⟨gh, rfl, hgh, hBh⟩ hne hXW
 simp only [rops, Try.f110, regOf, Option.bind_some, Nat.reduceBEq, if_true, if_false, Bool.false_eq_true, Option.getD_some, List.drop_succ_cons, List.drop_zero]
 simp only [Act.put, List.setIfInBounds_toArray, List.set_cons_succ, List.set_cons_zero]
 have HBQ : Hid (bq ≠ gl ∧ bq ≠ gh) := by
  have hb : bq < w.heap.size := World.block_lt_of_cell? w _ x0
  have hz1 := HX.out.size
  exact ⟨by omega, by omega⟩
 have hll : gl ≠ gh := by
  rintro rfl
  exact hne rfl
 have zr := KR.out.lt
 have hgr : w.heap.size ≠ gl ∧ w.heap.size ≠ gh := by omega
 obtain ⟨hgr1, hgr2⟩ := hgr
 have hwl : w.heap.size ≤ gl := by omega
 have hwh : w.heap.size ≤ gh := by omega
 clear y0 y1 y2 x0 x1 x2 hne hgl hgh
 replace HX := hid (HX.out.trans hXW)
 replace HZ := hid (HZ.out.ext hXW)
 replace HQ := hid (HQ.out.ext hXW)
 replace KR := hid (KR.out.ext hXW)
 clear hXW
 have KL := hid hBl
 have KH := hid hBh
 clear hBl hBh
 go_wp2_with fail
 go_loopg [6] p (fun g' s6 wr => ∃ (k : Nat) (s24 : Bool) (A24 B24 : Option Addr) (l24 c24 m24 k24 : Nat) (s25 : Bool) (A25 B25 : Option Addr) (l25 c25 m25 k25 : Nat) (a z : Rat), g' = p - k ∧ k ≤ p ∧ s6 = .int .i64 ((k : Int) + 1) ∧ Hid (Blk wr gl 65 #[.bool s24, .slice A24 l24 c24, .slice B24 m24 k24]) ∧ Hid (Blk wr gh 65 #[.bool s25, .slice A25 l25 c25, .slice B25 m25 k25]) ∧ Hid (QZ wr (.agg #[.bool s24, .slice A24 l24 c24, .slice B24 m24 k24]) a) ∧ Hid (QZ wr (.agg #[.bool s25, .slice A25 l25 c25, .slice B25 m25 k25]) z) ∧ Hid (lowN qs k = a) ∧ Hid (highN qs k = z) ∧ Hid (Blk wr w.heap.size 31 #[.int .i64 0, .int .i64 0]) ∧ Hid (QsAt wr (some ⟨bq, oq, none⟩) (p + 1) qs) ∧ Hid (Ext w wr))
 case atStart => exact ⟨0, s21, A21, B21, l21, c21, m21, k21, s21, A21, B21, l21, c21, m21, k21, q0, q0, rfl, by omega, rfl, KL.out, KH.out, HZ.out, HZ.out, by show _ = _; simp [lowN, List.getD, HQ0.out], by show _ = _; simp [highN, List.getD, HQ0.out], KR.out, HQ.out, HX.out⟩
 case round =>
  clear KL KH KR HX HQ HZ
  obtain ⟨k, s24, A24, B24, l24, c24, m24, k24, s25, A25, B25, l25, c25, m25, k25, a, z, rfl, hk, rfl, KL, KH, HA, HZZ, HAL, HAH, KR, HQ, HX⟩ := hrel
  by_cases hlt : k < p
  ·
   obtain ⟨q, hq⟩ : ∃ q, qs[k + 1]? = some q := ⟨qs[k + 1]'(by rw [HL.out]; omega), List.getElem?_eq_getElem _⟩
   have HLN := hid (low_next hq HAL.out)
   have HHN := hid (high_next hq HAH.out)
   obtain ⟨bq', oq', s26, A26, l26, c26, B26, m26, k26, hA, x0, x1, x2, hz⟩ := HQ.out.2 (k + 1) q hq
   injection hA with hA
   injection hA with e1 e2
   subst e1 e2
   have HZ := hid hz
   have hkI : ((k + 1 : Nat) : Int) = (k : Int) + 1 := by omega
   have hfq : FitR q L := HF.out _ (List.mem_of_getElem? hq)
   have hfa : FitR a L := by rw [← HAL.out]; exact HF.out _ (lowN_mem (by rw [HL.out]; omega))
   have hfz : FitR z L := by rw [← HAH.out]; exact HF.out _ (highN_mem (by rw [HL.out]; omega))
   have HFQ := hid hfq
   have HFA := hid hfa
   have HFZ := hid hfz
   have hk0 : (0 : Int) ≤ ((k + 1 : Nat) : Int) := by omega
   have hkn : ((k + 1 : Nat) : Int) < ((p + 1 : Nat) : Int) := by omega
   obtain ⟨sa, hsa⟩ : ∃ s, sgnQ (q - a) = s := ⟨_, rfl⟩
   obtain ⟨sz, hsz⟩ : ∃ s, sgnQ (q - z) = s := ⟨_, rfl⟩
   rw [hsa] at HLN
   rw [hsz] at HHN
   have HSA := hid hsa
   have HSZ := hid hsz
   have HI := hid hkI
   have HK0 := hid hk0
   have HKN := hid hkn
   have X0 := hid x0
   have X1 := hid x1
   have X2 := hid x2
   clear hz hq hfq hfa hfz hsa hsz hk0 hkn x0 x1 x2
   rw [← HI.out]
   clear hkI
   go_upto_region 5 with (fail)
   refine around_r5 bq oq (p + 1) cq (k + 1) gl L s26 A26 B26 l26 c26 m26 k26 s24 A24 B24 l24 c24 m24 k24 q a sa wr X0.out X1.out X2.out (KL.out.cell 0) (KL.out.cell 1) (KL.out.cell 2) HZ.out HA.out HFQ.out HFA.out hL HSA.out HK0.out HKN.out _ _ (by simp) rfl rfl rfl ?_
   rintro xv0 xv1 xv2 xv3 xv4 xv5 xv6 w3 rfl rfl rfl rfl rfl rfl rfl hXW
   simp only [rops, Try.f110, regOf, Option.bind_some, Nat.reduceBEq, if_true, if_false, Bool.false_eq_true, Option.getD_some, List.drop_succ_cons, List.drop_zero]
   simp only [Act.put, List.setIfInBounds_toArray, List.set_cons_succ, List.set_cons_zero]
   replace KL := hid (KL.out.ext hXW)
   replace KH := hid (KH.out.ext hXW)
   replace KR := hid (KR.out.ext hXW)
   replace HA := hid (HA.out.ext hXW)
   replace HZZ := hid (HZZ.out.ext hXW)
   replace HZ := hid (HZ.out.ext hXW)
   replace HQ := hid (HQ.out.ext hXW)
   replace HX := hid (HX.out.trans hXW)
   replace X0 := hid (hXW.cell X0.out)
   replace X1 := hid (hXW.cell X1.out)
   replace X2 := hid (hXW.cell X2.out)
   clear hXW
   by_cases hsa : sa < 0
   ·
    rw [if_pos hsa] at HLN
    have f0 : w3.frozen? ⟨gl, 0, none⟩ = false := KL.out.free 0
    have f1 : w3.frozen? ⟨gl, 1, none⟩ = false := KL.out.free 1
    have f2 : w3.frozen? ⟨gl, 2, none⟩ = false := KL.out.free 2
    have t0 := KL.out.cell 0
    have t1 := KL.out.cell 1
    have t2 := KL.out.cell 2
    have x0 := X0.out
    have x1 := X1.out
    have x2 := X2.out
    have hk0 := HK0.out
    have hkn := HKN.out
    go_upto_region 7 with (fail)
    clear f0 f1 f2 t0 t1 t2 x0 x1 x2 hk0 hkn
    have hNI := NoInts.three KL.out
    have hXs : Ext w (((w3.setCell ⟨gl, 0, none⟩ (.bool s26)).setCell ⟨gl, 1, none⟩ (.slice A26 l26 c26)).setCell ⟨gl, 2, none⟩ (.slice B26 m26 k26)) := ((HX.out.setCell hwl _).setCell hwl _).setCell hwl _
    have kL : Blk (((w3.setCell ⟨gl, 0, none⟩ (.bool s26)).setCell ⟨gl, 1, none⟩ (.slice A26 l26 c26)).setCell ⟨gl, 2, none⟩ (.slice B26 m26 k26)) gl 65 #[.bool s26, .slice A26 l26 c26, .slice B26 m26 k26] := ((KL.out.set 0 _).set 1 _).set 2 _
    have kH : Blk (((w3.setCell ⟨gl, 0, none⟩ (.bool s26)).setCell ⟨gl, 1, none⟩ (.slice A26 l26 c26)).setCell ⟨gl, 2, none⟩ (.slice B26 m26 k26)) gh 65 #[.bool s25, .slice A25 l25 c25, .slice B25 m25 k25] := ((KH.out.far (Ne.symm hll) _).far (Ne.symm hll) _).far (Ne.symm hll) _
    have kR : Blk (((w3.setCell ⟨gl, 0, none⟩ (.bool s26)).setCell ⟨gl, 1, none⟩ (.slice A26 l26 c26)).setCell ⟨gl, 2, none⟩ (.slice B26 m26 k26)) w.heap.size 31 #[.int .i64 0, .int .i64 0] := ((KR.out.far hgr1 _).far hgr1 _).far hgr1 _
    have hA := QZ.past' HZ.out hNI (b := s26) (A := A26) (l := l26) (c := c26) (B := B26) (m := m26) (k := k26)
    have hZ := QZ.past' HZZ.out hNI (b := s26) (A := A26) (l := l26) (c := c26) (B := B26) (m := m26) (k := k26)
    have hQ : QsAt (((w3.setCell ⟨gl, 0, none⟩ (.bool s26)).setCell ⟨gl, 1, none⟩ (.slice A26 l26 c26)).setCell ⟨gl, 2, none⟩ (.slice B26 m26 k26)) (some ⟨bq, oq, none⟩) (p + 1) qs := HQ.out.past3 (x := gl) hNI (HBQ.out.1) s26 A26 B26 l26 c26 m26 k26
    have y0 : (((w3.setCell ⟨gl, 0, none⟩ (.bool s26)).setCell ⟨gl, 1, none⟩ (.slice A26 l26 c26)).setCell ⟨gl, 2, none⟩ (.slice B26 m26 k26)).cell? ⟨bq, oq + (k + 1) * 3, none⟩ = some (.bool s26) := cell_far3 X0.out HBQ.out.1
    have y1 : (((w3.setCell ⟨gl, 0, none⟩ (.bool s26)).setCell ⟨gl, 1, none⟩ (.slice A26 l26 c26)).setCell ⟨gl, 2, none⟩ (.slice B26 m26 k26)).cell? ⟨bq, oq + (k + 1) * 3 + 1, none⟩ = some (.slice A26 l26 c26) := cell_far3 X1.out HBQ.out.1
    have y2 : (((w3.setCell ⟨gl, 0, none⟩ (.bool s26)).setCell ⟨gl, 1, none⟩ (.slice A26 l26 c26)).setCell ⟨gl, 2, none⟩ (.slice B26 m26 k26)).cell? ⟨bq, oq + (k + 1) * 3 + 2, none⟩ = some (.slice B26 m26 k26) := cell_far3 X2.out HBQ.out.1
    generalize (((w3.setCell ⟨gl, 0, none⟩ (.bool s26)).setCell ⟨gl, 1, none⟩ (.slice A26 l26 c26)).setCell ⟨gl, 2, none⟩ (.slice B26 m26 k26)) = w4 at hXs kL kH kR hA hZ hQ y0 y1 y2 ⊢
    clear HX KL KH KR HA HZZ HQ HZ X0 X1 X2 hNI
    have HX := hid hXs
    have KL := hid kL
    have KH := hid kH
    have KR := hid kR
    have HA := hid hA
    have HZ := hid hA
    have HZZ := hid hZ
    have HQ := hid hQ
    have X0 := hid y0
    have X1 := hid y1
    have X2 := hid y2
    clear hXs kL kH kR hA hZ hQ y0 y1 y2
    go_upto_region 7 with (fail)
    refine around_r7 bq oq (p + 1) cq (k + 1) gh L s26 A26 B26 l26 c26 m26 k26 s25 A25 B25 l25 c25 m25 k25 q z sz w4 X0.out X1.out X2.out (KH.out.cell 0) (KH.out.cell 1) (KH.out.cell 2) HZ.out HZZ.out HFQ.out HFZ.out hL HSZ.out HK0.out HKN.out _ _ (by simp) rfl rfl rfl ?_
    rintro xv0 xv1 xv2 xv3 xv4 xv5 xv6 w5 rfl rfl rfl rfl rfl rfl rfl hXW
    simp only [rops, Try.f110, regOf, Option.bind_some, Nat.reduceBEq, if_true, if_false, Bool.false_eq_true, Option.getD_some, List.drop_succ_cons, List.drop_zero]
    simp only [Act.put, List.setIfInBounds_toArray, List.set_cons_succ, List.set_cons_zero]
    replace KL := hid (KL.out.ext hXW)
    replace KH := hid (KH.out.ext hXW)
    replace KR := hid (KR.out.ext hXW)
    replace HA := hid (HA.out.ext hXW)
    replace HZZ := hid (HZZ.out.ext hXW)
    replace HZ := hid (HZ.out.ext hXW)
    replace HQ := hid (HQ.out.ext hXW)
    replace HX := hid (HX.out.trans hXW)
    replace X0 := hid (hXW.cell X0.out)
    replace X1 := hid (hXW.cell X1.out)
    replace X2 := hid (hXW.cell X2.out)
    clear hXW
    by_cases hsz : 0 < sz
    ·
     rw [if_pos hsz] at HHN
     have f0 : w5.frozen? ⟨gh, 0, none⟩ = false := KH.out.free 0
     have f1 : w5.frozen? ⟨gh, 1, none⟩ = false := KH.out.free 1
     have f2 : w5.frozen? ⟨gh, 2, none⟩ = false := KH.out.free 2
     have t0 := KH.out.cell 0
     have t1 := KH.out.cell 1
     have t2 := KH.out.cell 2
     have x0 := X0.out
     have x1 := X1.out
     have x2 := X2.out
     have hk0 := HK0.out
     have hkn := HKN.out
     have hNI := hid (NoInts.three KH.out)
     have HXs : Hid (Ext w (((w5.setCell ⟨gh, 0, none⟩ (.bool s26)).setCell ⟨gh, 1, none⟩ (.slice A26 l26 c26)).setCell ⟨gh, 2, none⟩ (.slice B26 m26 k26))) := ((HX.out.setCell hwh _).setCell hwh _).setCell hwh _
     have kH : Hid (Blk (((w5.setCell ⟨gh, 0, none⟩ (.bool s26)).setCell ⟨gh, 1, none⟩ (.slice A26 l26 c26)).setCell ⟨gh, 2, none⟩ (.slice B26 m26 k26)) gh 65 #[.bool s26, .slice A26 l26 c26, .slice B26 m26 k26]) := ((KH.out.set 0 _).set 1 _).set 2 _
     have kL : Hid (Blk (((w5.setCell ⟨gh, 0, none⟩ (.bool s26)).setCell ⟨gh, 1, none⟩ (.slice A26 l26 c26)).setCell ⟨gh, 2, none⟩ (.slice B26 m26 k26)) gl 65 #[.bool s26, .slice A26 l26 c26, .slice B26 m26 k26]) := ((KL.out.far hll _).far hll _).far hll _
     have kR : Hid (Blk (((w5.setCell ⟨gh, 0, none⟩ (.bool s26)).setCell ⟨gh, 1, none⟩ (.slice A26 l26 c26)).setCell ⟨gh, 2, none⟩ (.slice B26 m26 k26)) w.heap.size 31 #[.int .i64 0, .int .i64 0]) := ((KR.out.far hgr2 _).far hgr2 _).far hgr2 _
     have hQ : Hid (QsAt (((w5.setCell ⟨gh, 0, none⟩ (.bool s26)).setCell ⟨gh, 1, none⟩ (.slice A26 l26 c26)).setCell ⟨gh, 2, none⟩ (.slice B26 m26 k26)) (some ⟨bq, oq, none⟩) (p + 1) qs) := HQ.out.past3 (x := gh) hNI.out (HBQ.out.2) s26 A26 B26 l26 c26 m26 k26
     go_wp2
     go_roundg (p - (k + 1))
     case rel => exact ⟨k + 1, s26, A26, B26, l26, c26, m26, k26, s26, A26, B26, l26, c26, m26, k26, q, q, rfl, by omega, by go_num, kL.out, kH.out, QZ.past' HZ.out hNI.out, QZ.past' HZ.out hNI.out, HLN.out, HHN.out, kR.out, hQ.out, HXs.out⟩
     case measure => omega

    ·
     rw [if_neg hsz] at HHN
     go_wp2
     go_roundg (p - (k + 1))
     case rel => exact ⟨k + 1, s26, A26, B26, l26, c26, m26, k26, s25, A25, B25, l25, c25, m25, k25, q, z, rfl, by omega, by go_num, KL.out, KH.out, HA.out, HZZ.out, HLN.out, HHN.out, KR.out, HQ.out, HX.out⟩
     case measure => omega

   ·
    rw [if_neg hsa] at HLN
    go_upto_region 7 with (fail)
    refine around_r7 bq oq (p + 1) cq (k + 1) gh L s26 A26 B26 l26 c26 m26 k26 s25 A25 B25 l25 c25 m25 k25 q z sz w3 X0.out X1.out X2.out (KH.out.cell 0) (KH.out.cell 1) (KH.out.cell 2) HZ.out HZZ.out HFQ.out HFZ.out hL HSZ.out HK0.out HKN.out _ _ (by simp) rfl rfl rfl ?_
    rintro xv0 xv1 xv2 xv3 xv4 xv5 xv6 w5 rfl rfl rfl rfl rfl rfl rfl hXW
    simp only [rops, Try.f110, regOf, Option.bind_some, Nat.reduceBEq, if_true, if_false, Bool.false_eq_true, Option.getD_some, List.drop_succ_cons, List.drop_zero]
    simp only [Act.put, List.setIfInBounds_toArray, List.set_cons_succ, List.set_cons_zero]
    replace KL := hid (KL.out.ext hXW)
    replace KH := hid (KH.out.ext hXW)
    replace KR := hid (KR.out.ext hXW)
    replace HA := hid (HA.out.ext hXW)
    replace HZZ := hid (HZZ.out.ext hXW)
    replace HZ := hid (HZ.out.ext hXW)
    replace HQ := hid (HQ.out.ext hXW)
    replace HX := hid (HX.out.trans hXW)
    replace X0 := hid (hXW.cell X0.out)
    replace X1 := hid (hXW.cell X1.out)
    replace X2 := hid (hXW.cell X2.out)
    clear hXW
    by_cases hsz : 0 < sz
    ·
     rw [if_pos hsz] at HHN
     have f0 : w5.frozen? ⟨gh, 0, none⟩ = false := KH.out.free 0
     have f1 : w5.frozen? ⟨gh, 1, none⟩ = false := KH.out.free 1
     have f2 : w5.frozen? ⟨gh, 2, none⟩ = false := KH.out.free 2
     have t0 := KH.out.cell 0
     have t1 := KH.out.cell 1
     have t2 := KH.out.cell 2
     have x0 := X0.out
     have x1 := X1.out
     have x2 := X2.out
     have hk0 := HK0.out
     have hkn := HKN.out
     have hNI := hid (NoInts.three KH.out)
     have HXs : Hid (Ext w (((w5.setCell ⟨gh, 0, none⟩ (.bool s26)).setCell ⟨gh, 1, none⟩ (.slice A26 l26 c26)).setCell ⟨gh, 2, none⟩ (.slice B26 m26 k26))) := ((HX.out.setCell hwh _).setCell hwh _).setCell hwh _
     have kH : Hid (Blk (((w5.setCell ⟨gh, 0, none⟩ (.bool s26)).setCell ⟨gh, 1, none⟩ (.slice A26 l26 c26)).setCell ⟨gh, 2, none⟩ (.slice B26 m26 k26)) gh 65 #[.bool s26, .slice A26 l26 c26, .slice B26 m26 k26]) := ((KH.out.set 0 _).set 1 _).set 2 _
     have kL : Hid (Blk (((w5.setCell ⟨gh, 0, none⟩ (.bool s26)).setCell ⟨gh, 1, none⟩ (.slice A26 l26 c26)).setCell ⟨gh, 2, none⟩ (.slice B26 m26 k26)) gl 65 #[.bool s24, .slice A24 l24 c24, .slice B24 m24 k24]) := ((KL.out.far hll _).far hll _).far hll _
     have kR : Hid (Blk (((w5.setCell ⟨gh, 0, none⟩ (.bool s26)).setCell ⟨gh, 1, none⟩ (.slice A26 l26 c26)).setCell ⟨gh, 2, none⟩ (.slice B26 m26 k26)) w.heap.size 31 #[.int .i64 0, .int .i64 0]) := ((KR.out.far hgr2 _).far hgr2 _).far hgr2 _
     have hQ : Hid (QsAt (((w5.setCell ⟨gh, 0, none⟩ (.bool s26)).setCell ⟨gh, 1, none⟩ (.slice A26 l26 c26)).setCell ⟨gh, 2, none⟩ (.slice B26 m26 k26)) (some ⟨bq, oq, none⟩) (p + 1) qs) := HQ.out.past3 (x := gh) hNI.out (HBQ.out.2) s26 A26 B26 l26 c26 m26 k26
     go_wp2
     go_roundg (p - (k + 1))
     case rel => exact ⟨k + 1, s24, A24, B24, l24, c24, m24, k24, s26, A26, B26, l26, c26, m26, k26, a, q, rfl, by omega, by go_num, kL.out, kH.out, QZ.past' HA.out hNI.out, QZ.past' HZ.out hNI.out, HLN.out, HHN.out, kR.out, hQ.out, HXs.out⟩
     case measure => omega

    ·
     rw [if_neg hsz] at HHN
     go_wp2
     go_roundg (p - (k + 1))
     case rel => exact ⟨k + 1, s24, A24, B24, l24, c24, m24, k24, s25, A25, B25, l25, c25, m25, k25, a, z, rfl, by omega, by go_num, KL.out, KH.out, HA.out, HZZ.out, HLN.out, HHN.out, KR.out, HQ.out, HX.out⟩
     case measure => omega
  ·
   obtain rfl : p = k := by omega
   have ea : a = lo := by rw [← HAL.out, HLW.out]
   have ez : z = hi := by rw [← HAH.out, HHW.out]
   subst ea ez
   have HFA : Hid (FitR a L) := by have h := HF.out _ (lowN_mem (qs := qs) (k := p) (by rw [HL.out]; omega)); rw [HAL.out] at h; exact h
   have HFZ : Hid (FitR z L) := by have h := HF.out _ (highN_mem (qs := qs) (k := p) (by rw [HL.out]; omega)); rw [HAH.out] at h; exact h
   clear HAL HAH HQ hlt
   have cL0 : wr.cell? ⟨gl, 0, none⟩ = some (.bool s24) := KL.out.cell 0
   have cL1 : wr.cell? ⟨gl, 1, none⟩ = some (.slice A24 l24 c24) := KL.out.cell 1
   have cL2 : wr.cell? ⟨gl, 2, none⟩ = some (.slice B24 m24 k24) := KL.out.cell 2
   go_wp2_with fail
   clear cL0 cL1 cL2
   refine (qfloor_any _ a L _ HA.out HFA.out (by omega)).mono ?_
   rw [HZL.out]
   rintro e w11 ⟨v30, rfl, hv, hX⟩
   replace hX : Ext wr w11 := by with_reducible exact hX
   replace HX := hid (HX.out.trans hX)
   replace HA := hid (HA.out.ext hX)
   replace HZZ := hid (HZZ.out.ext hX)
   replace KR := hid (KR.out.ext hX)
   replace KL := hid (KL.out.ext hX)
   replace KH := hid (KH.out.ext hX)
   clear hX
   have HV := hid hv
   clear hv
   go_wp2_with fail
   refine (rend_any HV.out).mono ?_
   rw [HNL.out, HLO.out]
   rintro e w12 ⟨rfl, hX⟩
   replace hX : Ext w11 w12 := by with_reducible exact hX
   replace HX := hid (HX.out.trans hX)
   replace HA := hid (HA.out.ext hX)
   replace HZZ := hid (HZZ.out.ext hX)
   replace HV := hid (HV.out.ext hX)
   replace KR := hid (KR.out.ext hX)
   replace KL := hid (KL.out.ext hX)
   replace KH := hid (KH.out.ext hX)
   clear hX
   clear HV
   have cH0 : w12.cell? ⟨gh, 0, none⟩ = some (.bool s25) := KH.out.cell 0
   have cH1 : w12.cell? ⟨gh, 1, none⟩ = some (.slice A25 l25 c25) := KH.out.cell 1
   have cH2 : w12.cell? ⟨gh, 2, none⟩ = some (.slice B25 m25 k25) := KH.out.cell 2
   go_wp2_with fail
   clear cH0 cH1 cH2
   refine (qceil_any _ z L _ HZZ.out HFZ.out (by omega)).mono ?_
   rw [HZH.out]
   rintro e w13 ⟨v31, rfl, hv, hX⟩
   replace hX : Ext w12 w13 := by with_reducible exact hX
   replace HX := hid (HX.out.trans hX)
   replace HA := hid (HA.out.ext hX)
   replace HZZ := hid (HZZ.out.ext hX)
   replace KR := hid (KR.out.ext hX)
   replace KL := hid (KL.out.ext hX)
   replace KH := hid (KH.out.ext hX)
   clear hX
   have HV := hid hv
   clear hv
   go_wp2_with fail
   refine (rend_any HV.out).mono ?_
   rw [HNH.out, HHI.out]
   rintro e w14 ⟨rfl, hX⟩
   replace hX : Ext w13 w14 := by with_reducible exact hX
   replace HX := hid (HX.out.trans hX)
   replace HA := hid (HA.out.ext hX)
   replace HZZ := hid (HZZ.out.ext hX)
   replace HV := hid (HV.out.ext hX)
   replace KR := hid (KR.out.ext hX)
   replace KL := hid (KL.out.ext hX)
   replace KH := hid (KH.out.ext hX)
   clear hX
   have cR0 : w14.cell? ⟨w.heap.size, 0, none⟩ = some (.int .i64 0) := KR.out.cell 0
   have fR0 : w14.frozen? ⟨w.heap.size, 0, none⟩ = false := KR.out.free 0
   have cR1 : w14.cell? ⟨w.heap.size, 1, none⟩ = some (.int .i64 0) := KR.out.cell 1
   have fR1 : w14.frozen? ⟨w.heap.size, 1, none⟩ = false := KR.out.free 1
   go_wp2
   refine bodyPost_ret (v := .tuple #[.agg #[.int .i64 0, .int .i64 0], .int .i64 3]) (by simp [results, Try.results110, go_sem, *]) rfl ?_
   exact ⟨rfl, HX.out.two (Nat.le_refl _) _ _⟩
theorem sgnQ_cases (q : Rat) : (q < 0 ∧ sgnQ q = -1) ∨ (q = 0 ∧ sgnQ q = 0) ∨ (0 < q ∧ sgnQ q = 1) := by
 unfold sgnQ
 by_cases h1 : q.num < 0
 ·
  left
  refine ⟨?_, by simp [h1]⟩
  apply Rat.not_le.1
  intro h
  have := Rat.num_nonneg.2 h
  omega
 ·
  by_cases h2 : q.num = 0
  ·
   right; left
   exact ⟨Rat.num_eq_zero.1 h2, by simp [h2]⟩
  ·
   right; right
   refine ⟨?_, by simp [h1, h2]⟩
   apply Rat.not_le.1
   intro h
   have h3 : 0 ≤ (-q).num := Rat.num_nonneg.2 (by grind)
   rw [Rat.neg_num] at h3
   omega
theorem sgnQ_flip (q r : Rat) : sgnQ (r - q) = -sgnQ (q - r) := by
 rcases sgnQ_cases (q - r) with ⟨h, e⟩ | ⟨h, e⟩ | ⟨h, e⟩ <;> rcases sgnQ_cases (r - q) with ⟨h', e'⟩ | ⟨h', e'⟩ | ⟨h', e'⟩ <;> rw [e, e'] <;> first | rfl | (exfalso; grind)
/-- The span of two integers, if both are within the limits. -/
def spA (lo hi : Int) : Int := if endE lo = 0 ∧ endE hi = 0 then lo else 0
def spB (lo hi : Int) : Int := if endE lo = 0 ∧ endE hi = 0 then hi else 0
def spC (lo hi : Int) : Int := if endE lo = 0 ∧ endE hi = 0 then 0 else 3
def RetSp (w : World) (lo hi : Int) (e : Ending) (w' : World) : Prop := e = .returned (.tuple #[.agg #[.int .i64 (spA lo hi), .int .i64 (spB lo hi)], .int .i64 (spC lo hi)]) ∧ Ext w w'
theorem sp_yes {lo hi : Int} (h0 : endE lo = 0) (h1 : endE hi = 0) : spA lo hi = lo ∧ spB lo hi = hi ∧ spC lo hi = 0 := ⟨if_pos ⟨h0, h1⟩, if_pos ⟨h0, h1⟩, if_pos ⟨h0, h1⟩⟩
theorem sp_no {lo hi : Int} (h : ¬ (endE lo = 0 ∧ endE hi = 0)) : spA lo hi = 0 ∧ spB lo hi = 0 ∧ spC lo hi = 3 := ⟨if_neg h, if_neg h, if_neg h⟩
theorem endE_or (z : Int) : endE z = 0 ∨ endE z = 3 := by unfold endE; split <;> simp
theorem endE_zero {z : Int} (h : endE z = 0) : -1152921504606846976 ≤ z ∧ z ≤ 1152921504606846976 := by
 unfold endE at h
 split at h
 ·
  assumption
 ·
  omega
theorem retSp_yes {w : World} {lo hi : Int} (h0 : endE lo = 0) (h1 : endE hi = 0) : ∀ e w', RetE w (.agg #[.int .i64 lo, .int .i64 hi]) 0 e w' → RetSp w lo hi e w' := by
 rintro e w' ⟨rfl, hX⟩
 obtain ⟨e1, e2, e3⟩ := sp_yes h0 h1
 exact ⟨by rw [e1, e2, e3], hX⟩
theorem retSp_no {w : World} {lo hi : Int} (h : ¬ (endE lo = 0 ∧ endE hi = 0)) : ∀ e w', RetE w (.agg #[.int .i64 0, .int .i64 0]) 3 e w' → RetSp w lo hi e w' := by
 rintro e w' ⟨rfl, hX⟩
 obtain ⟨e1, e2, e3⟩ := sp_no h
 exact ⟨by rw [e1, e2, e3], hX⟩
theorem around_any (A : Option Addr) (p cq L : Nat) (qs : List Rat) (w : World) (hq : QsAt w A (p + 1) qs) (hp : p ≤ 1000) (hf : ∀ q ∈ qs, FitR q L) (hL : L + L + 1 ≤ 400000) : Calls Try.prog 110 #[.slice A (p + 1) cq] w (RetSp w (lowN qs p).floor (-(-(highN qs p)).floor)) := by
 rcases endE_or (lowN qs p).floor with h0 | h0
 ·
  rcases endE_or (-(-(highN qs p)).floor) with h1 | h1
  ·
   exact (around_ok A p cq L qs w hq hp hf hL h0 h1).mono (retSp_yes h0 h1)
  ·
   exact (around_hi A p cq L qs w hq hp hf hL h0 h1).mono (retSp_no (fun h => by omega))
 ·
  exact (around_lo A p cq L qs w hq hp hf hL h0).mono (retSp_no (fun h => by omega))
theorem qsAt_two {w : World} {g : Nat} {T : TypeId} {s0 s1 : Bool} {A0 B0 A1 B1 : Option Addr} {l0 c0 m0 k0 l1 c1 m1 k1 : Nat} {q r : Rat} (hB : Blk w g T #[.bool s0, .slice A0 l0 c0, .slice B0 m0 k0, .bool s1, .slice A1 l1 c1, .slice B1 m1 k1])
  (h : QZ w (.agg #[.bool s0, .slice A0 l0 c0, .slice B0 m0 k0]) q) (k : QZ w (.agg #[.bool s1, .slice A1 l1 c1, .slice B1 m1 k1]) r) : QsAt w (some ⟨g, 0, none⟩) 2 [q, r] := by
 refine ⟨rfl, fun j x hx => ?_⟩
 match j, hx with
 | 0, hx =>
  obtain rfl : q = x := by simpa using hx
  exact ⟨g, 0, _, _, _, _, _, _, _, rfl, hB.cell 0, hB.cell 1, hB.cell 2, h⟩
 | 1, hx =>
  obtain rfl : r = x := by simpa using hx
  exact ⟨g, 0, _, _, _, _, _, _, _, rfl, hB.cell 3, hB.cell 4, hB.cell 5, k⟩
 | j + 2, hx => simp at hx
def mnQ (q r : Rat) : Rat := if 0 < sgnQ (q - r) then r else q
def mxQ (q r : Rat) : Rat := if 0 < sgnQ (q - r) then q else r
theorem low_two (q r : Rat) : lowN [q, r] 1 = mnQ q r := by
 have h := sgnQ_flip q r
 have e := low_next (qs := [q, r]) (k := 0) (q := r) (a := q) rfl rfl
 rw [e, mnQ]
 by_cases h1 : 0 < sgnQ (q - r)
 ·
  rw [if_pos (by omega), if_pos h1]
 ·
  rw [if_neg (by omega), if_neg h1]
theorem high_two (q r : Rat) : highN [q, r] 1 = mxQ q r := by
 have h := sgnQ_flip q r
 have e := high_next (qs := [q, r]) (k := 0) (q := r) (a := q) rfl rfl
 rw [e, mxQ]
 by_cases h1 : 0 < sgnQ (q - r)
 ·
  rw [if_neg (by omega), if_pos h1]
 ·
  rw [if_neg h1]
  rcases sgnQ_cases (q - r) with ⟨h2, e2⟩ | ⟨h2, e2⟩ | ⟨h2, e2⟩
  ·
   rw [if_pos (by omega)]
  ·
   rw [if_neg (by omega)]
   have : q = r := by grind
   exact this
  ·
   omega
/-- The block of a row holds no integers. -/
def RowNI (w : World) (v : Value) : Prop := ∀ g, v.ownBlock = some g → NoInts w g
theorem zeroCells_mem {z : Array Value} {n : Nat} {u : Value} (hz : 0 < z.size) (h : u ∈ Builtin.zeroCells z n) : u ∈ z := by
 unfold Builtin.zeroCells at h
 simp only [Array.mem_map] at h
 obtain ⟨i, _, rfl⟩ := h
 have hi : i % z.size < z.size := Nat.mod_lt _ hz
 rw [getElem!_pos z (i % z.size) hi]
 exact Array.getElem_mem hi
section
variable {P : Program}
theorem run_app_ni (w : World) {t e : TypeId} {size bytes : Nat} {z : Value} (E : Elem P t e size bytes z) (ty : TypeId) (base : Nat) (v : Value) (n : Nat) (xs : List Value) (hown : w.ownsRow base e size v n xs) (hN : RowNI w v) (hzn : ∀ u ∈ z.cells, NoInt u)
  (ad : Addr) (m c : Nat) (news : List Value) (hl : news.length = m * size) (hat : At w (some ad) news) (h1 : ∀ u ∈ news, u.oneCell' = true) (hnn : ∀ u ∈ news, NoInt u) (hm : 0 < m)
  (hbytes : (n + m) * bytes ≤ 140737488355328) (h63 : n + m ≤ maxLen) (hbase : base ≤ w.heap.size) :
  ∃ v' w', (Builtin.append_ #[t, t] ty #[v, .slice (some ad) m c]).run P w = .ok v' w' ∧ w'.ownsRow base e size v' (n + m) (xs ++ news) ∧ w.grownBy w' v.ownBlock ∧ (v'.ownBlock = v.ownBlock ∨ v'.ownBlock = some w.heap.size) ∧ RowNI w' v' := by
 obtain ⟨i, hi, hz, hs, hb⟩ := E.info
 have hnews : ∀ j u, news[j]? = some u → w.cell? (ad.add j) = some u := hat.add ad rfl
 obtain ⟨v', w', hr, h2, h3, _, h5⟩ := run_append_own_at (P := P) w base t ty e i z size bytes E.und hi hz hs hb E.cells E.pos v n xs hown ad m c news hl hnews h1 h63 hbytes hbase
 refine ⟨v', w', hr, h2, h3, h5, ?_⟩
 have hzc : 0 < z.cells.size := by rw [E.cells]; exact E.pos
 have hmax : n + m ≤ 9223372036854775807 := by simp only [maxLen] at h63; omega
 have new : ∀ (ys : Array Value) (k : Nat), (∀ u ∈ ys, NoInt u) → v' = .slice (some ⟨w.heap.size, 0, none⟩) (n + m) k → w' = w.drew.alloc (.cells (ys ++ Builtin.zeroCells z.cells (k - (n + m))) e) → RowNI w' v' := by
  rintro ys k hys rfl rfl g hg
  obtain rfl : w.heap.size = g := by simpa [Value.ownBlock] using hg
  refine ⟨_, _, heap_alloc_new w.drew _, fun u hu => ?_⟩
  rcases Array.mem_append.1 hu with h | h
  ·
   exact hys u h
  ·
   exact hzn u (zeroCells_mem hzc h)
 rcases hown.2 with ⟨rfl, rfl⟩ | ⟨g0, cap, cur, rfl, hbg, hg, hnc, hcm, hcs, htake⟩
 ·
  have hr' := run_append_nil (P := P) w t ty e i z E.und hi hz ad m c news (by rw [hs]; exact hl) hnews hm (by omega) (by rw [hb]; have hb' := hbytes; simp only [Nat.zero_add] at hb'; omega)
  rw [hr'] at hr
  injection hr with e1 e2
  refine new news.toArray (grownCap w m 0 e) (fun u hu => hnn u (by simpa using hu)) (by rw [← e1, Nat.zero_add]) (by rw [← e2, Nat.zero_add])
 ·
  obtain ⟨t0, cs0, hB, hcs0⟩ := hN g0 rfl
  have hcur : ∀ u ∈ cur.toList, NoInt u := by
   have h : some (Obj.cells cur e (0, 0)) = some (Obj.cells cs0 t0 (0, 0)) := hg.symm.trans hB
   injection h with h
   injection h with e1 e2
   subst e1
   exact fun u hu => hcs0 u (by simpa using hu)
  have hxs : ∀ u ∈ xs, NoInt u := fun u hu => by
   rw [← htake] at hu
   exact hcur u (List.mem_of_mem_take hu)
  by_cases hroom : n + m ≤ cap
  ·
   have hfit : n * i.size + news.length ≤ cur.size := by rw [hs, hl, hcs, ← Nat.add_mul]; exact Nat.mul_le_mul_right _ hroom
   have hr' := run_append_room (P := P) w t ty e i E.und hi g0 n cap cur hg ad m c news (by rw [hs]; exact hl) hnews h1 hroom hfit
   rw [hr'] at hr
   injection hr with e1 e2
   subst e1 e2
   intro g hgg
   obtain rfl : g0 = g := by simpa [Value.ownBlock] using hgg
   refine ⟨_, _, setRow_heap w g0 cur _ e _ hg, fun u hu => ?_⟩
   simp only [List.mem_toArray, List.mem_append] at hu
   rcases hu with (h | h) | h
   ·
    exact hcur u (List.mem_of_mem_take h)
   ·
    exact hnn u h
   ·
    exact hcur u (List.mem_of_mem_drop h)
  ·
   have hr' := run_append_grow (P := P) w t ty e i z E.und hi hz ⟨g0, 0, none⟩ n cap xs (by rw [hs]; exact hown.1) (hown.cells (g := g0) rfl) ad m c news (by rw [hs]; exact hl) hnews (by omega) (by omega) (by rw [hb]; exact growslice_fits (by omega) hbytes)
   rw [hr'] at hr
   injection hr with e1 e2
   refine new (xs.toArray ++ news.toArray) (grownCap w (n + m) cap e) (fun u hu => ?_) e1.symm e2.symm
   rcases Array.mem_append.1 hu with h | h
   ·
    exact hxs u (by simpa using h)
   ·
    exact hnn u (by simpa using h)
/-- 'append(s, x...)' onto such a row. -/
theorem wpList_appN (w : World) {t e : TypeId} {size bytes : Nat} {z : Value} (E : Elem P t e size bytes z) (hzn : ∀ u ∈ z.cells, NoInt u) {ops : Array Oper} {rest : List Oper} {o : Oper} {a : Act} {Q : Exit → Act → World → Prop}
  (hgd : o.guard = none) (s x : Operand) (ho : o.op = .call { callee := .builtin .append, args := #[s, x], argTypes := #[t, t] })
  (base : Nat) (v : Value) (n : Nat) (xs : List Value) (hs : a.eval s = v) (hown : w.ownsRow base e size v n xs) (hN : RowNI w v)
  (ad : Addr) (m c : Nat) (news : List Value) (hx : a.eval x = .slice (some ad) m c) (hl : news.length = m * size) (hat : At w (some ad) news) (h1 : ∀ u ∈ news, u.oneCell' = true) (hnn : ∀ u ∈ news, NoInt u) (hm : 0 < m)
  (hbytes : (n + m) * bytes ≤ 140737488355328) (h63 : n + m ≤ maxLen) (hbase : base ≤ w.heap.size)
  (h : ∀ v' w', w'.ownsRow base e size v' (n + m) (xs ++ news) → w.grownBy w' v.ownBlock → RowNI w' v' → wpList P ops Q rest (a.put o.dst v') w') :
  wpList P ops Q (o :: rest) a w :=
 wpList_plain hgd fun K hK => by
  obtain ⟨v', w', hrun, h2, h3, _, h4⟩ := run_app_ni (P := P) w E o.type base v n xs hown hN hzn ad m c news hl hat h1 hnn hm hbytes h63 hbase
  unfold Oper.wp execOp
  simp only [ho, resolve, invoke, builtin, Sem.run_bind, Sem.run_pure, Result.andThen_ok, List.map_toArray, List.map_cons, List.map_nil, hs, hx, hrun]
  exact hK _ _ (h v' w' h2 h3 h4)
end
theorem RowNI.ext {w w' : World} {v : Value} (h : RowNI w v) (he : Ext w w') : RowNI w' v := fun g hg => (h g hg).ext he
theorem RowNI.nil (w : World) : RowNI w (.slice none 0 0) := fun g hg => by simp [Value.ownBlock] at hg
end Go.Proofs.Ytikhlcgnlbinfaa
