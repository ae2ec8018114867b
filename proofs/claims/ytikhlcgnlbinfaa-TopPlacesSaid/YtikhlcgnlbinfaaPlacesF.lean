/- Lemmas of the proof that follows (Places, part 6): walks of functions by contract, and plain lemmas. Conditions: none. -/
import Derived.Test.YtikhlcgnlbinfaaPlacesE
set_option maxRecDepth 100000
set_option maxHeartbeats 2000000
namespace Go.Proofs.Ytikhlcgnlbinfaa
open Lib (hid)
open Go.RowKit
/-- Some rational numbers of the reference in a row. -/
def QsAt (w : World) (A : Option Addr) (n : Nat) (qs : List Rat) : Prop := qs.length = n /\ ∀ j q, qs[j]? = some q -> ∃ b o s A' l c B m k, A = some ⟨b, o, none⟩ /\ w.cell? ⟨b, o + j * 3, none⟩ = some (.bool s) /\ w.cell? ⟨b, o + j * 3 + 1, none⟩ = some (.slice A' l c) /\ w.cell? ⟨b, o + j * 3 + 2, none⟩ = some (.slice B m k) /\ QZ w (.agg #[.bool s, .slice A' l c, .slice B m k]) q
theorem QsAt.ext {w w' : World} {A : Option Addr} {n : Nat} {qs : List Rat} (h : QsAt w A n qs) (he : Ext w w') : QsAt w' A n qs := ⟨h.1, fun j q hq => by
 obtain ⟨b, o, s, A', l, c, B, m, k, h1, h2, h3, h4, h5⟩ := h.2 j q hq;exact ⟨b, o, s, A', l, c, B, m, k, h1, he.cell h2, he.cell h3, he.cell h4, h5.ext he⟩⟩
/-- The least and the greatest of some numbers. -/
def bl (qs : List Rat) : Nat -> Rat
 | 0 => qs.getD 0 0
 | k + 1 => if aU (qs.getD (k + 1) 0 - bl qs k) < 0 then qs.getD (k + 1) 0 else bl qs k
def aK (qs : List Rat) : Nat -> Rat
 | 0 => qs.getD 0 0
 | k + 1 => if 0 < aU (qs.getD (k + 1) 0 - aK qs k) then qs.getD (k + 1) 0 else aK qs k
theorem bR {qs : List Rat} {k : Nat} (h : k < qs.length) : bl qs k ∈ qs := by
 induction k with
 | zero => simp [bl, List.getD, h]
 | succ k ih =>
  have ih := ih (by omega);simp only [bl];split
  .
   simp [List.getD, h]
  .
   exact ih
theorem bA {qs : List Rat} {k : Nat} (h : k < qs.length) : aK qs k ∈ qs := by
 induction k with
 | zero => simp [aK, List.getD, h]
 | succ k ih =>
  have ih := ih (by omega);simp only [aK];split
  .
   simp [List.getD, h]
  .
   exact ih
theorem aG {w : World} {b o x : Nat} {v v0 v1 v2 : Value} (h : w.cell? ⟨b, o, none⟩ = some v) (hb : b ≠ x) : (((w.setCell ⟨x, 0, none⟩ v0).setCell ⟨x, 1, none⟩ v1).setCell ⟨x, 2, none⟩ v2).cell? ⟨b, o, none⟩ = some v := by
 rw [World.cell?_of_block (w := w), h];exact (Below.heap_setCell _ _ _ b hb).trans ((Below.heap_setCell _ _ _ b hb).trans (Below.heap_setCell _ _ _ b hb))
theorem QsAt.past3 {w : World} {bq oq n : Nat} {qs : List Rat} {x : Nat} (h : QsAt w (some ⟨bq, oq, none⟩) n qs) (hN : NoInts w x) (hb : bq ≠ x) (s : Bool) (A B : Option Addr) (l c m k : Nat) : QsAt (((w.setCell ⟨x, 0, none⟩ (.bool s)).setCell ⟨x, 1, none⟩ (.slice A l c)).setCell ⟨x, 2, none⟩ (.slice B m k)) (some ⟨bq, oq, none⟩) n qs := ⟨h.1, fun j q hq => by
 obtain ⟨b, o, s', A', l', c', B', m', k', h1, h2, h3, h4, h5⟩ := h.2 j q hq;injection h1 with h1;injection h1 with e1 e2;subst e1 e2;exact ⟨_, _, s', A', l', c', B', m', k', rfl, aG h2 hb, aG h3 hb, aG h4 hb, QZ.past' h5 hN⟩⟩
theorem jl {z : Int} (h : aZ z = 0) : eB z = z := by
 unfold aZ at h;unfold eB;split at h
 .
  rename_i h2; rw [if_pos h2]
 .
  omega
theorem dG (bq oq nq cq : Nat) (s21 : Bool) (A21 B21 : Option Addr) (l21 c21 m21 k21 : Nat) (w : World) (x0 : w.cell? ⟨bq, oq, none⟩ = some (.bool s21)) (x1 : w.cell? ⟨bq, oq + 1, none⟩ = some (.slice A21 l21 c21)) (x2 : w.cell? ⟨bq, oq + 2, none⟩ = some (.slice B21 m21 k21)) (_hn0 : 0 < nq) (_hn1 : (0 : Int) < (nq : Int)) (a : Act) (Q : Exit -> Act -> World -> Prop) (hsize : 17 <= a.tmps.size)
  (s0 : a.tmps[0]? = some (.slice (some ⟨bq, oq, none⟩) nq cq))
  (hend : ∀ (xv0 xv1 xv2 xv3 xv4 xv5 xv6 xv7 xv8 xv9 : Value) (W : World), (xv0 = .slice (some ⟨bq, oq, none⟩) nq cq) -> (xv1 = .pointer (some ⟨bq, oq, none⟩)) -> (xv2 = .agg #[.bool s21, .slice A21 l21 c21, .slice B21 m21 k21]) -> (xv3 = .slice (some ⟨bq, oq, none⟩) nq cq) -> (xv4 = .pointer (some ⟨bq, oq, none⟩)) -> (xv5 = .agg #[.bool s21, .slice A21 l21 c21, .slice B21 m21 k21]) -> (∃ g, xv6 = .pointer (some ⟨g, 0, none⟩) /\ w.heap.size <= g /\ Blk W g 65 #[.bool s21, .slice A21 l21 c21, .slice B21 m21 k21]) -> (∃ g, xv7 = .pointer (some ⟨g, 0, none⟩) /\ w.heap.size <= g /\ Blk W g 65 #[.bool s21, .slice A21 l21 c21, .slice B21 m21 k21]) -> (xv6 ≠ xv7) -> Ext w W -> wpList Try.prog (ae Try.f110 1).toArray Q [] ((((((((((a.put (some 11) xv0).put (some 12) xv1).put (some 13) xv2).put (some 14) xv3).put (some 15) xv4).put (some 16) xv5).put (some 4) xv6).put (some 5) xv7).put (none) xv8).put (none) xv9) W) :
  (Code.region 1 (ae Try.f110 1).toArray true).wp Try.prog Q a w := by
 have hsz : ∀ d, some d ∈ ([some 11, some 12, some 13, some 14, some 15, some 16, some 4, some 5, none, none] : List (Option Tmp)) -> d < a.tmps.size := aI (by decide) hsize;refine bk 10 [some 11, some 12, some 13, some 14, some 15, some 16, some 4, some 5, none, none] [[], [0], [1], [], [3], [4], [], [], [2, 6], [5, 7]] [[], [], [], [], [], [], [8], [9], [], []] (fun (done : Nat -> Prop) (us : Nat -> Value) (W : World) => Ext w W /\ (done 0 -> us 0 = .slice (some ⟨bq, oq, none⟩) nq cq) /\ (done 1 -> us 1 = .pointer (some ⟨bq, oq, none⟩)) /\ (done 2 -> us 2 = .agg #[.bool s21, .slice A21 l21 c21, .slice B21 m21 k21]) /\ (done 3 -> us 3 = .slice (some ⟨bq, oq, none⟩) nq cq) /\ (done 4 -> us 4 = .pointer (some ⟨bq, oq, none⟩)) /\ (done 5 -> us 5 = .agg #[.bool s21, .slice A21 l21 c21, .slice B21 m21 k21]) /\ Loc w W 65 #[.bool false, .slice none 0 0, .slice none 0 0] #[.bool s21, .slice A21 l21 c21, .slice B21 m21 k21] (done 6) (done 8) (us 6) /\ Loc w W 65 #[.bool false, .slice none 0 0, .slice none 0 0] #[.bool s21, .slice A21 l21 c21, .slice B21 m21 k21] (done 7) (done 9) (us 7) /\ qi (done 6) (done 7) (us 6) (us 7)) (by kernel_rfl) (by kernel_rfl) hsz (fun p q us W h => by have e : p = q := funext fun k => propext (h k); rw [e]; exact id) (fun us => ⟨(Ext.refl w).drew, fun h => h.elim, fun h => h.elim, fun h => h.elim, fun h => h.elim, fun h => h.elim, fun h => h.elim, Loc.unmade id, Loc.unmade id, fun h => h.elim⟩) ?_ ?_
 .
  clear hend;simp only [ae, Try.f110, ab, Option.bind_some, Nat.reduceBEq, if_true, if_false, Bool.false_eq_true, Option.getD_some];simp only [List.take_succ_cons, List.take_zero];refine ⟨?_, ?_, ?_, ?_, ?_, ?_, ?_, ?_, ?_, ?_, trivial⟩
  .
   intro done us W hJ hdep haft hnot b hb hb' K hK Q';obtain ⟨hX0, cc0, cc1, cc2, cc3, cc4, cc5, ll6, ll7, f6_7⟩ := hJ;have e0 := (hb' 0 (by simp)).trans s0;clear hb hb';have hfin := hK (.slice (some ⟨bq, oq, none⟩) nq cq) _ ⟨hX0, fun _ => rfl, fun h => cc1 (h.resolve_right (by decide)), fun h => cc2 (h.resolve_right (by decide)), fun h => cc3 (h.resolve_right (by decide)), fun h => cc4 (h.resolve_right (by decide)), fun h => cc5 (h.resolve_right (by decide)), Loc.same ll6 ⟨fun h => h.resolve_right (by decide), .inl⟩ ⟨fun h => h.resolve_right (by decide), .inl⟩, Loc.same ll7 ⟨fun h => h.resolve_right (by decide), .inl⟩ ⟨fun h => h.resolve_right (by decide), .inl⟩, fun h h' => f6_7 (h.resolve_right (by decide)) (h'.resolve_right (by decide))⟩;clear hK cc0 cc1 cc2 cc3 cc4 cc5 ll6 ll7 f6_7;go_simp;exact hfin
  .
   intro done us W hJ hdep haft hnot b hb hb' K hK Q';obtain ⟨hX0, cc0, cc1, cc2, cc3, cc4, cc5, ll6, ll7, f6_7⟩ := hJ;simp only [List.getD_cons_succ, List.getD_cons_zero, List.mem_cons, List.not_mem_nil, or_false, forall_eq_or_imp, forall_eq] at hdep;have e11 := hb 0 11 rfl;rw [cc0 hdep] at e11;clear hb hb';have hfin := hK (.pointer (some ⟨bq, oq, none⟩)) _ ⟨hX0, fun h => cc0 (h.resolve_right (by decide)), fun _ => rfl, fun h => cc2 (h.resolve_right (by decide)), fun h => cc3 (h.resolve_right (by decide)), fun h => cc4 (h.resolve_right (by decide)), fun h => cc5 (h.resolve_right (by decide)), Loc.same ll6 ⟨fun h => h.resolve_right (by decide), .inl⟩ ⟨fun h => h.resolve_right (by decide), .inl⟩, Loc.same ll7 ⟨fun h => h.resolve_right (by decide), .inl⟩ ⟨fun h => h.resolve_right (by decide), .inl⟩, fun h h' => f6_7 (h.resolve_right (by decide)) (h'.resolve_right (by decide))⟩;clear hK cc0 cc1 cc2 cc3 cc4 cc5 ll6 ll7 f6_7;go_simp;exact hfin
  .
   intro done us W hJ hdep haft hnot b hb hb' K hK Q';obtain ⟨hX0, cc0, cc1, cc2, cc3, cc4, cc5, ll6, ll7, f6_7⟩ := hJ;simp only [List.getD_cons_succ, List.getD_cons_zero, List.mem_cons, List.not_mem_nil, or_false, forall_eq_or_imp, forall_eq] at hdep;have e12 := hb 1 12 rfl;rw [cc1 hdep] at e12;clear hb hb';have z0 := Ext.cell hX0 x0;have z1 := Ext.cell hX0 x1;have z2 := Ext.cell hX0 x2;have hfin := hK (.agg #[.bool s21, .slice A21 l21 c21, .slice B21 m21 k21]) _ ⟨hX0, fun h => cc0 (h.resolve_right (by decide)), fun h => cc1 (h.resolve_right (by decide)), fun _ => rfl, fun h => cc3 (h.resolve_right (by decide)), fun h => cc4 (h.resolve_right (by decide)), fun h => cc5 (h.resolve_right (by decide)), Loc.same ll6 ⟨fun h => h.resolve_right (by decide), .inl⟩ ⟨fun h => h.resolve_right (by decide), .inl⟩, Loc.same ll7 ⟨fun h => h.resolve_right (by decide), .inl⟩ ⟨fun h => h.resolve_right (by decide), .inl⟩, fun h h' => f6_7 (h.resolve_right (by decide)) (h'.resolve_right (by decide))⟩;clear hK cc0 cc1 cc2 cc3 cc4 cc5 ll6 ll7 f6_7;go_simp;exact hfin
  .
   intro done us W hJ hdep haft hnot b hb hb' K hK Q';obtain ⟨hX0, cc0, cc1, cc2, cc3, cc4, cc5, ll6, ll7, f6_7⟩ := hJ;have e0 := (hb' 0 (by simp)).trans s0;clear hb hb';have hfin := hK (.slice (some ⟨bq, oq, none⟩) nq cq) _ ⟨hX0, fun h => cc0 (h.resolve_right (by decide)), fun h => cc1 (h.resolve_right (by decide)), fun h => cc2 (h.resolve_right (by decide)), fun _ => rfl, fun h => cc4 (h.resolve_right (by decide)), fun h => cc5 (h.resolve_right (by decide)), Loc.same ll6 ⟨fun h => h.resolve_right (by decide), .inl⟩ ⟨fun h => h.resolve_right (by decide), .inl⟩, Loc.same ll7 ⟨fun h => h.resolve_right (by decide), .inl⟩ ⟨fun h => h.resolve_right (by decide), .inl⟩, fun h h' => f6_7 (h.resolve_right (by decide)) (h'.resolve_right (by decide))⟩;clear hK cc0 cc1 cc2 cc3 cc4 cc5 ll6 ll7 f6_7;go_simp;exact hfin
  .
   intro done us W hJ hdep haft hnot b hb hb' K hK Q';obtain ⟨hX0, cc0, cc1, cc2, cc3, cc4, cc5, ll6, ll7, f6_7⟩ := hJ;simp only [List.getD_cons_succ, List.getD_cons_zero, List.mem_cons, List.not_mem_nil, or_false, forall_eq_or_imp, forall_eq] at hdep;have e14 := hb 3 14 rfl;rw [cc3 hdep] at e14;clear hb hb';have hfin := hK (.pointer (some ⟨bq, oq, none⟩)) _ ⟨hX0, fun h => cc0 (h.resolve_right (by decide)), fun h => cc1 (h.resolve_right (by decide)), fun h => cc2 (h.resolve_right (by decide)), fun h => cc3 (h.resolve_right (by decide)), fun _ => rfl, fun h => cc5 (h.resolve_right (by decide)), Loc.same ll6 ⟨fun h => h.resolve_right (by decide), .inl⟩ ⟨fun h => h.resolve_right (by decide), .inl⟩, Loc.same ll7 ⟨fun h => h.resolve_right (by decide), .inl⟩ ⟨fun h => h.resolve_right (by decide), .inl⟩, fun h h' => f6_7 (h.resolve_right (by decide)) (h'.resolve_right (by decide))⟩;clear hK cc0 cc1 cc2 cc3 cc4 cc5 ll6 ll7 f6_7;go_simp;exact hfin
  .
   intro done us W hJ hdep haft hnot b hb hb' K hK Q';obtain ⟨hX0, cc0, cc1, cc2, cc3, cc4, cc5, ll6, ll7, f6_7⟩ := hJ;simp only [List.getD_cons_succ, List.getD_cons_zero, List.mem_cons, List.not_mem_nil, or_false, forall_eq_or_imp, forall_eq] at hdep;have e15 := hb 4 15 rfl;rw [cc4 hdep] at e15;clear hb hb';have z0 := Ext.cell hX0 x0;have z1 := Ext.cell hX0 x1;have z2 := Ext.cell hX0 x2;have hfin := hK (.agg #[.bool s21, .slice A21 l21 c21, .slice B21 m21 k21]) _ ⟨hX0, fun h => cc0 (h.resolve_right (by decide)), fun h => cc1 (h.resolve_right (by decide)), fun h => cc2 (h.resolve_right (by decide)), fun h => cc3 (h.resolve_right (by decide)), fun h => cc4 (h.resolve_right (by decide)), fun _ => rfl, Loc.same ll6 ⟨fun h => h.resolve_right (by decide), .inl⟩ ⟨fun h => h.resolve_right (by decide), .inl⟩, Loc.same ll7 ⟨fun h => h.resolve_right (by decide), .inl⟩ ⟨fun h => h.resolve_right (by decide), .inl⟩, fun h h' => f6_7 (h.resolve_right (by decide)) (h'.resolve_right (by decide))⟩;clear hK cc0 cc1 cc2 cc3 cc4 cc5 ll6 ll7 f6_7;go_simp;exact hfin
  .
   intro done us W hJ hdep haft hnot b hb hb' K hK Q';obtain ⟨hX0, cc0, cc1, cc2, cc3, cc4, cc5, ll6, ll7, f6_7⟩ := hJ;simp only [List.getD_cons_succ, List.getD_cons_zero, List.mem_cons, List.not_mem_nil, or_false, forall_eq_or_imp, forall_eq] at haft;clear hb hb';have hfin := hK _ _ ⟨hX0.alloc _, fun h => cc0 (h.resolve_right (by decide)), fun h => cc1 (h.resolve_right (by decide)), fun h => cc2 (h.resolve_right (by decide)), fun h => cc3 (h.resolve_right (by decide)), fun h => cc4 (h.resolve_right (by decide)), fun h => cc5 (h.resolve_right (by decide)), Loc.new w W hX0 (fun h => h.elim haft (by decide)) (Ext.refl _), Loc.same (ll7.ext ((Ext.refl _).alloc _)) ⟨fun h => h.resolve_right (by decide), .inl⟩ ⟨fun h => h.resolve_right (by decide), .inl⟩, fun _ h => Ne.symm (ll7.far_new (h.resolve_right (by decide)))⟩;clear hK hX0 cc0 cc1 cc2 cc3 cc4 cc5 ll6 ll7 f6_7;go_simp;exact hfin
  .
   intro done us W hJ hdep haft hnot b hb hb' K hK Q';obtain ⟨hX0, cc0, cc1, cc2, cc3, cc4, cc5, ll6, ll7, f6_7⟩ := hJ;simp only [List.getD_cons_succ, List.getD_cons_zero, List.mem_cons, List.not_mem_nil, or_false, forall_eq_or_imp, forall_eq] at haft;clear hb hb';have hfin := hK _ _ ⟨hX0.alloc _, fun h => cc0 (h.resolve_right (by decide)), fun h => cc1 (h.resolve_right (by decide)), fun h => cc2 (h.resolve_right (by decide)), fun h => cc3 (h.resolve_right (by decide)), fun h => cc4 (h.resolve_right (by decide)), fun h => cc5 (h.resolve_right (by decide)), Loc.same (ll6.ext ((Ext.refl _).alloc _)) ⟨fun h => h.resolve_right (by decide), .inl⟩ ⟨fun h => h.resolve_right (by decide), .inl⟩, Loc.new w W hX0 (fun h => h.elim haft (by decide)) (Ext.refl _), fun h _ => ll6.far_new (h.resolve_right (by decide))⟩;clear hK hX0 cc0 cc1 cc2 cc3 cc4 cc5 ll6 ll7 f6_7;go_simp;exact hfin
  .
   intro done us W hJ hdep haft hnot b hb hb' K hK Q';obtain ⟨hX0, cc0, cc1, cc2, cc3, cc4, cc5, ll6, ll7, f6_7⟩ := hJ;simp only [List.getD_cons_succ, List.getD_cons_zero, List.mem_cons, List.not_mem_nil, or_false, forall_eq_or_imp, forall_eq] at hdep;have e4 := hb 6 4 rfl;have e13 := hb 2 13 rfl;rw [cc2 hdep.1] at e13;obtain ⟨g, eg, hg, hB⟩ := ll6.stored hdep.2 hnot;rw [eg] at e4;have q0 : W.cell? ⟨g, 0, none⟩ = some (.bool false) := hB.cell 0;have z0 : W.frozen? ⟨g, 0, none⟩ = false := hB.free 0;have q1 : W.cell? ⟨g, 1, none⟩ = some (.slice none 0 0) := hB.cell 1;have z1 : W.frozen? ⟨g, 1, none⟩ = false := hB.free 1;have q2 : W.cell? ⟨g, 2, none⟩ = some (.slice none 0 0) := hB.cell 2;have z2 : W.frozen? ⟨g, 2, none⟩ = false := hB.free 2;clear hb hb';have hfin := hK undef _ ⟨(((hX0.setCell hg _).setCell hg _).setCell hg _), fun h => cc0 (h.resolve_right (by decide)), fun h => cc1 (h.resolve_right (by decide)), fun h => cc2 (h.resolve_right (by decide)), fun h => cc3 (h.resolve_right (by decide)), fun h => cc4 (h.resolve_right (by decide)), fun h => cc5 (h.resolve_right (by decide)), ⟨fun _ => ⟨g, eg, hg, fun _ => (Blk.set (Blk.set (Blk.set hB 0 _) 1 _) 2 _), fun h => absurd (.inr rfl) h⟩⟩, Loc.same (Loc.keep (Loc.keep (Loc.keep ll7 (f := (fun h k => Ne.symm (f6_7 k h))) hdep.2 eg) (f := (fun h k => Ne.symm (f6_7 k h))) hdep.2 eg) (f := (fun h k => Ne.symm (f6_7 k h))) hdep.2 eg) ⟨fun h => h.resolve_right (by decide), .inl⟩ ⟨fun h => h.resolve_right (by decide), .inl⟩, fun h h' => f6_7 (h.resolve_right (by decide)) (h'.resolve_right (by decide))⟩;clear hK hX0 cc0 cc1 cc2 cc3 cc4 cc5 ll6 ll7 f6_7;go_simp;exact hfin
  .
   intro done us W hJ hdep haft hnot b hb hb' K hK Q';obtain ⟨hX0, cc0, cc1, cc2, cc3, cc4, cc5, ll6, ll7, f6_7⟩ := hJ;simp only [List.getD_cons_succ, List.getD_cons_zero, List.mem_cons, List.not_mem_nil, or_false, forall_eq_or_imp, forall_eq] at hdep;have e5 := hb 7 5 rfl;have e16 := hb 5 16 rfl;rw [cc5 hdep.1] at e16;obtain ⟨g, eg, hg, hB⟩ := ll7.stored hdep.2 hnot;rw [eg] at e5;have q0 : W.cell? ⟨g, 0, none⟩ = some (.bool false) := hB.cell 0;have z0 : W.frozen? ⟨g, 0, none⟩ = false := hB.free 0;have q1 : W.cell? ⟨g, 1, none⟩ = some (.slice none 0 0) := hB.cell 1;have z1 : W.frozen? ⟨g, 1, none⟩ = false := hB.free 1;have q2 : W.cell? ⟨g, 2, none⟩ = some (.slice none 0 0) := hB.cell 2;have z2 : W.frozen? ⟨g, 2, none⟩ = false := hB.free 2;clear hb hb';have hfin := hK undef _ ⟨(((hX0.setCell hg _).setCell hg _).setCell hg _), fun h => cc0 (h.resolve_right (by decide)), fun h => cc1 (h.resolve_right (by decide)), fun h => cc2 (h.resolve_right (by decide)), fun h => cc3 (h.resolve_right (by decide)), fun h => cc4 (h.resolve_right (by decide)), fun h => cc5 (h.resolve_right (by decide)), Loc.same (Loc.keep (Loc.keep (Loc.keep ll6 (f := f6_7) hdep.2 eg) (f := f6_7) hdep.2 eg) (f := f6_7) hdep.2 eg) ⟨fun h => h.resolve_right (by decide), .inl⟩ ⟨fun h => h.resolve_right (by decide), .inl⟩, ⟨fun _ => ⟨g, eg, hg, fun _ => (Blk.set (Blk.set (Blk.set hB 0 _) 1 _) 2 _), fun h => absurd (.inr rfl) h⟩⟩, fun h h' => f6_7 (h.resolve_right (by decide)) (h'.resolve_right (by decide))⟩;clear hK hX0 cc0 cc1 cc2 cc3 cc4 cc5 ll6 ll7 f6_7;go_simp;exact hfin
 .
  intro us W hJ;obtain ⟨hX0, cc0, cc1, cc2, cc3, cc4, cc5, ll6, ll7, f6_7⟩ := hJ;rw [show (ae Try.f110 1).drop 10 = [] by kernel_rfl];exact hend (us 0) (us 1) (us 2) (us 3) (us 4) (us 5) (us 6) (us 7) (us 8) (us 9) W (cc0 (show 0 < 10 by decide)) (cc1 (show 1 < 10 by decide)) (cc2 (show 2 < 10 by decide)) (cc3 (show 3 < 10 by decide)) (cc4 (show 4 < 10 by decide)) (cc5 (show 5 < 10 by decide)) (ll6.done (show 6 < 10 by decide) (show 8 < 10 by decide)) (ll7.done (show 7 < 10 by decide) (show 9 < 10 by decide)) (f6_7 (show 6 < 10 by decide) (show 7 < 10 by decide)) hX0
theorem dH (bq oq nq cq jq gl L : Nat) (s22 : Bool) (A22 B22 : Option Addr) (l22 c22 m22 k22 : Nat) (s23 : Bool) (A23 B23 : Option Addr) (l23 c23 m23 k23 : Nat) (q r : Rat) (sg : Int) (w : World) (x0 : w.cell? ⟨bq, oq + jq * 3, none⟩ = some (.bool s22)) (x1 : w.cell? ⟨bq, oq + jq * 3 + 1, none⟩ = some (.slice A22 l22 c22)) (x2 : w.cell? ⟨bq, oq + jq * 3 + 2, none⟩ = some (.slice B22 m22 k22)) (y0 : w.cell? ⟨gl, 0, none⟩ = some (.bool s23)) (y1 : w.cell? ⟨gl, 1, none⟩ = some (.slice A23 l23 c23)) (y2 : w.cell? ⟨gl, 2, none⟩ = some (.slice B23 m23 k23)) (hx : QZ w (.agg #[.bool s22, .slice A22 l22 c22, .slice B22 m22 k22]) q) (hy : QZ w (.agg #[.bool s23, .slice A23 l23 c23, .slice B23 m23 k23]) r) (fq : FitR q L) (fr : FitR r L) (hL : L + L + 1 <= 400000) (hsg : aU (q - r) = sg) (_hk0 : (0 : Int) <= (jq : Int)) (_hkn : (jq : Int) < (nq : Int)) : aS Try.prog Try.f110 5 7 30 w [23, 24, 25, 26, 27, 28, 29] [.c (.slice (some ⟨bq, oq, none⟩) nq cq), .c (.int .i64 (jq : Int)), .c (.pointer (some ⟨bq, oq + jq * 3, none⟩)), .c (.agg #[.bool s22, .slice A22 l22 c22, .slice B22 m22 k22]), .c (.agg #[.bool s23, .slice A23 l23 c23, .slice B23 m23 k23]), .c (.int .i64 sg), .c (.bool (decide (sg < 0)))] [(0, .slice (some ⟨bq, oq, none⟩) nq cq), (4, .pointer (some ⟨gl, 0, none⟩)), (6, .int .i64 (jq : Int))] := by
 refine aT [[], [], [0, 1], [2], [], [3, 4], [5]] (by kernel_rfl) (by kernel_rfl) rfl trivial ?_;simp only [ae, Try.f110, ab, Option.bind_some, Nat.reduceBEq, if_true, if_false, Bool.false_eq_true, Option.getD_some];simp only [List.take_succ_cons, List.take_zero]
 repeat' first | refine ⟨?_, ?_⟩ | fail
 all_goals first | (intro us W b hJ K hK0 hK Qz; simp only [aO, ay, aB, List.getD_cons_succ, List.getD_cons_zero]) | exact True.intro
 all_goals try (intros; go_simp; exact hK0 _ rfl)
 .
  intro e25 e0 e4 e6;have u0 := Ext.cell hJ x0;have u1 := Ext.cell hJ x1;have u2 := Ext.cell hJ x2;go_simp;exact hK0 _ rfl
 .
  intro e0 e4 e6;have u0 := Ext.cell hJ y0;have u1 := Ext.cell hJ y1;have u2 := Ext.cell hJ y2;go_simp;exact hK0 _ rfl
 .
  intro e26 e27 e0 e4 e6;go_simp;refine ((ey _ _ q r L L _ (QZ.ext hx hJ) (QZ.ext hy hJ) fq fr hL).mono (fun e w' h => by rw [hsg] at h; exact h)).mono ?_;rintro e w' ⟨rfl, hX⟩;exact hK _ _ rfl hX
theorem bL (bq oq nq cq jq gl L : Nat) (s22 : Bool) (A22 B22 : Option Addr) (l22 c22 m22 k22 : Nat) (s23 : Bool) (A23 B23 : Option Addr) (l23 c23 m23 k23 : Nat) (q r : Rat) (sg : Int) (w : World) (x0 : w.cell? ⟨bq, oq + jq * 3, none⟩ = some (.bool s22)) (x1 : w.cell? ⟨bq, oq + jq * 3 + 1, none⟩ = some (.slice A22 l22 c22)) (x2 : w.cell? ⟨bq, oq + jq * 3 + 2, none⟩ = some (.slice B22 m22 k22)) (y0 : w.cell? ⟨gl, 0, none⟩ = some (.bool s23)) (y1 : w.cell? ⟨gl, 1, none⟩ = some (.slice A23 l23 c23)) (y2 : w.cell? ⟨gl, 2, none⟩ = some (.slice B23 m23 k23)) (hx : QZ w (.agg #[.bool s22, .slice A22 l22 c22, .slice B22 m22 k22]) q) (hy : QZ w (.agg #[.bool s23, .slice A23 l23 c23, .slice B23 m23 k23]) r) (fq : FitR q L) (fr : FitR r L) (hL : L + L + 1 <= 400000) (hsg : aU (q - r) = sg) (_hk0 : (0 : Int) <= (jq : Int)) (_hkn : (jq : Int) < (nq : Int)) : aS Try.prog Try.f110 7 7 41 w [34, 35, 36, 37, 38, 39, 40] [.c (.slice (some ⟨bq, oq, none⟩) nq cq), .c (.int .i64 (jq : Int)), .c (.pointer (some ⟨bq, oq + jq * 3, none⟩)), .c (.agg #[.bool s22, .slice A22 l22 c22, .slice B22 m22 k22]), .c (.agg #[.bool s23, .slice A23 l23 c23, .slice B23 m23 k23]), .c (.int .i64 sg), .c (.bool (decide (0 < sg)))] [(0, .slice (some ⟨bq, oq, none⟩) nq cq), (5, .pointer (some ⟨gl, 0, none⟩)), (6, .int .i64 (jq : Int))] := by
 refine aT [[], [], [0, 1], [2], [], [3, 4], [5]] (by kernel_rfl) (by kernel_rfl) rfl trivial ?_;simp only [ae, Try.f110, ab, Option.bind_some, Nat.reduceBEq, if_true, if_false, Bool.false_eq_true, Option.getD_some];simp only [List.take_succ_cons, List.take_zero]
 repeat' first | refine ⟨?_, ?_⟩ | fail
 all_goals first | (intro us W b hJ K hK0 hK Qz; simp only [aO, ay, aB, List.getD_cons_succ, List.getD_cons_zero]) | exact True.intro
 all_goals try (intros; go_simp; exact hK0 _ rfl)
 .
  intro e36 e0 e5 e6;have u0 := Ext.cell hJ x0;have u1 := Ext.cell hJ x1;have u2 := Ext.cell hJ x2;go_simp;exact hK0 _ rfl
 .
  intro e0 e5 e6;have u0 := Ext.cell hJ y0;have u1 := Ext.cell hJ y1;have u2 := Ext.cell hJ y2;go_simp;exact hK0 _ rfl
 .
  intro e37 e38 e0 e5 e6;go_simp;refine ((ey _ _ q r L L _ (QZ.ext hx hJ) (QZ.ext hy hJ) fq fr hL).mono (fun e w' h => by rw [hsg] at h; exact h)).mono ?_;rintro e w' ⟨rfl, hX⟩;exact hK _ _ rfl hX
theorem eC {qs : List Rat} {k : Nat} {q a : Rat} (hq : qs[k + 1]? = some q) (ha : bl qs k = a) : bl qs (k + 1) = if aU (q - a) < 0 then q else a := by
 simp only [bl, List.getD, hq, Option.getD_some, ha]
theorem dI {qs : List Rat} {k : Nat} {q a : Rat} (hq : qs[k + 1]? = some q) (ha : aK qs k = a) : aK qs (k + 1) = if 0 < aU (q - a) then q else a := by
 simp only [aK, List.getD, hq, Option.getD_some, ha]
theorem j4 (A : Option Addr) (p cq L : Nat) (qs : List Rat) (w : World) (hq : QsAt w A (p + 1) qs) (_hp : p <= 1000) (hf : ∀ q ∈ qs, FitR q L) (hL : L + L + 1 <= 400000) (hlo : aZ (bl qs p).floor = 0) (hhi : aZ (-(-(aK qs p)).floor) = 0) :
  Calls Try.prog 110 #[.slice A (p + 1) cq] w (lL w (.agg #[.int .i64 (bl qs p).floor, .int .i64 (-(-(aK qs p)).floor)]) 0) := by
 have HQ := hid hq;have HF := hid hf;clear hq hf;have HL : Hid (qs.length = p + 1) := HQ.out.1;obtain ⟨q0, hq0⟩ : ∃ q, qs[0]? = some q := ⟨qs[0]'(by rw [HL.out]; omega), List.getElem?_eq_getElem _⟩;obtain ⟨bq, oq, s21, A21, l21, c21, B21, m21, k21, rfl, x0, x1, x2, hz⟩ := HQ.out.2 0 q0 hq0;simp only [Nat.zero_mul, Nat.add_zero] at x0 x1 x2;have HZ := hid hz;have HQ0 := hid hq0;have hn1 : (0 : Int) < ((p + 1 : Nat) : Int) := by omega
 clear hz hq0;obtain ⟨lo, hlw⟩ : ∃ q, bl qs p = q := ⟨_, rfl⟩;obtain ⟨hi, hhw⟩ : ∃ q, aK qs p = q := ⟨_, rfl⟩;have HLW := hid hlw;have HHW := hid hhw;rw [hlw] at hlo;rw [hhw] at hhi;rw [hlw, hhw];obtain ⟨zl, hzl⟩ : ∃ z, lo.floor = z := ⟨_, rfl⟩;obtain ⟨zh, hzh⟩ : ∃ z, -(-hi).floor = z := ⟨_, rfl⟩;have HZL := hid hzl;have HZH := hid hzh;rw [hzl] at hlo;rw [hzh] at hhi;rw [hzl, hzh];obtain ⟨nl, hnl⟩ : ∃ z, eB zl = z := ⟨_, rfl⟩;obtain ⟨nh, hnh⟩ : ∃ z, eB zh = z := ⟨_, rfl⟩;obtain ⟨eh, heh⟩ : ∃ z, aZ zh = z := ⟨_, rfl⟩;have HNL := hid hnl;have HNH := hid hnh;have HEH := hid heh;have HLO := hid hlo;have HHI := hid hhi;have HVL : Hid (zl = nl) := by rw [<- hnl]; exact (jl hlo).symm
 have HVH : Hid (zh = nh) := by rw [<- hnh]; exact (jl hhi).symm
 clear hlw hhw hzl hzh hnl hnh heh hlo hhi;obtain ⟨hXe, KR⟩ := xB1 w 31 #[.int .i64 0, .int .i64 0];have y0 := hXe.cell x0;have y1 := hXe.cell x1;have y2 := hXe.cell x2;go_enter Try.func110, Try.ntmps110
 go_wp2_with fail
 generalize (w.alloc _) = w1 at hXe y0 y1 y2 KR |-;have HX := hid hXe;clear hXe;replace HZ := hid (HZ.out.ext HX.out);replace HQ := hid (HQ.out.ext HX.out)
 go_upto_region 1 with (fail)
 refine dG bq oq (p + 1) cq s21 A21 B21 l21 c21 m21 k21 w1 y0 y1 y2 (by omega) hn1 _ _ (by simp) rfl ?_;rintro xv0 xv1 xv2 xv3 xv4 xv5 xv6 xv7 xv8 xv9 w2 rfl rfl rfl rfl rfl rfl ⟨gl, rfl, hgl, hBl⟩ ⟨gh, rfl, hgh, hBh⟩ hne hXW;simp only [ae, Try.f110, ab, Option.bind_some, Nat.reduceBEq, if_true, if_false, Bool.false_eq_true, Option.getD_some, List.drop_succ_cons, List.drop_zero];simp only [Act.put, List.setIfInBounds_toArray, List.set_cons_succ, List.set_cons_zero]
 have HBQ : Hid (bq ≠ gl /\ bq ≠ gh) := by
  have hb : bq < w.heap.size := World.block_lt_of_cell? w _ x0;have hz1 := HX.out.size;exact ⟨by omega, by omega⟩
 have hll : gl ≠ gh := by
  rintro rfl;exact hne rfl
 have zr := KR.out.lt;have hgr : w.heap.size ≠ gl /\ w.heap.size ≠ gh := by omega
 obtain ⟨hgr1, hgr2⟩ := hgr;have hwl : w.heap.size <= gl := by omega
 have hwh : w.heap.size <= gh := by omega
 clear y0 y1 y2 x0 x1 x2 hne hgl hgh;replace HX := xT HX hXW;replace HZ := hid (HZ.out.ext hXW);replace HQ := hid (HQ.out.ext hXW);replace KR := xE KR hXW;clear hXW;have KL := hid hBl;have KH := hid hBh;clear hBl hBh
 go_wp2_with fail
 go_loopg [6] p (fun g' s6 wr => ∃ (k : Nat) (s24 : Bool) (A24 B24 : Option Addr) (l24 c24 m24 k24 : Nat) (s25 : Bool) (A25 B25 : Option Addr) (l25 c25 m25 k25 : Nat) (a z : Rat), g' = p - k /\ k <= p /\ s6 = .int .i64 ((k : Int) + 1) /\ Hid (Blk wr gl 65 #[.bool s24, .slice A24 l24 c24, .slice B24 m24 k24]) /\ Hid (Blk wr gh 65 #[.bool s25, .slice A25 l25 c25, .slice B25 m25 k25]) /\ Hid (QZ wr (.agg #[.bool s24, .slice A24 l24 c24, .slice B24 m24 k24]) a) /\ Hid (QZ wr (.agg #[.bool s25, .slice A25 l25 c25, .slice B25 m25 k25]) z) /\ Hid (bl qs k = a) /\ Hid (aK qs k = z) /\ Hid (Blk wr w.heap.size 31 #[.int .i64 0, .int .i64 0]) /\ Hid (QsAt wr (some ⟨bq, oq, none⟩) (p + 1) qs) /\ Hid (Ext w wr))
 case atStart => exact ⟨0, s21, A21, B21, l21, c21, m21, k21, s21, A21, B21, l21, c21, m21, k21, q0, q0, rfl, by omega, rfl, KL.out, KH.out, HZ.out, HZ.out, by show _ = _; simp [bl, List.getD, HQ0.out], by show _ = _; simp [aK, List.getD, HQ0.out], KR.out, HQ.out, HX.out⟩
 case round =>
  clear KL KH KR HX HQ HZ;obtain ⟨k, s24, A24, B24, l24, c24, m24, k24, s25, A25, B25, l25, c25, m25, k25, a, z, rfl, hk, rfl, KL, KH, HA, HZZ, HAL, HAH, KR, HQ, HX⟩ := hrel
  by_cases hlt : k < p
  .
   obtain ⟨q, hq⟩ : ∃ q, qs[k + 1]? = some q := ⟨qs[k + 1]'(by rw [HL.out]; omega), List.getElem?_eq_getElem _⟩;have HLN := hid (eC hq HAL.out);have HHN := hid (dI hq HAH.out);obtain ⟨bq', oq', s26, A26, l26, c26, B26, m26, k26, hA, x0, x1, x2, hz⟩ := HQ.out.2 (k + 1) q hq;injection hA with hA;injection hA with e1 e2;subst e1 e2;have HZ := hid hz;have hkI : ((k + 1 : Nat) : Int) = (k : Int) + 1 := by omega
   have hfq : FitR q L := HF.out _ (List.mem_of_getElem? hq);have hfa : FitR a L := by rw [<- HAL.out]; exact HF.out _ (bR (by rw [HL.out]; omega))
   have hfz : FitR z L := by rw [<- HAH.out]; exact HF.out _ (bA (by rw [HL.out]; omega))
   have HFQ := hid hfq;have HFA := hid hfa;have HFZ := hid hfz;have hk0 : (0 : Int) <= ((k + 1 : Nat) : Int) := by omega
   have hkn : ((k + 1 : Nat) : Int) < ((p + 1 : Nat) : Int) := by omega
   obtain ⟨sa, hsa⟩ : ∃ s, aU (q - a) = s := ⟨_, rfl⟩;obtain ⟨sz, hsz⟩ : ∃ s, aU (q - z) = s := ⟨_, rfl⟩;rw [hsa] at HLN;rw [hsz] at HHN;have HSA := hid hsa;have HSZ := hid hsz;have HI := hid hkI;have HK0 := hid hk0;have HKN := hid hkn;have X0 := hid x0;have X1 := hid x1;have X2 := hid x2;clear hz hq hfq hfa hfz hsa hsz hk0 hkn x0 x1 x2;rw [<- HI.out];clear hkI
   go_upto_region 5 with (fail)
   refine dH bq oq (p + 1) cq (k + 1) gl L s26 A26 B26 l26 c26 m26 k26 s24 A24 B24 l24 c24 m24 k24 q a sa wr X0.out X1.out X2.out (KL.out.cell 0) (KL.out.cell 1) (KL.out.cell 2) HZ.out HA.out HFQ.out HFA.out hL HSA.out HK0.out HKN.out _ _ (by simp) ⟨rfl, rfl, rfl, trivial⟩ ?_;rintro w3 hXW;simp only [EndK, ae, Try.f110, ab, Option.bind_some, Nat.reduceBEq, if_true, if_false, Bool.false_eq_true, Option.getD_some, List.drop_succ_cons, List.drop_zero];simp only [Act.put, List.setIfInBounds_toArray, List.set_cons_succ, List.set_cons_zero];replace KL := xE KL hXW;replace KH := xE KH hXW;replace KR := xE KR hXW;replace HA := hid (HA.out.ext hXW);replace HZZ := hid (HZZ.out.ext hXW);replace HZ := hid (HZ.out.ext hXW);replace HQ := hid (HQ.out.ext hXW);replace HX := xT HX hXW;replace X0 := hid (hXW.cell X0.out);replace X1 := hid (hXW.cell X1.out);replace X2 := hid (hXW.cell X2.out);clear hXW
   by_cases hsa : sa < 0
   .
    rw [if_pos hsa] at HLN;have f0 : w3.frozen? ⟨gl, 0, none⟩ = false := KL.out.free 0;have f1 : w3.frozen? ⟨gl, 1, none⟩ = false := KL.out.free 1;have f2 : w3.frozen? ⟨gl, 2, none⟩ = false := KL.out.free 2;have t0 := KL.out.cell 0;have t1 := KL.out.cell 1;have t2 := KL.out.cell 2;have x0 := X0.out;have x1 := X1.out;have x2 := X2.out;have hk0 := HK0.out;have hkn := HKN.out
    go_upto_region 7 with (fail)
    clear f0 f1 f2 t0 t1 t2 x0 x1 x2 hk0 hkn;have hNI := NoInts.three KL.out;have hXs : Ext w (((w3.setCell ⟨gl, 0, none⟩ (.bool s26)).setCell ⟨gl, 1, none⟩ (.slice A26 l26 c26)).setCell ⟨gl, 2, none⟩ (.slice B26 m26 k26)) := ((HX.out.setCell hwl _).setCell hwl _).setCell hwl _;have kL : Blk (((w3.setCell ⟨gl, 0, none⟩ (.bool s26)).setCell ⟨gl, 1, none⟩ (.slice A26 l26 c26)).setCell ⟨gl, 2, none⟩ (.slice B26 m26 k26)) gl 65 #[.bool s26, .slice A26 l26 c26, .slice B26 m26 k26] := ((KL.out.set 0 _).set 1 _).set 2 _;have kH : Blk (((w3.setCell ⟨gl, 0, none⟩ (.bool s26)).setCell ⟨gl, 1, none⟩ (.slice A26 l26 c26)).setCell ⟨gl, 2, none⟩ (.slice B26 m26 k26)) gh 65 #[.bool s25, .slice A25 l25 c25, .slice B25 m25 k25] := ((KH.out.far (Ne.symm hll) _).far (Ne.symm hll) _).far (Ne.symm hll) _;have kR : Blk (((w3.setCell ⟨gl, 0, none⟩ (.bool s26)).setCell ⟨gl, 1, none⟩ (.slice A26 l26 c26)).setCell ⟨gl, 2, none⟩ (.slice B26 m26 k26)) w.heap.size 31 #[.int .i64 0, .int .i64 0] := ((KR.out.far hgr1 _).far hgr1 _).far hgr1 _;have hA := QZ.past' HZ.out hNI (b := s26) (A := A26) (l := l26) (c := c26) (B := B26) (m := m26) (k := k26);have hZ := QZ.past' HZZ.out hNI (b := s26) (A := A26) (l := l26) (c := c26) (B := B26) (m := m26) (k := k26);have hQ : QsAt (((w3.setCell ⟨gl, 0, none⟩ (.bool s26)).setCell ⟨gl, 1, none⟩ (.slice A26 l26 c26)).setCell ⟨gl, 2, none⟩ (.slice B26 m26 k26)) (some ⟨bq, oq, none⟩) (p + 1) qs := HQ.out.past3 (x := gl) hNI (HBQ.out.1) s26 A26 B26 l26 c26 m26 k26;have y0 : (((w3.setCell ⟨gl, 0, none⟩ (.bool s26)).setCell ⟨gl, 1, none⟩ (.slice A26 l26 c26)).setCell ⟨gl, 2, none⟩ (.slice B26 m26 k26)).cell? ⟨bq, oq + (k + 1) * 3, none⟩ = some (.bool s26) := aG X0.out HBQ.out.1;have y1 : (((w3.setCell ⟨gl, 0, none⟩ (.bool s26)).setCell ⟨gl, 1, none⟩ (.slice A26 l26 c26)).setCell ⟨gl, 2, none⟩ (.slice B26 m26 k26)).cell? ⟨bq, oq + (k + 1) * 3 + 1, none⟩ = some (.slice A26 l26 c26) := aG X1.out HBQ.out.1;have y2 : (((w3.setCell ⟨gl, 0, none⟩ (.bool s26)).setCell ⟨gl, 1, none⟩ (.slice A26 l26 c26)).setCell ⟨gl, 2, none⟩ (.slice B26 m26 k26)).cell? ⟨bq, oq + (k + 1) * 3 + 2, none⟩ = some (.slice B26 m26 k26) := aG X2.out HBQ.out.1;generalize (((w3.setCell _ _).setCell _ _).setCell _ _) = w4 at hXs kL kH kR hA hZ hQ y0 y1 y2 |-;clear HX KL KH KR HA HZZ HQ HZ X0 X1 X2 hNI;have HX := hid hXs;have KL := hid kL;have KH := hid kH;have KR := hid kR;have HA := hid hA;have HZ := hid hA;have HZZ := hid hZ;have HQ := hid hQ;have X0 := hid y0;have X1 := hid y1;have X2 := hid y2;clear hXs kL kH hA hZ hQ y0 y1 y2
    go_upto_region 7 with (fail)
    refine bL bq oq (p + 1) cq (k + 1) gh L s26 A26 B26 l26 c26 m26 k26 s25 A25 B25 l25 c25 m25 k25 q z sz w4 X0.out X1.out X2.out (KH.out.cell 0) (KH.out.cell 1) (KH.out.cell 2) HZ.out HZZ.out HFQ.out HFZ.out hL HSZ.out HK0.out HKN.out _ _ (by simp) ⟨rfl, rfl, rfl, trivial⟩ ?_;rintro w5 hXW;simp only [EndK, ae, Try.f110, ab, Option.bind_some, Nat.reduceBEq, if_true, if_false, Bool.false_eq_true, Option.getD_some, List.drop_succ_cons, List.drop_zero];simp only [Act.put, List.setIfInBounds_toArray, List.set_cons_succ, List.set_cons_zero];replace KL := xE KL hXW;replace KH := xE KH hXW;replace KR := xE KR hXW;replace HA := hid (HA.out.ext hXW);replace HZZ := hid (HZZ.out.ext hXW);replace HZ := hid (HZ.out.ext hXW);replace HQ := hid (HQ.out.ext hXW);replace HX := xT HX hXW;replace X0 := hid (hXW.cell X0.out);replace X1 := hid (hXW.cell X1.out);replace X2 := hid (hXW.cell X2.out);clear hXW
    by_cases hsz : 0 < sz
    .
     rw [if_pos hsz] at HHN;have f0 : w5.frozen? ⟨gh, 0, none⟩ = false := KH.out.free 0;have f1 : w5.frozen? ⟨gh, 1, none⟩ = false := KH.out.free 1;have f2 : w5.frozen? ⟨gh, 2, none⟩ = false := KH.out.free 2;have t0 := KH.out.cell 0;have t1 := KH.out.cell 1;have t2 := KH.out.cell 2;have x0 := X0.out;have x1 := X1.out;have x2 := X2.out;have hk0 := HK0.out;have hkn := HKN.out;have hNI := hid (NoInts.three KH.out);have HXs : Hid (Ext w (((w5.setCell ⟨gh, 0, none⟩ (.bool s26)).setCell ⟨gh, 1, none⟩ (.slice A26 l26 c26)).setCell ⟨gh, 2, none⟩ (.slice B26 m26 k26))) := ((HX.out.setCell hwh _).setCell hwh _).setCell hwh _;have kH : Hid (Blk (((w5.setCell ⟨gh, 0, none⟩ (.bool s26)).setCell ⟨gh, 1, none⟩ (.slice A26 l26 c26)).setCell ⟨gh, 2, none⟩ (.slice B26 m26 k26)) gh 65 #[.bool s26, .slice A26 l26 c26, .slice B26 m26 k26]) := ((KH.out.set 0 _).set 1 _).set 2 _;have kL : Hid (Blk (((w5.setCell ⟨gh, 0, none⟩ (.bool s26)).setCell ⟨gh, 1, none⟩ (.slice A26 l26 c26)).setCell ⟨gh, 2, none⟩ (.slice B26 m26 k26)) gl 65 #[.bool s26, .slice A26 l26 c26, .slice B26 m26 k26]) := ((KL.out.far hll _).far hll _).far hll _;have kR : Hid (Blk (((w5.setCell ⟨gh, 0, none⟩ (.bool s26)).setCell ⟨gh, 1, none⟩ (.slice A26 l26 c26)).setCell ⟨gh, 2, none⟩ (.slice B26 m26 k26)) w.heap.size 31 #[.int .i64 0, .int .i64 0]) := ((KR.out.far hgr2 _).far hgr2 _).far hgr2 _;have hQ : Hid (QsAt (((w5.setCell ⟨gh, 0, none⟩ (.bool s26)).setCell ⟨gh, 1, none⟩ (.slice A26 l26 c26)).setCell ⟨gh, 2, none⟩ (.slice B26 m26 k26)) (some ⟨bq, oq, none⟩) (p + 1) qs) := HQ.out.past3 (x := gh) hNI.out (HBQ.out.2) s26 A26 B26 l26 c26 m26 k26;go_wp2;go_roundg (p - (k + 1))
     case rel => exact ⟨k + 1, s26, A26, B26, l26, c26, m26, k26, s26, A26, B26, l26, c26, m26, k26, q, q, rfl, by omega, by go_num, kL.out, kH.out, QZ.past' HZ.out hNI.out, QZ.past' HZ.out hNI.out, HLN.out, HHN.out, kR.out, hQ.out, HXs.out⟩
     case measure => omega

    .
     rw [if_neg hsz] at HHN;go_wp2;go_roundg (p - (k + 1))
     case rel => exact ⟨k + 1, s26, A26, B26, l26, c26, m26, k26, s25, A25, B25, l25, c25, m25, k25, q, z, rfl, by omega, by go_num, KL.out, KH.out, HA.out, HZZ.out, HLN.out, HHN.out, KR.out, HQ.out, HX.out⟩
     case measure => omega

   .
    rw [if_neg hsa] at HLN
    go_upto_region 7 with (fail)
    refine bL bq oq (p + 1) cq (k + 1) gh L s26 A26 B26 l26 c26 m26 k26 s25 A25 B25 l25 c25 m25 k25 q z sz w3 X0.out X1.out X2.out (KH.out.cell 0) (KH.out.cell 1) (KH.out.cell 2) HZ.out HZZ.out HFQ.out HFZ.out hL HSZ.out HK0.out HKN.out _ _ (by simp) ⟨rfl, rfl, rfl, trivial⟩ ?_;rintro w5 hXW;simp only [EndK, ae, Try.f110, ab, Option.bind_some, Nat.reduceBEq, if_true, if_false, Bool.false_eq_true, Option.getD_some, List.drop_succ_cons, List.drop_zero];simp only [Act.put, List.setIfInBounds_toArray, List.set_cons_succ, List.set_cons_zero];replace KL := xE KL hXW;replace KH := xE KH hXW;replace KR := xE KR hXW;replace HA := hid (HA.out.ext hXW);replace HZZ := hid (HZZ.out.ext hXW);replace HZ := hid (HZ.out.ext hXW);replace HQ := hid (HQ.out.ext hXW);replace HX := xT HX hXW;replace X0 := hid (hXW.cell X0.out);replace X1 := hid (hXW.cell X1.out);replace X2 := hid (hXW.cell X2.out);clear hXW
    by_cases hsz : 0 < sz
    .
     rw [if_pos hsz] at HHN;have f0 : w5.frozen? ⟨gh, 0, none⟩ = false := KH.out.free 0;have f1 : w5.frozen? ⟨gh, 1, none⟩ = false := KH.out.free 1;have f2 : w5.frozen? ⟨gh, 2, none⟩ = false := KH.out.free 2;have t0 := KH.out.cell 0;have t1 := KH.out.cell 1;have t2 := KH.out.cell 2;have x0 := X0.out;have x1 := X1.out;have x2 := X2.out;have hk0 := HK0.out;have hkn := HKN.out;have hNI := hid (NoInts.three KH.out);have HXs : Hid (Ext w (((w5.setCell ⟨gh, 0, none⟩ (.bool s26)).setCell ⟨gh, 1, none⟩ (.slice A26 l26 c26)).setCell ⟨gh, 2, none⟩ (.slice B26 m26 k26))) := ((HX.out.setCell hwh _).setCell hwh _).setCell hwh _;have kH : Hid (Blk (((w5.setCell ⟨gh, 0, none⟩ (.bool s26)).setCell ⟨gh, 1, none⟩ (.slice A26 l26 c26)).setCell ⟨gh, 2, none⟩ (.slice B26 m26 k26)) gh 65 #[.bool s26, .slice A26 l26 c26, .slice B26 m26 k26]) := ((KH.out.set 0 _).set 1 _).set 2 _;have kL : Hid (Blk (((w5.setCell ⟨gh, 0, none⟩ (.bool s26)).setCell ⟨gh, 1, none⟩ (.slice A26 l26 c26)).setCell ⟨gh, 2, none⟩ (.slice B26 m26 k26)) gl 65 #[.bool s24, .slice A24 l24 c24, .slice B24 m24 k24]) := ((KL.out.far hll _).far hll _).far hll _;have kR : Hid (Blk (((w5.setCell ⟨gh, 0, none⟩ (.bool s26)).setCell ⟨gh, 1, none⟩ (.slice A26 l26 c26)).setCell ⟨gh, 2, none⟩ (.slice B26 m26 k26)) w.heap.size 31 #[.int .i64 0, .int .i64 0]) := ((KR.out.far hgr2 _).far hgr2 _).far hgr2 _;have hQ : Hid (QsAt (((w5.setCell ⟨gh, 0, none⟩ (.bool s26)).setCell ⟨gh, 1, none⟩ (.slice A26 l26 c26)).setCell ⟨gh, 2, none⟩ (.slice B26 m26 k26)) (some ⟨bq, oq, none⟩) (p + 1) qs) := HQ.out.past3 (x := gh) hNI.out (HBQ.out.2) s26 A26 B26 l26 c26 m26 k26;go_wp2;go_roundg (p - (k + 1))
     case rel => exact ⟨k + 1, s24, A24, B24, l24, c24, m24, k24, s26, A26, B26, l26, c26, m26, k26, a, q, rfl, by omega, by go_num, kL.out, kH.out, QZ.past' HA.out hNI.out, QZ.past' HZ.out hNI.out, HLN.out, HHN.out, kR.out, hQ.out, HXs.out⟩
     case measure => omega

    .
     rw [if_neg hsz] at HHN;go_wp2;go_roundg (p - (k + 1))
     case rel => exact ⟨k + 1, s24, A24, B24, l24, c24, m24, k24, s25, A25, B25, l25, c25, m25, k25, a, z, rfl, by omega, by go_num, KL.out, KH.out, HA.out, HZZ.out, HLN.out, HHN.out, KR.out, HQ.out, HX.out⟩
     case measure => omega
  .
   obtain rfl : p = k := by omega
   have ea : a = lo := by rw [<- HAL.out, HLW.out]
   have ez : z = hi := by rw [<- HAH.out, HHW.out]
   subst ea ez;have HFA : Hid (FitR a L) := by have h := HF.out _ (bR (qs := qs) (k := p) (by rw [HL.out]; omega)); rw [HAL.out] at h; exact h
   have HFZ : Hid (FitR z L) := by have h := HF.out _ (bA (qs := qs) (k := p) (by rw [HL.out]; omega)); rw [HAH.out] at h; exact h
   clear HAL HAH HQ hlt;have cL0 : wr.cell? ⟨gl, 0, none⟩ = some (.bool s24) := KL.out.cell 0;have cL1 : wr.cell? ⟨gl, 1, none⟩ = some (.slice A24 l24 c24) := KL.out.cell 1;have cL2 : wr.cell? ⟨gl, 2, none⟩ = some (.slice B24 m24 k24) := KL.out.cell 2
   go_wp2_with fail
   clear cL0 cL1 cL2;refine (bQ _ a L _ HA.out HFA.out (by omega)).mono ?_;rw [HZL.out];rintro e w11 ⟨v30, rfl, hv, hX⟩;replace hX : Ext wr w11 := by with_reducible exact hX
   replace HX := xT HX hX;replace HA := hid (HA.out.ext hX);replace HZZ := hid (HZZ.out.ext hX);replace KR := xE KR hX;replace KL := xE KL hX;replace KH := xE KH hX;clear hX;have HV := hid hv;clear hv
   go_wp2_with fail
   refine (cm HV.out).mono ?_;rw [HNL.out, HLO.out];rintro e w12 ⟨rfl, hX⟩;replace hX : Ext w11 w12 := by with_reducible exact hX
   replace HX := xT HX hX;replace HA := hid (HA.out.ext hX);replace HZZ := hid (HZZ.out.ext hX);replace HV := hid (HV.out.ext hX);replace KR := xE KR hX;replace KL := xE KL hX;replace KH := xE KH hX;clear hX HV;have cH0 : w12.cell? ⟨gh, 0, none⟩ = some (.bool s25) := KH.out.cell 0;have cH1 : w12.cell? ⟨gh, 1, none⟩ = some (.slice A25 l25 c25) := KH.out.cell 1;have cH2 : w12.cell? ⟨gh, 2, none⟩ = some (.slice B25 m25 k25) := KH.out.cell 2
   go_wp2_with fail
   clear cH0 cH1 cH2;refine (cR _ z L _ HZZ.out HFZ.out (by omega)).mono ?_;rw [HZH.out];rintro e w13 ⟨v31, rfl, hv, hX⟩;replace hX : Ext w12 w13 := by with_reducible exact hX
   replace HX := xT HX hX;replace HA := hid (HA.out.ext hX);replace HZZ := hid (HZZ.out.ext hX);replace KR := xE KR hX;replace KL := xE KL hX;replace KH := xE KH hX;clear hX;have HV := hid hv;clear hv
   go_wp2_with fail
   refine (cm HV.out).mono ?_;rw [HNH.out, HHI.out];rintro e w14 ⟨rfl, hX⟩;replace hX : Ext w13 w14 := by with_reducible exact hX
   replace HX := xT HX hX;replace HA := hid (HA.out.ext hX);replace HZZ := hid (HZZ.out.ext hX);replace HV := hid (HV.out.ext hX);replace KR := xE KR hX;replace KL := xE KL hX;replace KH := xE KH hX;clear hX;have cR0 : w14.cell? ⟨w.heap.size, 0, none⟩ = some (.int .i64 0) := KR.out.cell 0;have fR0 : w14.frozen? ⟨w.heap.size, 0, none⟩ = false := KR.out.free 0;have cR1 : w14.cell? ⟨w.heap.size, 1, none⟩ = some (.int .i64 0) := KR.out.cell 1;have fR1 : w14.frozen? ⟨w.heap.size, 1, none⟩ = false := KR.out.free 1;go_wp2;refine bodyPost_ret (v := .tuple #[.agg #[.int .i64 nl, .int .i64 nh], .int .i64 0]) (by simp [results, Try.results110, go_sem, *]) rfl ?_;exact ⟨by rw [HVL.out, HVH.out], HX.out.two (Nat.le_refl _) _ _⟩
theorem j5 (A : Option Addr) (p cq L : Nat) (qs : List Rat) (w : World) (hq : QsAt w A (p + 1) qs) (_hp : p <= 1000) (hf : ∀ q ∈ qs, FitR q L) (hL : L + L + 1 <= 400000) (hlo : aZ (bl qs p).floor = 3) :
  Calls Try.prog 110 #[.slice A (p + 1) cq] w (lL w (.agg #[.int .i64 0, .int .i64 0]) 3) := by
 have HQ := hid hq;have HF := hid hf;clear hq hf;have HL : Hid (qs.length = p + 1) := HQ.out.1;obtain ⟨q0, hq0⟩ : ∃ q, qs[0]? = some q := ⟨qs[0]'(by rw [HL.out]; omega), List.getElem?_eq_getElem _⟩;obtain ⟨bq, oq, s21, A21, l21, c21, B21, m21, k21, rfl, x0, x1, x2, hz⟩ := HQ.out.2 0 q0 hq0;simp only [Nat.zero_mul, Nat.add_zero] at x0 x1 x2;have HZ := hid hz;have HQ0 := hid hq0;have hn1 : (0 : Int) < ((p + 1 : Nat) : Int) := by omega
 clear hz hq0;obtain ⟨lo, hlw⟩ : ∃ q, bl qs p = q := ⟨_, rfl⟩;obtain ⟨hi, hhw⟩ : ∃ q, aK qs p = q := ⟨_, rfl⟩;have HLW := hid hlw;have HHW := hid hhw;rw [hlw] at hlo;obtain ⟨zl, hzl⟩ : ∃ z, lo.floor = z := ⟨_, rfl⟩;obtain ⟨zh, hzh⟩ : ∃ z, -(-hi).floor = z := ⟨_, rfl⟩;have HZL := hid hzl;have HZH := hid hzh;rw [hzl] at hlo;obtain ⟨nl, hnl⟩ : ∃ z, eB zl = z := ⟨_, rfl⟩;obtain ⟨nh, hnh⟩ : ∃ z, eB zh = z := ⟨_, rfl⟩;obtain ⟨eh, heh⟩ : ∃ z, aZ zh = z := ⟨_, rfl⟩;have HNL := hid hnl;have HNH := hid hnh;have HEH := hid heh;have HLO := hid hlo;clear hlw hhw hzl hzh hnl hnh heh hlo;obtain ⟨hXe, KR⟩ := xB1 w 31 #[.int .i64 0, .int .i64 0];have y0 := hXe.cell x0;have y1 := hXe.cell x1;have y2 := hXe.cell x2;go_enter Try.func110, Try.ntmps110
 go_wp2_with fail
 generalize (w.alloc _) = w1 at hXe y0 y1 y2 KR |-;have HX := hid hXe;clear hXe;replace HZ := hid (HZ.out.ext HX.out);replace HQ := hid (HQ.out.ext HX.out)
 go_upto_region 1 with (fail)
 refine dG bq oq (p + 1) cq s21 A21 B21 l21 c21 m21 k21 w1 y0 y1 y2 (by omega) hn1 _ _ (by simp) rfl ?_;rintro xv0 xv1 xv2 xv3 xv4 xv5 xv6 xv7 xv8 xv9 w2 rfl rfl rfl rfl rfl rfl ⟨gl, rfl, hgl, hBl⟩ ⟨gh, rfl, hgh, hBh⟩ hne hXW;simp only [ae, Try.f110, ab, Option.bind_some, Nat.reduceBEq, if_true, if_false, Bool.false_eq_true, Option.getD_some, List.drop_succ_cons, List.drop_zero];simp only [Act.put, List.setIfInBounds_toArray, List.set_cons_succ, List.set_cons_zero]
 have HBQ : Hid (bq ≠ gl /\ bq ≠ gh) := by
  have hb : bq < w.heap.size := World.block_lt_of_cell? w _ x0;have hz1 := HX.out.size;exact ⟨by omega, by omega⟩
 have hll : gl ≠ gh := by
  rintro rfl;exact hne rfl
 have zr := KR.out.lt;have hgr : w.heap.size ≠ gl /\ w.heap.size ≠ gh := by omega
 obtain ⟨hgr1, hgr2⟩ := hgr;have hwl : w.heap.size <= gl := by omega
 have hwh : w.heap.size <= gh := by omega
 clear y0 y1 y2 x0 x1 x2 hne hgl hgh;replace HX := xT HX hXW;replace HZ := hid (HZ.out.ext hXW);replace HQ := hid (HQ.out.ext hXW);replace KR := xE KR hXW;clear hXW;have KL := hid hBl;have KH := hid hBh;clear hBl hBh
 go_wp2_with fail
 go_loopg [6] p (fun g' s6 wr => ∃ (k : Nat) (s24 : Bool) (A24 B24 : Option Addr) (l24 c24 m24 k24 : Nat) (s25 : Bool) (A25 B25 : Option Addr) (l25 c25 m25 k25 : Nat) (a z : Rat), g' = p - k /\ k <= p /\ s6 = .int .i64 ((k : Int) + 1) /\ Hid (Blk wr gl 65 #[.bool s24, .slice A24 l24 c24, .slice B24 m24 k24]) /\ Hid (Blk wr gh 65 #[.bool s25, .slice A25 l25 c25, .slice B25 m25 k25]) /\ Hid (QZ wr (.agg #[.bool s24, .slice A24 l24 c24, .slice B24 m24 k24]) a) /\ Hid (QZ wr (.agg #[.bool s25, .slice A25 l25 c25, .slice B25 m25 k25]) z) /\ Hid (bl qs k = a) /\ Hid (aK qs k = z) /\ Hid (Blk wr w.heap.size 31 #[.int .i64 0, .int .i64 0]) /\ Hid (QsAt wr (some ⟨bq, oq, none⟩) (p + 1) qs) /\ Hid (Ext w wr))
 case atStart => exact ⟨0, s21, A21, B21, l21, c21, m21, k21, s21, A21, B21, l21, c21, m21, k21, q0, q0, rfl, by omega, rfl, KL.out, KH.out, HZ.out, HZ.out, by show _ = _; simp [bl, List.getD, HQ0.out], by show _ = _; simp [aK, List.getD, HQ0.out], KR.out, HQ.out, HX.out⟩
 case round =>
  clear KL KH KR HX HQ HZ;obtain ⟨k, s24, A24, B24, l24, c24, m24, k24, s25, A25, B25, l25, c25, m25, k25, a, z, rfl, hk, rfl, KL, KH, HA, HZZ, HAL, HAH, KR, HQ, HX⟩ := hrel
  by_cases hlt : k < p
  .
   obtain ⟨q, hq⟩ : ∃ q, qs[k + 1]? = some q := ⟨qs[k + 1]'(by rw [HL.out]; omega), List.getElem?_eq_getElem _⟩;have HLN := hid (eC hq HAL.out);have HHN := hid (dI hq HAH.out);obtain ⟨bq', oq', s26, A26, l26, c26, B26, m26, k26, hA, x0, x1, x2, hz⟩ := HQ.out.2 (k + 1) q hq;injection hA with hA;injection hA with e1 e2;subst e1 e2;have HZ := hid hz;have hkI : ((k + 1 : Nat) : Int) = (k : Int) + 1 := by omega
   have hfq : FitR q L := HF.out _ (List.mem_of_getElem? hq);have hfa : FitR a L := by rw [<- HAL.out]; exact HF.out _ (bR (by rw [HL.out]; omega))
   have hfz : FitR z L := by rw [<- HAH.out]; exact HF.out _ (bA (by rw [HL.out]; omega))
   have HFQ := hid hfq;have HFA := hid hfa;have HFZ := hid hfz;have hk0 : (0 : Int) <= ((k + 1 : Nat) : Int) := by omega
   have hkn : ((k + 1 : Nat) : Int) < ((p + 1 : Nat) : Int) := by omega
   obtain ⟨sa, hsa⟩ : ∃ s, aU (q - a) = s := ⟨_, rfl⟩;obtain ⟨sz, hsz⟩ : ∃ s, aU (q - z) = s := ⟨_, rfl⟩;rw [hsa] at HLN;rw [hsz] at HHN;have HSA := hid hsa;have HSZ := hid hsz;have HI := hid hkI;have HK0 := hid hk0;have HKN := hid hkn;have X0 := hid x0;have X1 := hid x1;have X2 := hid x2;clear hz hq hfq hfa hfz hsa hsz hk0 hkn x0 x1 x2;rw [<- HI.out];clear hkI
   go_upto_region 5 with (fail)
   refine dH bq oq (p + 1) cq (k + 1) gl L s26 A26 B26 l26 c26 m26 k26 s24 A24 B24 l24 c24 m24 k24 q a sa wr X0.out X1.out X2.out (KL.out.cell 0) (KL.out.cell 1) (KL.out.cell 2) HZ.out HA.out HFQ.out HFA.out hL HSA.out HK0.out HKN.out _ _ (by simp) ⟨rfl, rfl, rfl, trivial⟩ ?_;rintro w3 hXW;simp only [EndK, ae, Try.f110, ab, Option.bind_some, Nat.reduceBEq, if_true, if_false, Bool.false_eq_true, Option.getD_some, List.drop_succ_cons, List.drop_zero];simp only [Act.put, List.setIfInBounds_toArray, List.set_cons_succ, List.set_cons_zero];replace KL := xE KL hXW;replace KH := xE KH hXW;replace KR := xE KR hXW;replace HA := hid (HA.out.ext hXW);replace HZZ := hid (HZZ.out.ext hXW);replace HZ := hid (HZ.out.ext hXW);replace HQ := hid (HQ.out.ext hXW);replace HX := xT HX hXW;replace X0 := hid (hXW.cell X0.out);replace X1 := hid (hXW.cell X1.out);replace X2 := hid (hXW.cell X2.out);clear hXW
   by_cases hsa : sa < 0
   .
    rw [if_pos hsa] at HLN;have f0 : w3.frozen? ⟨gl, 0, none⟩ = false := KL.out.free 0;have f1 : w3.frozen? ⟨gl, 1, none⟩ = false := KL.out.free 1;have f2 : w3.frozen? ⟨gl, 2, none⟩ = false := KL.out.free 2;have t0 := KL.out.cell 0;have t1 := KL.out.cell 1;have t2 := KL.out.cell 2;have x0 := X0.out;have x1 := X1.out;have x2 := X2.out;have hk0 := HK0.out;have hkn := HKN.out
    go_upto_region 7 with (fail)
    clear f0 f1 f2 t0 t1 t2 x0 x1 x2 hk0 hkn;have hNI := NoInts.three KL.out;have hXs : Ext w (((w3.setCell ⟨gl, 0, none⟩ (.bool s26)).setCell ⟨gl, 1, none⟩ (.slice A26 l26 c26)).setCell ⟨gl, 2, none⟩ (.slice B26 m26 k26)) := ((HX.out.setCell hwl _).setCell hwl _).setCell hwl _;have kL : Blk (((w3.setCell ⟨gl, 0, none⟩ (.bool s26)).setCell ⟨gl, 1, none⟩ (.slice A26 l26 c26)).setCell ⟨gl, 2, none⟩ (.slice B26 m26 k26)) gl 65 #[.bool s26, .slice A26 l26 c26, .slice B26 m26 k26] := ((KL.out.set 0 _).set 1 _).set 2 _;have kH : Blk (((w3.setCell ⟨gl, 0, none⟩ (.bool s26)).setCell ⟨gl, 1, none⟩ (.slice A26 l26 c26)).setCell ⟨gl, 2, none⟩ (.slice B26 m26 k26)) gh 65 #[.bool s25, .slice A25 l25 c25, .slice B25 m25 k25] := ((KH.out.far (Ne.symm hll) _).far (Ne.symm hll) _).far (Ne.symm hll) _;have kR : Blk (((w3.setCell ⟨gl, 0, none⟩ (.bool s26)).setCell ⟨gl, 1, none⟩ (.slice A26 l26 c26)).setCell ⟨gl, 2, none⟩ (.slice B26 m26 k26)) w.heap.size 31 #[.int .i64 0, .int .i64 0] := ((KR.out.far hgr1 _).far hgr1 _).far hgr1 _;have hA := QZ.past' HZ.out hNI (b := s26) (A := A26) (l := l26) (c := c26) (B := B26) (m := m26) (k := k26);have hZ := QZ.past' HZZ.out hNI (b := s26) (A := A26) (l := l26) (c := c26) (B := B26) (m := m26) (k := k26);have hQ : QsAt (((w3.setCell ⟨gl, 0, none⟩ (.bool s26)).setCell ⟨gl, 1, none⟩ (.slice A26 l26 c26)).setCell ⟨gl, 2, none⟩ (.slice B26 m26 k26)) (some ⟨bq, oq, none⟩) (p + 1) qs := HQ.out.past3 (x := gl) hNI (HBQ.out.1) s26 A26 B26 l26 c26 m26 k26;have y0 : (((w3.setCell ⟨gl, 0, none⟩ (.bool s26)).setCell ⟨gl, 1, none⟩ (.slice A26 l26 c26)).setCell ⟨gl, 2, none⟩ (.slice B26 m26 k26)).cell? ⟨bq, oq + (k + 1) * 3, none⟩ = some (.bool s26) := aG X0.out HBQ.out.1;have y1 : (((w3.setCell ⟨gl, 0, none⟩ (.bool s26)).setCell ⟨gl, 1, none⟩ (.slice A26 l26 c26)).setCell ⟨gl, 2, none⟩ (.slice B26 m26 k26)).cell? ⟨bq, oq + (k + 1) * 3 + 1, none⟩ = some (.slice A26 l26 c26) := aG X1.out HBQ.out.1;have y2 : (((w3.setCell ⟨gl, 0, none⟩ (.bool s26)).setCell ⟨gl, 1, none⟩ (.slice A26 l26 c26)).setCell ⟨gl, 2, none⟩ (.slice B26 m26 k26)).cell? ⟨bq, oq + (k + 1) * 3 + 2, none⟩ = some (.slice B26 m26 k26) := aG X2.out HBQ.out.1;generalize (((w3.setCell _ _).setCell _ _).setCell _ _) = w4 at hXs kL kH kR hA hZ hQ y0 y1 y2 |-;clear HX KL KH KR HA HZZ HQ HZ X0 X1 X2 hNI;have HX := hid hXs;have KL := hid kL;have KH := hid kH;have KR := hid kR;have HA := hid hA;have HZ := hid hA;have HZZ := hid hZ;have HQ := hid hQ;have X0 := hid y0;have X1 := hid y1;have X2 := hid y2;clear hXs kL kH hA hZ hQ y0 y1 y2
    go_upto_region 7 with (fail)
    refine bL bq oq (p + 1) cq (k + 1) gh L s26 A26 B26 l26 c26 m26 k26 s25 A25 B25 l25 c25 m25 k25 q z sz w4 X0.out X1.out X2.out (KH.out.cell 0) (KH.out.cell 1) (KH.out.cell 2) HZ.out HZZ.out HFQ.out HFZ.out hL HSZ.out HK0.out HKN.out _ _ (by simp) ⟨rfl, rfl, rfl, trivial⟩ ?_;rintro w5 hXW;simp only [EndK, ae, Try.f110, ab, Option.bind_some, Nat.reduceBEq, if_true, if_false, Bool.false_eq_true, Option.getD_some, List.drop_succ_cons, List.drop_zero];simp only [Act.put, List.setIfInBounds_toArray, List.set_cons_succ, List.set_cons_zero];replace KL := xE KL hXW;replace KH := xE KH hXW;replace KR := xE KR hXW;replace HA := hid (HA.out.ext hXW);replace HZZ := hid (HZZ.out.ext hXW);replace HZ := hid (HZ.out.ext hXW);replace HQ := hid (HQ.out.ext hXW);replace HX := xT HX hXW;replace X0 := hid (hXW.cell X0.out);replace X1 := hid (hXW.cell X1.out);replace X2 := hid (hXW.cell X2.out);clear hXW
    by_cases hsz : 0 < sz
    .
     rw [if_pos hsz] at HHN;have f0 : w5.frozen? ⟨gh, 0, none⟩ = false := KH.out.free 0;have f1 : w5.frozen? ⟨gh, 1, none⟩ = false := KH.out.free 1;have f2 : w5.frozen? ⟨gh, 2, none⟩ = false := KH.out.free 2;have t0 := KH.out.cell 0;have t1 := KH.out.cell 1;have t2 := KH.out.cell 2;have x0 := X0.out;have x1 := X1.out;have x2 := X2.out;have hk0 := HK0.out;have hkn := HKN.out;have hNI := hid (NoInts.three KH.out);have HXs : Hid (Ext w (((w5.setCell ⟨gh, 0, none⟩ (.bool s26)).setCell ⟨gh, 1, none⟩ (.slice A26 l26 c26)).setCell ⟨gh, 2, none⟩ (.slice B26 m26 k26))) := ((HX.out.setCell hwh _).setCell hwh _).setCell hwh _;have kH : Hid (Blk (((w5.setCell ⟨gh, 0, none⟩ (.bool s26)).setCell ⟨gh, 1, none⟩ (.slice A26 l26 c26)).setCell ⟨gh, 2, none⟩ (.slice B26 m26 k26)) gh 65 #[.bool s26, .slice A26 l26 c26, .slice B26 m26 k26]) := ((KH.out.set 0 _).set 1 _).set 2 _;have kL : Hid (Blk (((w5.setCell ⟨gh, 0, none⟩ (.bool s26)).setCell ⟨gh, 1, none⟩ (.slice A26 l26 c26)).setCell ⟨gh, 2, none⟩ (.slice B26 m26 k26)) gl 65 #[.bool s26, .slice A26 l26 c26, .slice B26 m26 k26]) := ((KL.out.far hll _).far hll _).far hll _;have kR : Hid (Blk (((w5.setCell ⟨gh, 0, none⟩ (.bool s26)).setCell ⟨gh, 1, none⟩ (.slice A26 l26 c26)).setCell ⟨gh, 2, none⟩ (.slice B26 m26 k26)) w.heap.size 31 #[.int .i64 0, .int .i64 0]) := ((KR.out.far hgr2 _).far hgr2 _).far hgr2 _;have hQ : Hid (QsAt (((w5.setCell ⟨gh, 0, none⟩ (.bool s26)).setCell ⟨gh, 1, none⟩ (.slice A26 l26 c26)).setCell ⟨gh, 2, none⟩ (.slice B26 m26 k26)) (some ⟨bq, oq, none⟩) (p + 1) qs) := HQ.out.past3 (x := gh) hNI.out (HBQ.out.2) s26 A26 B26 l26 c26 m26 k26;go_wp2;go_roundg (p - (k + 1))
     case rel => exact ⟨k + 1, s26, A26, B26, l26, c26, m26, k26, s26, A26, B26, l26, c26, m26, k26, q, q, rfl, by omega, by go_num, kL.out, kH.out, QZ.past' HZ.out hNI.out, QZ.past' HZ.out hNI.out, HLN.out, HHN.out, kR.out, hQ.out, HXs.out⟩
     case measure => omega

    .
     rw [if_neg hsz] at HHN;go_wp2;go_roundg (p - (k + 1))
     case rel => exact ⟨k + 1, s26, A26, B26, l26, c26, m26, k26, s25, A25, B25, l25, c25, m25, k25, q, z, rfl, by omega, by go_num, KL.out, KH.out, HA.out, HZZ.out, HLN.out, HHN.out, KR.out, HQ.out, HX.out⟩
     case measure => omega

   .
    rw [if_neg hsa] at HLN
    go_upto_region 7 with (fail)
    refine bL bq oq (p + 1) cq (k + 1) gh L s26 A26 B26 l26 c26 m26 k26 s25 A25 B25 l25 c25 m25 k25 q z sz w3 X0.out X1.out X2.out (KH.out.cell 0) (KH.out.cell 1) (KH.out.cell 2) HZ.out HZZ.out HFQ.out HFZ.out hL HSZ.out HK0.out HKN.out _ _ (by simp) ⟨rfl, rfl, rfl, trivial⟩ ?_;rintro w5 hXW;simp only [EndK, ae, Try.f110, ab, Option.bind_some, Nat.reduceBEq, if_true, if_false, Bool.false_eq_true, Option.getD_some, List.drop_succ_cons, List.drop_zero];simp only [Act.put, List.setIfInBounds_toArray, List.set_cons_succ, List.set_cons_zero];replace KL := xE KL hXW;replace KH := xE KH hXW;replace KR := xE KR hXW;replace HA := hid (HA.out.ext hXW);replace HZZ := hid (HZZ.out.ext hXW);replace HZ := hid (HZ.out.ext hXW);replace HQ := hid (HQ.out.ext hXW);replace HX := xT HX hXW;replace X0 := hid (hXW.cell X0.out);replace X1 := hid (hXW.cell X1.out);replace X2 := hid (hXW.cell X2.out);clear hXW
    by_cases hsz : 0 < sz
    .
     rw [if_pos hsz] at HHN;have f0 : w5.frozen? ⟨gh, 0, none⟩ = false := KH.out.free 0;have f1 : w5.frozen? ⟨gh, 1, none⟩ = false := KH.out.free 1;have f2 : w5.frozen? ⟨gh, 2, none⟩ = false := KH.out.free 2;have t0 := KH.out.cell 0;have t1 := KH.out.cell 1;have t2 := KH.out.cell 2;have x0 := X0.out;have x1 := X1.out;have x2 := X2.out;have hk0 := HK0.out;have hkn := HKN.out;have hNI := hid (NoInts.three KH.out);have HXs : Hid (Ext w (((w5.setCell ⟨gh, 0, none⟩ (.bool s26)).setCell ⟨gh, 1, none⟩ (.slice A26 l26 c26)).setCell ⟨gh, 2, none⟩ (.slice B26 m26 k26))) := ((HX.out.setCell hwh _).setCell hwh _).setCell hwh _;have kH : Hid (Blk (((w5.setCell ⟨gh, 0, none⟩ (.bool s26)).setCell ⟨gh, 1, none⟩ (.slice A26 l26 c26)).setCell ⟨gh, 2, none⟩ (.slice B26 m26 k26)) gh 65 #[.bool s26, .slice A26 l26 c26, .slice B26 m26 k26]) := ((KH.out.set 0 _).set 1 _).set 2 _;have kL : Hid (Blk (((w5.setCell ⟨gh, 0, none⟩ (.bool s26)).setCell ⟨gh, 1, none⟩ (.slice A26 l26 c26)).setCell ⟨gh, 2, none⟩ (.slice B26 m26 k26)) gl 65 #[.bool s24, .slice A24 l24 c24, .slice B24 m24 k24]) := ((KL.out.far hll _).far hll _).far hll _;have kR : Hid (Blk (((w5.setCell ⟨gh, 0, none⟩ (.bool s26)).setCell ⟨gh, 1, none⟩ (.slice A26 l26 c26)).setCell ⟨gh, 2, none⟩ (.slice B26 m26 k26)) w.heap.size 31 #[.int .i64 0, .int .i64 0]) := ((KR.out.far hgr2 _).far hgr2 _).far hgr2 _;have hQ : Hid (QsAt (((w5.setCell ⟨gh, 0, none⟩ (.bool s26)).setCell ⟨gh, 1, none⟩ (.slice A26 l26 c26)).setCell ⟨gh, 2, none⟩ (.slice B26 m26 k26)) (some ⟨bq, oq, none⟩) (p + 1) qs) := HQ.out.past3 (x := gh) hNI.out (HBQ.out.2) s26 A26 B26 l26 c26 m26 k26;go_wp2;go_roundg (p - (k + 1))
     case rel => exact ⟨k + 1, s24, A24, B24, l24, c24, m24, k24, s26, A26, B26, l26, c26, m26, k26, a, q, rfl, by omega, by go_num, kL.out, kH.out, QZ.past' HA.out hNI.out, QZ.past' HZ.out hNI.out, HLN.out, HHN.out, kR.out, hQ.out, HXs.out⟩
     case measure => omega

    .
     rw [if_neg hsz] at HHN;go_wp2;go_roundg (p - (k + 1))
     case rel => exact ⟨k + 1, s24, A24, B24, l24, c24, m24, k24, s25, A25, B25, l25, c25, m25, k25, a, z, rfl, by omega, by go_num, KL.out, KH.out, HA.out, HZZ.out, HLN.out, HHN.out, KR.out, HQ.out, HX.out⟩
     case measure => omega
  .
   obtain rfl : p = k := by omega
   have ea : a = lo := by rw [<- HAL.out, HLW.out]
   have ez : z = hi := by rw [<- HAH.out, HHW.out]
   subst ea ez;have HFA : Hid (FitR a L) := by have h := HF.out _ (bR (qs := qs) (k := p) (by rw [HL.out]; omega)); rw [HAL.out] at h; exact h
   have HFZ : Hid (FitR z L) := by have h := HF.out _ (bA (qs := qs) (k := p) (by rw [HL.out]; omega)); rw [HAH.out] at h; exact h
   clear HAL HAH HQ hlt;have cL0 : wr.cell? ⟨gl, 0, none⟩ = some (.bool s24) := KL.out.cell 0;have cL1 : wr.cell? ⟨gl, 1, none⟩ = some (.slice A24 l24 c24) := KL.out.cell 1;have cL2 : wr.cell? ⟨gl, 2, none⟩ = some (.slice B24 m24 k24) := KL.out.cell 2
   go_wp2_with fail
   clear cL0 cL1 cL2;refine (bQ _ a L _ HA.out HFA.out (by omega)).mono ?_;rw [HZL.out];rintro e w11 ⟨v30, rfl, hv, hX⟩;replace hX : Ext wr w11 := by with_reducible exact hX
   replace HX := xT HX hX;replace HA := hid (HA.out.ext hX);replace HZZ := hid (HZZ.out.ext hX);replace KR := xE KR hX;replace KL := xE KL hX;replace KH := xE KH hX;clear hX;have HV := hid hv;clear hv
   go_wp2_with fail
   refine (cm HV.out).mono ?_;rw [HNL.out, HLO.out];rintro e w12 ⟨rfl, hX⟩;replace hX : Ext w11 w12 := by with_reducible exact hX
   replace HX := xT HX hX;replace HA := hid (HA.out.ext hX);replace HZZ := hid (HZZ.out.ext hX);replace HV := hid (HV.out.ext hX);replace KR := xE KR hX;replace KL := xE KL hX;replace KH := xE KH hX;clear hX HV;have cH0 : w12.cell? ⟨gh, 0, none⟩ = some (.bool s25) := KH.out.cell 0;have cH1 : w12.cell? ⟨gh, 1, none⟩ = some (.slice A25 l25 c25) := KH.out.cell 1;have cH2 : w12.cell? ⟨gh, 2, none⟩ = some (.slice B25 m25 k25) := KH.out.cell 2
   go_wp2_with fail
   clear cH0 cH1 cH2;refine (cR _ z L _ HZZ.out HFZ.out (by omega)).mono ?_;rw [HZH.out];rintro e w13 ⟨v31, rfl, hv, hX⟩;replace hX : Ext w12 w13 := by with_reducible exact hX
   replace HX := xT HX hX;replace HA := hid (HA.out.ext hX);replace HZZ := hid (HZZ.out.ext hX);replace KR := xE KR hX;replace KL := xE KL hX;replace KH := xE KH hX;clear hX;have HV := hid hv;clear hv
   go_wp2_with fail
   refine (cm HV.out).mono ?_;rw [HNH.out, HEH.out];rintro e w14 ⟨rfl, hX⟩;replace hX : Ext w13 w14 := by with_reducible exact hX
   replace HX := xT HX hX;replace HA := hid (HA.out.ext hX);replace HZZ := hid (HZZ.out.ext hX);replace HV := hid (HV.out.ext hX);replace KR := xE KR hX;replace KL := xE KL hX;replace KH := xE KH hX;clear hX;have cR0 : w14.cell? ⟨w.heap.size, 0, none⟩ = some (.int .i64 0) := KR.out.cell 0;have fR0 : w14.frozen? ⟨w.heap.size, 0, none⟩ = false := KR.out.free 0;have cR1 : w14.cell? ⟨w.heap.size, 1, none⟩ = some (.int .i64 0) := KR.out.cell 1;have fR1 : w14.frozen? ⟨w.heap.size, 1, none⟩ = false := KR.out.free 1;go_wp2;refine bodyPost_ret (v := .tuple #[.agg #[.int .i64 0, .int .i64 0], .int .i64 3]) (by simp [results, Try.results110, go_sem, *]) rfl ?_;exact ⟨rfl, HX.out.two (Nat.le_refl _) _ _⟩
theorem j6 (A : Option Addr) (p cq L : Nat) (qs : List Rat) (w : World) (hq : QsAt w A (p + 1) qs) (_hp : p <= 1000) (hf : ∀ q ∈ qs, FitR q L) (hL : L + L + 1 <= 400000) (hlo : aZ (bl qs p).floor = 0) (hhi : aZ (-(-(aK qs p)).floor) = 3) :
  Calls Try.prog 110 #[.slice A (p + 1) cq] w (lL w (.agg #[.int .i64 0, .int .i64 0]) 3) := by
 have HQ := hid hq;have HF := hid hf;clear hq hf;have HL : Hid (qs.length = p + 1) := HQ.out.1;obtain ⟨q0, hq0⟩ : ∃ q, qs[0]? = some q := ⟨qs[0]'(by rw [HL.out]; omega), List.getElem?_eq_getElem _⟩;obtain ⟨bq, oq, s21, A21, l21, c21, B21, m21, k21, rfl, x0, x1, x2, hz⟩ := HQ.out.2 0 q0 hq0;simp only [Nat.zero_mul, Nat.add_zero] at x0 x1 x2;have HZ := hid hz;have HQ0 := hid hq0;have hn1 : (0 : Int) < ((p + 1 : Nat) : Int) := by omega
 clear hz hq0;obtain ⟨lo, hlw⟩ : ∃ q, bl qs p = q := ⟨_, rfl⟩;obtain ⟨hi, hhw⟩ : ∃ q, aK qs p = q := ⟨_, rfl⟩;have HLW := hid hlw;have HHW := hid hhw;rw [hlw] at hlo;rw [hhw] at hhi;obtain ⟨zl, hzl⟩ : ∃ z, lo.floor = z := ⟨_, rfl⟩;obtain ⟨zh, hzh⟩ : ∃ z, -(-hi).floor = z := ⟨_, rfl⟩;have HZL := hid hzl;have HZH := hid hzh;rw [hzl] at hlo;rw [hzh] at hhi;obtain ⟨nl, hnl⟩ : ∃ z, eB zl = z := ⟨_, rfl⟩;obtain ⟨nh, hnh⟩ : ∃ z, eB zh = z := ⟨_, rfl⟩;obtain ⟨eh, heh⟩ : ∃ z, aZ zh = z := ⟨_, rfl⟩;have HNL := hid hnl;have HNH := hid hnh;have HEH := hid heh;have HLO := hid hlo;have HHI := hid hhi;clear hlw hhw hzl hzh hnl hnh heh hlo hhi;obtain ⟨hXe, KR⟩ := xB1 w 31 #[.int .i64 0, .int .i64 0];have y0 := hXe.cell x0;have y1 := hXe.cell x1;have y2 := hXe.cell x2;go_enter Try.func110, Try.ntmps110
 go_wp2_with fail
 generalize (w.alloc _) = w1 at hXe y0 y1 y2 KR |-;have HX := hid hXe;clear hXe;replace HZ := hid (HZ.out.ext HX.out);replace HQ := hid (HQ.out.ext HX.out)
 go_upto_region 1 with (fail)
 refine dG bq oq (p + 1) cq s21 A21 B21 l21 c21 m21 k21 w1 y0 y1 y2 (by omega) hn1 _ _ (by simp) rfl ?_;rintro xv0 xv1 xv2 xv3 xv4 xv5 xv6 xv7 xv8 xv9 w2 rfl rfl rfl rfl rfl rfl ⟨gl, rfl, hgl, hBl⟩ ⟨gh, rfl, hgh, hBh⟩ hne hXW;simp only [ae, Try.f110, ab, Option.bind_some, Nat.reduceBEq, if_true, if_false, Bool.false_eq_true, Option.getD_some, List.drop_succ_cons, List.drop_zero];simp only [Act.put, List.setIfInBounds_toArray, List.set_cons_succ, List.set_cons_zero]
 have HBQ : Hid (bq ≠ gl /\ bq ≠ gh) := by
  have hb : bq < w.heap.size := World.block_lt_of_cell? w _ x0;have hz1 := HX.out.size;exact ⟨by omega, by omega⟩
 have hll : gl ≠ gh := by
  rintro rfl;exact hne rfl
 have zr := KR.out.lt;have hgr : w.heap.size ≠ gl /\ w.heap.size ≠ gh := by omega
 obtain ⟨hgr1, hgr2⟩ := hgr;have hwl : w.heap.size <= gl := by omega
 have hwh : w.heap.size <= gh := by omega
 clear y0 y1 y2 x0 x1 x2 hne hgl hgh;replace HX := xT HX hXW;replace HZ := hid (HZ.out.ext hXW);replace HQ := hid (HQ.out.ext hXW);replace KR := xE KR hXW;clear hXW;have KL := hid hBl;have KH := hid hBh;clear hBl hBh
 go_wp2_with fail
 go_loopg [6] p (fun g' s6 wr => ∃ (k : Nat) (s24 : Bool) (A24 B24 : Option Addr) (l24 c24 m24 k24 : Nat) (s25 : Bool) (A25 B25 : Option Addr) (l25 c25 m25 k25 : Nat) (a z : Rat), g' = p - k /\ k <= p /\ s6 = .int .i64 ((k : Int) + 1) /\ Hid (Blk wr gl 65 #[.bool s24, .slice A24 l24 c24, .slice B24 m24 k24]) /\ Hid (Blk wr gh 65 #[.bool s25, .slice A25 l25 c25, .slice B25 m25 k25]) /\ Hid (QZ wr (.agg #[.bool s24, .slice A24 l24 c24, .slice B24 m24 k24]) a) /\ Hid (QZ wr (.agg #[.bool s25, .slice A25 l25 c25, .slice B25 m25 k25]) z) /\ Hid (bl qs k = a) /\ Hid (aK qs k = z) /\ Hid (Blk wr w.heap.size 31 #[.int .i64 0, .int .i64 0]) /\ Hid (QsAt wr (some ⟨bq, oq, none⟩) (p + 1) qs) /\ Hid (Ext w wr))
 case atStart => exact ⟨0, s21, A21, B21, l21, c21, m21, k21, s21, A21, B21, l21, c21, m21, k21, q0, q0, rfl, by omega, rfl, KL.out, KH.out, HZ.out, HZ.out, by show _ = _; simp [bl, List.getD, HQ0.out], by show _ = _; simp [aK, List.getD, HQ0.out], KR.out, HQ.out, HX.out⟩
 case round =>
  clear KL KH KR HX HQ HZ;obtain ⟨k, s24, A24, B24, l24, c24, m24, k24, s25, A25, B25, l25, c25, m25, k25, a, z, rfl, hk, rfl, KL, KH, HA, HZZ, HAL, HAH, KR, HQ, HX⟩ := hrel
  by_cases hlt : k < p
  .
   obtain ⟨q, hq⟩ : ∃ q, qs[k + 1]? = some q := ⟨qs[k + 1]'(by rw [HL.out]; omega), List.getElem?_eq_getElem _⟩;have HLN := hid (eC hq HAL.out);have HHN := hid (dI hq HAH.out);obtain ⟨bq', oq', s26, A26, l26, c26, B26, m26, k26, hA, x0, x1, x2, hz⟩ := HQ.out.2 (k + 1) q hq;injection hA with hA;injection hA with e1 e2;subst e1 e2;have HZ := hid hz;have hkI : ((k + 1 : Nat) : Int) = (k : Int) + 1 := by omega
   have hfq : FitR q L := HF.out _ (List.mem_of_getElem? hq);have hfa : FitR a L := by rw [<- HAL.out]; exact HF.out _ (bR (by rw [HL.out]; omega))
   have hfz : FitR z L := by rw [<- HAH.out]; exact HF.out _ (bA (by rw [HL.out]; omega))
   have HFQ := hid hfq;have HFA := hid hfa;have HFZ := hid hfz;have hk0 : (0 : Int) <= ((k + 1 : Nat) : Int) := by omega
   have hkn : ((k + 1 : Nat) : Int) < ((p + 1 : Nat) : Int) := by omega
   obtain ⟨sa, hsa⟩ : ∃ s, aU (q - a) = s := ⟨_, rfl⟩;obtain ⟨sz, hsz⟩ : ∃ s, aU (q - z) = s := ⟨_, rfl⟩;rw [hsa] at HLN;rw [hsz] at HHN;have HSA := hid hsa;have HSZ := hid hsz;have HI := hid hkI;have HK0 := hid hk0;have HKN := hid hkn;have X0 := hid x0;have X1 := hid x1;have X2 := hid x2;clear hz hq hfq hfa hfz hsa hsz hk0 hkn x0 x1 x2;rw [<- HI.out];clear hkI
   go_upto_region 5 with (fail)
   refine dH bq oq (p + 1) cq (k + 1) gl L s26 A26 B26 l26 c26 m26 k26 s24 A24 B24 l24 c24 m24 k24 q a sa wr X0.out X1.out X2.out (KL.out.cell 0) (KL.out.cell 1) (KL.out.cell 2) HZ.out HA.out HFQ.out HFA.out hL HSA.out HK0.out HKN.out _ _ (by simp) ⟨rfl, rfl, rfl, trivial⟩ ?_;rintro w3 hXW;simp only [EndK, ae, Try.f110, ab, Option.bind_some, Nat.reduceBEq, if_true, if_false, Bool.false_eq_true, Option.getD_some, List.drop_succ_cons, List.drop_zero];simp only [Act.put, List.setIfInBounds_toArray, List.set_cons_succ, List.set_cons_zero];replace KL := xE KL hXW;replace KH := xE KH hXW;replace KR := xE KR hXW;replace HA := hid (HA.out.ext hXW);replace HZZ := hid (HZZ.out.ext hXW);replace HZ := hid (HZ.out.ext hXW);replace HQ := hid (HQ.out.ext hXW);replace HX := xT HX hXW;replace X0 := hid (hXW.cell X0.out);replace X1 := hid (hXW.cell X1.out);replace X2 := hid (hXW.cell X2.out);clear hXW
   by_cases hsa : sa < 0
   .
    rw [if_pos hsa] at HLN;have f0 : w3.frozen? ⟨gl, 0, none⟩ = false := KL.out.free 0;have f1 : w3.frozen? ⟨gl, 1, none⟩ = false := KL.out.free 1;have f2 : w3.frozen? ⟨gl, 2, none⟩ = false := KL.out.free 2;have t0 := KL.out.cell 0;have t1 := KL.out.cell 1;have t2 := KL.out.cell 2;have x0 := X0.out;have x1 := X1.out;have x2 := X2.out;have hk0 := HK0.out;have hkn := HKN.out
    go_upto_region 7 with (fail)
    clear f0 f1 f2 t0 t1 t2 x0 x1 x2 hk0 hkn;have hNI := NoInts.three KL.out;have hXs : Ext w (((w3.setCell ⟨gl, 0, none⟩ (.bool s26)).setCell ⟨gl, 1, none⟩ (.slice A26 l26 c26)).setCell ⟨gl, 2, none⟩ (.slice B26 m26 k26)) := ((HX.out.setCell hwl _).setCell hwl _).setCell hwl _;have kL : Blk (((w3.setCell ⟨gl, 0, none⟩ (.bool s26)).setCell ⟨gl, 1, none⟩ (.slice A26 l26 c26)).setCell ⟨gl, 2, none⟩ (.slice B26 m26 k26)) gl 65 #[.bool s26, .slice A26 l26 c26, .slice B26 m26 k26] := ((KL.out.set 0 _).set 1 _).set 2 _;have kH : Blk (((w3.setCell ⟨gl, 0, none⟩ (.bool s26)).setCell ⟨gl, 1, none⟩ (.slice A26 l26 c26)).setCell ⟨gl, 2, none⟩ (.slice B26 m26 k26)) gh 65 #[.bool s25, .slice A25 l25 c25, .slice B25 m25 k25] := ((KH.out.far (Ne.symm hll) _).far (Ne.symm hll) _).far (Ne.symm hll) _;have kR : Blk (((w3.setCell ⟨gl, 0, none⟩ (.bool s26)).setCell ⟨gl, 1, none⟩ (.slice A26 l26 c26)).setCell ⟨gl, 2, none⟩ (.slice B26 m26 k26)) w.heap.size 31 #[.int .i64 0, .int .i64 0] := ((KR.out.far hgr1 _).far hgr1 _).far hgr1 _;have hA := QZ.past' HZ.out hNI (b := s26) (A := A26) (l := l26) (c := c26) (B := B26) (m := m26) (k := k26);have hZ := QZ.past' HZZ.out hNI (b := s26) (A := A26) (l := l26) (c := c26) (B := B26) (m := m26) (k := k26);have hQ : QsAt (((w3.setCell ⟨gl, 0, none⟩ (.bool s26)).setCell ⟨gl, 1, none⟩ (.slice A26 l26 c26)).setCell ⟨gl, 2, none⟩ (.slice B26 m26 k26)) (some ⟨bq, oq, none⟩) (p + 1) qs := HQ.out.past3 (x := gl) hNI (HBQ.out.1) s26 A26 B26 l26 c26 m26 k26;have y0 : (((w3.setCell ⟨gl, 0, none⟩ (.bool s26)).setCell ⟨gl, 1, none⟩ (.slice A26 l26 c26)).setCell ⟨gl, 2, none⟩ (.slice B26 m26 k26)).cell? ⟨bq, oq + (k + 1) * 3, none⟩ = some (.bool s26) := aG X0.out HBQ.out.1;have y1 : (((w3.setCell ⟨gl, 0, none⟩ (.bool s26)).setCell ⟨gl, 1, none⟩ (.slice A26 l26 c26)).setCell ⟨gl, 2, none⟩ (.slice B26 m26 k26)).cell? ⟨bq, oq + (k + 1) * 3 + 1, none⟩ = some (.slice A26 l26 c26) := aG X1.out HBQ.out.1;have y2 : (((w3.setCell ⟨gl, 0, none⟩ (.bool s26)).setCell ⟨gl, 1, none⟩ (.slice A26 l26 c26)).setCell ⟨gl, 2, none⟩ (.slice B26 m26 k26)).cell? ⟨bq, oq + (k + 1) * 3 + 2, none⟩ = some (.slice B26 m26 k26) := aG X2.out HBQ.out.1;generalize (((w3.setCell _ _).setCell _ _).setCell _ _) = w4 at hXs kL kH kR hA hZ hQ y0 y1 y2 |-;clear HX KL KH KR HA HZZ HQ HZ X0 X1 X2 hNI;have HX := hid hXs;have KL := hid kL;have KH := hid kH;have KR := hid kR;have HA := hid hA;have HZ := hid hA;have HZZ := hid hZ;have HQ := hid hQ;have X0 := hid y0;have X1 := hid y1;have X2 := hid y2;clear hXs kL kH hA hZ hQ y0 y1 y2
    go_upto_region 7 with (fail)
    refine bL bq oq (p + 1) cq (k + 1) gh L s26 A26 B26 l26 c26 m26 k26 s25 A25 B25 l25 c25 m25 k25 q z sz w4 X0.out X1.out X2.out (KH.out.cell 0) (KH.out.cell 1) (KH.out.cell 2) HZ.out HZZ.out HFQ.out HFZ.out hL HSZ.out HK0.out HKN.out _ _ (by simp) ⟨rfl, rfl, rfl, trivial⟩ ?_;rintro w5 hXW;simp only [EndK, ae, Try.f110, ab, Option.bind_some, Nat.reduceBEq, if_true, if_false, Bool.false_eq_true, Option.getD_some, List.drop_succ_cons, List.drop_zero];simp only [Act.put, List.setIfInBounds_toArray, List.set_cons_succ, List.set_cons_zero];replace KL := xE KL hXW;replace KH := xE KH hXW;replace KR := xE KR hXW;replace HA := hid (HA.out.ext hXW);replace HZZ := hid (HZZ.out.ext hXW);replace HZ := hid (HZ.out.ext hXW);replace HQ := hid (HQ.out.ext hXW);replace HX := xT HX hXW;replace X0 := hid (hXW.cell X0.out);replace X1 := hid (hXW.cell X1.out);replace X2 := hid (hXW.cell X2.out);clear hXW
    by_cases hsz : 0 < sz
    .
     rw [if_pos hsz] at HHN;have f0 : w5.frozen? ⟨gh, 0, none⟩ = false := KH.out.free 0;have f1 : w5.frozen? ⟨gh, 1, none⟩ = false := KH.out.free 1;have f2 : w5.frozen? ⟨gh, 2, none⟩ = false := KH.out.free 2;have t0 := KH.out.cell 0;have t1 := KH.out.cell 1;have t2 := KH.out.cell 2;have x0 := X0.out;have x1 := X1.out;have x2 := X2.out;have hk0 := HK0.out;have hkn := HKN.out;have hNI := hid (NoInts.three KH.out);have HXs : Hid (Ext w (((w5.setCell ⟨gh, 0, none⟩ (.bool s26)).setCell ⟨gh, 1, none⟩ (.slice A26 l26 c26)).setCell ⟨gh, 2, none⟩ (.slice B26 m26 k26))) := ((HX.out.setCell hwh _).setCell hwh _).setCell hwh _;have kH : Hid (Blk (((w5.setCell ⟨gh, 0, none⟩ (.bool s26)).setCell ⟨gh, 1, none⟩ (.slice A26 l26 c26)).setCell ⟨gh, 2, none⟩ (.slice B26 m26 k26)) gh 65 #[.bool s26, .slice A26 l26 c26, .slice B26 m26 k26]) := ((KH.out.set 0 _).set 1 _).set 2 _;have kL : Hid (Blk (((w5.setCell ⟨gh, 0, none⟩ (.bool s26)).setCell ⟨gh, 1, none⟩ (.slice A26 l26 c26)).setCell ⟨gh, 2, none⟩ (.slice B26 m26 k26)) gl 65 #[.bool s26, .slice A26 l26 c26, .slice B26 m26 k26]) := ((KL.out.far hll _).far hll _).far hll _;have kR : Hid (Blk (((w5.setCell ⟨gh, 0, none⟩ (.bool s26)).setCell ⟨gh, 1, none⟩ (.slice A26 l26 c26)).setCell ⟨gh, 2, none⟩ (.slice B26 m26 k26)) w.heap.size 31 #[.int .i64 0, .int .i64 0]) := ((KR.out.far hgr2 _).far hgr2 _).far hgr2 _;have hQ : Hid (QsAt (((w5.setCell ⟨gh, 0, none⟩ (.bool s26)).setCell ⟨gh, 1, none⟩ (.slice A26 l26 c26)).setCell ⟨gh, 2, none⟩ (.slice B26 m26 k26)) (some ⟨bq, oq, none⟩) (p + 1) qs) := HQ.out.past3 (x := gh) hNI.out (HBQ.out.2) s26 A26 B26 l26 c26 m26 k26;go_wp2;go_roundg (p - (k + 1))
     case rel => exact ⟨k + 1, s26, A26, B26, l26, c26, m26, k26, s26, A26, B26, l26, c26, m26, k26, q, q, rfl, by omega, by go_num, kL.out, kH.out, QZ.past' HZ.out hNI.out, QZ.past' HZ.out hNI.out, HLN.out, HHN.out, kR.out, hQ.out, HXs.out⟩
     case measure => omega

    .
     rw [if_neg hsz] at HHN;go_wp2;go_roundg (p - (k + 1))
     case rel => exact ⟨k + 1, s26, A26, B26, l26, c26, m26, k26, s25, A25, B25, l25, c25, m25, k25, q, z, rfl, by omega, by go_num, KL.out, KH.out, HA.out, HZZ.out, HLN.out, HHN.out, KR.out, HQ.out, HX.out⟩
     case measure => omega

   .
    rw [if_neg hsa] at HLN
    go_upto_region 7 with (fail)
    refine bL bq oq (p + 1) cq (k + 1) gh L s26 A26 B26 l26 c26 m26 k26 s25 A25 B25 l25 c25 m25 k25 q z sz w3 X0.out X1.out X2.out (KH.out.cell 0) (KH.out.cell 1) (KH.out.cell 2) HZ.out HZZ.out HFQ.out HFZ.out hL HSZ.out HK0.out HKN.out _ _ (by simp) ⟨rfl, rfl, rfl, trivial⟩ ?_;rintro w5 hXW;simp only [EndK, ae, Try.f110, ab, Option.bind_some, Nat.reduceBEq, if_true, if_false, Bool.false_eq_true, Option.getD_some, List.drop_succ_cons, List.drop_zero];simp only [Act.put, List.setIfInBounds_toArray, List.set_cons_succ, List.set_cons_zero];replace KL := xE KL hXW;replace KH := xE KH hXW;replace KR := xE KR hXW;replace HA := hid (HA.out.ext hXW);replace HZZ := hid (HZZ.out.ext hXW);replace HZ := hid (HZ.out.ext hXW);replace HQ := hid (HQ.out.ext hXW);replace HX := xT HX hXW;replace X0 := hid (hXW.cell X0.out);replace X1 := hid (hXW.cell X1.out);replace X2 := hid (hXW.cell X2.out);clear hXW
    by_cases hsz : 0 < sz
    .
     rw [if_pos hsz] at HHN;have f0 : w5.frozen? ⟨gh, 0, none⟩ = false := KH.out.free 0;have f1 : w5.frozen? ⟨gh, 1, none⟩ = false := KH.out.free 1;have f2 : w5.frozen? ⟨gh, 2, none⟩ = false := KH.out.free 2;have t0 := KH.out.cell 0;have t1 := KH.out.cell 1;have t2 := KH.out.cell 2;have x0 := X0.out;have x1 := X1.out;have x2 := X2.out;have hk0 := HK0.out;have hkn := HKN.out;have hNI := hid (NoInts.three KH.out);have HXs : Hid (Ext w (((w5.setCell ⟨gh, 0, none⟩ (.bool s26)).setCell ⟨gh, 1, none⟩ (.slice A26 l26 c26)).setCell ⟨gh, 2, none⟩ (.slice B26 m26 k26))) := ((HX.out.setCell hwh _).setCell hwh _).setCell hwh _;have kH : Hid (Blk (((w5.setCell ⟨gh, 0, none⟩ (.bool s26)).setCell ⟨gh, 1, none⟩ (.slice A26 l26 c26)).setCell ⟨gh, 2, none⟩ (.slice B26 m26 k26)) gh 65 #[.bool s26, .slice A26 l26 c26, .slice B26 m26 k26]) := ((KH.out.set 0 _).set 1 _).set 2 _;have kL : Hid (Blk (((w5.setCell ⟨gh, 0, none⟩ (.bool s26)).setCell ⟨gh, 1, none⟩ (.slice A26 l26 c26)).setCell ⟨gh, 2, none⟩ (.slice B26 m26 k26)) gl 65 #[.bool s24, .slice A24 l24 c24, .slice B24 m24 k24]) := ((KL.out.far hll _).far hll _).far hll _;have kR : Hid (Blk (((w5.setCell ⟨gh, 0, none⟩ (.bool s26)).setCell ⟨gh, 1, none⟩ (.slice A26 l26 c26)).setCell ⟨gh, 2, none⟩ (.slice B26 m26 k26)) w.heap.size 31 #[.int .i64 0, .int .i64 0]) := ((KR.out.far hgr2 _).far hgr2 _).far hgr2 _;have hQ : Hid (QsAt (((w5.setCell ⟨gh, 0, none⟩ (.bool s26)).setCell ⟨gh, 1, none⟩ (.slice A26 l26 c26)).setCell ⟨gh, 2, none⟩ (.slice B26 m26 k26)) (some ⟨bq, oq, none⟩) (p + 1) qs) := HQ.out.past3 (x := gh) hNI.out (HBQ.out.2) s26 A26 B26 l26 c26 m26 k26;go_wp2;go_roundg (p - (k + 1))
     case rel => exact ⟨k + 1, s24, A24, B24, l24, c24, m24, k24, s26, A26, B26, l26, c26, m26, k26, a, q, rfl, by omega, by go_num, kL.out, kH.out, QZ.past' HA.out hNI.out, QZ.past' HZ.out hNI.out, HLN.out, HHN.out, kR.out, hQ.out, HXs.out⟩
     case measure => omega

    .
     rw [if_neg hsz] at HHN;go_wp2;go_roundg (p - (k + 1))
     case rel => exact ⟨k + 1, s24, A24, B24, l24, c24, m24, k24, s25, A25, B25, l25, c25, m25, k25, a, z, rfl, by omega, by go_num, KL.out, KH.out, HA.out, HZZ.out, HLN.out, HHN.out, KR.out, HQ.out, HX.out⟩
     case measure => omega
  .
   obtain rfl : p = k := by omega
   have ea : a = lo := by rw [<- HAL.out, HLW.out]
   have ez : z = hi := by rw [<- HAH.out, HHW.out]
   subst ea ez;have HFA : Hid (FitR a L) := by have h := HF.out _ (bR (qs := qs) (k := p) (by rw [HL.out]; omega)); rw [HAL.out] at h; exact h
   have HFZ : Hid (FitR z L) := by have h := HF.out _ (bA (qs := qs) (k := p) (by rw [HL.out]; omega)); rw [HAH.out] at h; exact h
   clear HAL HAH HQ hlt;have cL0 : wr.cell? ⟨gl, 0, none⟩ = some (.bool s24) := KL.out.cell 0;have cL1 : wr.cell? ⟨gl, 1, none⟩ = some (.slice A24 l24 c24) := KL.out.cell 1;have cL2 : wr.cell? ⟨gl, 2, none⟩ = some (.slice B24 m24 k24) := KL.out.cell 2
   go_wp2_with fail
   clear cL0 cL1 cL2;refine (bQ _ a L _ HA.out HFA.out (by omega)).mono ?_;rw [HZL.out];rintro e w11 ⟨v30, rfl, hv, hX⟩;replace hX : Ext wr w11 := by with_reducible exact hX
   replace HX := xT HX hX;replace HA := hid (HA.out.ext hX);replace HZZ := hid (HZZ.out.ext hX);replace KR := xE KR hX;replace KL := xE KL hX;replace KH := xE KH hX;clear hX;have HV := hid hv;clear hv
   go_wp2_with fail
   refine (cm HV.out).mono ?_;rw [HNL.out, HLO.out];rintro e w12 ⟨rfl, hX⟩;replace hX : Ext w11 w12 := by with_reducible exact hX
   replace HX := xT HX hX;replace HA := hid (HA.out.ext hX);replace HZZ := hid (HZZ.out.ext hX);replace HV := hid (HV.out.ext hX);replace KR := xE KR hX;replace KL := xE KL hX;replace KH := xE KH hX;clear hX HV;have cH0 : w12.cell? ⟨gh, 0, none⟩ = some (.bool s25) := KH.out.cell 0;have cH1 : w12.cell? ⟨gh, 1, none⟩ = some (.slice A25 l25 c25) := KH.out.cell 1;have cH2 : w12.cell? ⟨gh, 2, none⟩ = some (.slice B25 m25 k25) := KH.out.cell 2
   go_wp2_with fail
   clear cH0 cH1 cH2;refine (cR _ z L _ HZZ.out HFZ.out (by omega)).mono ?_;rw [HZH.out];rintro e w13 ⟨v31, rfl, hv, hX⟩;replace hX : Ext w12 w13 := by with_reducible exact hX
   replace HX := xT HX hX;replace HA := hid (HA.out.ext hX);replace HZZ := hid (HZZ.out.ext hX);replace KR := xE KR hX;replace KL := xE KL hX;replace KH := xE KH hX;clear hX;have HV := hid hv;clear hv
   go_wp2_with fail
   refine (cm HV.out).mono ?_;rw [HNH.out, HHI.out];rintro e w14 ⟨rfl, hX⟩;replace hX : Ext w13 w14 := by with_reducible exact hX
   replace HX := xT HX hX;replace HA := hid (HA.out.ext hX);replace HZZ := hid (HZZ.out.ext hX);replace HV := hid (HV.out.ext hX);replace KR := xE KR hX;replace KL := xE KL hX;replace KH := xE KH hX;clear hX;have cR0 : w14.cell? ⟨w.heap.size, 0, none⟩ = some (.int .i64 0) := KR.out.cell 0;have fR0 : w14.frozen? ⟨w.heap.size, 0, none⟩ = false := KR.out.free 0;have cR1 : w14.cell? ⟨w.heap.size, 1, none⟩ = some (.int .i64 0) := KR.out.cell 1;have fR1 : w14.frozen? ⟨w.heap.size, 1, none⟩ = false := KR.out.free 1;go_wp2;refine bodyPost_ret (v := .tuple #[.agg #[.int .i64 0, .int .i64 0], .int .i64 3]) (by simp [results, Try.results110, go_sem, *]) rfl ?_;exact ⟨rfl, HX.out.two (Nat.le_refl _) _ _⟩
theorem cC (q : Rat) : (q < 0 /\ aU q = -1) \/ (q = 0 /\ aU q = 0) \/ (0 < q /\ aU q = 1) := by
 unfold aU
 by_cases h1 : q.num < 0
 .
  left
  refine ⟨?_, by simp [h1]⟩;apply Rat.not_le.1;intro h;have := Rat.num_nonneg.2 h;omega
 .
  by_cases h2 : q.num = 0
  .
   right; left
   exact ⟨Rat.num_eq_zero.1 h2, by simp [h2]⟩
  .
   right; right
   refine ⟨?_, by simp [h1, h2]⟩;apply Rat.not_le.1;intro h;have h3 : 0 <= (-q).num := Rat.num_nonneg.2 (by grind);rw [Rat.neg_num] at h3;omega
/-- The span of two integers, if both are within the limits. -/
def pV (lo hi : Int) : Int := if aZ lo = 0 /\ aZ hi = 0 then lo else 0
def pW (lo hi : Int) : Int := if aZ lo = 0 /\ aZ hi = 0 then hi else 0
def pX (lo hi : Int) : Int := if aZ lo = 0 /\ aZ hi = 0 then 0 else 3
def jm (w : World) (lo hi : Int) (e : Ending) (w' : World) : Prop := e = .returned (.tuple #[.agg #[.int .i64 (pV lo hi), .int .i64 (pW lo hi)], .int .i64 (pX lo hi)]) /\ Ext w w'
theorem lS {lo hi : Int} (h0 : aZ lo = 0) (h1 : aZ hi = 0) : pV lo hi = lo /\ pW lo hi = hi /\ pX lo hi = 0 := ⟨if_pos ⟨h0, h1⟩, if_pos ⟨h0, h1⟩, if_pos ⟨h0, h1⟩⟩
theorem pJ {lo hi : Int} (h : ¬ (aZ lo = 0 /\ aZ hi = 0)) : pV lo hi = 0 /\ pW lo hi = 0 /\ pX lo hi = 3 := ⟨if_neg h, if_neg h, if_neg h⟩
theorem jn (z : Int) : aZ z = 0 \/ aZ z = 3 := by unfold aZ; split <;> simp
theorem j7 {w : World} {lo hi : Int} (h0 : aZ lo = 0) (h1 : aZ hi = 0) : ∀ e w', lL w (.agg #[.int .i64 lo, .int .i64 hi]) 0 e w' -> jm w lo hi e w' := by
 rintro e w' ⟨rfl, hX⟩;obtain ⟨e1, e2, e3⟩ := lS h0 h1;exact ⟨by rw [e1, e2, e3], hX⟩
theorem gW {w : World} {lo hi : Int} (h : ¬ (aZ lo = 0 /\ aZ hi = 0)) : ∀ e w', lL w (.agg #[.int .i64 0, .int .i64 0]) 3 e w' -> jm w lo hi e w' := by
 rintro e w' ⟨rfl, hX⟩;obtain ⟨e1, e2, e3⟩ := pJ h;exact ⟨by rw [e1, e2, e3], hX⟩
theorem iQ (A : Option Addr) (p cq L : Nat) (qs : List Rat) (w : World) (hq : QsAt w A (p + 1) qs) (hp : p <= 1000) (hf : ∀ q ∈ qs, FitR q L) (hL : L + L + 1 <= 400000) : Calls Try.prog 110 #[.slice A (p + 1) cq] w (jm w (bl qs p).floor (-(-(aK qs p)).floor)) := by
 rcases jn (bl qs p).floor with h0 | h0
 .
  rcases jn (-(-(aK qs p)).floor) with h1 | h1
  .
   exact (j4 A p cq L qs w hq hp hf hL h0 h1).mono (j7 h0 h1)
  .
   exact (j6 A p cq L qs w hq hp hf hL h0 h1).mono (gW (fun h => by omega))
 .
  exact (j5 A p cq L qs w hq hp hf hL h0).mono (gW (fun h => by omega))
/-- The block of a row holds no integers. -/
def RowNI (w : World) (v : Value) : Prop := ∀ g, v.ownBlock = some g -> NoInts w g
theorem fc {z : Array Value} {n : Nat} {u : Value} (hz : 0 < z.size) (h : u ∈ Builtin.zeroCells z n) : u ∈ z := by
 unfold Builtin.zeroCells at h;simp only [Array.mem_map] at h;obtain ⟨i, _, rfl⟩ := h;have hi : i % z.size < z.size := Nat.mod_lt _ hz;rw [getElem!_pos z (i % z.size) hi];exact Array.getElem_mem hi
section
variable {P : Program}
theorem iR (w : World) {t e : TypeId} {size bytes : Nat} {z : Value} (E : Elem P t e size bytes z) (ty : TypeId) (base : Nat) (v : Value) (n : Nat) (xs : List Value) (hown : w.ownsRow base e size v n xs) (hN : RowNI w v) (hzn : ∀ u ∈ z.cells, cj u)
  (ad : Addr) (m c : Nat) (news : List Value) (hl : news.length = m * size) (hat : At w (some ad) news) (h1 : ∀ u ∈ news, u.oneCell' = true) (hnn : ∀ u ∈ news, cj u) (hm : 0 < m)
  (hbytes : (n + m) * bytes <= 140737488355328) (h63 : n + m <= maxLen) (hbase : base <= w.heap.size) :
  ∃ v' w', (Builtin.append_ #[t, t] ty #[v, .slice (some ad) m c]).run P w = .ok v' w' /\ w'.ownsRow base e size v' (n + m) (xs ++ news) /\ w.grownBy w' v.ownBlock /\ (v'.ownBlock = v.ownBlock \/ v'.ownBlock = some w.heap.size) /\ RowNI w' v' := by
 obtain ⟨i, hi, hz, hs, hb⟩ := E.info;have hnews : ∀ j u, news[j]? = some u -> w.cell? (ad.add j) = some u := hat.add ad rfl;obtain ⟨v', w', hr, h2, h3, _, h5⟩ := run_append_own_at (P := P) w base t ty e i z size bytes E.und hi hz hs hb E.cells E.pos v n xs hown ad m c news hl hnews h1 h63 hbytes hbase;refine ⟨v', w', hr, h2, h3, h5, ?_⟩;have hzc : 0 < z.cells.size := by rw [E.cells]; exact E.pos
 have hmax : n + m <= 9223372036854775807 := by simp only [maxLen] at h63; omega
 have new : ∀ (ys : Array Value) (k : Nat), (∀ u ∈ ys, cj u) -> v' = .slice (some ⟨w.heap.size, 0, none⟩) (n + m) k -> w' = w.drew.alloc (.cells (ys ++ Builtin.zeroCells z.cells (k - (n + m))) e) -> RowNI w' v' := by
  rintro ys k hys rfl rfl g hg;obtain rfl : w.heap.size = g := by simpa [Value.ownBlock] using hg
  refine ⟨_, _, heap_alloc_new w.drew _, fun u hu => ?_⟩
  rcases Array.mem_append.1 hu with h | h
  .
   exact hys u h
  .
   exact hzn u (fc hzc h)
 rcases hown.2 with ⟨rfl, rfl⟩ | ⟨g0, cap, cur, rfl, hbg, hg, hnc, hcm, hcs, htake⟩
 .
  have hr' := run_append_nil (P := P) w t ty e i z E.und hi hz ad m c news (by rw [hs]; exact hl) hnews hm (by omega) (by rw [hb]; have hb' := hbytes; simp only [Nat.zero_add] at hb'; omega);rw [hr'] at hr;injection hr with e1 e2;refine new news.toArray (grownCap w m 0 e) (fun u hu => hnn u (by simpa using hu)) (by rw [<- e1, Nat.zero_add]) (by rw [<- e2, Nat.zero_add])
 .
  obtain ⟨t0, cs0, hB, hcs0⟩ := hN g0 rfl
  have hcur : ∀ u ∈ cur.toList, cj u := by
   have h : some (Obj.cells cur e (0, 0)) = some (Obj.cells cs0 t0 (0, 0)) := hg.symm.trans hB;injection h with h;injection h with e1 e2;subst e1;exact fun u hu => hcs0 u (by simpa using hu)
  have hxs : ∀ u ∈ xs, cj u := fun u hu => by
   rw [<- htake] at hu;exact hcur u (List.mem_of_mem_take hu)
  by_cases hroom : n + m <= cap
  .
   have hfit : n * i.size + news.length <= cur.size := by rw [hs, hl, hcs, <- Nat.add_mul]; exact Nat.mul_le_mul_right _ hroom
   have hr' := run_append_room (P := P) w t ty e i E.und hi g0 n cap cur hg ad m c news (by rw [hs]; exact hl) hnews h1 hroom hfit;rw [hr'] at hr;injection hr with e1 e2;subst e1 e2;intro g hgg;obtain rfl : g0 = g := by simpa [Value.ownBlock] using hgg
   refine ⟨_, _, setRow_heap w g0 cur _ e _ hg, fun u hu => ?_⟩;simp only [List.mem_toArray, List.mem_append] at hu
   rcases hu with (h | h) | h
   .
    exact hcur u (List.mem_of_mem_take h)
   .
    exact hnn u h
   .
    exact hcur u (List.mem_of_mem_drop h)
  .
   have hr' := run_append_grow (P := P) w t ty e i z E.und hi hz ⟨g0, 0, none⟩ n cap xs (by rw [hs]; exact hown.1) (hown.cells (g := g0) rfl) ad m c news (by rw [hs]; exact hl) hnews (by omega) (by omega) (by rw [hb]; exact growslice_fits (by omega) hbytes);rw [hr'] at hr;injection hr with e1 e2;refine new (xs.toArray ++ news.toArray) (grownCap w (n + m) cap e) (fun u hu => ?_) e1.symm e2.symm
   rcases Array.mem_append.1 hu with h | h
   .
    exact hxs u (by simpa using h)
   .
    exact hnn u (by simpa using h)
end
/-- Integers' rows stay as they are while a row grows that holds none. -/
theorem Ints.grownNI {k : IntKind} {w w' : World} {A : Option Addr} {n : Nat} {xs : List Int} {v : Value} (h : Ints k w A n xs) (hN : RowNI w v) (hg : w.grownBy w' v.ownBlock) : Ints k w' A n xs := by
 refine ⟨h.1, h.2.1, fun hn => ?_⟩;obtain ⟨b, off, hA, hc⟩ := h.2.2 hn;refine ⟨b, off, hA, fun j u hj => ?_⟩;have hcell := hc j u hj
 have hne : some b ≠ v.ownBlock := by
  intro e;have hni := (hN b e.symm).cell (off + j) u hcell;rw [List.getElem?_map] at hj
  rcases hxj : xs[j]? with _ | y
  .
   rw [hxj] at hj; cases hj
  .
   rw [hxj] at hj;simp only [Option.map_some, Option.some.injEq] at hj;exact hni k y hj.symm
 rw [<- hcell];exact World.cell?_of_block (w := w) (hg.block b (World.block_lt_of_cell? w _ hcell) hne)
theorem NatV.grownNI {k : IntKind} {B : Int} {w w' : World} {x v : Value} {n : Nat} (h : NatV k B w x n) (hN : RowNI w v) (hg : w.grownBy w' v.ownBlock) : NatV k B w' x n := by
 obtain ⟨A, l, c, xs, h1, h2, h3⟩ := h;exact ⟨A, l, c, xs, h1, h2.grownNI hN hg, h3⟩
theorem QZ.grownNI {w w' : World} {x v : Value} {q : Rat} (h : QZ w x q) (hN : RowNI w v) (hg : w.grownBy w' v.ownBlock) : QZ w' x q := by
 obtain ⟨b, A, l, c, B, m, k, h0, h1, h2, h3⟩ := h;exact ⟨b, A, l, c, B, m, k, h0, h1, NatV.grownNI h2 hN hg, NatV.grownNI h3 hN hg⟩
/-- A relation between the k cells of an element and the element: stable under what grows and under stores into blocks without integers. -/
structure oJ {α : Type} (k : Nat) (R : World -> List Value -> α -> Prop) : Prop where
 len : ∀ w cs x, R w cs x -> cs.length = k
 keep : ∀ w w' L cs x, R w cs x -> Keeps L w w' -> (∀ g ∈ L, NoInts w g) -> R w' cs x
 free : k = 1 -> ∀ w w' cs x, R w cs x -> R w' cs x
/-- The cells 'vs' are those of the n elements 'f 0', 'f 1' .. -/
def NumK {α : Type} (k : Nat) (R : World -> List Value -> α -> Prop) (w : World) (vs : List Value) (n : Nat) (f : Nat -> α) : Prop :=
 vs.length = n * k /\ ∀ j, j < n -> ∃ cs : List Value, cs.length = k /\ R w cs (f j) /\ ∀ i, i < k -> vs[j * k + i]? = cs[i]?
section
variable {α : Type} {k n m : Nat} {R : World -> List Value -> α -> Prop} {w w' : World} {vs : List Value} {f g : Nat -> α}
theorem NumK.nil (k : Nat) (R : World -> List Value -> α -> Prop) (w : World) (f : Nat -> α) : NumK k R w [] 0 f := ⟨by simp, fun j hj => by omega⟩
theorem NumK.imp {R' : World -> List Value -> α -> Prop} (h : NumK k R w vs n f) (hi : ∀ cs x, R w cs x -> R' w' cs x) : NumK k R' w' vs n f :=
 ⟨h.1, fun j hj => by obtain ⟨cs, h1, h2, h3⟩ := h.2 j hj; exact ⟨cs, h1, hi _ _ h2, h3⟩⟩
theorem NumK.congr (h : NumK k R w vs n f) (e : ∀ j, j < n -> f j = g j) : NumK k R w vs n g :=
 ⟨h.1, fun j hj => by obtain ⟨cs, h1, h2, h3⟩ := h.2 j hj; exact ⟨cs, h1, e j hj ▸ h2, h3⟩⟩
theorem NumK.keep (hk : oJ k R) {L : List Nat} (h : NumK k R w vs n f) (he : Keeps L w w') (hN : ∀ g ∈ L, NoInts w g) : NumK k R w' vs n f := h.imp fun _ _ hr => hk.keep _ _ L _ _ hr he hN
/-- One more element behind them. -/
theorem NumK.snoc (h : NumK k R w vs n f) {cs : List Value} (hl : cs.length = k) {x : α} (hR : R w cs x) : NumK k R w (vs ++ cs) (n + 1) (fun i => if i = n then x else f i) := by
 refine ⟨by rw [List.length_append, h.1, hl, Nat.succ_mul], fun j hj => ?_⟩
 by_cases e : j = n
 .
  subst e;refine ⟨cs, hl, by simp only [if_true]; exact hR, fun i hi => ?_⟩;rw [List.getElem?_append_right (by rw [h.1]; omega), h.1]
  congr 1; omega
 .
  obtain ⟨ds, d1, d2, d3⟩ := h.2 j (by omega);refine ⟨ds, d1, by simp only [if_neg e]; exact d2, fun i hi => ?_⟩;rw [<- d3 i hi];refine List.getElem?_append_left ?_;rw [h.1];have : (j + 1) * k <= n * k := Nat.mul_le_mul_right _ (by omega);rw [Nat.succ_mul] at this;omega
end
/-- Numbers of three cells: the program's, the reference's, those of the interface. -/
def Tri (P : World -> Value -> Rat -> Prop) (w : World) (cs : List Value) (q : Rat) : Prop := ∃ s A l c B m k, cs = [.bool s, .slice A l c, .slice B m k] /\ P w (.agg #[.bool s, .slice A l c, .slice B m k]) q
theorem Tri.mk {P : World -> Value -> Rat -> Prop} {w : World} {s : Bool} {A B : Option Addr} {l c m k : Nat} {q : Rat} (h : P w (.agg #[.bool s, .slice A l c, .slice B m k]) q) : Tri P w [.bool s, .slice A l c, .slice B m k] q := ⟨_, _, _, _, _, _, _, rfl, h⟩
theorem pK : oJ 3 (Tri QZ) := ⟨fun w cs x h => by obtain ⟨s, A, l, c, B, m, k, rfl, _⟩ := h; rfl, fun w w' L cs x h hk hN => by obtain ⟨s, A, l, c, B, m, k, e, h⟩ := h; exact ⟨s, A, l, c, B, m, k, e, h.keepsNI hk hN⟩, fun h => by omega⟩
section
variable {P : World -> Value -> Rat -> Prop} {w : World} {vs : List Value} {n : Nat} {f : Nat -> Rat}
/-- The cells of number j. -/
theorem NumK.three (h : NumK 3 (Tri P) w vs n f) {j : Nat} (hj : j < n) : ∃ s A l c B m k, vs[j * 3]? = some (.bool s) /\ vs[j * 3 + 1]? = some (.slice A l c) /\ vs[j * 3 + 2]? = some (.slice B m k) /\ P w (.agg #[.bool s, .slice A l c, .slice B m k]) (f j) := by
 obtain ⟨cs, h1, ⟨s, A, l, c, B, m, k, rfl, h2⟩, h3⟩ := h.2 j hj;exact ⟨s, A, l, c, B, m, k, by have := h3 0 (by omega); simpa using this, by have := h3 1 (by omega); simpa using this, by have := h3 2 (by omega); simpa using this, h2⟩
end
section
variable {α : Type} {k m n base : Nat} {te : TypeId} {R : World -> List Value -> α -> Prop} {w w' : World} {vs : List Value} {T U : Nat -> Nat -> α}
theorem RowNI.keeps {w w' : World} {v : Value} {L : List Nat} (h : RowNI w v) (he : Keeps L w w') (hn : ∀ g, v.ownBlock = some g -> g ∉ L) : RowNI w' v := fun g hg => by
 obtain ⟨t, cs, h1, h2⟩ := h g hg;exact ⟨t, cs, (he.block g h1.lt (hn g hg)).trans h1, h2⟩
end
/-- Element k of an array of three. -/
def oK {α : Type} (x y z : α) (k : Nat) : α := if k = 0 then x else if k = 1 then y else z
section
variable {α : Type} {k base m n gt ct : Nat} {te tr : TypeId} {R : World -> List Value -> α -> Prop} {w w' : World} {vs : List Value} {T U : Nat -> Nat -> α}
theorem eD {base g size n c : Nat} {e : TypeId} {xs : List Value} (h : w.ownsRow base e size (.slice (some ⟨g, 0, none⟩) n c) n xs) {i : Nat} {u : Value} (hu : xs[i]? = some u) : w.cell? ⟨g, i, none⟩ = some u := by
 have := h.cells (g := g) rfl i u hu
 rwa [Addr.add_lit, Nat.zero_add] at this
end
theorem nu (d : Nat) (x y z a b c : Int) (w : World) : (Op.equalIn (d + 2) 22 (.agg #[.int .i64 x, .int .i64 y, .int .i64 z]) (.agg #[.int .i64 a, .int .i64 b, .int .i64 c])).run Try.prog w = .ok (decide (x = a /\ y = b /\ z = c)) w := by
 have hu : Try.prog.underlying 22 = some (.array 3 3) := by kernel_rfl
 have hi : Try.prog.underlying 3 = some (.int .i64) := by kernel_rfl
 have hn : (sizeOf 3).run Try.prog w = .ok 1 w := by kernel_rfl
 have hp : ∀ (p q r : Int) (i : Nat) (v : Value), (#[.int .i64 p, .int .i64 q, .int .i64 r] : Array Value)[i]? = some v -> (Go.part 3 #[.int .i64 p, .int .i64 q, .int .i64 r] i).run Try.prog w = .ok v w := fun p q r i v h => run_part_plain (P := Try.prog) w (by kernel_rfl) h
 have p0 := fun p q r => hp p q r 0 (.int .i64 p) rfl
 have p1 := fun p q r => hp p q r 1 (.int .i64 q) rfl
 have p2 := fun p q r => hp p q r 2 (.int .i64 r) rfl
 have he : ∀ (p q : Int), (Op.equalIn (d + 1) 3 (.int .i64 p) (.int .i64 q)).run Try.prog w = .ok (p == q) w := fun p q => run_equalIn_int (P := Try.prog) w d 3 .i64 .i64 p q hi
 rw [Op.equalIn];simp only [Sem.run_bind, run_underlying hu, Result.andThen_ok, hn];simp only [Std.Legacy.Range.forIn_eq_forIn_range', Std.Legacy.Range.size, List.range', List.forIn_cons, List.forIn_nil];simp [Sem.run_bind, Result.andThen_ok, p0, p1, p2, he]
 by_cases h1 : x = a
 .
  by_cases h2 : y = b
  .
   by_cases h3 : z = c
   .
    simp [h1, h2, h3]
   .
    simp [h1, h2, h3]
  .
   simp [h1, h2]
 .
  simp [h1]
end Go.Proofs.Ytikhlcgnlbinfaa
namespace Go.Proofs.Ytikhlcgnlbinfaa
open Lib (hid)
open Go.ChangeShapes Go.WideShapes Go.ChangeAt Go.RowKit Go.Joins
/-- The cells of a struct that came in. -/
theorem iS {P : Program} {W : World} {H : Type} {enc : TypeId × Value -> H} {t : TypeId} {fs : Array Field} {v : Value} {d : DataW H} {p : List MemPlace} {b base : Nat} {sp : Nat -> Bool} {hd : Bool} (hs : P.underlying t = some (.struct fs))
  (hv : Value.okWide P W .any base t v) (h : DataW.Trod enc P W b sp hd t v d p) : ∃ cs fuel z, v = .agg cs /\ cs.toList.length = P.cellsOf t /\ DataW.trod enc P W b sp hd fuel t cs.toList = some z := by
 obtain ⟨cs, rfl, hsz⟩ := okWide_struct hs hv;obtain ⟨fuel, hf⟩ := h;exact ⟨cs, fuel, _, rfl, by simpa using hsz, by simpa [Value.cells] using hf⟩
theorem pc {α : Type} {cs : List α} (h : cs.length = 3) : ∃ c0 c1 c2, cs = [c0, c1, c2] := by
 match cs, h with
 | [c0, c1, c2], _ => exact ⟨c0, c1, c2, rfl⟩
end Go.Proofs.Ytikhlcgnlbinfaa
