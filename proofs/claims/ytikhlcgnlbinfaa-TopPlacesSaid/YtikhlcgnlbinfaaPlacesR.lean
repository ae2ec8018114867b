/- Lemmas of the proof that follows (Places, part 18): walks of functions by contract, and plain lemmas. Conditions: none. -/
import Derived.Test.YtikhlcgnlbinfaaPlacesQ
set_option maxRecDepth 100000
set_option maxHeartbeats 8000000
namespace Go.Proofs.Ytikhlcgnlbinfaa
open Lib (hid)
open Go.RowKit
theorem Blk.put11 {W : World} {g : Nat} {T : TypeId} {a0 a1 a2 a3 a4 a5 a6 a7 a8 a9 a10 x0 x1 x2 x3 x4 x5 x6 x7 x8 x9 x10 v : Value} (h : Blk W g T #[a0, a1, a2, a3, a4, a5, a6, a7, a8, a9, a10]) (hu : v = .agg #[x0, x1, x2, x3, x4, x5, x6, x7, x8, x9, x10]) : Blk (((((((((((W.setCell ⟨g, 0, none⟩ x0).setCell ⟨g, 1, none⟩ x1).setCell ⟨g, 2, none⟩ x2).setCell ⟨g, 3, none⟩ x3).setCell ⟨g, 4, none⟩ x4).setCell ⟨g, 5, none⟩ x5).setCell ⟨g, 6, none⟩ x6).setCell ⟨g, 7, none⟩ x7).setCell ⟨g, 8, none⟩ x8).setCell ⟨g, 9, none⟩ x9).setCell ⟨g, 10, none⟩ x10) g T (dU v) := by
 subst hu;exact Blk.puts11 h
theorem oz (gk gp gf gm gs : Nat) (fa fb : Fx) (rg rs ra rr tl : Int) (w : World) (hG : GoodF rg rs ra rr fa fb) (hT : TrkM w gp gf fa fb) (h1 : fa.t <= tl) (h2 : tl <= fb.t) (c0 : w.cell? ⟨gk, 0, none⟩ = some (.slice (some ⟨gp, 0, none⟩) 1 1)) (c1 : w.cell? ⟨gp, 0, none⟩ = some (.slice (some ⟨gf, 0, none⟩) 2 2)) (c2 : w.cell? ⟨gs, 0, none⟩ = some (.int .i64 tl)) (m0 : w.cell? ⟨gm, 0, none⟩ = some (.int .i64 (rg))) (m1 : w.cell? ⟨gm, 1, none⟩ = some (.int .i64 (rs))) (m2 : w.cell? ⟨gm, 2, none⟩ = some (.int .i64 (ra))) (m3 : w.cell? ⟨gm, 3, none⟩ = some (.int .i64 (rr))) (a : Act) (Q : Exit -> Act -> World -> Prop) (hsize : 55 <= a.tmps.size)
  (s4 : a.tmps[4]? = some (.pointer (some ⟨gk, 0, none⟩)))
  (s5 : a.tmps[5]? = some (.pointer (some ⟨gm, 0, none⟩)))
  (s6 : a.tmps[6]? = some (.pointer (some ⟨gs, 0, none⟩)))
  (s10 : a.tmps[10]? = some (.int .i64 (0)))
  (hend : ∀ (xv0 xv1 xv2 xv3 xv4 xv5 xv6 xv7 xv8 xv9 xv10 : Value) (W : World), (xv0 = .pointer (some ⟨gk, 0, none⟩)) -> (xv1 = .slice (some ⟨gp, 0, none⟩) 1 1) -> (xv2 = .int .i64 (0)) -> (xv3 = .pointer (some ⟨gp, 0, none⟩)) -> (xv4 = .slice (some ⟨gf, 0, none⟩) 2 2) -> (xv5 = .agg #[.int .i64 (rg), .int .i64 (rs), .int .i64 (ra), .int .i64 (rr)]) -> (xv6 = .pointer (some ⟨gs, 0, none⟩)) -> (xv7 = .int .i64 (tl)) -> (∃ f : Nat -> Int, xv8 = .agg #[.int .i64 (f 0), .int .i64 (f 1), .int .i64 (f 2), .int .i64 (f 3), .int .i64 (f 4), .int .i64 (f 5), .int .i64 (f 6), .int .i64 (f 7), .int .i64 (f 8), .int .i64 (f 9), .int .i64 (f 10)]) -> (∃ g, xv9 = .pointer (some ⟨g, 0, none⟩) /\ w.heap.size <= g /\ Blk W g 49 (dU xv8)) -> Ext w W -> wpList Try.prog (ae Try.f26 10).toArray Q [] (((((((((((a.put (some 46) xv0).put (some 47) xv1).put (some 48) xv2).put (some 49) xv3).put (some 50) xv4).put (some 51) xv5).put (some 52) xv6).put (some 53) xv7).put (some 54) xv8).put (some 11) xv9).put (none) xv10) W) :
  (Code.region 10 (ae Try.f26 10).toArray true).wp Try.prog Q a w := by
 have hsz : ∀ d, some d ∈ ([some 46, some 47, some 48, some 49, some 50, some 51, some 52, some 53, some 54, some 11, none] : List (Option Tmp)) -> d < a.tmps.size := aI (by decide) hsize;refine bk 11 [some 46, some 47, some 48, some 49, some 50, some 51, some 52, some 53, some 54, some 11, none] [[], [0], [], [1, 2], [3], [], [], [6], [4, 5, 7], [], [8, 9]] [[], [], [], [], [], [], [], [], [10], [10], []] (fun (done : Nat -> Prop) (us : Nat -> Value) (W : World) => Ext w W /\ (done 0 -> us 0 = .pointer (some ⟨gk, 0, none⟩)) /\ (done 1 -> us 1 = .slice (some ⟨gp, 0, none⟩) 1 1) /\ (done 2 -> us 2 = .int .i64 (0)) /\ (done 3 -> us 3 = .pointer (some ⟨gp, 0, none⟩)) /\ (done 4 -> us 4 = .slice (some ⟨gf, 0, none⟩) 2 2) /\ (done 5 -> us 5 = .agg #[.int .i64 (rg), .int .i64 (rs), .int .i64 (ra), .int .i64 (rr)]) /\ (done 6 -> us 6 = .pointer (some ⟨gs, 0, none⟩)) /\ (done 7 -> us 7 = .int .i64 (tl)) /\ (done 8 -> ∃ f : Nat -> Int, (us 8) = .agg #[.int .i64 (f 0), .int .i64 (f 1), .int .i64 (f 2), .int .i64 (f 3), .int .i64 (f 4), .int .i64 (f 5), .int .i64 (f 6), .int .i64 (f 7), .int .i64 (f 8), .int .i64 (f 9), .int .i64 (f 10)]) /\ Loc w W 49 #[.int .i64 (0), .int .i64 (0), .int .i64 (0), .int .i64 (0), .int .i64 (0), .int .i64 (0), .int .i64 (0), .int .i64 (0), .int .i64 (0), .int .i64 (0), .int .i64 (0)] (dU (us 8)) (done 9) (done 10) (us 9)) (by kernel_rfl) (by kernel_rfl) hsz (fun p q us W h => by have e : p = q := funext fun k => propext (h k); rw [e]; exact id) (fun us => ⟨(Ext.refl w).drew, fun h => h.elim, fun h => h.elim, fun h => h.elim, fun h => h.elim, fun h => h.elim, fun h => h.elim, fun h => h.elim, fun h => h.elim, fun h => h.elim, Loc.unmade id⟩) ?_ ?_
 .
  clear hend;simp only [ae, Try.f26, ab, Option.bind_some, Nat.reduceBEq, if_true, if_false, Bool.false_eq_true, Option.getD_some];simp only [List.take_succ_cons, List.take_zero];refine ⟨?_, ?_, ?_, ?_, ?_, ?_, ?_, ?_, ?_, ?_, ?_, trivial⟩
  .
   intro done us W hJ hdep haft hnot b hb hb' K hK Q';obtain ⟨hX0, cc0, cc1, cc2, cc3, cc4, cc5, cc6, cc7, pp8, ll9⟩ := hJ;have e4 := (hb' 4 (by simp)).trans s4;clear hb hb';have hfin := hK (.pointer (some ⟨gk, 0, none⟩)) _ ⟨hX0, fun _ => rfl, fun h => cc1 (h.resolve_right (by decide)), fun h => cc2 (h.resolve_right (by decide)), fun h => cc3 (h.resolve_right (by decide)), fun h => cc4 (h.resolve_right (by decide)), fun h => cc5 (h.resolve_right (by decide)), fun h => cc6 (h.resolve_right (by decide)), fun h => cc7 (h.resolve_right (by decide)), fun h => pp8 (h.resolve_right (by decide)), Loc.same ll9 ⟨fun h => h.resolve_right (by decide), .inl⟩ ⟨fun h => h.resolve_right (by decide), .inl⟩⟩;clear hK cc0 cc1 cc2 cc3 cc4 cc5 cc6 cc7 pp8 ll9;go_simp;exact hfin
  .
   intro done us W hJ hdep haft hnot b hb hb' K hK Q';obtain ⟨hX0, cc0, cc1, cc2, cc3, cc4, cc5, cc6, cc7, pp8, ll9⟩ := hJ;simp only [List.getD_cons_succ, List.getD_cons_zero, List.mem_cons, List.not_mem_nil, or_false, forall_eq] at hdep;have e46 := hb 0 46 rfl;rw [cc0 hdep] at e46;clear hb hb';have z0 := Ext.cell hX0 c0;have hfin := hK (.slice (some ⟨gp, 0, none⟩) 1 1) _ ⟨hX0, fun h => cc0 (h.resolve_right (by decide)), fun _ => rfl, fun h => cc2 (h.resolve_right (by decide)), fun h => cc3 (h.resolve_right (by decide)), fun h => cc4 (h.resolve_right (by decide)), fun h => cc5 (h.resolve_right (by decide)), fun h => cc6 (h.resolve_right (by decide)), fun h => cc7 (h.resolve_right (by decide)), fun h => pp8 (h.resolve_right (by decide)), Loc.same ll9 ⟨fun h => h.resolve_right (by decide), .inl⟩ ⟨fun h => h.resolve_right (by decide), .inl⟩⟩;clear hK cc0 cc1 cc2 cc3 cc4 cc5 cc6 cc7 pp8 ll9;go_simp;exact hfin
  .
   intro done us W hJ hdep haft hnot b hb hb' K hK Q';obtain ⟨hX0, cc0, cc1, cc2, cc3, cc4, cc5, cc6, cc7, pp8, ll9⟩ := hJ;have e10 := (hb' 10 (by simp)).trans s10;clear hb hb';have hfin := hK (.int .i64 (0)) _ ⟨hX0, fun h => cc0 (h.resolve_right (by decide)), fun h => cc1 (h.resolve_right (by decide)), fun _ => rfl, fun h => cc3 (h.resolve_right (by decide)), fun h => cc4 (h.resolve_right (by decide)), fun h => cc5 (h.resolve_right (by decide)), fun h => cc6 (h.resolve_right (by decide)), fun h => cc7 (h.resolve_right (by decide)), fun h => pp8 (h.resolve_right (by decide)), Loc.same ll9 ⟨fun h => h.resolve_right (by decide), .inl⟩ ⟨fun h => h.resolve_right (by decide), .inl⟩⟩;clear hK cc0 cc1 cc2 cc3 cc4 cc5 cc6 cc7 pp8 ll9;go_simp;exact hfin
  .
   intro done us W hJ hdep haft hnot b hb hb' K hK Q';obtain ⟨hX0, cc0, cc1, cc2, cc3, cc4, cc5, cc6, cc7, pp8, ll9⟩ := hJ;simp only [List.getD_cons_succ, List.getD_cons_zero, List.mem_cons, List.not_mem_nil, or_false, forall_eq_or_imp, forall_eq] at hdep;have e47 := hb 1 47 rfl;rw [cc1 hdep.1] at e47;have e48 := hb 2 48 rfl;rw [cc2 hdep.2] at e48;clear hb hb';have hfin := hK (.pointer (some ⟨gp, 0, none⟩)) _ ⟨hX0, fun h => cc0 (h.resolve_right (by decide)), fun h => cc1 (h.resolve_right (by decide)), fun h => cc2 (h.resolve_right (by decide)), fun _ => rfl, fun h => cc4 (h.resolve_right (by decide)), fun h => cc5 (h.resolve_right (by decide)), fun h => cc6 (h.resolve_right (by decide)), fun h => cc7 (h.resolve_right (by decide)), fun h => pp8 (h.resolve_right (by decide)), Loc.same ll9 ⟨fun h => h.resolve_right (by decide), .inl⟩ ⟨fun h => h.resolve_right (by decide), .inl⟩⟩;clear hK cc0 cc1 cc2 cc3 cc4 cc5 cc6 cc7 pp8 ll9;go_simp;exact hfin
  .
   intro done us W hJ hdep haft hnot b hb hb' K hK Q';obtain ⟨hX0, cc0, cc1, cc2, cc3, cc4, cc5, cc6, cc7, pp8, ll9⟩ := hJ;simp only [List.getD_cons_succ, List.getD_cons_zero, List.mem_cons, List.not_mem_nil, or_false, forall_eq] at hdep;have e49 := hb 3 49 rfl;rw [cc3 hdep] at e49;clear hb hb';have z0 := Ext.cell hX0 c1;have hfin := hK (.slice (some ⟨gf, 0, none⟩) 2 2) _ ⟨hX0, fun h => cc0 (h.resolve_right (by decide)), fun h => cc1 (h.resolve_right (by decide)), fun h => cc2 (h.resolve_right (by decide)), fun h => cc3 (h.resolve_right (by decide)), fun _ => rfl, fun h => cc5 (h.resolve_right (by decide)), fun h => cc6 (h.resolve_right (by decide)), fun h => cc7 (h.resolve_right (by decide)), fun h => pp8 (h.resolve_right (by decide)), Loc.same ll9 ⟨fun h => h.resolve_right (by decide), .inl⟩ ⟨fun h => h.resolve_right (by decide), .inl⟩⟩;clear hK cc0 cc1 cc2 cc3 cc4 cc5 cc6 cc7 pp8 ll9;go_simp;exact hfin
  .
   intro done us W hJ hdep haft hnot b hb hb' K hK Q';obtain ⟨hX0, cc0, cc1, cc2, cc3, cc4, cc5, cc6, cc7, pp8, ll9⟩ := hJ;have e5 := (hb' 5 (by simp)).trans s5;clear hb hb';have z0 := Ext.cell hX0 m0;have z1 := Ext.cell hX0 m1;have z2 := Ext.cell hX0 m2;have z3 := Ext.cell hX0 m3;have hfin := hK (.agg #[.int .i64 (rg), .int .i64 (rs), .int .i64 (ra), .int .i64 (rr)]) _ ⟨hX0, fun h => cc0 (h.resolve_right (by decide)), fun h => cc1 (h.resolve_right (by decide)), fun h => cc2 (h.resolve_right (by decide)), fun h => cc3 (h.resolve_right (by decide)), fun h => cc4 (h.resolve_right (by decide)), fun _ => rfl, fun h => cc6 (h.resolve_right (by decide)), fun h => cc7 (h.resolve_right (by decide)), fun h => pp8 (h.resolve_right (by decide)), Loc.same ll9 ⟨fun h => h.resolve_right (by decide), .inl⟩ ⟨fun h => h.resolve_right (by decide), .inl⟩⟩;clear hK cc0 cc1 cc2 cc3 cc4 cc5 cc6 cc7 pp8 ll9;go_simp;exact hfin
  .
   intro done us W hJ hdep haft hnot b hb hb' K hK Q';obtain ⟨hX0, cc0, cc1, cc2, cc3, cc4, cc5, cc6, cc7, pp8, ll9⟩ := hJ;have e6 := (hb' 6 (by simp)).trans s6;clear hb hb';have hfin := hK (.pointer (some ⟨gs, 0, none⟩)) _ ⟨hX0, fun h => cc0 (h.resolve_right (by decide)), fun h => cc1 (h.resolve_right (by decide)), fun h => cc2 (h.resolve_right (by decide)), fun h => cc3 (h.resolve_right (by decide)), fun h => cc4 (h.resolve_right (by decide)), fun h => cc5 (h.resolve_right (by decide)), fun _ => rfl, fun h => cc7 (h.resolve_right (by decide)), fun h => pp8 (h.resolve_right (by decide)), Loc.same ll9 ⟨fun h => h.resolve_right (by decide), .inl⟩ ⟨fun h => h.resolve_right (by decide), .inl⟩⟩;clear hK cc0 cc1 cc2 cc3 cc4 cc5 cc6 cc7 pp8 ll9;go_simp;exact hfin
  .
   intro done us W hJ hdep haft hnot b hb hb' K hK Q';obtain ⟨hX0, cc0, cc1, cc2, cc3, cc4, cc5, cc6, cc7, pp8, ll9⟩ := hJ;simp only [List.getD_cons_succ, List.getD_cons_zero, List.mem_cons, List.not_mem_nil, or_false, forall_eq] at hdep;have e52 := hb 6 52 rfl;rw [cc6 hdep] at e52;clear hb hb';have z0 := Ext.cell hX0 c2;have hfin := hK (.int .i64 (tl)) _ ⟨hX0, fun h => cc0 (h.resolve_right (by decide)), fun h => cc1 (h.resolve_right (by decide)), fun h => cc2 (h.resolve_right (by decide)), fun h => cc3 (h.resolve_right (by decide)), fun h => cc4 (h.resolve_right (by decide)), fun h => cc5 (h.resolve_right (by decide)), fun h => cc6 (h.resolve_right (by decide)), fun _ => rfl, fun h => pp8 (h.resolve_right (by decide)), Loc.same ll9 ⟨fun h => h.resolve_right (by decide), .inl⟩ ⟨fun h => h.resolve_right (by decide), .inl⟩⟩;clear hK cc0 cc1 cc2 cc3 cc4 cc5 cc6 cc7 pp8 ll9;go_simp;exact hfin
  .
   intro done us W hJ hdep haft hnot b hb hb' K hK Q';obtain ⟨hX0, cc0, cc1, cc2, cc3, cc4, cc5, cc6, cc7, pp8, ll9⟩ := hJ;simp only [List.getD_cons_succ, List.getD_cons_zero, List.mem_cons, List.not_mem_nil, or_false, forall_eq_or_imp, forall_eq] at hdep;simp only [List.getD_cons_succ, List.getD_cons_zero, List.mem_cons, List.not_mem_nil, or_false, forall_eq_or_imp, forall_eq] at haft;have e50 := hb 4 50 rfl;rw [cc4 hdep.1] at e50;have e51 := hb 5 51 rfl;rw [cc5 hdep.2.1] at e51;have e53 := hb 7 53 rfl;rw [cc7 hdep.2.2] at e53;clear hb hb';go_simp;refine (kW gp gf fa fb rg rs ra rr tl _ hG (hT.ext hX0) h1 h2).mono ?_;rintro e w' ⟨f, rfl, hX⟩;have hv : ∃ f1 : Nat -> Int, (Value.agg #[.int .i64 (f 0), .int .i64 (f 1), .int .i64 (f 2), .int .i64 (f 3), .int .i64 (f 4), .int .i64 (f 5), .int .i64 (f 6), .int .i64 (f 7), .int .i64 (f 8), .int .i64 (f 9), .int .i64 (f 10)]) = .agg #[.int .i64 (f1 0), .int .i64 (f1 1), .int .i64 (f1 2), .int .i64 (f1 3), .int .i64 (f1 4), .int .i64 (f1 5), .int .i64 (f1 6), .int .i64 (f1 7), .int .i64 (f1 8), .int .i64 (f1 9), .int .i64 (f1 10)] := ⟨f, rfl⟩;exact hK _ _ ⟨Ext.trans hX0 hX, fun h => cc0 (h.resolve_right (by decide)), fun h => cc1 (h.resolve_right (by decide)), fun h => cc2 (h.resolve_right (by decide)), fun h => cc3 (h.resolve_right (by decide)), fun h => cc4 (h.resolve_right (by decide)), fun h => cc5 (h.resolve_right (by decide)), fun h => cc6 (h.resolve_right (by decide)), fun h => cc7 (h.resolve_right (by decide)), fun _ => hv, Loc.same (Loc.revs (ll9.ext hX) haft) ⟨fun h => h.resolve_right (by decide), .inl⟩ ⟨fun h => h.resolve_right (by decide), .inl⟩⟩
  .
   intro done us W hJ hdep haft hnot b hb hb' K hK Q';obtain ⟨hX0, cc0, cc1, cc2, cc3, cc4, cc5, cc6, cc7, pp8, ll9⟩ := hJ;simp only [List.getD_cons_succ, List.getD_cons_zero, List.mem_cons, List.not_mem_nil, or_false, forall_eq_or_imp, forall_eq] at haft;clear hb hb';have hfin := hK _ _ ⟨hX0.alloc _, fun h => cc0 (h.resolve_right (by decide)), fun h => cc1 (h.resolve_right (by decide)), fun h => cc2 (h.resolve_right (by decide)), fun h => cc3 (h.resolve_right (by decide)), fun h => cc4 (h.resolve_right (by decide)), fun h => cc5 (h.resolve_right (by decide)), fun h => cc6 (h.resolve_right (by decide)), fun h => cc7 (h.resolve_right (by decide)), fun h => (pp8 (h.resolve_right (by decide))), Loc.new w W hX0 (fun h => h.elim haft (by decide)) (Ext.refl _)⟩;clear hK hX0 cc0 cc1 cc2 cc3 cc4 cc5 cc6 cc7 pp8 ll9;go_simp;exact hfin
  .
   intro done us W hJ hdep haft hnot b hb hb' K hK Q';obtain ⟨hX0, cc0, cc1, cc2, cc3, cc4, cc5, cc6, cc7, pp8, ll9⟩ := hJ;simp only [List.getD_cons_succ, List.getD_cons_zero, List.mem_cons, List.not_mem_nil, or_false, forall_eq_or_imp, forall_eq] at hdep;have e11 := hb 9 11 rfl;have e54 := hb 8 54 rfl;obtain ⟨g, eg, hg, hB⟩ := ll9.stored hdep.2 hnot;rw [eg] at e11;have q0 : W.cell? ⟨g, 0, none⟩ = some (.int .i64 (0)) := hB.cell 0;have z0 : W.frozen? ⟨g, 0, none⟩ = false := hB.free 0;have q1 : W.cell? ⟨g, 1, none⟩ = some (.int .i64 (0)) := hB.cell 1;have z1 : W.frozen? ⟨g, 1, none⟩ = false := hB.free 1;have q2 : W.cell? ⟨g, 2, none⟩ = some (.int .i64 (0)) := hB.cell 2;have z2 : W.frozen? ⟨g, 2, none⟩ = false := hB.free 2;have q3 : W.cell? ⟨g, 3, none⟩ = some (.int .i64 (0)) := hB.cell 3;have z3 : W.frozen? ⟨g, 3, none⟩ = false := hB.free 3;have q4 : W.cell? ⟨g, 4, none⟩ = some (.int .i64 (0)) := hB.cell 4;have z4 : W.frozen? ⟨g, 4, none⟩ = false := hB.free 4;have q5 : W.cell? ⟨g, 5, none⟩ = some (.int .i64 (0)) := hB.cell 5;have z5 : W.frozen? ⟨g, 5, none⟩ = false := hB.free 5;have q6 : W.cell? ⟨g, 6, none⟩ = some (.int .i64 (0)) := hB.cell 6;have z6 : W.frozen? ⟨g, 6, none⟩ = false := hB.free 6;have q7 : W.cell? ⟨g, 7, none⟩ = some (.int .i64 (0)) := hB.cell 7;have z7 : W.frozen? ⟨g, 7, none⟩ = false := hB.free 7;have q8 : W.cell? ⟨g, 8, none⟩ = some (.int .i64 (0)) := hB.cell 8;have z8 : W.frozen? ⟨g, 8, none⟩ = false := hB.free 8;have q9 : W.cell? ⟨g, 9, none⟩ = some (.int .i64 (0)) := hB.cell 9;have z9 : W.frozen? ⟨g, 9, none⟩ = false := hB.free 9;have q10 : W.cell? ⟨g, 10, none⟩ = some (.int .i64 (0)) := hB.cell 10;have z10 : W.frozen? ⟨g, 10, none⟩ = false := hB.free 10;clear hb hb';obtain ⟨f, hu⟩ := (pp8 hdep.1);rw [hu] at e54;have hfin := hK undef _ ⟨(((((((((((hX0.setCell hg _).setCell hg _).setCell hg _).setCell hg _).setCell hg _).setCell hg _).setCell hg _).setCell hg _).setCell hg _).setCell hg _).setCell hg _), fun h => cc0 (h.resolve_right (by decide)), fun h => cc1 (h.resolve_right (by decide)), fun h => cc2 (h.resolve_right (by decide)), fun h => cc3 (h.resolve_right (by decide)), fun h => cc4 (h.resolve_right (by decide)), fun h => cc5 (h.resolve_right (by decide)), fun h => cc6 (h.resolve_right (by decide)), fun h => cc7 (h.resolve_right (by decide)), fun h => (pp8 (h.resolve_right (by decide))), ⟨fun _ => ⟨g, eg, hg, fun _ => (Blk.put11 hB hu), fun h => absurd (.inr rfl) h⟩⟩⟩;clear hK hX0 cc0 cc1 cc2 cc3 cc4 cc5 cc6 cc7 pp8 ll9;go_simp;exact hfin
 .
  intro us W hJ;obtain ⟨hX0, cc0, cc1, cc2, cc3, cc4, cc5, cc6, cc7, pp8, ll9⟩ := hJ;rw [show (ae Try.f26 10).drop 11 = [] by kernel_rfl];exact hend (us 0) (us 1) (us 2) (us 3) (us 4) (us 5) (us 6) (us 7) (us 8) (us 9) (us 10) W (cc0 (show 0 < 11 by decide)) (cc1 (show 1 < 11 by decide)) (cc2 (show 2 < 11 by decide)) (cc3 (show 3 < 11 by decide)) (cc4 (show 4 < 11 by decide)) (cc5 (show 5 < 11 by decide)) (cc6 (show 6 < 11 by decide)) (cc7 (show 7 < 11 by decide)) (pp8 (show 8 < 11 by decide)) (ll9.done (show 9 < 11 by decide) (show 10 < 11 by decide)) hX0
theorem oA (gl kk : Nat) (lo hi wd x1 x2 : Int) (w : World) (_hk : (kk : Int) < 3) (_h1 : IntKind.i64.wrap (lo - wd) = x1) (_h2 : IntKind.i64.wrap (hi + wd) = x2) (c0 : w.cell? ⟨gl, kk * 2, none⟩ = some (.int .i64 lo)) (c1 : w.cell? ⟨gl, kk * 2 + 1, none⟩ = some (.int .i64 hi)) : aS Try.prog Try.f26 16 18 85 w [67, 68, 69, 70, 71, 72, 73, 74, 75, 76, 77, 78, 79, 80, 81, 82, 83, 84] [.c (.int .i64 (kk : Int)), .c (.int .i64 (kk : Int)), .c (.pointer (some ⟨gl, 0, none⟩)), .c (.pointer (some ⟨gl, kk * 2, none⟩)), .c (.pointer (some ⟨gl, kk * 2, none⟩)), .c (.int .i64 (lo)), .c (.int .i64 (wd)), .c (.int .i64 (x1)), .c (.int .i64 (kk : Int)), .c (.pointer (some ⟨gl, 0, none⟩)), .c (.pointer (some ⟨gl, kk * 2, none⟩)), .c (.pointer (some ⟨gl, kk * 2 + 1, none⟩)), .c (.int .i64 (hi)), .c (.int .i64 (wd)), .c (.int .i64 (x2)), .c (.agg #[.int .i64 x1, .int .i64 x2]), .c (.pointer (some ⟨gl, 0, none⟩)), .c (.pointer (some ⟨gl, kk * 2, none⟩))] [(11, .pointer (some ⟨gl, 0, none⟩)), (13, .int .i64 (wd)), (14, .int .i64 (kk : Int))] := by
 refine aT [[], [], [], [1, 2], [3], [4], [], [5, 6], [], [], [8, 9], [10], [11], [], [12, 13], [7, 14], [], [0, 16]] (by kernel_rfl) (by kernel_rfl) rfl trivial ?_;simp only [ae, Try.f26, ab, Option.bind_some, Nat.reduceBEq, if_true, if_false, Bool.false_eq_true, Option.getD_some];simp only [List.take_succ_cons, List.take_zero]
 repeat' first | refine ⟨?_, ?_⟩ | fail
 all_goals first | (intro us W b hJ K hK0 hK Qz; simp only [aO, ay, aB, List.getD_cons_succ, List.getD_cons_zero]) | exact True.intro
 all_goals try (intros; have q0 := Ext.cell hJ c0; have q1 := Ext.cell hJ c1; go_simp; exact hK0 _ rfl)
theorem oB (gm gl : Nat) (kn rr nn uv x3 : Int) (w : World) (hup : ∀ w, Calls Try.prog 102 #[.int .i64 rr, .int .i64 nn, .int .i64 1000000] w (fun e w' => e = .returned (.int .i64 uv) /\ Ext w w')) (_h1 : IntKind.i64.wrap (kn + uv) = x3) (c0 : w.cell? ⟨gl, 10, none⟩ = some (.int .i64 kn)) (c1 : w.cell? ⟨gm, 3, none⟩ = some (.int .i64 rr)) : aS Try.prog Try.f26 18 8 94 w [86, 87, 88, 89, 90, 91, 92, 93] [.c (.pointer (some ⟨gl, 10, none⟩)), .c (.int .i64 (kn)), .c (.pointer (some ⟨gm, 3, none⟩)), .c (.int .i64 (rr)), .c (.int .i64 (nn)), .c (.int .i64 uv), .c (.int .i64 (x3)), .c (.pointer (some ⟨gl, 10, none⟩))] [(5, .pointer (some ⟨gm, 0, none⟩)), (11, .pointer (some ⟨gl, 0, none⟩)), (12, .int .i64 (nn))] := by
 refine aT [[], [0], [], [2], [], [3, 4], [1, 5], []] (by kernel_rfl) (by kernel_rfl) rfl trivial ?_;simp only [ae, Try.f26, ab, Option.bind_some, Nat.reduceBEq, if_true, if_false, Bool.false_eq_true, Option.getD_some];simp only [List.take_succ_cons, List.take_zero]
 repeat' first | refine ⟨?_, ?_⟩ | fail
 all_goals first | (intro us W b hJ K hK0 hK Qz; simp only [aO, ay, aB, List.getD_cons_succ, List.getD_cons_zero]) | exact True.intro
 all_goals try (intros; have q0 := Ext.cell hJ c0; have q1 := Ext.cell hJ c1; go_simp; exact hK0 _ rfl)
 .
  intro e89 e90 e5 e11 e12;go_simp;refine (hup _).mono ?_;rintro e w' ⟨rfl, hX⟩;exact hK _ _ rfl hX
theorem fh (gp gf : Nat) (fa fb : Fx) (rg rs ra rr tl th : Int) (w : World) (hG : GoodF rg rs ra rr fa fb) (hT : TrkM w gp gf fa fb) (_ht0 : 0 <= tl) (_ht1 : tl <= th) (_ht2 : th <= 1125899906842624) (hn : ¬ (fa.t <= tl /\ tl <= fb.t)) :
  Calls Try.prog 26 #[.agg #[.slice (some ⟨gp, 0, none⟩) 1 1], .agg #[.int .i64 (rg), .int .i64 (rs), .int .i64 (ra), .int .i64 (rr)], .agg #[.int .i64 tl, .int .i64 th], .bool true] w (fun e w' => ∃ f : Nat -> Int, e = .returned (.tuple #[.agg #[.int .i64 (f 0), .int .i64 (f 1), .int .i64 (f 2), .int .i64 (f 3), .int .i64 (f 4), .int .i64 (f 5), .int .i64 (f 6), .int .i64 (f 7), .int .i64 (f 8), .int .i64 (f 9), .int .i64 (f 10)], .int .i64 44]) /\ Ext w w') := by
 obtain ⟨hg, hs, ha, hr⟩ := hG.rules;have t1 := Fx.t_range hG.oa;have t2 := Fx.t_range hG.ob;have d1 := hG.d1;have d2 := hG.d2;have hok : dz tl th = true := decide_eq_true (by omega);have HG := hid hG;have HT := hid hT;have HV := hid hok;clear hG hT hok;obtain ⟨hXe, KK, KM, KS, KR⟩ := xB4 w 40 #[.slice (some ⟨gp, 0, none⟩) 1 1] 27 #[.int .i64 (rg), .int .i64 (rs), .int .i64 (ra), .int .i64 (rr)] 31 #[.int .i64 (tl), .int .i64 (th)] 49 #[.int .i64 (0), .int .i64 (0), .int .i64 (0), .int .i64 (0), .int .i64 (0), .int .i64 (0), .int .i64 (0), .int .i64 (0), .int .i64 (0), .int .i64 (0), .int .i64 (0)];go_enter Try.func26, Try.ntmps26
 go_upto_region 1 with (fail)
 generalize ((((w.alloc _).alloc _).alloc _).alloc _) = w1 at hXe KK KM KS KR |-;have HX := hid hXe;clear hXe;replace HT := hid (HT.out.ext HX.out);have cM0 : w1.cell? ⟨(w.heap.size + 1), 0, none⟩ = some (.int .i64 (rg)) := KM.out.cell 0;have cM1 : w1.cell? ⟨(w.heap.size + 1), 1, none⟩ = some (.int .i64 (rs)) := KM.out.cell 1;have cM2 : w1.cell? ⟨(w.heap.size + 1), 2, none⟩ = some (.int .i64 (ra)) := KM.out.cell 2;have cM3 : w1.cell? ⟨(w.heap.size + 1), 3, none⟩ = some (.int .i64 (rr)) := KM.out.cell 3
 go_wp2_with fail
 clear cM0 cM1 cM2 cM3;refine (bS rg rs ra rr _).mono ?_;rw [HG.out.ru];rintro e w2 ⟨rfl, hX⟩;replace hX : Ext w1 w2 := by with_reducible exact hX
 replace HX := xT HX hX;replace HT := hid (HT.out.ext hX);replace KK := xE KK hX;replace KM := xE KM hX;replace KS := xE KS hX;replace KR := xE KR hX;clear hX;have cK0 : w2.cell? ⟨w.heap.size, 0, none⟩ = some (.slice (some ⟨gp, 0, none⟩) 1 1) := KK.out.cell 0;have cM0 : w2.cell? ⟨(w.heap.size + 1), 0, none⟩ = some (.int .i64 (rg)) := KM.out.cell 0;have cM1 : w2.cell? ⟨(w.heap.size + 1), 1, none⟩ = some (.int .i64 (rs)) := KM.out.cell 1;have cM2 : w2.cell? ⟨(w.heap.size + 1), 2, none⟩ = some (.int .i64 (ra)) := KM.out.cell 2;have cM3 : w2.cell? ⟨(w.heap.size + 1), 3, none⟩ = some (.int .i64 (rr)) := KM.out.cell 3
 go_wp2_with fail
 clear cK0 cM0 cM1 cM2 cM3;refine (cZ gp gf rg rs ra rr fa fb _ HG.out HT.out).mono ?_;rintro e w3 ⟨rfl, hX⟩;replace hX : Ext w2 w3 := by with_reducible exact hX
 replace HX := xT HX hX;replace HT := hid (HT.out.ext hX);replace KK := xE KK hX;replace KM := xE KM hX;replace KS := xE KS hX;replace KR := xE KR hX;clear hX;have cS0 : w3.cell? ⟨(w.heap.size + 2), 0, none⟩ = some (.int .i64 (tl)) := KS.out.cell 0;have cS1 : w3.cell? ⟨(w.heap.size + 2), 1, none⟩ = some (.int .i64 (th)) := KS.out.cell 1
 go_wp2_with fail
 clear cS0 cS1;refine (bD tl th _).mono ?_;rw [HV.out];rintro e w4 ⟨rfl, hX⟩;replace hX : Ext w3 w4 := by with_reducible exact hX
 replace HX := xT HX hX;replace HT := hid (HT.out.ext hX);replace KK := xE KK hX;replace KM := xE KM hX;replace KS := xE KS hX;replace KR := xE KR hX;clear hX;have cK0 : w4.cell? ⟨w.heap.size, 0, none⟩ = some (.slice (some ⟨gp, 0, none⟩) 1 1) := KK.out.cell 0;have cS0 : w4.cell? ⟨(w.heap.size + 2), 0, none⟩ = some (.int .i64 (tl)) := KS.out.cell 0;have cS1 : w4.cell? ⟨(w.heap.size + 2), 1, none⟩ = some (.int .i64 (th)) := KS.out.cell 1
 go_wp2_with fail
 clear cK0 cS0 cS1;refine (cp gp gf fa fb tl _ HT.out).mono ?_;rw [if_neg (by rw [ag]; exact hn)];rintro e w5 ⟨rfl, hX⟩;replace hX : Ext w4 w5 := by with_reducible exact hX
 replace HX := xT HX hX;replace HT := hid (HT.out.ext hX);replace KK := xE KK hX;replace KM := xE KM hX;replace KS := xE KS hX;replace KR := xE KR hX;clear hX;have cK0 : w5.cell? ⟨w.heap.size, 0, none⟩ = some (.slice (some ⟨gp, 0, none⟩) 1 1) := KK.out.cell 0;have cS0 : w5.cell? ⟨(w.heap.size + 2), 0, none⟩ = some (.int .i64 (tl)) := KS.out.cell 0;have cS1 : w5.cell? ⟨(w.heap.size + 2), 1, none⟩ = some (.int .i64 (th)) := KS.out.cell 1;clear cK0 cS0 cS1;have cR0 : w5.cell? ⟨(w.heap.size + 3), 0, none⟩ = some (.int .i64 (0)) := KR.out.cell 0;have fR0 : w5.frozen? ⟨(w.heap.size + 3), 0, none⟩ = false := KR.out.free 0;have cR1 : w5.cell? ⟨(w.heap.size + 3), 1, none⟩ = some (.int .i64 (0)) := KR.out.cell 1;have fR1 : w5.frozen? ⟨(w.heap.size + 3), 1, none⟩ = false := KR.out.free 1;have cR2 : w5.cell? ⟨(w.heap.size + 3), 2, none⟩ = some (.int .i64 (0)) := KR.out.cell 2;have fR2 : w5.frozen? ⟨(w.heap.size + 3), 2, none⟩ = false := KR.out.free 2;have cR3 : w5.cell? ⟨(w.heap.size + 3), 3, none⟩ = some (.int .i64 (0)) := KR.out.cell 3;have fR3 : w5.frozen? ⟨(w.heap.size + 3), 3, none⟩ = false := KR.out.free 3;have cR4 : w5.cell? ⟨(w.heap.size + 3), 4, none⟩ = some (.int .i64 (0)) := KR.out.cell 4;have fR4 : w5.frozen? ⟨(w.heap.size + 3), 4, none⟩ = false := KR.out.free 4;have cR5 : w5.cell? ⟨(w.heap.size + 3), 5, none⟩ = some (.int .i64 (0)) := KR.out.cell 5;have fR5 : w5.frozen? ⟨(w.heap.size + 3), 5, none⟩ = false := KR.out.free 5;have cR6 : w5.cell? ⟨(w.heap.size + 3), 6, none⟩ = some (.int .i64 (0)) := KR.out.cell 6;have fR6 : w5.frozen? ⟨(w.heap.size + 3), 6, none⟩ = false := KR.out.free 6;have cR7 : w5.cell? ⟨(w.heap.size + 3), 7, none⟩ = some (.int .i64 (0)) := KR.out.cell 7;have fR7 : w5.frozen? ⟨(w.heap.size + 3), 7, none⟩ = false := KR.out.free 7;have cR8 : w5.cell? ⟨(w.heap.size + 3), 8, none⟩ = some (.int .i64 (0)) := KR.out.cell 8;have fR8 : w5.frozen? ⟨(w.heap.size + 3), 8, none⟩ = false := KR.out.free 8;have cR9 : w5.cell? ⟨(w.heap.size + 3), 9, none⟩ = some (.int .i64 (0)) := KR.out.cell 9;have fR9 : w5.frozen? ⟨(w.heap.size + 3), 9, none⟩ = false := KR.out.free 9;have cR10 : w5.cell? ⟨(w.heap.size + 3), 10, none⟩ = some (.int .i64 (0)) := KR.out.cell 10;have fR10 : w5.frozen? ⟨(w.heap.size + 3), 10, none⟩ = false := KR.out.free 10;go_wp2;refine bodyPost_ret (v := .tuple #[.agg #[.int .i64 (0), .int .i64 (0), .int .i64 (0), .int .i64 (0), .int .i64 (0), .int .i64 (0), .int .i64 (0), .int .i64 (0), .int .i64 (0), .int .i64 (0), .int .i64 (0)], .int .i64 44]) (by simp [results, Try.results26, go_sem, *]) rfl ?_;exact ⟨fun _ => 0, rfl, (Ext.setCell (Ext.setCell (Ext.setCell (Ext.setCell (Ext.setCell (Ext.setCell (Ext.setCell (Ext.setCell (Ext.setCell (Ext.setCell (Ext.setCell HX.out (by simp only; omega) _) (by simp only; omega) _) (by simp only; omega) _) (by simp only; omega) _) (by simp only; omega) _) (by simp only; omega) _) (by simp only; omega) _) (by simp only; omega) _) (by simp only; omega) _) (by simp only; omega) _) (by simp only; omega) _)⟩
theorem fi (gp gf : Nat) (fa fb : Fx) (rg rs ra rr tl th : Int) (w : World) (hG : GoodF rg rs ra rr fa fb) (hT : TrkM w gp gf fa fb) (_ht0 : 0 <= tl) (_ht1 : tl <= th) (_ht2 : th <= 1125899906842624) (h1 : fa.t <= tl) (h2 : tl <= fb.t) (hn : ¬ (fa.t <= th /\ th <= fb.t)) :
  Calls Try.prog 26 #[.agg #[.slice (some ⟨gp, 0, none⟩) 1 1], .agg #[.int .i64 (rg), .int .i64 (rs), .int .i64 (ra), .int .i64 (rr)], .agg #[.int .i64 tl, .int .i64 th], .bool true] w (fun e w' => ∃ f : Nat -> Int, e = .returned (.tuple #[.agg #[.int .i64 (f 0), .int .i64 (f 1), .int .i64 (f 2), .int .i64 (f 3), .int .i64 (f 4), .int .i64 (f 5), .int .i64 (f 6), .int .i64 (f 7), .int .i64 (f 8), .int .i64 (f 9), .int .i64 (f 10)], .int .i64 44]) /\ Ext w w') := by
 obtain ⟨hg, hs, ha, hr⟩ := hG.rules;have t1 := Fx.t_range hG.oa;have t2 := Fx.t_range hG.ob;have d1 := hG.d1;have d2 := hG.d2;have hok : dz tl th = true := decide_eq_true (by omega);have HG := hid hG;have HT := hid hT;have HV := hid hok;clear hG hT hok;obtain ⟨hXe, KK, KM, KS, KR⟩ := xB4 w 40 #[.slice (some ⟨gp, 0, none⟩) 1 1] 27 #[.int .i64 (rg), .int .i64 (rs), .int .i64 (ra), .int .i64 (rr)] 31 #[.int .i64 (tl), .int .i64 (th)] 49 #[.int .i64 (0), .int .i64 (0), .int .i64 (0), .int .i64 (0), .int .i64 (0), .int .i64 (0), .int .i64 (0), .int .i64 (0), .int .i64 (0), .int .i64 (0), .int .i64 (0)];go_enter Try.func26, Try.ntmps26
 go_upto_region 1 with (fail)
 generalize ((((w.alloc _).alloc _).alloc _).alloc _) = w1 at hXe KK KM KS KR |-;have HX := hid hXe;clear hXe;replace HT := hid (HT.out.ext HX.out);have cM0 : w1.cell? ⟨(w.heap.size + 1), 0, none⟩ = some (.int .i64 (rg)) := KM.out.cell 0;have cM1 : w1.cell? ⟨(w.heap.size + 1), 1, none⟩ = some (.int .i64 (rs)) := KM.out.cell 1;have cM2 : w1.cell? ⟨(w.heap.size + 1), 2, none⟩ = some (.int .i64 (ra)) := KM.out.cell 2;have cM3 : w1.cell? ⟨(w.heap.size + 1), 3, none⟩ = some (.int .i64 (rr)) := KM.out.cell 3
 go_wp2_with fail
 clear cM0 cM1 cM2 cM3;refine (bS rg rs ra rr _).mono ?_;rw [HG.out.ru];rintro e w2 ⟨rfl, hX⟩;replace hX : Ext w1 w2 := by with_reducible exact hX
 replace HX := xT HX hX;replace HT := hid (HT.out.ext hX);replace KK := xE KK hX;replace KM := xE KM hX;replace KS := xE KS hX;replace KR := xE KR hX;clear hX;have cK0 : w2.cell? ⟨w.heap.size, 0, none⟩ = some (.slice (some ⟨gp, 0, none⟩) 1 1) := KK.out.cell 0;have cM0 : w2.cell? ⟨(w.heap.size + 1), 0, none⟩ = some (.int .i64 (rg)) := KM.out.cell 0;have cM1 : w2.cell? ⟨(w.heap.size + 1), 1, none⟩ = some (.int .i64 (rs)) := KM.out.cell 1;have cM2 : w2.cell? ⟨(w.heap.size + 1), 2, none⟩ = some (.int .i64 (ra)) := KM.out.cell 2;have cM3 : w2.cell? ⟨(w.heap.size + 1), 3, none⟩ = some (.int .i64 (rr)) := KM.out.cell 3
 go_wp2_with fail
 clear cK0 cM0 cM1 cM2 cM3;refine (cZ gp gf rg rs ra rr fa fb _ HG.out HT.out).mono ?_;rintro e w3 ⟨rfl, hX⟩;replace hX : Ext w2 w3 := by with_reducible exact hX
 replace HX := xT HX hX;replace HT := hid (HT.out.ext hX);replace KK := xE KK hX;replace KM := xE KM hX;replace KS := xE KS hX;replace KR := xE KR hX;clear hX;have cS0 : w3.cell? ⟨(w.heap.size + 2), 0, none⟩ = some (.int .i64 (tl)) := KS.out.cell 0;have cS1 : w3.cell? ⟨(w.heap.size + 2), 1, none⟩ = some (.int .i64 (th)) := KS.out.cell 1
 go_wp2_with fail
 clear cS0 cS1;refine (bD tl th _).mono ?_;rw [HV.out];rintro e w4 ⟨rfl, hX⟩;replace hX : Ext w3 w4 := by with_reducible exact hX
 replace HX := xT HX hX;replace HT := hid (HT.out.ext hX);replace KK := xE KK hX;replace KM := xE KM hX;replace KS := xE KS hX;replace KR := xE KR hX;clear hX;have cK0 : w4.cell? ⟨w.heap.size, 0, none⟩ = some (.slice (some ⟨gp, 0, none⟩) 1 1) := KK.out.cell 0;have cS0 : w4.cell? ⟨(w.heap.size + 2), 0, none⟩ = some (.int .i64 (tl)) := KS.out.cell 0;have cS1 : w4.cell? ⟨(w.heap.size + 2), 1, none⟩ = some (.int .i64 (th)) := KS.out.cell 1
 go_wp2_with fail
 clear cK0 cS0 cS1;refine (cp gp gf fa fb tl _ HT.out).mono ?_;rw [if_pos (by rw [ag]; exact ⟨h1, h2⟩)];rintro e w5 ⟨rfl, hX⟩;replace hX : Ext w4 w5 := by with_reducible exact hX
 replace HX := xT HX hX;replace HT := hid (HT.out.ext hX);replace KK := xE KK hX;replace KM := xE KM hX;replace KS := xE KS hX;replace KR := xE KR hX;clear hX;have cK0 : w5.cell? ⟨w.heap.size, 0, none⟩ = some (.slice (some ⟨gp, 0, none⟩) 1 1) := KK.out.cell 0;have cS0 : w5.cell? ⟨(w.heap.size + 2), 0, none⟩ = some (.int .i64 (tl)) := KS.out.cell 0;have cS1 : w5.cell? ⟨(w.heap.size + 2), 1, none⟩ = some (.int .i64 (th)) := KS.out.cell 1
 go_wp2_with fail
 clear cK0 cS0 cS1;refine (cp gp gf fa fb th _ HT.out).mono ?_;rw [if_neg (by rw [ag]; exact hn)];rintro e w6 ⟨rfl, hX⟩;replace hX : Ext w5 w6 := by with_reducible exact hX
 replace HX := xT HX hX;replace HT := hid (HT.out.ext hX);replace KK := xE KK hX;replace KM := xE KM hX;replace KS := xE KS hX;replace KR := xE KR hX;clear hX;have cR0 : w6.cell? ⟨(w.heap.size + 3), 0, none⟩ = some (.int .i64 (0)) := KR.out.cell 0;have fR0 : w6.frozen? ⟨(w.heap.size + 3), 0, none⟩ = false := KR.out.free 0;have cR1 : w6.cell? ⟨(w.heap.size + 3), 1, none⟩ = some (.int .i64 (0)) := KR.out.cell 1;have fR1 : w6.frozen? ⟨(w.heap.size + 3), 1, none⟩ = false := KR.out.free 1;have cR2 : w6.cell? ⟨(w.heap.size + 3), 2, none⟩ = some (.int .i64 (0)) := KR.out.cell 2;have fR2 : w6.frozen? ⟨(w.heap.size + 3), 2, none⟩ = false := KR.out.free 2;have cR3 : w6.cell? ⟨(w.heap.size + 3), 3, none⟩ = some (.int .i64 (0)) := KR.out.cell 3;have fR3 : w6.frozen? ⟨(w.heap.size + 3), 3, none⟩ = false := KR.out.free 3;have cR4 : w6.cell? ⟨(w.heap.size + 3), 4, none⟩ = some (.int .i64 (0)) := KR.out.cell 4;have fR4 : w6.frozen? ⟨(w.heap.size + 3), 4, none⟩ = false := KR.out.free 4;have cR5 : w6.cell? ⟨(w.heap.size + 3), 5, none⟩ = some (.int .i64 (0)) := KR.out.cell 5;have fR5 : w6.frozen? ⟨(w.heap.size + 3), 5, none⟩ = false := KR.out.free 5;have cR6 : w6.cell? ⟨(w.heap.size + 3), 6, none⟩ = some (.int .i64 (0)) := KR.out.cell 6;have fR6 : w6.frozen? ⟨(w.heap.size + 3), 6, none⟩ = false := KR.out.free 6;have cR7 : w6.cell? ⟨(w.heap.size + 3), 7, none⟩ = some (.int .i64 (0)) := KR.out.cell 7;have fR7 : w6.frozen? ⟨(w.heap.size + 3), 7, none⟩ = false := KR.out.free 7;have cR8 : w6.cell? ⟨(w.heap.size + 3), 8, none⟩ = some (.int .i64 (0)) := KR.out.cell 8;have fR8 : w6.frozen? ⟨(w.heap.size + 3), 8, none⟩ = false := KR.out.free 8;have cR9 : w6.cell? ⟨(w.heap.size + 3), 9, none⟩ = some (.int .i64 (0)) := KR.out.cell 9;have fR9 : w6.frozen? ⟨(w.heap.size + 3), 9, none⟩ = false := KR.out.free 9;have cR10 : w6.cell? ⟨(w.heap.size + 3), 10, none⟩ = some (.int .i64 (0)) := KR.out.cell 10;have fR10 : w6.frozen? ⟨(w.heap.size + 3), 10, none⟩ = false := KR.out.free 10;go_wp2;refine bodyPost_ret (v := .tuple #[.agg #[.int .i64 (0), .int .i64 (0), .int .i64 (0), .int .i64 (0), .int .i64 (0), .int .i64 (0), .int .i64 (0), .int .i64 (0), .int .i64 (0), .int .i64 (0), .int .i64 (0)], .int .i64 44]) (by simp [results, Try.results26, go_sem, *]) rfl ?_;exact ⟨fun _ => 0, rfl, (Ext.setCell (Ext.setCell (Ext.setCell (Ext.setCell (Ext.setCell (Ext.setCell (Ext.setCell (Ext.setCell (Ext.setCell (Ext.setCell (Ext.setCell HX.out (by simp only; omega) _) (by simp only; omega) _) (by simp only; omega) _) (by simp only; omega) _) (by simp only; omega) _) (by simp only; omega) _) (by simp only; omega) _) (by simp only; omega) _) (by simp only; omega) _) (by simp only; omega) _) (by simp only; omega) _)⟩
theorem gw (gp gf : Nat) (fa fb : Fx) (rg rs ra rr tl th : Int) (w : World) (hG : GoodF rg rs ra rr fa fb) (hT : TrkM w gp gf fa fb) (_ht0 : 0 <= tl) (_ht1 : tl <= th) (_ht2 : th <= 1125899906842624) (h1 : fa.t <= tl) (_h2 : th <= fb.t) :
  Calls Try.prog 26 #[.agg #[.slice (some ⟨gp, 0, none⟩) 1 1], .agg #[.int .i64 (rg), .int .i64 (rs), .int .i64 (ra), .int .i64 (rr)], .agg #[.int .i64 tl, .int .i64 th], .bool true] w (fun e w' => ∃ f : Nat -> Int, e = .returned (.tuple #[.agg #[.int .i64 (f 0), .int .i64 (f 1), .int .i64 (f 2), .int .i64 (f 3), .int .i64 (f 4), .int .i64 (f 5), .int .i64 (f 6), .int .i64 (f 7), .int .i64 (f 8), .int .i64 (f 9), .int .i64 (f 10)], .int .i64 0]) /\ Ext w w') := by
 obtain ⟨hg, hs, ha, hr⟩ := hG.rules;have t1 := Fx.t_range hG.oa;have t2 := Fx.t_range hG.ob;have d1 := hG.d1;have d2 := hG.d2;have hok : dz tl th = true := decide_eq_true (by omega);have HG := hid hG;have HT := hid hT;have HV := hid hok;clear hG hT hok;obtain ⟨nn, hn⟩ : ∃ n, th - tl = n := ⟨_, rfl⟩;have x1 : IntKind.i64.wrap (th - tl) = nn := by rw [hn]; exact IntWalk.i64_in _ (by omega)
 have hnb : 0 <= nn /\ nn <= 10000000 := by omega
 have hu1 := fun w => ej rs nn 1000000 w (by omega) (by omega) (by omega) (by omega) (by omega) (by omega)
 have hu2 := fun w => ej rr nn 1000000 w (by omega) (by omega) (by omega) (by omega) (by omega) (by omega)
 generalize dn (aj (rs * nn) 1000000) = wd at hu1;generalize dn (aj (rr * nn) 1000000) = uv at hu2;have HU1 := hid hu1;have HU2 := hid hu2;clear hu1 hu2 hn;have hXe : Ext w ((((w.alloc (.cells #[.slice (some ⟨gp, 0, none⟩) 1 1] 40)).alloc (.cells #[.int .i64 (rg), .int .i64 (rs), .int .i64 (ra), .int .i64 (rr)] 27)).alloc (.cells #[.int .i64 (tl), .int .i64 (th)] 31)).alloc (.cells #[.int .i64 (0), .int .i64 (0), .int .i64 (0), .int .i64 (0), .int .i64 (0), .int .i64 (0), .int .i64 (0), .int .i64 (0), .int .i64 (0), .int .i64 (0), .int .i64 (0)] 49)) := (((((Ext.refl w).alloc _).alloc _).alloc _).alloc _);have kK : Blk ((((w.alloc (.cells #[.slice (some ⟨gp, 0, none⟩) 1 1] 40)).alloc (.cells #[.int .i64 (rg), .int .i64 (rs), .int .i64 (ra), .int .i64 (rr)] 27)).alloc (.cells #[.int .i64 (tl), .int .i64 (th)] 31)).alloc (.cells #[.int .i64 (0), .int .i64 (0), .int .i64 (0), .int .i64 (0), .int .i64 (0), .int .i64 (0), .int .i64 (0), .int .i64 (0), .int .i64 (0), .int .i64 (0), .int .i64 (0)] 49)) w.heap.size 40 #[.slice (some ⟨gp, 0, none⟩) 1 1] := Blk.alloc (Blk.alloc (Blk.alloc (Blk.at_ (by simp)) _) _) _;have kM : Blk ((((w.alloc (.cells #[.slice (some ⟨gp, 0, none⟩) 1 1] 40)).alloc (.cells #[.int .i64 (rg), .int .i64 (rs), .int .i64 (ra), .int .i64 (rr)] 27)).alloc (.cells #[.int .i64 (tl), .int .i64 (th)] 31)).alloc (.cells #[.int .i64 (0), .int .i64 (0), .int .i64 (0), .int .i64 (0), .int .i64 (0), .int .i64 (0), .int .i64 (0), .int .i64 (0), .int .i64 (0), .int .i64 (0), .int .i64 (0)] 49)) (w.heap.size + 1) 27 #[.int .i64 (rg), .int .i64 (rs), .int .i64 (ra), .int .i64 (rr)] := Blk.alloc (Blk.alloc (Blk.at_ (by simp)) _) _;have kS : Blk ((((w.alloc (.cells #[.slice (some ⟨gp, 0, none⟩) 1 1] 40)).alloc (.cells #[.int .i64 (rg), .int .i64 (rs), .int .i64 (ra), .int .i64 (rr)] 27)).alloc (.cells #[.int .i64 (tl), .int .i64 (th)] 31)).alloc (.cells #[.int .i64 (0), .int .i64 (0), .int .i64 (0), .int .i64 (0), .int .i64 (0), .int .i64 (0), .int .i64 (0), .int .i64 (0), .int .i64 (0), .int .i64 (0), .int .i64 (0)] 49)) (w.heap.size + 2) 31 #[.int .i64 (tl), .int .i64 (th)] := Blk.alloc (Blk.at_ (by simp)) _;have kR : Blk ((((w.alloc (.cells #[.slice (some ⟨gp, 0, none⟩) 1 1] 40)).alloc (.cells #[.int .i64 (rg), .int .i64 (rs), .int .i64 (ra), .int .i64 (rr)] 27)).alloc (.cells #[.int .i64 (tl), .int .i64 (th)] 31)).alloc (.cells #[.int .i64 (0), .int .i64 (0), .int .i64 (0), .int .i64 (0), .int .i64 (0), .int .i64 (0), .int .i64 (0), .int .i64 (0), .int .i64 (0), .int .i64 (0), .int .i64 (0)] 49)) (w.heap.size + 3) 49 #[.int .i64 (0), .int .i64 (0), .int .i64 (0), .int .i64 (0), .int .i64 (0), .int .i64 (0), .int .i64 (0), .int .i64 (0), .int .i64 (0), .int .i64 (0), .int .i64 (0)] := Blk.at_ (by simp);go_enter Try.func26, Try.ntmps26
 go_upto_region 1 with (fail)
 generalize ((((w.alloc _).alloc _).alloc _).alloc _) = w1 at hXe kK kM kS kR |-;have HX := hid hXe;clear hXe;have KK := hid kK;clear kK;have KM := hid kM;clear kM;have KS := hid kS;clear kS;have KR := hid kR;clear kR;replace HT := hid (HT.out.ext HX.out);have cM0 : w1.cell? ⟨(w.heap.size + 1), 0, none⟩ = some (.int .i64 (rg)) := KM.out.cell 0;have cM1 : w1.cell? ⟨(w.heap.size + 1), 1, none⟩ = some (.int .i64 (rs)) := KM.out.cell 1;have cM2 : w1.cell? ⟨(w.heap.size + 1), 2, none⟩ = some (.int .i64 (ra)) := KM.out.cell 2;have cM3 : w1.cell? ⟨(w.heap.size + 1), 3, none⟩ = some (.int .i64 (rr)) := KM.out.cell 3
 go_wp2_with fail
 clear cM0 cM1 cM2 cM3;refine (bS rg rs ra rr _).mono ?_;rw [HG.out.ru];rintro e w2 ⟨rfl, hX⟩;replace hX : Ext w1 w2 := by with_reducible exact hX
 replace HX := hid (HX.out.trans hX);replace HT := hid (HT.out.ext hX);replace KK := hid (KK.out.ext hX);replace KM := hid (KM.out.ext hX);replace KS := hid (KS.out.ext hX);replace KR := hid (KR.out.ext hX);clear hX;have cK0 : w2.cell? ⟨w.heap.size, 0, none⟩ = some (.slice (some ⟨gp, 0, none⟩) 1 1) := KK.out.cell 0;have cM0 : w2.cell? ⟨(w.heap.size + 1), 0, none⟩ = some (.int .i64 (rg)) := KM.out.cell 0;have cM1 : w2.cell? ⟨(w.heap.size + 1), 1, none⟩ = some (.int .i64 (rs)) := KM.out.cell 1;have cM2 : w2.cell? ⟨(w.heap.size + 1), 2, none⟩ = some (.int .i64 (ra)) := KM.out.cell 2;have cM3 : w2.cell? ⟨(w.heap.size + 1), 3, none⟩ = some (.int .i64 (rr)) := KM.out.cell 3
 go_wp2_with fail
 clear cK0 cM0 cM1 cM2 cM3;refine (cZ gp gf rg rs ra rr fa fb _ HG.out HT.out).mono ?_;rintro e w3 ⟨rfl, hX⟩;replace hX : Ext w2 w3 := by with_reducible exact hX
 replace HX := hid (HX.out.trans hX);replace HT := hid (HT.out.ext hX);replace KK := hid (KK.out.ext hX);replace KM := hid (KM.out.ext hX);replace KS := hid (KS.out.ext hX);replace KR := hid (KR.out.ext hX);clear hX;have cS0 : w3.cell? ⟨(w.heap.size + 2), 0, none⟩ = some (.int .i64 (tl)) := KS.out.cell 0;have cS1 : w3.cell? ⟨(w.heap.size + 2), 1, none⟩ = some (.int .i64 (th)) := KS.out.cell 1
 go_wp2_with fail
 clear cS0 cS1;refine (bD tl th _).mono ?_;rw [HV.out];rintro e w4 ⟨rfl, hX⟩;replace hX : Ext w3 w4 := by with_reducible exact hX
 replace HX := hid (HX.out.trans hX);replace HT := hid (HT.out.ext hX);replace KK := hid (KK.out.ext hX);replace KM := hid (KM.out.ext hX);replace KS := hid (KS.out.ext hX);replace KR := hid (KR.out.ext hX);clear hX;have cK0 : w4.cell? ⟨w.heap.size, 0, none⟩ = some (.slice (some ⟨gp, 0, none⟩) 1 1) := KK.out.cell 0;have cS0 : w4.cell? ⟨(w.heap.size + 2), 0, none⟩ = some (.int .i64 (tl)) := KS.out.cell 0;have cS1 : w4.cell? ⟨(w.heap.size + 2), 1, none⟩ = some (.int .i64 (th)) := KS.out.cell 1
 go_wp2_with fail
 clear cK0 cS0 cS1;refine (cp gp gf fa fb tl _ HT.out).mono ?_;rw [if_pos (by rw [ag]; omega)];rintro e w5 ⟨rfl, hX⟩;replace hX : Ext w4 w5 := by with_reducible exact hX
 replace HX := hid (HX.out.trans hX);replace HT := hid (HT.out.ext hX);replace KK := hid (KK.out.ext hX);replace KM := hid (KM.out.ext hX);replace KS := hid (KS.out.ext hX);replace KR := hid (KR.out.ext hX);clear hX;have cK0 : w5.cell? ⟨w.heap.size, 0, none⟩ = some (.slice (some ⟨gp, 0, none⟩) 1 1) := KK.out.cell 0;have cS0 : w5.cell? ⟨(w.heap.size + 2), 0, none⟩ = some (.int .i64 (tl)) := KS.out.cell 0;have cS1 : w5.cell? ⟨(w.heap.size + 2), 1, none⟩ = some (.int .i64 (th)) := KS.out.cell 1
 go_wp2_with fail
 clear cK0 cS0 cS1;refine (cp gp gf fa fb th _ HT.out).mono ?_;rw [if_pos (by rw [ag]; omega)];rintro e w6 ⟨rfl, hX⟩;replace hX : Ext w5 w6 := by with_reducible exact hX
 replace HX := hid (HX.out.trans hX);replace HT := hid (HT.out.ext hX);replace KK := hid (KK.out.ext hX);replace KM := hid (KM.out.ext hX);replace KS := hid (KS.out.ext hX);replace KR := hid (KR.out.ext hX);clear hX;have m0 := KM.out.cell 0;have m1 := KM.out.cell 1;have m2 := KM.out.cell 2;have m3 := KM.out.cell 3;simp only [List.getElem?_toArray, List.getElem?_cons_zero, List.getElem?_cons_succ] at m0 m1 m2 m3
 go_upto_region 10 with (fail)
 refine oz w.heap.size gp gf (w.heap.size + 1) (w.heap.size + 2) fa fb rg rs ra rr tl _ HG.out HT.out h1 (by omega) (KK.out.cell 0) (HT.out.part.cell 0) (KS.out.cell 0) m0 m1 m2 m3 _ _ (by simp) rfl rfl rfl rfl ?_;rintro xv0 xv1 xv2 xv3 xv4 xv5 xv6 xv7 xv8 xv9 xv10 w20 rfl rfl rfl rfl rfl rfl rfl rfl ⟨f0, rfl⟩ ⟨gl, rfl, hgl, hL⟩ hX;simp only [ae, Try.f26, ab, Option.bind_some, Nat.reduceBEq, if_true, if_false, Bool.false_eq_true, Option.getD_some, List.drop_succ_cons, List.drop_zero];simp only [Act.put, List.setIfInBounds_toArray, List.set_cons_succ, List.set_cons_zero];clear m0 m1 m2 m3;have hgz : w.heap.size + 3 < gl := by have := KR.out.lt; omega
 clear hgl;have KL : Hid (PoA w20 gl) := hid ⟨f0, hL⟩;clear hL;replace HX := hid (HX.out.trans hX);replace KK := hid (KK.out.ext hX);replace KM := hid (KM.out.ext hX);replace KS := hid (KS.out.ext hX);replace KR := hid (KR.out.ext hX);clear hX;have s0 := KS.out.cell 0;have s1 := KS.out.cell 1;simp only [List.getElem?_toArray, List.getElem?_cons_zero, List.getElem?_cons_succ] at s0 s1;have m0 := KM.out.cell 0;have m1 := KM.out.cell 1;have m2 := KM.out.cell 2;have m3 := KM.out.cell 3;simp only [List.getElem?_toArray, List.getElem?_cons_zero, List.getElem?_cons_succ] at m0 m1 m2 m3;clear HT
 go_wp2_with fail
 refine (HU1.out _).mono ?_;rintro e w21 ⟨rfl, hX⟩;replace HX := hid (HX.out.trans hX);replace KK := hid (KK.out.ext hX);replace KM := hid (KM.out.ext hX);replace KS := hid (KS.out.ext hX);replace KR := hid (KR.out.ext hX);replace KL := hid (KL.out.ext hX);clear hX;clear s0 s1 m0 m1 m2 m3 HU1 x1
 go_wp2_with fail
 clear KK KS
 go_loopg [64] 3 (fun fu iv W => ∃ k : Nat, fu = 3 - k /\ k <= 3 /\ iv = .int .i64 (k : Int) /\ Hid (Blk W (w.heap.size + 1) 27 #[.int .i64 (rg), .int .i64 (rs), .int .i64 (ra), .int .i64 (rr)]) /\ Hid (Blk W (w.heap.size + 3) 49 #[.int .i64 (0), .int .i64 (0), .int .i64 (0), .int .i64 (0), .int .i64 (0), .int .i64 (0), .int .i64 (0), .int .i64 (0), .int .i64 (0), .int .i64 (0), .int .i64 (0)]) /\ Hid (PoA W gl) /\ Hid (Ext w W))
 case atStart => exact ⟨0, rfl, by omega, rfl, KM, KR, KL, HX⟩
 case round =>
  clear HX KM KR KL;obtain ⟨k, rfl, hk, rfl, KM, KR, KL, HX⟩ := hrel
  by_cases hlt : k < 3
  .
   have q1 : decide (k < 3) = true := decide_eq_true hlt;have q1b : decide ((k : Int) < (3 : Int)) = true := decide_eq_true (by omega);obtain ⟨lo, hlo⟩ := KL.out.cell (show k * 2 < 11 by omega);obtain ⟨hi, hhi⟩ := KL.out.cell (show k * 2 + 1 < 11 by omega)
   go_upto_region 16 with (fail)
   refine oA gl k lo hi wd _ _ _ (by omega) rfl rfl hlo hhi _ _ (by simp) ⟨rfl, rfl, rfl, trivial⟩ ?_;rintro w22 hX;simp only [EndK, ae, Try.f26, ab, Option.bind_some, Nat.reduceBEq, if_true, if_false, Bool.false_eq_true, Option.getD_some, List.drop_succ_cons, List.drop_zero];simp only [Act.put, List.setIfInBounds_toArray, List.set_cons_succ, List.set_cons_zero];clear hlo hhi;replace HX := hid (HX.out.trans hX);replace KM := hid (KM.out.ext hX);replace KR := hid (KR.out.ext hX);replace KL := hid (KL.out.ext hX);clear hX;generalize IntKind.i64.wrap (lo - wd) = x1;generalize IntKind.i64.wrap (hi + wd) = x2;obtain ⟨y0, z0⟩ := KL.out.cell (show k * 2 < 11 by omega);obtain ⟨y1, z1⟩ := KL.out.cell (show k * 2 + 1 < 11 by omega);have z2 := KL.out.free (k * 2);have z3 := KL.out.free (k * 2 + 1)
   go_upto_region 17 with (fail)
   clear z0 z1 z2 z3;have hX2 : Ext w ((w22.setCell ⟨gl, k * 2, none⟩ (.int .i64 x1)).setCell ⟨gl, k * 2 + 1, none⟩ (.int .i64 x2)) := ((HX.out.setCell (by simp only; omega) _).setCell (by simp only; omega) _);have hM2 := ((KM.out.far (p := ⟨gl, k * 2, none⟩) (by simp only; omega) (.int .i64 x1)).far (p := ⟨gl, k * 2 + 1, none⟩) (by simp only; omega) (.int .i64 x2));have hR2 := ((KR.out.far (p := ⟨gl, k * 2, none⟩) (by simp only; omega) (.int .i64 x1)).far (p := ⟨gl, k * 2 + 1, none⟩) (by simp only; omega) (.int .i64 x2));have hL2 := ((KL.out.put (show k * 2 < 11 by omega) x1).put (show k * 2 + 1 < 11 by omega) x2);generalize ((w22.setCell _ _).setCell _ _) = w23 at hX2 hM2 hR2 hL2 |-;clear HX KM KR KL;have HX := hid hX2;have KM := hid hM2;have KR := hid hR2;have KL := hid hL2;clear hX2 hM2 hR2 hL2;go_wp2;go_roundg (3 - (k + 1))
   case rel => exact ⟨k + 1, rfl, by omega, by go_num, KM, KR, KL, HX⟩
   case measure => omega
  .
   obtain rfl : k = 3 := by omega
   have h4 : decide ((3 : Int) < (3 : Int)) = false := by decide
   obtain ⟨kn, hkn⟩ := KL.out.cell (show 10 < 11 by omega)
   go_upto_region 18 with (fail)
   refine oB (w.heap.size + 1) gl kn rr nn uv _ _ HU2.out rfl hkn (KM.out.cell 3) _ _ (by simp) ⟨rfl, rfl, rfl, trivial⟩ ?_;rintro w22 hX;simp only [EndK, ae, Try.f26, ab, Option.bind_some, Nat.reduceBEq, if_true, if_false, Bool.false_eq_true, Option.getD_some, List.drop_succ_cons, List.drop_zero];simp only [Act.put, List.setIfInBounds_toArray, List.set_cons_succ, List.set_cons_zero];clear hkn HU2;replace HX := hid (HX.out.trans hX);replace KM := hid (KM.out.ext hX);replace KR := hid (KR.out.ext hX);replace KL := hid (KL.out.ext hX);clear hX;generalize IntKind.i64.wrap (kn + uv) = x3;obtain ⟨y0, z0⟩ := KL.out.cell (show 10 < 11 by omega);have z2 := KL.out.free 10
   go_upto_region 19 with (fail)
   clear z0 z2;have hX2 : Ext w (w22.setCell ⟨gl, 10, none⟩ (.int .i64 x3)) := (HX.out.setCell (by simp only; omega) _);have hM2 := (KM.out.far (p := ⟨gl, 10, none⟩) (by simp only; omega) (.int .i64 x3));have hR2 := (KR.out.far (p := ⟨gl, 10, none⟩) (by simp only; omega) (.int .i64 x3));have hL2 := (KL.out.put (show 10 < 11 by omega) x3);generalize (w22.setCell _ _) = w23 at hX2 hM2 hR2 hL2 |-;clear HX KM KR KL;have HX := hid hX2;have KM := hid hM2;have KR := hid hR2;have KL := hid hL2;clear hX2 hM2 hR2 hL2;obtain ⟨f, hf⟩ := KL.out;have KF := hid hf;clear hf;have o0 := KF.out.cell 0;have o1 := KF.out.cell 1;have o2 := KF.out.cell 2;have o3 := KF.out.cell 3;have o4 := KF.out.cell 4;have o5 := KF.out.cell 5;have o6 := KF.out.cell 6;have o7 := KF.out.cell 7;have o8 := KF.out.cell 8;have o9 := KF.out.cell 9;have o10 := KF.out.cell 10;simp only [List.getElem?_toArray, List.getElem?_cons_zero, List.getElem?_cons_succ] at o0 o1 o2 o3 o4 o5 o6 o7 o8 o9 o10;have r0 := KR.out.cell 0;have r1 := KR.out.cell 1;have r2 := KR.out.cell 2;have r3 := KR.out.cell 3;have r4 := KR.out.cell 4;have r5 := KR.out.cell 5;have r6 := KR.out.cell 6;have r7 := KR.out.cell 7;have r8 := KR.out.cell 8;have r9 := KR.out.cell 9;have r10 := KR.out.cell 10;simp only [List.getElem?_toArray, List.getElem?_cons_zero, List.getElem?_cons_succ] at r0 r1 r2 r3 r4 r5 r6 r7 r8 r9 r10;have rf0 := KR.out.free 0;have rf1 := KR.out.free 1;have rf2 := KR.out.free 2;have rf3 := KR.out.free 3;have rf4 := KR.out.free 4;have rf5 := KR.out.free 5;have rf6 := KR.out.free 6;have rf7 := KR.out.free 7;have rf8 := KR.out.free 8;have rf9 := KR.out.free 9;have rf10 := KR.out.free 10;go_wp2;refine bodyPost_ret (v := .tuple #[.agg #[.int .i64 (f 0), .int .i64 (f 1), .int .i64 (f 2), .int .i64 (f 3), .int .i64 (f 4), .int .i64 (f 5), .int .i64 (f 6), .int .i64 (f 7), .int .i64 (f 8), .int .i64 (f 9), .int .i64 (f 10)], .int .i64 0]) (by simp [results, Try.results26, go_sem, *]) rfl ?_;exact ⟨f, rfl, (Ext.setCell (Ext.setCell (Ext.setCell (Ext.setCell (Ext.setCell (Ext.setCell (Ext.setCell (Ext.setCell (Ext.setCell (Ext.setCell (Ext.setCell HX.out (by simp only; omega) _) (by simp only; omega) _) (by simp only; omega) _) (by simp only; omega) _) (by simp only; omega) _) (by simp only; omega) _) (by simp only; omega) _) (by simp only; omega) _) (by simp only; omega) _) (by simp only; omega) _) (by simp only; omega) _)⟩
theorem eW {x e : Int} (_he : 0 <= e) : -e <= Int.tmod x (e + 1) /\ Int.tmod x (e + 1) <= e := by
 rcases Int.le_total 0 x with h | h
 .
  have h1 := Int.tmod_nonneg (e + 1) h;have h2 := Int.tmod_lt_of_pos x (show 0 < e + 1 by omega);omega
 .
  have h1 := Int.tmod_nonneg (e + 1) (show 0 <= -x by omega);have h2 := Int.tmod_lt_of_pos (-x) (show 0 < e + 1 by omega);rw [Int.neg_tmod] at h1 h2;omega
theorem fL {x y u v M : Int} (hx : -M <= x /\ x <= M) (hy : -M <= y /\ y <= M) (hu : 0 <= u) (hv : 0 <= v) (_h : 1 <= u + v) :
  (-M <= (x * v + y * u) / (u + v) /\ (x * v + y * u) / (u + v) <= M) /\ -M <= aj (x * v + y * u) (u + v) /\ aj (x * v + y * u) (u + v) <= M := by
 have a1 : x * v <= M * v := Int.mul_le_mul_of_nonneg_right hx.2 hv;have a2 : -M * v <= x * v := Int.mul_le_mul_of_nonneg_right hx.1 hv;have a3 : y * u <= M * u := Int.mul_le_mul_of_nonneg_right hy.2 hu;have a4 : -M * u <= y * u := Int.mul_le_mul_of_nonneg_right hy.1 hu;have e : M * (u + v) = M * v + M * u := by grind
 rw [Int.neg_mul] at a2 a4
 have key : ∀ z : Int, -(M * (u + v)) <= z -> z <= M * (u + v) -> -M <= z / (u + v) /\ z / (u + v) <= M := fun z h1 h2 => by
  constructor
  .
   exact Int.le_ediv_of_mul_le (by omega) (by rw [Int.neg_mul]; exact h1)
  .
   have h3 := Int.ediv_le_ediv (show 0 < u + v by omega) h2;rw [Int.mul_ediv_cancel _ (by omega)] at h3;exact h3
 refine ⟨key _ (by omega) (by omega), ?_⟩;have := key (-(x * v + y * u)) (by omega) (by omega);unfold aj;omega
theorem iC {a b d : Int} (hd : 1 <= d) (h : a <= b) : a / d <= aj b d := by
 have h1 := de (x := a) hd;have h2 := dK (x := b) hd;have h3 : a / d <= b / d := Int.ediv_le_ediv (by omega) h;have h4 := de (x := b) hd;have h5 := Rat.intCast_le_intCast.1 (Rat.le_trans h4 h2);unfold aj;omega
theorem pz {x d : Int} (hx : 0 <= x) (hd : 1 <= d) : 0 <= aj x d := by
 have := iC hd (Int.le_refl x);have := Int.ediv_nonneg hx (show 0 <= d by omega);omega
/-- The pose mN a span of times. -/
def iD (rs ra : Int) (fa fb : Fx) (tl th : Int) (i : Nat) : Int := aw ra fa fb (tl - fa.t) (fb.t - tl) i - aj (rs * (th - tl)) 1000000
def iE (rs ra : Int) (fa fb : Fx) (tl th : Int) (i : Nat) : Int := ax ra fa fb (tl - fa.t) (fb.t - tl) i + aj (rs * (th - tl)) 1000000
def pS (fa fb : Fx) (tl : Int) : Nat -> Int := (bG fa fb (tl - fa.t) (fb.t - tl)).q
def pT (rr : Int) (fa fb : Fx) (tl th : Int) : Int := (bG fa fb (tl - fa.t) (fb.t - tl)).k + aj (rr * min (tl - fa.t) (fb.t - tl)) 1000000 + aj (rr * (th - tl)) 1000000
theorem gA (fa fb : Fx) (u v : Int) : bG fa fb u v = fa \/ bG fa fb u v = fb := by
 unfold bG;split
 .
  first | exact .inl rfl | exact .inr rfl
 .
  first | exact .inr rfl | exact .inl rfl
theorem dR {rg rs ra rr : Int} {fa fb : Fx} {tl : Int} (hG : GoodF rg rs ra rr fa fb) (_h1 : fa.t <= tl) (_h2 : tl <= fb.t) {i : Nat} (hi : i < 3) :
  (-135567728 <= aw ra fa fb (tl - fa.t) (fb.t - tl) i /\ aw ra fa fb (tl - fa.t) (fb.t - tl) i <= 135567728) /\ (-135567728 <= ax ra fa fb (tl - fa.t) (fb.t - tl) i /\ ax ra fa fb (tl - fa.t) (fb.t - tl) i <= 135567728) /\ aw ra fa fb (tl - fa.t) (fb.t - tl) i <= ax ra fa fb (tl - fa.t) (fb.t - tl) i := by
 obtain ⟨hg, hs, ha, hr⟩ := hG.rules;have d1 := hG.d1;have d2 := hG.d2;have pa := Fx.p_range hG.oa hi;have pb := Fx.p_range hG.ob hi;have ea := Fx.e_range hG.oa;have eb := Fx.e_range hG.ob;obtain ⟨u, hu⟩ : ∃ u, tl - fa.t = u := ⟨_, rfl⟩;obtain ⟨v, hv⟩ : ∃ v, fb.t - tl = v := ⟨_, rfl⟩;rw [hu, hv];have hu0 : 0 <= u := by omega
 have hv0 : 0 <= v := by omega
 have huv : 1 <= u + v := by omega
 obtain ⟨_, _, b1, b2⟩ := eN ha hu0 hv0 (by omega);have x1 := (fL (x := fa.p i - fa.e) (y := fb.p i - fb.e) (M := 134317728) (by omega) (by omega) hu0 hv0 huv).1;have x2 := (fL (x := fa.p i + fa.e) (y := fb.p i + fb.e) (M := 134317728) (by omega) (by omega) hu0 hv0 huv).2;have m1 : (fa.p i - fa.e) * v <= (fa.p i + fa.e) * v := Int.mul_le_mul_of_nonneg_right (by omega) hv0;have m2 : (fb.p i - fb.e) * u <= (fb.p i + fb.e) * u := Int.mul_le_mul_of_nonneg_right (by omega) hu0;have x3 := iC huv (Int.add_le_add m1 m2);unfold aw ax;omega
theorem pU {rg rs ra rr : Int} {fa fb : Fx} {tl th : Int} (hG : GoodF rg rs ra rr fa fb) (h1 : fa.t <= tl) (_h12 : tl <= th) (_h2 : th <= fb.t) : df (iD rs ra fa fb tl th) (iE rs ra fa fb tl th) (pS fa fb tl) (pT rr fa fb tl th) := by
 obtain ⟨hg, hs, ha, hr⟩ := hG.rules;have d1 := hG.d1;have d2 := hG.d2;have hw0 : 0 <= rs * (th - tl) := Int.mul_nonneg hs.1 (by omega);have hw1 : rs * (th - tl) <= 1000000 * 10000000 := Int.mul_le_mul hs.2 (by omega) (by omega) (by omega);have hv0 : 0 <= rr * (th - tl) := Int.mul_nonneg hr.1 (by omega);have hv1 : rr * (th - tl) <= 10000000 * 10000000 := Int.mul_le_mul hr.2 (by omega) (by omega) (by omega);have hm0 : 0 <= rr * min (tl - fa.t) (fb.t - tl) := Int.mul_nonneg hr.1 (by omega);have hm1 : rr * min (tl - fa.t) (fb.t - tl) <= 10000000 * 10000000 := Int.mul_le_mul hr.2 (by omega) (by omega) (by omega);refine ⟨fun i hi => ?_, ?_, ?_⟩
 .
  have hb := dR hG h1 (show tl <= fb.t by omega) hi;have hc : 0 <= aj (rs * (th - tl)) 1000000 /\ aj (rs * (th - tl)) 1000000 <= 10000000 := by unfold aj; omega
  unfold iD iE;omega
 .
  unfold pS
  rcases gA fa fb (tl - fa.t) (fb.t - tl) with h | h <;> rw [h]
  .
   exact Fx.q_ok hG.oa
  .
   exact Fx.q_ok hG.ob
 .
  have hc : 0 <= aj (rr * (th - tl)) 1000000 /\ aj (rr * (th - tl)) 1000000 <= 100000000 := by unfold aj; omega
  have hd : 0 <= aj (rr * min (tl - fa.t) (fb.t - tl)) 1000000 /\ aj (rr * min (tl - fa.t) (fb.t - tl)) 1000000 <= 100000000 := by unfold aj; omega
  have hk : 0 <= (bG fa fb (tl - fa.t) (fb.t - tl)).k /\ (bG fa fb (tl - fa.t) (fb.t - tl)).k <= 1000000 := by
   rcases gA fa fb (tl - fa.t) (fb.t - tl) with h | h <;> rw [h]
   .
    exact Fx.k_range hG.oa
   .
    exact Fx.k_range hG.ob
  unfold pT;omega
/-- The place on an axis lies within the box. -/
theorem mF {rg rs ra rr : Int} {fa fb : Fx} {tl th T : Int} (hG : GoodF rg rs ra rr fa fb) (_h1 : fa.t <= tl) (_h12 : tl <= th) (_h2 : th <= fb.t) (_hT1 : tl <= T) (_hT2 : T <= th) {p q ac : Int} {i : Nat} {kf : Nat -> Int} {n r0 r1 m wd : Int}
  (hp : fa.p i - fa.e <= p /\ p <= fa.p i + fa.e) (hq : fb.p i - fb.e <= q /\ q <= fb.p i + fb.e) (ha : -ra <= ac /\ ac <= ra) (hs : fH p q ac (fb.t - fa.t) <= (rs : Rat)) (hn : 1 <= n) (hr : r0 <= r1) (hm : 0 <= m /\ m <= 16) (hw : 0 <= wd) :
  ((cM (iD rs ra fa fb tl th) kf n r0 r1 wd i : Int) : Rat) <= br p q ac (fb.t - fa.t) (T - fa.t) + fd r0 r1 m * (kf i : Rat) / (n : Rat) /\ br p q ac (fb.t - fa.t) (T - fa.t) + fd r0 r1 m * (kf i : Rat) / (n : Rat) <= ((cN (iE rs ra fa fb tl th) kf n r0 r1 wd i : Int) : Rat) := by
 have d1 := hG.d1;obtain ⟨b1, b2⟩ := nL (k := kf i) hn hr hm.1 hm.2;obtain ⟨c1, c2⟩ := ml (a := fa.p i) (e := fa.e) (b := fb.p i) (f := fb.e) (d := fb.t - fa.t) (u := tl - fa.t) (A := ra) (N := th - tl) (s := rs) (p := p) (q := q) (ac := ac) (x := T - fa.t) d1 (by omega) (by omega) (by omega) (by omega) (by omega) (by omega) (by omega) hp.1 hp.2 hq.1 hq.2 ha.2 ha.1 hs
 have e1 : nJ (fa.p i) fa.e (fb.p i) fb.e (fb.t - fa.t) (tl - fa.t) ra (th - tl) rs = iD rs ra fa fb tl th i := by
  unfold nJ iD aw bT;rw [show fb.t - fa.t - (tl - fa.t) = fb.t - tl by omega, show tl - fa.t + (fb.t - tl) = fb.t - fa.t by omega]
 have e2 : nK (fa.p i) fa.e (fb.p i) fb.e (fb.t - fa.t) (tl - fa.t) ra (th - tl) rs = iE rs ra fa fb tl th i := by
  unfold nK iE ax bT;rw [show fb.t - fa.t - (tl - fa.t) = fb.t - tl by omega, show tl - fa.t + (fb.t - tl) = fb.t - fa.t by omega]
 rw [e1] at c1;rw [e2] at c2;exact nM c1 c2 b1 b2 hw
/-- What NavTime answers. -/
def gB (sc lo hi : Int) : Bool := decide (0 <= sc + lo /\ sc + hi <= 1125899906842624)
def k5 (sc lo hi : Int) : Value := if gB sc lo hi then .tuple #[.agg #[.int .i64 (sc + lo), .int .i64 (sc + hi)], .int .i64 0] else .tuple #[.agg #[.int .i64 0, .int .i64 0], .int .i64 3]
theorem mG (gq cq : Nat) (fr lo hi scan : Int) (w : World) (hc : Clk w gq fr lo hi) (hf : 0 <= fr) (hlh : lo <= hi) (hl0 : -1125899907000000 <= lo) (hh0 : hi <= 1125899907000000) (hs0 : 0 <= scan) (hs1 : scan <= 1125899906842624) :
  Calls Try.prog 22 #[.slice (some ⟨gq, 0, none⟩) 1 cq, .int .i64 (scan)] w (fun e w' => e = .returned (k5 scan lo hi) /\ Ext w w') := by
 unfold k5
 by_cases h1 : 0 <= scan + lo
 .
  by_cases h2 : scan + hi <= 1125899906842624
  .
   rw [if_pos (show gB scan lo hi = true from decide_eq_true ⟨h1, h2⟩)];exact og gq cq fr lo hi scan w hc hf hlh hl0 hh0 hs0 hs1 h1 h2
  .
   rw [if_neg (by unfold gB; simp only [decide_eq_true_eq]; omega)];exact mD gq cq fr lo hi scan w hc hf hlh hl0 hh0 hs0 hs1 h1 (by omega)
 .
  rw [if_neg (by unfold gB; simp only [decide_eq_true_eq]; omega)];exact oi gq cq fr lo hi scan w hc hf hlh hl0 hh0 hs0 hs1 (by omega)
theorem iF (gq cq : Nat) (fr lo hi scan : Int) (w : World) (hc : Clk w gq fr lo hi) (hf : 0 <= fr) (hlh : lo <= hi) (hl0 : -1125899907000000 <= lo) (hh0 : hi <= 1125899907000000) (hs0 : 0 <= scan) (hs1 : scan <= 1125899906842624) :
  Calls Try.prog 24 #[.slice (some ⟨gq, 0, none⟩) 1 cq, .int .i64 (scan)] w (fun e w' => e = .returned (k5 scan lo hi) /\ Ext w w') := by
 unfold k5
 by_cases h1 : 0 <= scan + lo
 .
  by_cases h2 : scan + hi <= 1125899906842624
  .
   rw [if_pos (show gB scan lo hi = true from decide_eq_true ⟨h1, h2⟩)];exact om gq cq fr lo hi scan w hc hf hlh hl0 hh0 hs0 hs1 h1 h2
  .
   rw [if_neg (by unfold gB; simp only [decide_eq_true_eq]; omega)];exact mE gq cq fr lo hi scan w hc hf hlh hl0 hh0 hs0 hs1 h1 (by omega)
 .
  rw [if_neg (by unfold gB; simp only [decide_eq_true_eq]; omega)];exact oo gq cq fr lo hi scan w hc hf hlh hl0 hh0 hs0 hs1 (by omega)
theorem k6 (gp gf : Nat) (fa fb : Fx) (rg rs ra rr tl th : Int) (w : World) (hG : GoodF rg rs ra rr fa fb) (hT : TrkM w gp gf fa fb) (ht0 : 0 <= tl) (ht1 : tl <= th) (ht2 : th <= 1125899906842624) (h1 : fa.t <= tl) (h2 : th <= fb.t) :
  Calls Try.prog 25 #[.agg #[.slice (some ⟨gp, 0, none⟩) 1 1], .agg #[.int .i64 (rg), .int .i64 (rs), .int .i64 (ra), .int .i64 (rr)], .agg #[.int .i64 tl, .int .i64 th]] w (fun e w' => e = .returned (.tuple #[dZ (iD rs ra fa fb tl th) (iE rs ra fa fb tl th) (pS fa fb tl) (pT rr fa fb tl th), .int .i64 0]) /\ Ext w w') := by
 obtain ⟨hg, hs, ha, hr⟩ := hG.rules;have d1 := hG.d1;have d2 := hG.d2;have hm0 : 0 <= rr * min (tl - fa.t) (fb.t - tl) := Int.mul_nonneg hr.1 (by omega);have hm1 : rr * min (tl - fa.t) (fb.t - tl) <= 10000000 * 10000000 := Int.mul_le_mul hr.2 (by omega) (by omega) (by omega);have hd : 0 <= aj (rr * min (tl - fa.t) (fb.t - tl)) 1000000 /\ aj (rr * min (tl - fa.t) (fb.t - tl)) 1000000 <= 100000000 := by unfold aj; omega
 have hk : 0 <= (bG fa fb (tl - fa.t) (fb.t - tl)).k /\ (bG fa fb (tl - fa.t) (fb.t - tl)).k <= 1000000 := by
  rcases gA fa fb (tl - fa.t) (fb.t - tl) with h | h <;> rw [h]
  .
   exact Fx.k_range hG.oa
  .
   exact Fx.k_range hG.ob
 exact ja gp gf fa fb rg rs ra rr tl th _ _ _ _ w hG hT ht0 ht1 ht2 h1 h2 rfl (fun i hi => by have := dR hG h1 (show tl <= fb.t by omega) hi; omega) (fun i hi => by have := dR hG h1 (show tl <= fb.t by omega) hi; omega) (by omega)
theorem mH (gp gf : Nat) (fa fb : Fx) (rg rs ra rr tl th : Int) (w : World) (hG : GoodF rg rs ra rr fa fb) (hT : TrkM w gp gf fa fb) (ht0 : 0 <= tl) (ht1 : tl <= th) (ht2 : th <= 1125899906842624) (_hn : ¬ (fa.t <= tl /\ th <= fb.t)) :
  Calls Try.prog 25 #[.agg #[.slice (some ⟨gp, 0, none⟩) 1 1], .agg #[.int .i64 (rg), .int .i64 (rs), .int .i64 (ra), .int .i64 (rr)], .agg #[.int .i64 tl, .int .i64 th]] w (fun e w' => e = .returned (.tuple #[.agg #[.int .i64 (0), .int .i64 (0), .int .i64 (0), .int .i64 (0), .int .i64 (0), .int .i64 (0), .int .i64 (0), .int .i64 (0), .int .i64 (0), .int .i64 (0), .int .i64 (0)], .int .i64 44]) /\ Ext w w') := by
 by_cases h : fa.t <= tl /\ tl <= fb.t
 .
  exact fZ gp gf fa fb rg rs ra rr tl th w hG hT ht0 ht1 ht2 h.1 h.2 (by omega)
 .
  exact fY gp gf fa fb rg rs ra rr tl th w hG hT ht0 ht1 ht2 h
theorem mI (gp gf : Nat) (fa fb : Fx) (rg rs ra rr tl th : Int) (w : World) (hG : GoodF rg rs ra rr fa fb) (hT : TrkM w gp gf fa fb) (ht0 : 0 <= tl) (ht1 : tl <= th) (ht2 : th <= 1125899906842624) (_hn : ¬ (fa.t <= tl /\ th <= fb.t)) :
  Calls Try.prog 26 #[.agg #[.slice (some ⟨gp, 0, none⟩) 1 1], .agg #[.int .i64 (rg), .int .i64 (rs), .int .i64 (ra), .int .i64 (rr)], .agg #[.int .i64 tl, .int .i64 th], .bool true] w (fun e w' => ∃ f : Nat -> Int, e = .returned (.tuple #[.agg #[.int .i64 (f 0), .int .i64 (f 1), .int .i64 (f 2), .int .i64 (f 3), .int .i64 (f 4), .int .i64 (f 5), .int .i64 (f 6), .int .i64 (f 7), .int .i64 (f 8), .int .i64 (f 9), .int .i64 (f 10)], .int .i64 44]) /\ Ext w w') := by
 by_cases h : fa.t <= tl /\ tl <= fb.t
 .
  exact fi gp gf fa fb rg rs ra rr tl th w hG hT ht0 ht1 ht2 h.1 h.2 (by omega)
 .
  exact fh gp gf fa fb rg rs ra rr tl th w hG hT ht0 ht1 ht2 h
/-- Locate's code. -/
def bW (lo hi : Nat -> Int) (sq : Nat -> Int) (r0 r1 : Int) : Int := if fI r0 r1 = false then 2 else if bV 1000 sq = false then 46 else if cF lo hi 0 = true /\ cF lo hi 1 = true /\ cF lo hi 2 = true then 0 else 3
theorem k8 {lo hi sq : Nat -> Int} {r0 r1 : Int} (h : bW lo hi sq r0 r1 = 0) : fI r0 r1 = true /\ bV 1000 sq = true /\ ∀ i, i < 3 -> cF lo hi i = true := by
 unfold bW at h;split at h
 .
  omega
 .
  split at h
  .
   omega
  .
   split at h
   .
    next a b c =>
    refine ⟨by simpa using a, by simpa using b, fun i hi => ?_⟩
    rcases (show i = 0 \/ i = 1 \/ i = 2 by omega) with rfl | rfl | rfl
    .
     exact c.1
    .
     exact c.2.1
    .
     exact c.2.2
   .
    omega
theorem oC {lo hi : Nat -> Int} : (cF lo hi 0 = true /\ cF lo hi 1 = true /\ cF lo hi 2 = true) ↔ ∀ i, i < 3 -> cF lo hi i = true := by
 constructor
 .
  intro c i hi
  rcases (show i = 0 \/ i = 1 \/ i = 2 by omega) with rfl | rfl | rfl
  .
   exact c.1
  .
   exact c.2.1
  .
   exact c.2.2
 .
  intro h;exact ⟨h 0 (by omega), h 1 (by omega), h 2 (by omega)⟩
def fM (pl qn sq : Nat -> Int) (k0 r0 r1 : Int) : Nat -> Int := cM pl (dL (ah qn sq)) (dA (ah qn sq)) r0 r1 (aj (k0 * r1) 1000000)
def fN (ph qn sq : Nat -> Int) (k0 r0 r1 : Int) : Nat -> Int := cN ph (dL (ah qn sq)) (dA (ah qn sq)) r0 r1 (aj (k0 * r1) 1000000)
theorem mJ (pl ph qn sq : Nat -> Int) (k0 r0 r1 : Int) (w : World) (hp : df pl ph qn k0) (hs : ∀ k, k < 4 -> -9223372036854775808 <= sq k /\ sq k <= 9223372036854775807) (hr0 : -9223372036854775808 <= r0 /\ r0 <= 9223372036854775807) (hr1 : -9223372036854775808 <= r1 /\ r1 <= 9223372036854775807) :
  Calls Try.prog 27 #[.agg #[.int .i64 (pl 0), .int .i64 (ph 0), .int .i64 (pl 1), .int .i64 (ph 1), .int .i64 (pl 2), .int .i64 (ph 2), .int .i64 (qn 0), .int .i64 (qn 1), .int .i64 (qn 2), .int .i64 (qn 3), .int .i64 k0], .agg #[.int .i64 (sq 0), .int .i64 (sq 1), .int .i64 (sq 2), .int .i64 (sq 3)], .agg #[.int .i64 r0, .int .i64 r1]] w (fun e w' => (∃ f : Nat -> Int, e = .returned (.tuple #[.agg #[.int .i64 (f 0), .int .i64 (f 1), .int .i64 (f 2), .int .i64 (f 3), .int .i64 (f 4), .int .i64 (f 5)], .int .i64 (bW (fM pl qn sq k0 r0 r1) (fN ph qn sq k0 r0 r1) sq r0 r1)]) /\ (bW (fM pl qn sq k0 r0 r1) (fN ph qn sq k0 r0 r1) sq r0 r1 = 0 -> ∀ i, i < 3 -> f (2 * i) = fM pl qn sq k0 r0 r1 i /\ f (2 * i + 1) = fN ph qn sq k0 r0 r1 i)) /\ Ext w w') := by
 by_cases hr : fI r0 r1 = true
 .
  by_cases ht : bV 1000 sq = true
  .
   refine (ky pl ph qn sq k0 r0 r1 w hp hs hr0 hr1 hr ht).mono ?_;rintro e w' (⟨ha, rfl, hX⟩ | ⟨⟨i, hi, ha⟩, rfl, hX⟩)
   .
    have ha' : ∀ i, i < 3 -> cF (fM pl qn sq k0 r0 r1) (fN ph qn sq k0 r0 r1) i = true := ha
    have hc : bW (fM pl qn sq k0 r0 r1) (fN ph qn sq k0 r0 r1) sq r0 r1 = 0 := by
     unfold bW;rw [if_neg (by simp [hr]), if_neg (by simp [ht]), if_pos (oC.2 ha')]
    refine ⟨⟨fun j => if j % 2 = 0 then fM pl qn sq k0 r0 r1 (j / 2) else fN ph qn sq k0 r0 r1 (j / 2), by rw [hc]; rfl, fun _ i hi => ?_⟩, hX⟩
    rcases (show i = 0 \/ i = 1 \/ i = 2 by omega) with rfl | rfl | rfl <;> exact ⟨rfl, rfl⟩
   .
    have hc : bW (fM pl qn sq k0 r0 r1) (fN ph qn sq k0 r0 r1) sq r0 r1 = 3 := by
     unfold bW;rw [if_neg (by simp [hr]), if_neg (by simp [ht]), if_neg (fun h => by have h3 := oC.1 h i hi; rw [show cF (fM pl qn sq k0 r0 r1) (fN ph qn sq k0 r0 r1) i = false from ha] at h3; cases h3)]
    exact ⟨⟨fun _ => 0, by rw [hc], fun h => by rw [hc] at h; omega⟩, hX⟩
  .
   have ht' : bV 1000 sq = false := by simpa using ht
   refine (gj pl ph qn sq k0 r0 r1 w hp hs hr0 hr1 hr ht').mono ?_;rintro e w' ⟨rfl, hX⟩
   have hc : bW (fM pl qn sq k0 r0 r1) (fN ph qn sq k0 r0 r1) sq r0 r1 = 46 := by
    unfold bW;rw [if_neg (by simp [hr]), if_pos ht']
   exact ⟨⟨fun _ => 0, by rw [hc], fun h => by rw [hc] at h; omega⟩, hX⟩
 .
  have hr' : fI r0 r1 = false := by simpa using hr
  refine (ij pl ph qn sq k0 r0 r1 w hp hs hr0 hr1 hr').mono ?_;rintro e w' ⟨rfl, hX⟩
  have hc : bW (fM pl qn sq k0 r0 r1) (fN ph qn sq k0 r0 r1) sq r0 r1 = 2 := by
   unfold bW;rw [if_pos hr']
  exact ⟨⟨fun _ => 0, by rw [hc], fun h => by rw [hc] at h; omega⟩, hX⟩
theorem mK (pl ph qn sq : Nat -> Int) (k0 r0 r1 : Int) (w : World) (hp : df pl ph qn k0) :
  Calls Try.prog 28 #[.agg #[.int .i64 (pl 0), .int .i64 (ph 0), .int .i64 (pl 1), .int .i64 (ph 1), .int .i64 (pl 2), .int .i64 (ph 2), .int .i64 (qn 0), .int .i64 (qn 1), .int .i64 (qn 2), .int .i64 (qn 3), .int .i64 k0], .agg #[.int .i64 (sq 0), .int .i64 (sq 1), .int .i64 (sq 2), .int .i64 (sq 3)], .agg #[.int .i64 r0, .int .i64 r1]] w (fun e w' => (∃ f : Nat -> Int, e = .returned (.tuple #[.agg #[.int .i64 (f 0), .int .i64 (f 1), .int .i64 (f 2), .int .i64 (f 3), .int .i64 (f 4), .int .i64 (f 5)], .int .i64 (bW (fM pl qn sq k0 r0 r1) (fN ph qn sq k0 r0 r1) sq r0 r1)])) /\ Ext w w') := by
 by_cases hr : fI r0 r1 = true
 .
  by_cases ht : bV 1000 sq = true
  .
   refine (kT pl ph qn sq k0 r0 r1 w hp hr ht).mono ?_;rintro e w' (⟨ha, ⟨f, rfl⟩, hX⟩ | ⟨⟨i, hi, ha⟩, ⟨f, rfl⟩, hX⟩)
   .
    have ha' : ∀ i, i < 3 -> cF (fM pl qn sq k0 r0 r1) (fN ph qn sq k0 r0 r1) i = true := ha
    have hc : bW (fM pl qn sq k0 r0 r1) (fN ph qn sq k0 r0 r1) sq r0 r1 = 0 := by
     unfold bW;rw [if_neg (by simp [hr]), if_neg (by simp [ht]), if_pos (oC.2 ha')]
    exact ⟨⟨f, by rw [hc]⟩, hX⟩
   .
    have hc : bW (fM pl qn sq k0 r0 r1) (fN ph qn sq k0 r0 r1) sq r0 r1 = 3 := by
     unfold bW;rw [if_neg (by simp [hr]), if_neg (by simp [ht]), if_neg (fun h => by have h3 := oC.1 h i hi; rw [show cF (fM pl qn sq k0 r0 r1) (fN ph qn sq k0 r0 r1) i = false from ha] at h3; cases h3)]
    exact ⟨⟨f, by rw [hc]⟩, hX⟩
  .
   have ht' : bV 1000 sq = false := by simpa using ht
   refine (gv pl ph qn sq k0 r0 r1 w hp hr ht').mono ?_;rintro e w' ⟨f, rfl, hX⟩
   have hc : bW (fM pl qn sq k0 r0 r1) (fN ph qn sq k0 r0 r1) sq r0 r1 = 46 := by
    unfold bW;rw [if_neg (by simp [hr]), if_pos ht']
   exact ⟨⟨f, by rw [hc]⟩, hX⟩
 .
  have hr' : fI r0 r1 = false := by simpa using hr
  refine (iB pl ph qn sq k0 r0 r1 w hp hr').mono ?_;rintro e w' ⟨f, rfl, hX⟩
  have hc : bW (fM pl qn sq k0 r0 r1) (fN ph qn sq k0 r0 r1) sq r0 r1 = 2 := by
   unfold bW;rw [if_pos hr']
  exact ⟨⟨f, by rw [hc]⟩, hX⟩
end Go.Proofs.Ytikhlcgnlbinfaa
