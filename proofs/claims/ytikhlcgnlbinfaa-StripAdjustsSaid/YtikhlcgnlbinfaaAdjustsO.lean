/- Lemmas of the proof that follows (Adjusts, part 15): walks of functions by contract, and plain lemmas. Conditions: none. -/
import Derived.Test.YtikhlcgnlbinfaaAdjustsN
set_option maxRecDepth 100000
set_option maxHeartbeats 16000000
namespace Go.Proofs.Ytikhlcgnlbinfaa
open Lib (hid)
open Go.RowKit
/-- Column i of the pivots. -/
theorem ColR.get {base : Nat} {w : World} {A : Option Addr} {c : Nat} {l : List Nat} (h : ColR base w (.slice A l.length c) l) {i j : Nat} (hi : l[i]? = some j) : ∃ g, A = some ⟨g, 0, none⟩ /\ base <= g /\ w.cell? ⟨g, i, none⟩ = some (.int .i64 (j : Int)) := by
 have hl : 0 < l.length := by have := (List.getElem?_eq_some_iff.1 hi).1; omega
 obtain ⟨g, rfl, h1, h2⟩ := fj h hl;exact ⟨g, rfl, h1, af h (by rw [List.getElem?_map, hi]; rfl)⟩
theorem RowN.srow {base go S : Nat} {w : World} {f : Nat -> Rat} (h : RowN QZ 229 9 base w go S S (3 * S) (fun u => some (f u))) : SRow base w (.slice (some ⟨go, 0, none⟩) S S) S f := by
 obtain ⟨hf, ⟨us, h1, h2⟩, hn⟩ := h;refine ⟨⟨us, h1, h2.1, fun j hj => ?_⟩, fun g hg => by simp [Value.ownBlock] at hg; subst hg; exact hn⟩;obtain ⟨cs, c1, ⟨s, A, l, c, B, m, k, e, hx⟩, c3⟩ := h2.2 j hj;exact ⟨cs, c1, ⟨s, A, l, c, B, m, k, e, hx _ rfl⟩, c3⟩
theorem fZ {x : Int} {d : Nat} (_hd : 0 < d) : ax (decide (x < 0)) x.natAbs d = (x : Rat) / ((d : Nat) : Rat) := by
 have h := np x (n := (d : Int)) (by omega);rw [Int.toNat_natCast] at h;rw [h];rfl
theorem rO (go S jj ss kk : Nat) (w : World) (hss : Hid (jj / 3 = ss)) (hkk : Hid (jj % 3 = kk)) (_hs1 : ss < S) (_hk3 : (kk : Int) < 3) (_hk4 : kk < 3) (_hj : jj <= 1000) : aF Try.prog Try.f73 5 8 28 w [20, 21, 22, 23, 24, 25, 26, 27] [.c (.slice (some ⟨go, 0, none⟩) S S), .c (.int .i64 (jj : Int)), .c (.int .i64 (ss : Int)), .c (.int .i64 (jj : Int)), .c (.int .i64 (kk : Int)), .p fun v W => QZ W v (((0 : Int) : Rat)), .c (.pointer (some ⟨go, ss * 9, none⟩)), .c (.pointer (some ⟨go, ss * 9 + kk * 3, none⟩))] [(3, .slice (some ⟨go, 0, none⟩) S S), (4, .int .i64 (jj : Int))] := by
 refine aI [[], [], [1], [], [3], [], [0, 2], [4, 6]] (by kernel_rfl) (by kernel_rfl) rfl ⟨by intro v W W' h hX; exact QZ.ext h hX, trivial⟩ ?_;simp only [ae, Try.f73, ab, Option.bind_some, Nat.reduceBEq, if_true, if_false, Bool.false_eq_true, Option.getD_some];simp only [List.take_succ_cons, List.take_zero]
 repeat' first | refine ⟨?_, ?_⟩ | fail
 all_goals first | (intro us W b hJ K hK0 hK Qz; simp only [aD, aq, ar, List.getD_cons_succ, List.getD_cons_zero]) | exact True.intro
 all_goals try (intros; go_simp; exact hK0 _ rfl)
 .
  intro e21 e3 e4;have qw : IntKind.i64.wrap ((jj : Int) / 3) = (jj : Int) / 3 := IntWalk.i64_in _ (by omega);go_simp;exact hK0 _ (by have := hss.out; congr 1; omega)
 .
  intro e23 e3 e4;have ht : (jj : Int).tmod 3 = (jj : Int) % 3 := Int.tmod_eq_emod_of_nonneg (by omega);have qw : IntKind.i64.wrap ((jj : Int) % 3) = (jj : Int) % 3 := IntWalk.i64_in _ (by omega);go_simp;exact hK0 _ (by have := hkk.out; congr 1; omega)
 .
  intro e3 e4;go_simp;refine (bJ 0 W (by omega) (by omega)).mono ?_;rintro e w' ⟨v, rfl, hv, hX⟩;exact hK _ _ hv hX
theorem pF (gm ct nn ii ga ca gp S : Nat) (sx : Bool) (Ax : Option Addr) (lx cx : Nat) (w : World) (ha : w.cell? ⟨gm, ii, none⟩ = some (.slice (some ⟨ga, 0, none⟩) (nn + 1) ca)) (hp : w.cell? ⟨gp, 0, none⟩ = some (.int .i64 (S : Int))) (x0 : w.cell? ⟨ga, nn * 2, none⟩ = some (.bool sx)) (x1 : w.cell? ⟨ga, nn * 2 + 1, none⟩ = some (.slice Ax lx cx)) (_hqN : IntKind.i64.wrap (3 * (S : Int)) = (nn : Int)) (_hin : ii < nn) (_hnn : nn < nn + 1) (_hnn2 : (nn : Int) < (nn : Int) + 1) (a : Act) (Q : Exit -> Act -> World -> Prop) (hsize : 49 <= a.tmps.size)
  (s1 : a.tmps[1]? = some (.pointer (some ⟨gp, 0, none⟩)))
  (s5 : a.tmps[5]? = some (.slice (some ⟨gm, 0, none⟩) nn ct))
  (s8 : a.tmps[8]? = some (.int .i64 (ii : Int)))
  (hend : ∀ (xv0 xv1 xv2 xv3 xv4 xv5 xv6 xv7 xv8 xv9 xv10 : Value) (W : World), (xv0 = .slice (some ⟨gm, 0, none⟩) nn ct) -> (xv1 = .int .i64 (ii : Int)) -> (xv2 = .pointer (some ⟨gm, ii, none⟩)) -> (xv3 = .slice (some ⟨ga, 0, none⟩) (nn + 1) ca) -> (xv4 = .pointer (some ⟨gp, 0, none⟩)) -> (xv5 = .int .i64 (S : Int)) -> (xv6 = .int .i64 (nn : Int)) -> (xv7 = .pointer (some ⟨ga, nn * 2, none⟩)) -> (xv8 = .agg #[.bool sx, .slice Ax lx cx]) -> (∃ g, xv9 = .pointer (some ⟨g, 0, none⟩) /\ w.heap.size <= g /\ Blk W g 63 #[.bool sx, .slice Ax lx cx]) -> Ext w W -> wpList Try.prog (ae Try.f73 10).toArray Q [] (((((((((((a.put (some 40) xv0).put (some 41) xv1).put (some 42) xv2).put (some 43) xv3).put (some 44) xv4).put (some 45) xv5).put (some 46) xv6).put (some 47) xv7).put (some 48) xv8).put (some 9) xv9).put (none) xv10) W) :
  (Code.region 10 (ae Try.f73 10).toArray true).wp Try.prog Q a w := by
 have hsz : ∀ d, some d ∈ ([some 40, some 41, some 42, some 43, some 44, some 45, some 46, some 47, some 48, some 9, none] : List (Option Tmp)) -> d < a.tmps.size := bE (by decide) hsize;refine dx 11 [some 40, some 41, some 42, some 43, some 44, some 45, some 46, some 47, some 48, some 9, none] [[], [], [0, 1], [2], [], [4], [5], [3, 6], [7], [], [8, 9]] [[], [], [], [], [], [], [], [], [], [10], []] (fun (done : Nat -> Prop) (us : Nat -> Value) (W : World) => Ext w W /\ (done 0 -> us 0 = .slice (some ⟨gm, 0, none⟩) nn ct) /\ (done 1 -> us 1 = .int .i64 (ii : Int)) /\ (done 2 -> us 2 = .pointer (some ⟨gm, ii, none⟩)) /\ (done 3 -> us 3 = .slice (some ⟨ga, 0, none⟩) (nn + 1) ca) /\ (done 4 -> us 4 = .pointer (some ⟨gp, 0, none⟩)) /\ (done 5 -> us 5 = .int .i64 (S : Int)) /\ (done 6 -> us 6 = .int .i64 (nn : Int)) /\ (done 7 -> us 7 = .pointer (some ⟨ga, nn * 2, none⟩)) /\ (done 8 -> us 8 = .agg #[.bool sx, .slice Ax lx cx]) /\ Loc w W 63 #[.bool false, .slice none 0 0] #[.bool sx, .slice Ax lx cx] (done 9) (done 10) (us 9)) (by kernel_rfl) (by kernel_rfl) hsz (fun p q us W h => by have e : p = q := funext fun k => propext (h k); rw [e]; exact id) (fun us => ⟨(Ext.refl w).drew, fun h => h.elim, fun h => h.elim, fun h => h.elim, fun h => h.elim, fun h => h.elim, fun h => h.elim, fun h => h.elim, fun h => h.elim, fun h => h.elim, Loc.unmade id⟩) ?_ ?_
 .
  clear hend;simp only [ae, Try.f73, ab, Option.bind_some, Nat.reduceBEq, if_true, if_false, Bool.false_eq_true, Option.getD_some];simp only [List.take_succ_cons, List.take_zero];refine ⟨?_, ?_, ?_, ?_, ?_, ?_, ?_, ?_, ?_, ?_, ?_, trivial⟩
  .
   intro done us W hJ hdep haft hnot b hb hb' K hK Q';obtain ⟨hX0, cc0, cc1, cc2, cc3, cc4, cc5, cc6, cc7, cc8, ll9⟩ := hJ;have e5 := (hb' 5 (by simp)).trans s5;clear hb hb';have hfin := hK (.slice (some ⟨gm, 0, none⟩) nn ct) _ ⟨hX0, fun _ => rfl, fun h => cc1 (h.resolve_right (by decide)), fun h => cc2 (h.resolve_right (by decide)), fun h => cc3 (h.resolve_right (by decide)), fun h => cc4 (h.resolve_right (by decide)), fun h => cc5 (h.resolve_right (by decide)), fun h => cc6 (h.resolve_right (by decide)), fun h => cc7 (h.resolve_right (by decide)), fun h => cc8 (h.resolve_right (by decide)), Loc.same ll9 ⟨fun h => h.resolve_right (by decide), .inl⟩ ⟨fun h => h.resolve_right (by decide), .inl⟩⟩;clear hK cc0 cc1 cc2 cc3 cc4 cc5 cc6 cc7 cc8 ll9;go_simp;exact hfin
  .
   intro done us W hJ hdep haft hnot b hb hb' K hK Q';obtain ⟨hX0, cc0, cc1, cc2, cc3, cc4, cc5, cc6, cc7, cc8, ll9⟩ := hJ;have e8 := (hb' 8 (by simp)).trans s8;clear hb hb';have hfin := hK (.int .i64 (ii : Int)) _ ⟨hX0, fun h => cc0 (h.resolve_right (by decide)), fun _ => rfl, fun h => cc2 (h.resolve_right (by decide)), fun h => cc3 (h.resolve_right (by decide)), fun h => cc4 (h.resolve_right (by decide)), fun h => cc5 (h.resolve_right (by decide)), fun h => cc6 (h.resolve_right (by decide)), fun h => cc7 (h.resolve_right (by decide)), fun h => cc8 (h.resolve_right (by decide)), Loc.same ll9 ⟨fun h => h.resolve_right (by decide), .inl⟩ ⟨fun h => h.resolve_right (by decide), .inl⟩⟩;clear hK cc0 cc1 cc2 cc3 cc4 cc5 cc6 cc7 cc8 ll9;go_simp;exact hfin
  .
   intro done us W hJ hdep haft hnot b hb hb' K hK Q';obtain ⟨hX0, cc0, cc1, cc2, cc3, cc4, cc5, cc6, cc7, cc8, ll9⟩ := hJ;simp only [List.getD_cons_succ, List.getD_cons_zero, List.mem_cons, List.not_mem_nil, or_false, forall_eq_or_imp, forall_eq] at hdep;have e40 := hb 0 40 rfl;rw [cc0 hdep.1] at e40;have e41 := hb 1 41 rfl;rw [cc1 hdep.2] at e41;clear hb hb';have hfin := hK (.pointer (some ⟨gm, ii, none⟩)) _ ⟨hX0, fun h => cc0 (h.resolve_right (by decide)), fun h => cc1 (h.resolve_right (by decide)), fun _ => rfl, fun h => cc3 (h.resolve_right (by decide)), fun h => cc4 (h.resolve_right (by decide)), fun h => cc5 (h.resolve_right (by decide)), fun h => cc6 (h.resolve_right (by decide)), fun h => cc7 (h.resolve_right (by decide)), fun h => cc8 (h.resolve_right (by decide)), Loc.same ll9 ⟨fun h => h.resolve_right (by decide), .inl⟩ ⟨fun h => h.resolve_right (by decide), .inl⟩⟩;clear hK cc0 cc1 cc2 cc3 cc4 cc5 cc6 cc7 cc8 ll9;go_simp;exact hfin
  .
   intro done us W hJ hdep haft hnot b hb hb' K hK Q';obtain ⟨hX0, cc0, cc1, cc2, cc3, cc4, cc5, cc6, cc7, cc8, ll9⟩ := hJ;simp only [List.getD_cons_succ, List.getD_cons_zero, List.mem_cons, List.not_mem_nil, or_false, forall_eq] at hdep;have e42 := hb 2 42 rfl;rw [cc2 hdep] at e42;clear hb hb';have q0 := hX0.cell ha;have hfin := hK (.slice (some ⟨ga, 0, none⟩) (nn + 1) ca) _ ⟨hX0, fun h => cc0 (h.resolve_right (by decide)), fun h => cc1 (h.resolve_right (by decide)), fun h => cc2 (h.resolve_right (by decide)), fun _ => rfl, fun h => cc4 (h.resolve_right (by decide)), fun h => cc5 (h.resolve_right (by decide)), fun h => cc6 (h.resolve_right (by decide)), fun h => cc7 (h.resolve_right (by decide)), fun h => cc8 (h.resolve_right (by decide)), Loc.same ll9 ⟨fun h => h.resolve_right (by decide), .inl⟩ ⟨fun h => h.resolve_right (by decide), .inl⟩⟩;clear hK cc0 cc1 cc2 cc3 cc4 cc5 cc6 cc7 cc8 ll9;go_simp;exact hfin
  .
   intro done us W hJ hdep haft hnot b hb hb' K hK Q';obtain ⟨hX0, cc0, cc1, cc2, cc3, cc4, cc5, cc6, cc7, cc8, ll9⟩ := hJ;have e1 := (hb' 1 (by simp)).trans s1;clear hb hb';have hfin := hK (.pointer (some ⟨gp, 0, none⟩)) _ ⟨hX0, fun h => cc0 (h.resolve_right (by decide)), fun h => cc1 (h.resolve_right (by decide)), fun h => cc2 (h.resolve_right (by decide)), fun h => cc3 (h.resolve_right (by decide)), fun _ => rfl, fun h => cc5 (h.resolve_right (by decide)), fun h => cc6 (h.resolve_right (by decide)), fun h => cc7 (h.resolve_right (by decide)), fun h => cc8 (h.resolve_right (by decide)), Loc.same ll9 ⟨fun h => h.resolve_right (by decide), .inl⟩ ⟨fun h => h.resolve_right (by decide), .inl⟩⟩;clear hK cc0 cc1 cc2 cc3 cc4 cc5 cc6 cc7 cc8 ll9;go_simp;exact hfin
  .
   intro done us W hJ hdep haft hnot b hb hb' K hK Q';obtain ⟨hX0, cc0, cc1, cc2, cc3, cc4, cc5, cc6, cc7, cc8, ll9⟩ := hJ;simp only [List.getD_cons_succ, List.getD_cons_zero, List.mem_cons, List.not_mem_nil, or_false, forall_eq] at hdep;have e44 := hb 4 44 rfl;rw [cc4 hdep] at e44;clear hb hb';have q0 := hX0.cell hp;have hfin := hK (.int .i64 (S : Int)) _ ⟨hX0, fun h => cc0 (h.resolve_right (by decide)), fun h => cc1 (h.resolve_right (by decide)), fun h => cc2 (h.resolve_right (by decide)), fun h => cc3 (h.resolve_right (by decide)), fun h => cc4 (h.resolve_right (by decide)), fun _ => rfl, fun h => cc6 (h.resolve_right (by decide)), fun h => cc7 (h.resolve_right (by decide)), fun h => cc8 (h.resolve_right (by decide)), Loc.same ll9 ⟨fun h => h.resolve_right (by decide), .inl⟩ ⟨fun h => h.resolve_right (by decide), .inl⟩⟩;clear hK cc0 cc1 cc2 cc3 cc4 cc5 cc6 cc7 cc8 ll9;go_simp;exact hfin
  .
   intro done us W hJ hdep haft hnot b hb hb' K hK Q';obtain ⟨hX0, cc0, cc1, cc2, cc3, cc4, cc5, cc6, cc7, cc8, ll9⟩ := hJ;simp only [List.getD_cons_succ, List.getD_cons_zero, List.mem_cons, List.not_mem_nil, or_false, forall_eq] at hdep;have e45 := hb 5 45 rfl;rw [cc5 hdep] at e45;clear hb hb';have hfin := hK (.int .i64 (nn : Int)) _ ⟨hX0, fun h => cc0 (h.resolve_right (by decide)), fun h => cc1 (h.resolve_right (by decide)), fun h => cc2 (h.resolve_right (by decide)), fun h => cc3 (h.resolve_right (by decide)), fun h => cc4 (h.resolve_right (by decide)), fun h => cc5 (h.resolve_right (by decide)), fun _ => rfl, fun h => cc7 (h.resolve_right (by decide)), fun h => cc8 (h.resolve_right (by decide)), Loc.same ll9 ⟨fun h => h.resolve_right (by decide), .inl⟩ ⟨fun h => h.resolve_right (by decide), .inl⟩⟩;clear hK cc0 cc1 cc2 cc3 cc4 cc5 cc6 cc7 cc8 ll9;go_simp;exact hfin
  .
   intro done us W hJ hdep haft hnot b hb hb' K hK Q';obtain ⟨hX0, cc0, cc1, cc2, cc3, cc4, cc5, cc6, cc7, cc8, ll9⟩ := hJ;simp only [List.getD_cons_succ, List.getD_cons_zero, List.mem_cons, List.not_mem_nil, or_false, forall_eq_or_imp, forall_eq] at hdep;have e43 := hb 3 43 rfl;rw [cc3 hdep.1] at e43;have e46 := hb 6 46 rfl;rw [cc6 hdep.2] at e46;clear hb hb';have hfin := hK (.pointer (some ⟨ga, nn * 2, none⟩)) _ ⟨hX0, fun h => cc0 (h.resolve_right (by decide)), fun h => cc1 (h.resolve_right (by decide)), fun h => cc2 (h.resolve_right (by decide)), fun h => cc3 (h.resolve_right (by decide)), fun h => cc4 (h.resolve_right (by decide)), fun h => cc5 (h.resolve_right (by decide)), fun h => cc6 (h.resolve_right (by decide)), fun _ => rfl, fun h => cc8 (h.resolve_right (by decide)), Loc.same ll9 ⟨fun h => h.resolve_right (by decide), .inl⟩ ⟨fun h => h.resolve_right (by decide), .inl⟩⟩;clear hK cc0 cc1 cc2 cc3 cc4 cc5 cc6 cc7 cc8 ll9;go_simp;exact hfin
  .
   intro done us W hJ hdep haft hnot b hb hb' K hK Q';obtain ⟨hX0, cc0, cc1, cc2, cc3, cc4, cc5, cc6, cc7, cc8, ll9⟩ := hJ;simp only [List.getD_cons_succ, List.getD_cons_zero, List.mem_cons, List.not_mem_nil, or_false, forall_eq] at hdep;have e47 := hb 7 47 rfl;rw [cc7 hdep] at e47;clear hb hb';have q0 := hX0.cell x0;have q1 := hX0.cell x1;have hfin := hK (.agg #[.bool sx, .slice Ax lx cx]) _ ⟨hX0, fun h => cc0 (h.resolve_right (by decide)), fun h => cc1 (h.resolve_right (by decide)), fun h => cc2 (h.resolve_right (by decide)), fun h => cc3 (h.resolve_right (by decide)), fun h => cc4 (h.resolve_right (by decide)), fun h => cc5 (h.resolve_right (by decide)), fun h => cc6 (h.resolve_right (by decide)), fun h => cc7 (h.resolve_right (by decide)), fun _ => rfl, Loc.same ll9 ⟨fun h => h.resolve_right (by decide), .inl⟩ ⟨fun h => h.resolve_right (by decide), .inl⟩⟩;clear hK cc0 cc1 cc2 cc3 cc4 cc5 cc6 cc7 cc8 ll9;go_simp;exact hfin
  .
   intro done us W hJ hdep haft hnot b hb hb' K hK Q';obtain ⟨hX0, cc0, cc1, cc2, cc3, cc4, cc5, cc6, cc7, cc8, ll9⟩ := hJ;simp only [List.getD_cons_succ, List.getD_cons_zero, List.mem_cons, List.not_mem_nil, or_false, forall_eq_or_imp, forall_eq] at haft;clear hb hb';have hfin := hK _ _ ⟨hX0.alloc _, fun h => cc0 (h.resolve_right (by decide)), fun h => cc1 (h.resolve_right (by decide)), fun h => cc2 (h.resolve_right (by decide)), fun h => cc3 (h.resolve_right (by decide)), fun h => cc4 (h.resolve_right (by decide)), fun h => cc5 (h.resolve_right (by decide)), fun h => cc6 (h.resolve_right (by decide)), fun h => cc7 (h.resolve_right (by decide)), fun h => cc8 (h.resolve_right (by decide)), Loc.new w W hX0 (fun h => h.elim haft (by decide)) (Ext.refl _)⟩;clear hK hX0 cc0 cc1 cc2 cc3 cc4 cc5 cc6 cc7 cc8 ll9;go_simp;exact hfin
  .
   intro done us W hJ hdep haft hnot b hb hb' K hK Q';obtain ⟨hX0, cc0, cc1, cc2, cc3, cc4, cc5, cc6, cc7, cc8, ll9⟩ := hJ;simp only [List.getD_cons_succ, List.getD_cons_zero, List.mem_cons, List.not_mem_nil, or_false, forall_eq_or_imp, forall_eq] at hdep;have e9 := hb 9 9 rfl;have e48 := hb 8 48 rfl;rw [cc8 hdep.1] at e48;obtain ⟨g, eg, hg, hB⟩ := ll9.stored hdep.2 hnot;rw [eg] at e9;have q0 : W.cell? ⟨g, 0, none⟩ = some (.bool false) := hB.cell 0;have z0 : W.frozen? ⟨g, 0, none⟩ = false := hB.free 0;have q1 : W.cell? ⟨g, 1, none⟩ = some (.slice none 0 0) := hB.cell 1;have z1 : W.frozen? ⟨g, 1, none⟩ = false := hB.free 1;clear hb hb';have hfin := hK undef _ ⟨((hX0.setCell hg _).setCell hg _), fun h => cc0 (h.resolve_right (by decide)), fun h => cc1 (h.resolve_right (by decide)), fun h => cc2 (h.resolve_right (by decide)), fun h => cc3 (h.resolve_right (by decide)), fun h => cc4 (h.resolve_right (by decide)), fun h => cc5 (h.resolve_right (by decide)), fun h => cc6 (h.resolve_right (by decide)), fun h => cc7 (h.resolve_right (by decide)), fun h => cc8 (h.resolve_right (by decide)), ⟨fun _ => ⟨g, eg, hg, fun _ => (Blk.set (Blk.set hB 0 _) 1 _), fun h => absurd (.inr rfl) h⟩⟩⟩;clear hK hX0 cc0 cc1 cc2 cc3 cc4 cc5 cc6 cc7 cc8 ll9;go_simp;exact hfin
 .
  intro us W hJ;obtain ⟨hX0, cc0, cc1, cc2, cc3, cc4, cc5, cc6, cc7, cc8, ll9⟩ := hJ;rw [show (ae Try.f73 10).drop 11 = [] by kernel_rfl];exact hend (us 0) (us 1) (us 2) (us 3) (us 4) (us 5) (us 6) (us 7) (us 8) (us 9) (us 10) W (cc0 (show 0 < 11 by decide)) (cc1 (show 1 < 11 by decide)) (cc2 (show 2 < 11 by decide)) (cc3 (show 3 < 11 by decide)) (cc4 (show 4 < 11 by decide)) (cc5 (show 5 < 11 by decide)) (cc6 (show 6 < 11 by decide)) (cc7 (show 7 < 11 by decide)) (cc8 (show 8 < 11 by decide)) (ll9.done (show 9 < 11 by decide) (show 10 < 11 by decide)) hX0
theorem jM (go S gc tp cc ii jj ss kk gx gl d : Nat) (xz : Int) (sx : Bool) (Ax : Option Addr) (lx cx : Nat) (Al : Option Addr) (ll cl : Nat) (w : World) (hss : Hid (jj / 3 = ss)) (hkk : Hid (jj % 3 = kk)) (_hs1 : ss < S) (_hk3 : (kk : Int) < 3) (_hk4 : kk < 3) (_hj : jj <= 1000) (_hit : ii < tp) (hc : w.cell? ⟨gc, ii, none⟩ = some (.int .i64 (jj : Int))) (x0 : w.cell? ⟨gx, 0, none⟩ = some (.bool sx)) (x1 : w.cell? ⟨gx, 1, none⟩ = some (.slice Ax lx cx)) (hl1 : w.cell? ⟨gl, 1, none⟩ = some (.slice Al ll cl)) (hx : IntZ w (.agg #[.bool sx, .slice Ax lx cx]) xz) (hd : Z16 w (.slice Al ll cl) d) (fx : Fit 65536 xz.natAbs 106) (fd : Fit 65536 d 106) (hd0 : 0 < d) : aF Try.prog Try.f73 13 18 72 w [54, 55, 56, 57, 58, 59, 60, 61, 62, 63, 64, 65, 66, 67, 68, 69, 70, 71] [.c (.slice (some ⟨go, 0, none⟩) S S), .c (.slice (some ⟨gc, 0, none⟩) tp cc), .c (.int .i64 (ii : Int)), .c (.pointer (some ⟨gc, ii, none⟩)), .c (.int .i64 (jj : Int)), .c (.int .i64 (ss : Int)), .c (.slice (some ⟨gc, 0, none⟩) tp cc), .c (.int .i64 (ii : Int)), .c (.pointer (some ⟨gc, ii, none⟩)), .c (.int .i64 (jj : Int)), .c (.int .i64 (kk : Int)), .c (.agg #[.bool sx, .slice Ax lx cx]), .c (.pointer (some ⟨gl, 1, none⟩)), .c (.slice Al ll cl), .c (.agg #[.bool false, .slice Al ll cl]), .p fun v W => QZ W v (ax (decide (xz < 0)) xz.natAbs d), .c (.pointer (some ⟨go, ss * 9, none⟩)), .c (.pointer (some ⟨go, ss * 9 + kk * 3, none⟩))] [(3, .slice (some ⟨go, 0, none⟩) S S), (6, .slice (some ⟨gc, 0, none⟩) tp cc), (7, .pointer (some ⟨gl, 0, none⟩)), (8, .int .i64 (ii : Int)), (9, .pointer (some ⟨gx, 0, none⟩))] := by
 refine aI [[], [], [], [1, 2], [3], [4], [], [], [6, 7], [8], [9], [], [], [12], [13], [11, 14], [0, 5], [10, 16]] (by kernel_rfl) (by kernel_rfl) rfl ⟨by intro v W W' h hX; exact QZ.ext h hX, trivial⟩ ?_;simp only [ae, Try.f73, ab, Option.bind_some, Nat.reduceBEq, if_true, if_false, Bool.false_eq_true, Option.getD_some];simp only [List.take_succ_cons, List.take_zero]
 repeat' first | refine ⟨?_, ?_⟩ | fail
 all_goals first | (intro us W b hJ K hK0 hK Qz; simp only [aD, aq, ar, List.getD_cons_succ, List.getD_cons_zero]) | exact True.intro
 all_goals try (intros; have q0 := Ext.cell hJ hc; have q1 := Ext.cell hJ x0; have q2 := Ext.cell hJ x1; have q3 := Ext.cell hJ hl1; go_simp; exact hK0 _ rfl)
 .
  intro e58 e3 e6 e7 e8 e9;have qw : IntKind.i64.wrap ((jj : Int) / 3) = (jj : Int) / 3 := IntWalk.i64_in _ (by omega);go_simp;exact hK0 _ (by have := hss.out; congr 1; omega)
 .
  intro e63 e3 e6 e7 e8 e9;have ht : (jj : Int).tmod 3 = (jj : Int) % 3 := Int.tmod_eq_emod_of_nonneg (by omega);have qw : IntKind.i64.wrap ((jj : Int) % 3) = (jj : Int) % 3 := IntWalk.i64_in _ (by omega);go_simp;exact hK0 _ (by have := hkk.out; congr 1; omega)
 .
  intro e65 e68 e3 e6 e7 e8 e9;go_simp;refine (oy _ xz false Al ll cl d 106 W (hx.ext hJ) (hd.ext hJ) fx fd (by omega) hd0).mono ?_;rintro e w' ⟨v, rfl, hv, hX⟩;exact hK _ _ hv hX
theorem sN (S : Nat) (A : Option Addr) (n c : Nat) (ms : List Mt) (w : World) (h : MsAt w A n ms) (hv : VP S ms) :
  Calls Try.prog 73 #[.agg #[.int .i64 (S : Int), .slice A n c]] w (fun e w' => ∃ go, e = .returned (.slice (some ⟨go, 0, none⟩) S S) /\ SRow w.heap.size w' (.slice (some ⟨go, 0, none⟩) S S) S (bz (3 * S) ms) /\ Ext w w') := by
 have hS1 : 1 <= S := by have := hv.1; omega
 have hS8 : S <= 8 := by have := hv.2.1; omega
 obtain ⟨nn, hN⟩ : ∃ nn, nn = 3 * S := ⟨_, rfl⟩;have hNb : nn <= 24 := by omega
 have hqN : IntKind.i64.wrap (3 * (S : Int)) = (nn : Int) := by rw [IntWalk.i64_in _ (by omega)]; omega
 have HX := hid ((Ext.refl w).alloc (.cells #[.int .i64 (S : Int), .slice A n c] 76));have HP := hid (Blk.new w 76 #[.int .i64 (S : Int), .slice A n c]);have H := hid h;have HV := hid hv;have HNN := hid hN;rw [<- hN];clear h hv hN;go_enter Try.func73, Try.ntmps73
 go_upto_region 1 with (fail)
 generalize w.alloc _ = w1 at HX HP |-;have p0 := HP.out.cell 0;have p1 := HP.out.cell 1;simp only [List.getElem?_toArray, List.getElem?_cons_zero, List.getElem?_cons_succ] at p0 p1;have hs1 := HX.out.size;have hpl := HP.out.lt
 go_upto_region 2 with (at_make; refine dq w1 tI rfl _ _ rfl w.heap.size _ _ _ _ S S rfl rfl (by first | rfl | omega) (by first | rfl | omega) (Nat.le_refl _) (by omega) (by unfold maxLen; omega) hs1 ?_; intro w2 us hown hz1 hz2 hext hsz)
 clear p0 p1;have hrow : RowN QZ 229 9 w.heap.size w2 w1.heap.size S S (3 * S) (fun _ => none) := RowN.make9 hown hz1 hz2;replace HX := hid (HX.out.trans hext);replace HP := hid (HP.out.ext hext);have hgo : w.heap.size < w1.heap.size := hpl;generalize w1.heap.size = go at hrow hs1 hsz hgo |-;have HR := hid hrow;have HGO : Hid (w.heap.size ≠ go) := hid (by omega);clear hrow hown hz1 hz2 hext hpl
 go_wp2_with fail
 go_loopg [4] nn (fun f iv wr => ∃ j : Nat, f = nn - j /\ j <= nn /\ iv = .int .i64 (j : Int) /\ Hid (RowN QZ 229 9 w.heap.size wr go S S (3 * S) (fun u => if u < j then some (0 : Rat) else none)) /\ Hid (Ext w wr) /\ Hid (Keeps [go] w2 wr))
 case atStart => exact ⟨0, by omega, by omega, rfl, hid (HR.out.congr (fun u _ => by rw [if_neg (by omega)])), HX, hid (Keeps.refl _ _)⟩
 case round =>
  clear HR HX;obtain ⟨j, rfl, hj, rfl, HR, HX, HK⟩ := hrel;replace HP := hid (HP.out.keeps HK.out (by have := HGO.out; simp; omega));have p0 := HP.out.cell 0;have p1 := HP.out.cell 1;simp only [List.getElem?_toArray, List.getElem?_cons_zero, List.getElem?_cons_succ] at p0 p1
  by_cases hlt : j < nn
  .
   have q1 : decide (j < nn) = true := decide_eq_true hlt;have q1b : decide ((j : Int) < (nn : Int)) = true := decide_eq_true (by omega);obtain ⟨ss, hss⟩ : ∃ ss, j / 3 = ss := ⟨_, rfl⟩;obtain ⟨kk, hkk⟩ : ∃ kk, j % 3 = kk := ⟨_, rfl⟩;have hkk3 : kk < 3 := by omega
   have hssS : ss < S := by have := HNN.out; omega
   have hpj : ss * 9 + kk * 3 = j * 3 := by omega
   have hj3 : j < 3 * S := by have := HNN.out; omega
   have HSS := hid hss;have HKK := hid hkk;have HPJ := hid hpj;clear hss hkk hpj
   go_upto_region 5 with (fail)
   refine rO go S j ss kk wr HSS.out HKK.out hssS (by omega) hkk3 (by omega) _ _ (by simp) ⟨rfl, rfl, trivial⟩ ?_;rintro W hX xv5 hv;simp only [EndK, ae, Try.f73, ab, Option.bind_some, Nat.reduceBEq, if_true, if_false, Bool.false_eq_true, Option.getD_some, List.drop_succ_cons, List.drop_zero];simp only [Act.put, List.setIfInBounds_toArray, List.set_cons_succ, List.set_cons_zero];replace HR := hid (HR.out.ext cm hX);replace HX := hid (HX.out.trans hX);replace HK := hid (HK.out.trans (Keeps.of_ext hX _));clear hX p0 p1;obtain ⟨s4, A4, l4, c4, B4, m4, k4, rfl⟩ := QZ.open hv;have HN := hid hv;clear hv;obtain ⟨s5, A5, l5, c5, B5, m5, k5, y0, y1, y2, _⟩ := HR.out.cells hj3 HPJ.out;have f0 := HR.out.free (ss * 9 + kk * 3);have f1 := HR.out.free (ss * 9 + kk * 3 + 1);have f2 := HR.out.free (ss * 9 + kk * 3 + 2);have hput := HR.out.put cm hj3 HPJ.out (hx := HN.out);have hkp : Keeps [go] W (((W.setCell ⟨go, ss * 9 + kk * 3, none⟩ (.bool s4)).setCell ⟨go, ss * 9 + kk * 3 + 1, none⟩ (.slice A4 l4 c4)).setCell ⟨go, ss * 9 + kk * 3 + 2, none⟩ (.slice B4 m4 k4)) := (((Keeps.refl [go] W).setCell (.inl (by simp)) _).setCell (.inl (by simp)) _).setCell (.inl (by simp)) _;have HPUT := hid hput;have HKP := hid hkp;have hgw : w.heap.size <= go := HR.out.low.1;have HX2 := hid (hkp.ext HX.out (fun g hg => by simp at hg; subst hg; exact hgw));clear hput hkp;have HK2 := hid (HK.out.trans HKP.out);go_wp2;go_roundg (nn - (j + 1))
   case rel =>
    refine ⟨j + 1, rfl, by omega, by go_num, hid (HPUT.out.congr (fun u _ => ?_)), HX2, HK2⟩
    by_cases e : u = j
    .
     rw [if_pos e, if_pos (by omega)]; rfl
    .
     rw [if_neg e]
     by_cases e2 : u < j
     .
      rw [if_pos e2, if_pos (by omega)]
     .
      rw [if_neg e2, if_neg (by omega)]
   case measure => omega
  .
   obtain rfl : nn = j := by omega
   have q1 : decide (nn < nn) = false := by simp
   have q1b : decide ((nn : Int) < (nn : Int)) = false := by simp
   have HR0 : Hid (RowN QZ 229 9 w.heap.size wr go S S (3 * S) (fun _ => some (0 : Rat))) := hid (HR.out.congr (fun u hu => by rw [if_pos (by have := HNN.out; omega)]));clear HR HK
   go_wp2_with fail
   refine (pA S nn A n c ms _ (H.out.ext HX.out) HV.out HNN.out).mono ?_;rintro e w3 ⟨gm, ct, vs, cv, sl, Al, ll, cl, rfl, hT, hC, hI, hX⟩;have hs3 := HX.out.size;have hgol := HR0.out.low.2;obtain ⟨B1, hB1⟩ : ∃ B1, wr.heap.size = B1 := ⟨_, rfl⟩;rw [hB1] at hT hC hgol;replace HX := hid (HX.out.trans hX);replace HP := hid (HP.out.ext hX);replace HR0 := hid (HR0.out.ext cm hX);clear hX p0 p1
   go_upto_region 7 with (fail)
   have hXa : Ext w3 (w3.alloc (.cells #[.bool sl, .slice Al ll cl] 63)) := (Ext.refl _).alloc _;have hB := Blk.new w3 63 #[.bool sl, .slice Al ll cl];have hg3 : go < w3.heap.size := HR0.out.low.2;have hlowT := hT.tabL_low;replace HX := hid (HX.out.trans hXa);replace HP := hid (HP.out.ext hXa);replace HR0 := hid (HR0.out.ext cm hXa);have HT := hid (hT.ext cM hXa);replace hC := hC.ext hXa;replace hI := hI.ext hXa;generalize w3.heap.size = gl at hB hg3 hlowT |-;generalize w3.alloc _ = w4 at hB HX HP HR0 HT hC hI |-;have HBL0 := hid hB;obtain ⟨tp, htp⟩ : ∃ tp, (kR ms nn nn).length = tp := ⟨_, rfl⟩;have hC2 : w4.ownsRow B1 3 1 cv (kR ms nn nn).length ((kR ms nn nn).map fun j : Nat => .int .i64 (j : Int)) := hC;rw [htp] at hC2;obtain ⟨Ac, cc, rfl⟩ := ak hC2;have HC := hid hC;have HTP := hid htp;have htn : tp <= nn := by rw [<- htp]; exact pu HV.out.2.2.2 (Nat.le_refl _)
   have HLOWT := hid hlowT
   obtain ⟨hIs, hId⟩ : sl = decide (lR ms nn nn < 0) /\ Z16 w4 (.slice Al ll cl) (lR ms nn nn).natAbs := by
    obtain ⟨A', l', c', e, hz⟩ := hI;injection e with e;have e : [Value.bool sl, .slice Al ll cl] = [.bool (decide (lR ms nn nn < 0)), .slice A' l' c'] := by simpa using e
    simp only [List.cons.injEq, Value.bool.injEq, Value.slice.injEq] at e;obtain ⟨h1, ⟨rfl, rfl, rfl⟩, _⟩ := e;exact ⟨h1, hz⟩
   have HII := hid hI;have HLD0 := hid hId;clear hC hC2 htp hB hlowT hT hXa hI hId hIs
   go_wp2_with fail
   go_loopg [8] tp (fun f iv wr => ∃ i : Nat, f = tp - i /\ i <= tp /\ iv = .int .i64 (i : Int) /\ Hid (RowN QZ 229 9 w.heap.size wr go S S (3 * S) (fun u => some (if u ∈ (kR ms nn nn).take i then bz nn ms u else 0))) /\ Hid (Ext w wr) /\ Hid (Keeps [go] w4 wr))
   case atStart => exact ⟨0, by omega, by omega, rfl, hid (HR0.out.congr (fun u _ => by simp)), HX, hid (Keeps.refl _ _)⟩
   case round =>
    clear HX;obtain ⟨i, rfl, hi, rfl, HR, HX, HK⟩ := hrel
    by_cases hil : i < tp
    .
     have q1 : decide (i < tp) = true := decide_eq_true hil;have q1b : decide ((i : Int) < (tp : Int)) = true := decide_eq_true (by omega);have hC5 : ColR B1 w4 (.slice Ac (kR ms nn nn).length cc) (kR ms nn nn) := by rw [HTP.out]; exact HC.out
     obtain ⟨j, hj⟩ : ∃ j, (kR ms nn nn)[i]? = some j := ⟨_, List.getElem?_eq_getElem (by rw [HTP.out]; exact hil)⟩;obtain ⟨gc, rfl, hgc, hcell⟩ := hC5.get hj;obtain ⟨hin, hjn, hsol⟩ := lG HV.out.2.2.2 hj;have HJ := hid hj;have HSOL := hid hsol;have HCC := hid hcell
     have hgcg : gc ≠ go := by
      have h1 : w4.ownsRow B1 3 1 (.slice (some ⟨gc, 0, none⟩) tp cc) tp ((kR ms nn nn).map fun j : Nat => .int .i64 (j : Int)) := by have := HC.out; unfold ColR at this; rw [HTP.out] at this; exact this
      obtain ⟨_, ⟨us, ho, _⟩, _⟩ := HR0.out
      rcases dm h1 ho (by decide) with q | q
      .
       simp [Value.ownBlock] at q
      .
       simpa [Value.ownBlock] using q
     have hw4 := HK.out.size;have hni : ∀ g ∈ [go], NoInts w4 g := fun g hg => by simp at hg; subst hg; exact HR0.out.ni
     have hTK := HT.out.keeps cM HK.out hni (fun g hg => by
      simp at hg;subst hg;exact ⟨fun e => by have h1 := (HLOWT.out gm List.mem_cons_self).1; omega, fun v hv e => by have h1 := (HLOWT.out _ (List.mem_cons_of_mem _ (List.mem_filterMap.2 ⟨v, hv, e⟩))).1; omega⟩)
     obtain ⟨ga, ca, ra, tca, hva, hoa, hra, ha1, ha2, hat, ha3, ha4⟩ := hTK.row (by decide) (Nat.succ_pos _) hin;obtain ⟨sx, Ax, lx, cx, x0, x1, hx⟩ := hra.two (j := nn) (by omega);replace x0 := af hoa x0;replace x1 := af hoa x1;have HBL := hid (HBL0.out.keeps HK.out (by simp; omega));have HLI := hid (IntZ.keepsNI HII.out HK.out hni);have HLD : Hid (Z16 wr (.slice Al ll cl) (lR ms nn nn).natAbs) := hid (NatV.keepsNI HLD0.out HK.out hni);have HXI0 := hid hx;obtain ⟨ss, hss⟩ : ∃ ss, j / 3 = ss := ⟨_, rfl⟩;obtain ⟨kk, hkk⟩ : ∃ kk, j % 3 = kk := ⟨_, rfl⟩;have hkk3 : kk < 3 := by omega
     have hssS : ss < S := by have := HNN.out; omega
     have hpj : ss * 9 + kk * 3 = j * 3 := by omega
     have hj3 : j < 3 * S := by have := HNN.out; omega
     have HSS := hid hss;have HKK := hid hkk;have HPJ := hid hpj;have HFX : Hid (Fit 65536 (zR ms nn nn i nn).natAbs 106) := hid (kn HV.out.2.2.2 HV.out.2.2.1 hNb (Nat.le_refl _) hin (Nat.le_refl _));have HFL : Hid (Fit 65536 (lR ms nn nn).natAbs 106) := hid (pr HV.out.2.2.2 HV.out.2.2.1 hNb (Nat.le_refl _));have HL0 : Hid (0 < (lR ms nn nn).natAbs) := hid (by have := pt (n := nn) HV.out.2.2.2 (Nat.le_refl nn); omega);have HGCG : Hid (gc ≠ go) := hid hgcg;clear hC5 hj hsol hcell hgcg hni hTK hva hoa hra ha1 ha2 hat ha3 ha4 hx hss hkk hpj;have p0 := (HP.out.keeps HK.out (by have := HGO.out; simp; omega)).cell 0;have p1 := (HP.out.keeps HK.out (by have := HGO.out; simp; omega)).cell 1;simp only [List.getElem?_toArray, List.getElem?_cons_zero, List.getElem?_cons_succ] at p0 p1
     go_upto_region 10 with (fail)
     refine pF gm ct nn i ga ca w.heap.size S sx Ax lx cx wr tca p0 x0 x1 hqN hin (by omega) (by omega) _ _ (by simp) rfl rfl rfl ?_;rintro xv0 xv1 xv2 xv3 xv4 xv5 xv6 xv7 xv8 xv9 xv10 W rfl rfl rfl rfl rfl rfl rfl rfl rfl ⟨gx, rfl, hgx, kB⟩ hX;simp only [ae, Try.f73, ab, Option.bind_some, Nat.reduceBEq, if_true, if_false, Bool.false_eq_true, Option.getD_some, List.drop_succ_cons, List.drop_zero];simp only [Act.put, List.setIfInBounds_toArray, List.set_cons_succ, List.set_cons_zero];have HBX := hid kB;have HGXW : Hid (w.heap.size <= gx) := hid (by have := HX.out.size; omega);have HGXW4 : Hid (w4.heap.size <= gx) := hid (by have := HK.out.size; omega);have HGXL : Hid (gl ≠ gx) := hid (by have := HBL.out.lt; omega);have HGXG : Hid (go ≠ gx) := hid (by have := HR.out.low.2; omega);replace HXI0 := hid (HXI0.out.ext hX);replace HBL := hid (HBL.out.ext hX);replace HLI := hid (HLI.out.ext hX);replace HLD := hid (HLD.out.ext hX);replace HR := hid (HR.out.ext cm hX);replace HX := hid (HX.out.trans hX);replace HK := hid (HK.out.trans (Keeps.of_ext hX _));clear kB hX p0 p1 tca x0 x1;have kl0 := HBL.out.cell 0;have kl1 := HBL.out.cell 1;simp only [List.getElem?_toArray, List.getElem?_cons_zero, List.getElem?_cons_succ] at kl0 kl1
     go_wp2_with fail
     refine (eH _ (lR ms nn nn) _ HLI.out).mono ?_;rintro e w6 ⟨rfl, hX⟩;replace HXI0 := hid (HXI0.out.ext hX);replace HBX := hid (HBX.out.ext hX);replace HBL := hid (HBL.out.ext hX);replace HLI := hid (HLI.out.ext hX);replace HLD := hid (HLD.out.ext hX);replace HR := hid (HR.out.ext cm hX);replace HX := hid (HX.out.trans hX);replace HK := hid (HK.out.trans (Keeps.of_ext hX _));clear hX kl0 kl1
     by_cases hneg : lR ms nn nn < 0
     .
      have hsg : mh (lR ms nn nn) = -1 := by simp [mh, hneg]
      rw [hsg];clear hsg;have kx0 := HBX.out.cell 0;have kx1 := HBX.out.cell 1;simp only [List.getElem?_toArray, List.getElem?_cons_zero, List.getElem?_cons_succ] at kx0 kx1
      go_wp2_with fail
      refine (dT _ (zR ms nn nn i nn) _ HXI0.out).mono ?_;rintro e w7 ⟨v7, rfl, hv7, hX⟩;obtain ⟨Ay, ly, cy, rfl, _⟩ := IntZ.open hv7;obtain ⟨sy, hsy⟩ : ∃ s, decide (-(zR ms nn nn i nn) < 0) = s := ⟨_, rfl⟩;rw [hsy] at hv7 |-;clear hsy kx0 kx1;replace HBX := hid (HBX.out.ext hX);replace HBL := hid (HBL.out.ext hX);replace HLD := hid (HLD.out.ext hX);replace HR := hid (HR.out.ext cm hX);replace HX := hid (HX.out.trans hX);replace HK := hid (HK.out.trans (Keeps.of_ext hX _));clear hX;have kx0 := HBX.out.cell 0;have kx1 := HBX.out.cell 1;have fx0 := HBX.out.free 0;have fx1 := HBX.out.free 1;simp only [List.getElem?_toArray, List.getElem?_cons_zero, List.getElem?_cons_succ] at kx0 kx1;have hkx : Keeps [gx] w7 ((w7.setCell ⟨gx, 0, none⟩ (.bool sy)).setCell ⟨gx, 1, none⟩ (.slice Ay ly cy)) := ((Keeps.refl [gx] w7).setCell (.inl (by simp)) _).setCell (.inl (by simp)) _;have hnx : ∀ g ∈ [gx], NoInts w7 g := fun g hg => by simp at hg; subst hg; exact NoInts.two HBX.out
      have HXI := hid (IntZ.keepsNI hv7 hkx hnx);have HBX2 : Hid (Blk ((w7.setCell ⟨gx, 0, none⟩ (.bool sy)).setCell ⟨gx, 1, none⟩ (.slice Ay ly cy)) gx 63 #[.bool sy, .slice Ay ly cy]) := hid (by simpa using (HBX.out.set 0 (.bool sy)).set 1 (.slice Ay ly cy));have hgoL := HR.out.low.1;have hgl2 := HBL.out.lt;have HBL2 := hid (HBL.out.keeps hkx (by have := HGXL.out; simp; omega));have HLD2 : Hid (Z16 _ (.slice Al ll cl) (lR ms nn nn).natAbs) := hid (NatV.keepsNI HLD.out hkx hnx);have HR2 := hid (HR.out.keeps cm hkx hnx (by have := HGXG.out; simp; omega));have hxsz := HX.out.size;have HX2 := hid (hkx.ext HX.out (fun g hg => by simp at hg; subst hg; have := HGXW.out; omega));have HK2 := hid (HK.out.setCell (p := ⟨gx, 0, none⟩) (.inr (by have := HGXW4.out; simp only; omega)) (.bool sy));have HK3 := hid (HK2.out.setCell (p := ⟨gx, 1, none⟩) (.inr (by have := HGXW4.out; simp only; omega)) (.slice Ay ly cy));clear HBX HBL HLD HR HX HK HK2 hnx hkx hv7 HXI0 HLI
      go_upto_region 13 with (fail)
      clear kx0 kx1 fx0 fx1;generalize (w7.setCell _ _).setCell _ _ = w8 at HXI HBX2 HBL2 HLD2 HR2 HX2 HK3 |-;have HBX := HBX2;have HBL := HBL2;have HLD := HLD2;have HR := HR2;have HX := HX2;have HK := HK3;clear HBX2 HBL2 HLD2 HR2 HX2 HK3;have p0 := (HP.out.keeps HK.out (by have := HGO.out; simp; omega)).cell 0;have p1 := (HP.out.keeps HK.out (by have := HGO.out; simp; omega)).cell 1;simp only [List.getElem?_toArray, List.getElem?_cons_zero, List.getElem?_cons_succ] at p0 p1;have kx0 := HBX.out.cell 0;have kx1 := HBX.out.cell 1;have kl1 := HBL.out.cell 1;simp only [List.getElem?_toArray, List.getElem?_cons_zero, List.getElem?_cons_succ] at kx0 kx1 kl1;have xc := fi HK.out HCC.out (by have := HGO.out; simp; omega)
      go_upto_region 13 with (fail)
      refine jM go S gc tp cc i j ss kk gx gl (lR ms nn nn).natAbs (-(zR ms nn nn i nn)) sy Ay ly cy Al ll cl w8 HSS.out HKK.out hssS (by omega) hkk3 (by omega) hil xc kx0 kx1 kl1 HXI.out HLD.out (by rw [Int.natAbs_neg]; exact HFX.out) HFL.out HL0.out _ _ (by simp) ⟨rfl, rfl, rfl, rfl, rfl, trivial⟩ ?_;rintro W hX xv15 hv;simp only [EndK, ae, Try.f73, ab, Option.bind_some, Nat.reduceBEq, if_true, if_false, Bool.false_eq_true, Option.getD_some, List.drop_succ_cons, List.drop_zero];simp only [Act.put, List.setIfInBounds_toArray, List.set_cons_succ, List.set_cons_zero];rw [fZ HL0.out] at hv;replace HR := hid (HR.out.ext cm hX);replace HX := hid (HX.out.trans hX);replace HK := hid (HK.out.trans (Keeps.of_ext hX _));clear hX kx0 kx1 kl1 xc p0 p1;obtain ⟨s4, A4, l4, c4, B4, m4, k4, rfl⟩ := QZ.open hv;have HN := hid hv;clear hv;obtain ⟨s5, A5, l5, c5, B5, m5, k5, y0, y1, y2, _⟩ := HR.out.cells hj3 HPJ.out;have f0 := HR.out.free (ss * 9 + kk * 3);have f1 := HR.out.free (ss * 9 + kk * 3 + 1);have f2 := HR.out.free (ss * 9 + kk * 3 + 2);have hput := HR.out.put cm hj3 HPJ.out (hx := HN.out);have hkp : Keeps [go] W (((W.setCell ⟨go, ss * 9 + kk * 3, none⟩ (.bool s4)).setCell ⟨go, ss * 9 + kk * 3 + 1, none⟩ (.slice A4 l4 c4)).setCell ⟨go, ss * 9 + kk * 3 + 2, none⟩ (.slice B4 m4 k4)) := (((Keeps.refl [go] W).setCell (.inl (by simp)) _).setCell (.inl (by simp)) _).setCell (.inl (by simp)) _;have HPUT := hid hput;have HKP := hid hkp;have hgw : w.heap.size <= go := HR.out.low.1;have HX2 := hid (hkp.ext HX.out (fun g hg => by simp at hg; subst hg; exact hgw));clear hput hkp;have HK2 := hid (HK.out.trans HKP.out);go_wp2;go_roundg (tp - (i + 1))
      case rel =>
       refine ⟨i + 1, rfl, by omega, by go_num, hid (HPUT.out.congr (fun u _ => ?_)), HX2, HK2⟩;rw [List.take_add_one, HJ.out]
       by_cases e : u = j
       .
        subst e;rw [if_pos rfl, if_pos (by simp), <- HSOL.out, if_pos hneg]
       .
        rw [if_neg e]
        by_cases e2 : u ∈ (kR ms nn nn).take i
        .
         rw [if_pos e2, if_pos (by simp [e2])]
        .
         rw [if_neg e2, if_neg (by simp [e, e2])]
      case measure => omega
     .
      obtain ⟨sv, hsv, hsv2⟩ : ∃ sv, mh (lR ms nn nn) = sv /\ decide (sv < 0) = false := ⟨_, rfl, by unfold mh; rw [if_neg hneg]; split <;> rfl⟩;rw [hsv];clear hsv;have HXI := HXI0;clear HXI0 HLI
      go_upto_region 13 with (fail)
      obtain ⟨w8, hw8⟩ : ∃ w8, w8 = w6 := ⟨_, rfl⟩;subst hw8;have p0 := (HP.out.keeps HK.out (by have := HGO.out; simp; omega)).cell 0;have p1 := (HP.out.keeps HK.out (by have := HGO.out; simp; omega)).cell 1;simp only [List.getElem?_toArray, List.getElem?_cons_zero, List.getElem?_cons_succ] at p0 p1;have kx0 := HBX.out.cell 0;have kx1 := HBX.out.cell 1;have kl1 := HBL.out.cell 1;simp only [List.getElem?_toArray, List.getElem?_cons_zero, List.getElem?_cons_succ] at kx0 kx1 kl1;have xc := fi HK.out HCC.out (by have := HGO.out; simp; omega)
      go_upto_region 13 with (fail)
      refine jM go S gc tp cc i j ss kk gx gl (lR ms nn nn).natAbs (zR ms nn nn i nn) sx Ax lx cx Al ll cl w8 HSS.out HKK.out hssS (by omega) hkk3 (by omega) hil xc kx0 kx1 kl1 HXI.out HLD.out HFX.out HFL.out HL0.out _ _ (by simp) ⟨rfl, rfl, rfl, rfl, rfl, trivial⟩ ?_;rintro W hX xv15 hv;simp only [EndK, ae, Try.f73, ab, Option.bind_some, Nat.reduceBEq, if_true, if_false, Bool.false_eq_true, Option.getD_some, List.drop_succ_cons, List.drop_zero];simp only [Act.put, List.setIfInBounds_toArray, List.set_cons_succ, List.set_cons_zero];rw [fZ HL0.out] at hv;replace HR := hid (HR.out.ext cm hX);replace HX := hid (HX.out.trans hX);replace HK := hid (HK.out.trans (Keeps.of_ext hX _));clear hX kx0 kx1 kl1 xc p0 p1;obtain ⟨s4, A4, l4, c4, B4, m4, k4, rfl⟩ := QZ.open hv;have HN := hid hv;clear hv;obtain ⟨s5, A5, l5, c5, B5, m5, k5, y0, y1, y2, _⟩ := HR.out.cells hj3 HPJ.out;have f0 := HR.out.free (ss * 9 + kk * 3);have f1 := HR.out.free (ss * 9 + kk * 3 + 1);have f2 := HR.out.free (ss * 9 + kk * 3 + 2);have hput := HR.out.put cm hj3 HPJ.out (hx := HN.out);have hkp : Keeps [go] W (((W.setCell ⟨go, ss * 9 + kk * 3, none⟩ (.bool s4)).setCell ⟨go, ss * 9 + kk * 3 + 1, none⟩ (.slice A4 l4 c4)).setCell ⟨go, ss * 9 + kk * 3 + 2, none⟩ (.slice B4 m4 k4)) := (((Keeps.refl [go] W).setCell (.inl (by simp)) _).setCell (.inl (by simp)) _).setCell (.inl (by simp)) _;have HPUT := hid hput;have HKP := hid hkp;have hgw : w.heap.size <= go := HR.out.low.1;have HX2 := hid (hkp.ext HX.out (fun g hg => by simp at hg; subst hg; exact hgw));clear hput hkp;have HK2 := hid (HK.out.trans HKP.out);go_wp2;go_roundg (tp - (i + 1))
      case rel =>
       refine ⟨i + 1, rfl, by omega, by go_num, hid (HPUT.out.congr (fun u _ => ?_)), HX2, HK2⟩;rw [List.take_add_one, HJ.out]
       by_cases e : u = j
       .
        subst e;rw [if_pos rfl, if_pos (by simp), <- HSOL.out, if_neg (by omega)]
       .
        rw [if_neg e]
        by_cases e2 : u ∈ (kR ms nn nn).take i
        .
         rw [if_pos e2, if_pos (by simp [e2])]
        .
         rw [if_neg e2, if_neg (by simp [e, e2])]
      case measure => omega
    .
     obtain rfl : i = tp := by omega
     have q1 : decide (i < i) = false := by simp
     have q1b : decide ((i : Int) < (i : Int)) = false := by simp
     have HF : Hid (SRow w.heap.size wr (.slice (some ⟨go, 0, none⟩) S S) S (bz nn ms)) := hid (RowN.srow (HR.out.congr (h := fun u => some (bz nn ms u)) (fun u hu => by
      rw [List.take_of_length_le (by rw [HTP.out]; omega)]
      by_cases e : u ∈ kR ms nn nn
      .
       rw [if_pos e]
      .
       rw [if_neg e, jJ HV.out.2.2.2 (by have := HNN.out; omega) e])))
     go_wp2;go_ret
     exact ⟨go, rfl, HF.out, HX.out⟩
theorem jN {S : Nat} {ms : List Mt} (hV : VP S ms) : fU S (bz (3 * S) ms) 106 := by
 intro j hj;have hS8 : S <= 8 := by have := hV.2.1; omega
 by_cases hk : j ∈ kR ms (3 * S) (3 * S)
 .
  obtain ⟨i, hi⟩ := List.mem_iff_getElem?.1 hk;obtain ⟨h1, h2, h3⟩ := lG hV.2.2.2 hi;have f1 := kn (n := 3 * S) (j := 3 * S) hV.2.2.2 hV.2.2.1 (by omega) (Nat.le_refl _) h1 (Nat.le_refl _);have f2 := pr (n := 3 * S) (j := 3 * S) hV.2.2.2 hV.2.2.1 (by omega) (Nat.le_refl _);have hz := pt (n := 3 * S) (j := 3 * S) hV.2.2.2 (Nat.le_refl _);have h0 : 0 < (lR ms (3 * S) (3 * S)).natAbs := by omega
  rw [<- h3, <- fZ h0];refine fE h0 ?_ f2;split
  .
   rw [Int.natAbs_neg]; exact f1
  .
   exact f1
 .
  rw [jJ hV.2.2.2 hj hk];have h := aR (n := 0) (by omega) (by omega);exact FitR.mono (q := ((0 : Int) : Rat)) h (by omega)
/-- What the reference's Solve returns. -/
def tJ (w : World) (v : Value) (S : Nat) (ms : List Mt) : Prop := ∃ go, v = .slice (some ⟨go, 0, none⟩) S S /\ go < w.heap.size /\ ShP QZ w go 0 S (bz (3 * S) ms)
theorem kG {S n c : Nat} {A : Option Addr} {ms : List Mt} {w : World} (h : MsAt w A n ms) (hv : VP S ms) :
  Calls Try.prog 73 #[.agg #[.int .i64 (S : Int), .slice A n c]] w (fun e w' => ∃ v, e = .returned v /\ tJ w' v S ms /\ Ext w w') := by
 refine (sN S A n c ms w h hv).mono ?_;rintro e w' ⟨go, rfl, hs, hX⟩;obtain ⟨g, hg, _, hl, hsh⟩ := hs.shp (by have := hv.1; omega);injection hg with hg;injection hg with hg;subst hg;exact ⟨_, rfl, ⟨go, rfl, hl, hsh⟩, hX⟩
/-- x[:m:m]. -/
theorem pG {P : Program} {w : World} {t e : TypeId} {size bytes : Nat} {z : Value} (E : Elem P t e size bytes z) (A : Option Addr) (n c : Nat) (k k' : IntKind) (m : Nat) (hm : m <= c) :
  (Instr.sliceAt t (.slice A n c) none (some (.int k (m : Int))) (some (.int k' (m : Int)))).run P w = .ok (.slice A m m) w := by
 obtain ⟨i, hi, hz, hs, hby⟩ := E.info;have e0 : A.map (·.add 0) = A := by cases A <;> simp [Addr.add]
 simp [Instr.sliceAt, Instr.slice, run_underlying E.und, Instr.sliceBounds, run_sliceBound, sizeOf, typeInfo, hi, hm, e0]
/-- The address of x[l:]. -/
def eZ (A : Option Addr) (c l size : Nat) : Option Addr := if c = l then A else A.map (·.add (l * size))
theorem jO {P : Program} {w : World} {t e : TypeId} {size bytes : Nat} {z : Value} (E : Elem P t e size bytes z) (A : Option Addr) (n c : Nat) (k : IntKind) (l : Nat) (L : Int) (hL : L = l) (hl : l <= n) :
  (Instr.sliceAt t (.slice A n c) (some (.int k L)) none none).run P w = .ok (.slice (eZ A c l size) (n - l) (c - l)) w := by
 subst hL;unfold eZ;obtain ⟨i, hi, hz, hs, hby⟩ := E.info;simp [Instr.sliceAt, Instr.slice, run_underlying E.und, Instr.sliceBounds, run_sliceBound, sizeOf, typeInfo, hi, hs, hl]
theorem io {P : Program} {w : World} {t e : TypeId} {size bytes : Nat} {z : Value} (E : Elem P t e size bytes z) (ty : TypeId) (b : Addr) (s cc : Nat) (hs : s <= cc) (_h63 : cc <= 9223372036854775807) (A2 : Option Addr) (c2 : Nat) :
  (Builtin.append_ #[t, t] ty #[.slice (some b) s cc, .slice A2 0 c2]).run P w = .ok (.slice (some b) s cc) w := by
 obtain ⟨i, hi, hz, hs', hby⟩ := E.info;have h1 : ¬ (9223372036854775807 < (s : Int)) := by omega
 rcases A2 with _ | a
 .
  simp [Builtin.append_, run_underlying E.und, sizeOf, typeInfo, hi, Builtin.lenOf, Builtin.firstCells, hs, storeCells]
 .
  have hf := run_firstCells_some (P := P) (w := w) i.size 0 a 0 c2 [] (by simp) (by simp);simp [Builtin.append_, run_underlying E.und, sizeOf, typeInfo, hi, Builtin.lenOf, hf, hs, storeCells]
theorem Ints.cut {k : IntKind} {w : World} {g o n : Nat} {xs : List Int} (h : Ints k w (some ⟨g, o, none⟩) n xs) (m : Nat) (_hm : m <= n) : Ints k w (some ⟨g, o, none⟩) m (xs.take m) := by
 obtain ⟨h1, h2, h3⟩ := h;refine ⟨by rw [List.length_take]; omega, fun x hx => h2 x (List.mem_of_mem_take hx), fun hne => ?_⟩;obtain ⟨b, off, hA, hc⟩ := h3 (by intro e; apply hne; rw [List.map_eq_nil_iff] at e |-; rw [e]; simp);injection hA with hA;injection hA with e1 e2;subst e1 e2;refine ⟨_, _, rfl, fun j v hj => hc j v ?_⟩;rw [List.map_take] at hj;rw [List.getElem?_take] at hj;split at hj
 .
  exact hj
 .
  cases hj
theorem Ints.tail {k : IntKind} {w : World} {g o n c : Nat} {xs : List Int} (h : Ints k w (some ⟨g, o, none⟩) n xs) (l : Nat) (_hl : l <= n) (_hc : n <= c) : Ints k w (eZ (some ⟨g, o, none⟩) c l 1) (n - l) (xs.drop l) := by
 obtain ⟨h1, h2, h3⟩ := h;refine ⟨by rw [List.length_drop]; omega, fun x hx => h2 x (List.mem_of_mem_drop hx), fun hne => ?_⟩
 have hln : l < n := by
  rcases Nat.lt_or_ge l n with h | h
  .
   exact h
  .
   exfalso;apply hne;rw [List.map_eq_nil_iff, List.drop_eq_nil_iff];omega
 obtain ⟨b, off, hA, hcc⟩ := h3 (by intro e; apply hne; rw [List.map_eq_nil_iff] at e |-; rw [e]; simp);injection hA with hA;injection hA with e1 e2;subst e1 e2;refine ⟨g, o + l, by unfold eZ; rw [if_neg (by omega)]; simp [Addr.add], fun j v hj => ?_⟩;have := hcc (l + j) v (by rw [List.map_drop, List.getElem?_drop] at hj; exact hj);rw [<- Nat.add_assoc] at this;exact this
theorem Ints.of_ownI {w : World} {base n c : Nat} {A : Option Addr} {e : TypeId} {xs : List Int} (h : w.ownsRow base e 1 (.slice A n c) n (xs.map (Value.int .i64))) (hw : ∀ x ∈ xs, -9223372036854775808 <= x /\ x <= 9223372036854775807) : Ints .i64 w A n xs := by
 refine ⟨by have := h.1; rw [List.length_map] at this; omega, fun x hx => ?_, At.of_own h⟩;have := hw x hx;simp [Lit.wf, IntKind.min, IntKind.max, IntKind.bits, IntKind.signed];omega
theorem Ints.keepsA {k : IntKind} {w w' : World} {A : Option Addr} {n : Nat} {xs : List Int} {L : List Nat} (h : Ints k w A n xs) (hk : Keeps L w w') (hn : ∀ ad, A = some ad -> ad.block ∉ L) : Ints k w' A n xs := by
 obtain ⟨h1, h2, h3⟩ := h;refine ⟨h1, h2, fun hne => ?_⟩;obtain ⟨b, off, rfl, hc⟩ := h3 hne;refine ⟨b, off, rfl, fun j v hj => ?_⟩;have hx := hc j v hj;rw [<- hx];exact World.cell?_of_block (w := w) (hk.block b (World.block_lt_of_cell? w _ hx) (hn _ rfl))
theorem pH (g o j : Nat) : Addr.add ⟨g, o, none⟩ j = ⟨g, o + j, none⟩ := by
 by_cases h : j = 0
 .
  subst h; simp [Addr.add]
 .
  simp [Addr.add, h]
/-- append(x, y...) where x has no room: nothing that was there changes. -/
theorem pI {P : Program} {w : World} {t e : TypeId} {bytes : Nat} {z : Value} (E : Elem P t e 1 bytes z) (ty : TypeId) (g o s : Nat) (xs : List Int) (A2 : Option Addr) (m c2 : Nat) (ys : List Int)
  (hx : Ints .i64 w (some ⟨g, o, none⟩) s xs) (hy : Ints .i64 w A2 m ys) (hb : (s + m) * bytes <= 140737488355328) (_h63 : s + m <= 9223372036854775807) :
  ∃ g' o' c' w', (Builtin.append_ #[t, t] ty #[.slice (some ⟨g, o, none⟩) s s, .slice A2 m c2]).run P w = .ok (.slice (some ⟨g', o', none⟩) (s + m) c') w' /\ s + m <= c' /\ Ints .i64 w' (some ⟨g', o', none⟩) (s + m) (xs ++ ys) /\ Ext w w' /\ (g' = g \/ w.heap.size <= g') /\ (g < w.heap.size -> g' < w'.heap.size) := by
 rcases Nat.eq_zero_or_pos m with rfl | hm
 .
  have hy0 : ys = [] := List.eq_nil_of_length_eq_zero hy.1;subst hy0;exact ⟨g, o, s, w, by rw [io E ty _ _ _ (Nat.le_refl _) (by omega)]; rfl, by omega, by simpa using hx, Ext.refl _, .inl rfl, id⟩
 .
  obtain ⟨i, hi, hz, hs', hby⟩ := E.info;obtain ⟨b2, o2, y0, rfl, _⟩ := hy.get (j := 0) (by omega)
  have hax : ∀ j v, (xs.map (Value.int .i64))[j]? = some v -> w.cell? (Addr.add ⟨g, o, none⟩ j) = some v := fun j v hj => by
   have hne : xs.map (Value.int .i64) ≠ [] := fun e => by rw [e] at hj; simp at hj
   obtain ⟨b, off, hA, hc⟩ := hx.2.2 hne;injection hA with hA;injection hA with e1 e2;subst e1 e2;rw [pH]; exact hc j v hj
  have hay : ∀ j v, (ys.map (Value.int .i64))[j]? = some v -> w.cell? (Addr.add ⟨b2, o2, none⟩ j) = some v := fun j v hj => by
   have hne : ys.map (Value.int .i64) ≠ [] := fun e => by rw [e] at hj; simp at hj
   obtain ⟨b, off, hA, hc⟩ := hy.2.2 hne;injection hA with hA;injection hA with e1 e2;subst e1 e2;rw [pH]; exact hc j v hj
  have hr := run_append_grow (P := P) (w := w) t ty e i z E.und hi hz ⟨g, o, none⟩ s s (xs.map (Value.int .i64)) (by rw [hs', List.length_map, hx.1]; omega) hax ⟨b2, o2, none⟩ m c2 (ys.map (Value.int .i64)) (by rw [hs', List.length_map, hy.1]; omega) hay (by omega) (by omega) (by rw [hby]; exact growslice_fits (by omega) hb);refine ⟨w.heap.size, 0, grownCap w (s + m) s e, _, hr, ?_, ⟨by rw [List.length_append, hx.1, hy.1], fun x hxm => ?_, fun hne => ⟨w.heap.size, 0, rfl, fun j v hj => ?_⟩⟩, (Ext.refl w).drew.alloc _, .inr (Nat.le_refl _), fun _ => by simp⟩
  .
   exact grownCap_ge w _ _ e
  .
   rcases List.mem_append.1 hxm with h | h
   .
    exact hx.2.1 x h
   .
    exact hy.2.1 x h
  .
   rw [Nat.zero_add];have hB : Blk (w.drew.alloc (.cells ((xs.map (Value.int .i64)).toArray ++ (ys.map (Value.int .i64)).toArray ++ Builtin.zeroCells z.cells (grownCap w (s + m) s e - (s + m))) e)) w.heap.size e ((xs.map (Value.int .i64)).toArray ++ (ys.map (Value.int .i64)).toArray ++ Builtin.zeroCells z.cells (grownCap w (s + m) s e - (s + m))) := Blk.new w.drew e _;refine (hB.cell j).trans ?_;rw [List.map_append] at hj;have hl := (List.getElem?_eq_some_iff.1 hj).1
   have : ((xs.map (Value.int .i64)).toArray ++ (ys.map (Value.int .i64)).toArray ++ Builtin.zeroCells z.cells (grownCap w (s + m) s e - (s + m)))[j]? = ((xs.map (Value.int .i64)).toArray ++ (ys.map (Value.int .i64)).toArray)[j]? := by
    rw [Array.getElem?_append_left (by simpa using hl)]
   rw [this]
   simpa using hj
theorem dL {n : Nat} {ms : List Mt} {limit : Int} : ∀ r : Nat, (∀ k, k < r -> ¬ br n ms limit (ap n ms k)) -> (al (ap n ms r) ms.length).length + r = ms.length
 | 0, _ => by
  show (al [] ms.length).length + 0 = ms.length;unfold al;rw [List.filter_eq_self.2 (by simp)];simp
 | r + 1, h => by
  have ih := dL r fun k hk => h k (by omega)
  have hr := h r (by omega)
  cases hk : (eJ n ms (ap n ms r)).1 with
  | none => exact absurd (.inl hk) hr
  | some k =>
   obtain ⟨h1, _, h3⟩ := ep hk;show (al (cL n ms (ap n ms r)) ms.length).length + (r + 1) = ms.length;rw [h3, List.length_eraseIdx, if_pos h1];omega
theorem ew {ms : List Mt} {ds : List Int} : (a9 ms ds).length = (al ds ms.length).length := by unfold a9; rw [List.length_map]
theorem ip {S : Int} {ms : List Mt} (h : VP S ms) (ds : List Int) : VP S (a9 ms ds) := ⟨h.1, h.2.1, Nat.le_trans (qR ms ds) h.2.2.1, fun m hm => h.2.2.2 m (oH hm)⟩
theorem f5 {l : List Nat} {k : Nat} (_hk : k < l.length) : ((l.map fun i : Nat => (i : Int)).take k ++ (l.map fun i : Nat => (i : Int)).drop (k + 1)) = (l.eraseIdx k).map fun i : Nat => (i : Int) := by
 rw [List.eraseIdx_eq_take_drop_succ, List.map_append, List.map_take, List.map_drop]
theorem iq {q r : Rat} : bN (q - r) <= 0 ↔ q <= r := by
 rcases aY (q - r) with ⟨h1, h2⟩ | ⟨h1, h2⟩ | ⟨h1, h2⟩
 .
  rw [h2]; exact ⟨fun _ => by grind, fun _ => by omega⟩
 .
  rw [h2]; exact ⟨fun _ => by grind, fun _ => by omega⟩
 .
  rw [h2]; exact ⟨fun h => by omega, fun h => absurd h1 (by grind)⟩
/-- What is left: a list of integers in a slice. -/
def LeftA (W : World) (v : Value) (lo gl nl : Nat) (zs : List Int) : Prop := ∃ g' o' c', v = .slice (some ⟨g', o', none⟩) nl c' /\ nl <= c' /\ Ints .i64 W (some ⟨g', o', none⟩) nl zs /\ (g' = gl \/ lo <= g') /\ (gl < lo -> g' < W.heap.size)
theorem LeftA.ext {W W' : World} {v : Value} {lo gl nl : Nat} {zs : List Int} (h : LeftA W v lo gl nl zs) (he : Ext W W') : LeftA W' v lo gl nl zs := by
 obtain ⟨g', o', c', h1, h2, h3, h4, h5⟩ := h;exact ⟨g', o', c', h1, h2, h3.ext he, h4, fun h => Nat.lt_of_lt_of_le (h5 h) he.size⟩
theorem pJ (gm : Nat) (li : Int) (w : World)  : aF Try.prog Try.f79 14 9 56 w [47, 48, 49, 50, 51, 52, 53, 54, 55] [.c (.int .i64 (-1)), .c (.bool true), .c (.bool true), .c (undef), .c (undef), .c (undef), .c (undef), .c (undef), .c (.bool true)] [(1, .int .i64 (li)), (13, .int .i64 (-1)), (14, .pointer (some ⟨gm, 0, none⟩))] := by
 refine aI [[], [0], [1], [2], [2], [2, 4], [2, 3, 5], [2, 6], [2, 7]] (by kernel_rfl) (by kernel_rfl) rfl trivial ?_;simp only [ae, Try.f79, ab, Option.bind_some, Nat.reduceBEq, if_true, if_false, Bool.false_eq_true, Option.getD_some];simp only [List.take_succ_cons, List.take_zero]
 repeat' first | refine ⟨?_, ?_⟩ | fail
 all_goals first | (intro us W b hJ K hK0 hK Qz; simp only [aD, aq, ar, List.getD_cons_succ, List.getD_cons_zero]) | exact True.intro
 all_goals try (intros; go_simp; exact hK0 _ rfl)
theorem pK (gm aa : Nat) (li : Int) (le : Bool) (q : Rat) (su : Bool) (Au Bu : Option Addr) (lu cu mu ku : Nat) (w : World) (x0 : w.cell? ⟨gm, 0, none⟩ = some (.bool su)) (x1 : w.cell? ⟨gm, 1, none⟩ = some (.slice Au lu cu)) (x2 : w.cell? ⟨gm, 2, none⟩ = some (.slice Bu mu ku)) (hx : NumX w (.agg #[.bool su, .slice Au lu cu, .slice Bu mu ku]) q 3102) (_h0 : decide ((aa : Int) < 0) = false) (hl : -9223372036854775808 <= li /\ li <= 9223372036854775807) (hle : Hid (decide ((bN (q - ((li : Int) : Rat))) <= 0) = le)) : aF Try.prog Try.f79 14 9 56 w [47, 48, 49, 50, 51, 52, 53, 54, 55] [.c (.int .i64 (aa : Int)), .c (.bool false), .c (.bool false), .c (.agg #[.bool su, .slice Au lu cu, .slice Bu mu ku]), .c (.int .i64 (li)), .p fun v W => NumX W v (((li : Int) : Rat)) (2), .c (.int .i64 (bN (q - ((li : Int) : Rat)))), .c (.bool le), .c (.bool le)] [(1, .int .i64 (li)), (13, .int .i64 (aa : Int)), (14, .pointer (some ⟨gm, 0, none⟩))] := by
 refine aI [[], [0], [1], [2], [2], [2, 4], [2, 3, 5], [2, 6], [2, 7]] (by kernel_rfl) (by kernel_rfl) rfl ⟨by intro v W W' h hX; exact NumX.ext h hX, trivial⟩ ?_;simp only [ae, Try.f79, ab, Option.bind_some, Nat.reduceBEq, if_true, if_false, Bool.false_eq_true, Option.getD_some];simp only [List.take_succ_cons, List.take_zero]
 repeat' first | refine ⟨?_, ?_⟩ | fail
 all_goals first | (intro us W b hJ K hK0 hK Qz; simp only [aD, aq, ar, List.getD_cons_succ, List.getD_cons_zero]) | exact True.intro
 all_goals try (intros; have q0 := Ext.cell hJ x0; have q1 := Ext.cell hJ x1; have q2 := Ext.cell hJ x2; go_simp; exact hK0 _ rfl)
 .
  intro e49 e51 e1 e13 e14;go_simp;refine (gS li _ hl.1 hl.2).mono ?_;rintro e w' ⟨v, rfl, hv, hX⟩;exact hK _ _ hv hX
 .
  intro e49 e50 e52 d5 e1 e13 e14;go_simp;refine (sS (hx.ext hJ) d5 (by omega)).mono ?_;rintro e w' ⟨rfl, hX⟩;exact hK _ _ rfl hX
 .
  intro e49 e53 e1 e13 e14;go_simp;exact hK0 _ (by first | rfl | exact congrArg Value.bool hle.out)
theorem rP (gl ol nl cl aa mm kk : Nat) (zs : List Int) (w : World) (hzs : Ints .i64 w (some ⟨gl, ol, none⟩) nl zs) (_han : aa < nl) (_hnc : nl <= cl) (_hn64 : nl <= 64) (hmm : Hid (nl - (aa + 1) = mm)) (hkk : Hid (cl - (aa + 1) = kk)) (a : Act) (Q : Exit -> Act -> World -> Prop) (hsize : 80 <= a.tmps.size)
  (s8 : a.tmps[8]? = some (.slice (some ⟨gl, ol, none⟩) nl cl))
  (s13 : a.tmps[13]? = some (.int .i64 (aa : Int)))
  (hend : ∀ (xv0 xv1 xv2 xv3 xv4 xv5 xv6 xv7 xv8 : Value) (W : World), (xv0 = .slice (some ⟨gl, ol, none⟩) nl cl) -> (xv1 = .int .i64 (aa : Int)) -> (xv2 = .int .i64 (aa : Int)) -> (xv3 = .slice (some ⟨gl, ol, none⟩) aa aa) -> (xv4 = .slice (some ⟨gl, ol, none⟩) nl cl) -> (xv5 = .int .i64 (aa : Int)) -> (xv6 = .int .i64 ((aa : Int) + 1)) -> (xv7 = .slice (eZ (some ⟨gl, ol, none⟩) cl (aa + 1) 1) mm kk) -> (LeftA W xv8 w.heap.size gl (nl - 1) (zs.take aa ++ zs.drop (aa + 1))) -> Ext w W -> wpList Try.prog (ae Try.f79 18).toArray Q ((ae Try.f79 18).drop 9) (((((((((a.put (some 71) xv0).put (some 72) xv1).put (some 73) xv2).put (some 74) xv3).put (some 75) xv4).put (some 76) xv5).put (some 77) xv6).put (some 78) xv7).put (some 79) xv8) W) :
  (Code.region 18 (ae Try.f79 18).toArray true).wp Try.prog Q a w := by
 have hmono : ∀ (W W' : World) (j : Nat) (u : Value), Ext W W' -> (fun (i : Nat) (v : Value) (W : World) => match i with
  | 0 => v = .slice (some ⟨gl, ol, none⟩) nl cl
  | 1 => v = .int .i64 (aa : Int)
  | 2 => v = .int .i64 (aa : Int)
  | 3 => v = .slice (some ⟨gl, ol, none⟩) aa aa
  | 4 => v = .slice (some ⟨gl, ol, none⟩) nl cl
  | 5 => v = .int .i64 (aa : Int)
  | 6 => v = .int .i64 ((aa : Int) + 1)
  | 7 => v = .slice (eZ (some ⟨gl, ol, none⟩) cl (aa + 1) 1) mm kk
  | 8 => LeftA W v w.heap.size gl (nl - 1) (zs.take aa ++ zs.drop (aa + 1))
  | _ => True) j u W -> (fun (i : Nat) (v : Value) (W : World) => match i with
  | 0 => v = .slice (some ⟨gl, ol, none⟩) nl cl
  | 1 => v = .int .i64 (aa : Int)
  | 2 => v = .int .i64 (aa : Int)
  | 3 => v = .slice (some ⟨gl, ol, none⟩) aa aa
  | 4 => v = .slice (some ⟨gl, ol, none⟩) nl cl
  | 5 => v = .int .i64 (aa : Int)
  | 6 => v = .int .i64 ((aa : Int) + 1)
  | 7 => v = .slice (eZ (some ⟨gl, ol, none⟩) cl (aa + 1) 1) mm kk
  | 8 => LeftA W v w.heap.size gl (nl - 1) (zs.take aa ++ zs.drop (aa + 1))
  | _ => True) j u W' := by
  intro W W' j u hX h
  match j, h with
  | 0, h => exact h
  | 1, h => exact h
  | 2, h => exact h
  | 3, h => exact h
  | 4, h => exact h
  | 5, h => exact h
  | 6, h => exact h
  | 7, h => exact h
  | 8, h => exact LeftA.ext h hX
  | _ + 9, h => exact h
 have hsz : ∀ d, some d ∈ ([some 71, some 72, some 73, some 74, some 75, some 76, some 77, some 78, some 79] : List (Option Tmp)) -> d < a.tmps.size := bE (by decide) hsize
 refine bg 9 [some 71, some 72, some 73, some 74, some 75, some 76, some 77, some 78, some 79] [[], [], [], [0, 1, 2], [], [], [5], [4, 6], [3, 7]] [[], [], [], [], [], [], [], [], []] (fun (i : Nat) (v : Value) (W : World) => match i with
  | 0 => v = .slice (some ⟨gl, ol, none⟩) nl cl
  | 1 => v = .int .i64 (aa : Int)
  | 2 => v = .int .i64 (aa : Int)
  | 3 => v = .slice (some ⟨gl, ol, none⟩) aa aa
  | 4 => v = .slice (some ⟨gl, ol, none⟩) nl cl
  | 5 => v = .int .i64 (aa : Int)
  | 6 => v = .int .i64 ((aa : Int) + 1)
  | 7 => v = .slice (eZ (some ⟨gl, ol, none⟩) cl (aa + 1) 1) mm kk
  | 8 => LeftA W v w.heap.size gl (nl - 1) (zs.take aa ++ zs.drop (aa + 1))
  | _ => True) (fun _ W => Ext w W) (by kernel_rfl) (by kernel_rfl) hsz (fun _ _ _ _ h => h) ((Ext.refl w).drew) ?_ ?_
 .
  clear hend;simp only [ae, Try.f79, ab, Option.bind_some, Nat.reduceBEq, if_true, if_false, Bool.false_eq_true, Option.getD_some];simp only [List.take_succ_cons, List.take_zero];refine ⟨?_, ?_, ?_, ?_, ?_, ?_, ?_, ?_, ?_, trivial⟩
  .
   intro done us W hJ hdep haft hnot b hb hb' K hK Q';have e8 := (hb' 8 (by simp)).trans s8;clear hb hb';go_simp;exact hK _ _ rfl (fun _ _ _ h => h) hJ
  .
   intro done us W hJ hdep haft hnot b hb hb' K hK Q';have e13 := (hb' 13 (by simp)).trans s13;clear hb hb';go_simp;exact hK _ _ rfl (fun _ _ _ h => h) hJ
  .
   intro done us W hJ hdep haft hnot b hb hb' K hK Q';have e13 := (hb' 13 (by simp)).trans s13;clear hb hb';go_simp;exact hK _ _ rfl (fun _ _ _ h => h) hJ
  .
   intro done us W hJ hdep haft hnot b hb hb' K hK Q';simp only [List.getD_cons_succ, List.getD_cons_zero, List.mem_cons, List.not_mem_nil, or_false, forall_eq_or_imp, forall_eq] at hdep;have e71 := hb 0 71 rfl;have e72 := hb 1 72 rfl;have e73 := hb 2 73 rfl;have d0 := hdep.1;have d1 := hdep.2.1;have d2 := hdep.2.2;rw [d0.1] at e71;rw [d1.1] at e72;rw [d2.1] at e73;clear hb hb' hdep d0 d1 d2;have q := pG (P := Try.prog) (w := W) du (some ⟨gl, ol, none⟩) nl cl .i64 .i64 aa (by omega);go_simp;exact hK _ _ rfl (fun _ _ _ h => h) hJ
  .
   intro done us W hJ hdep haft hnot b hb hb' K hK Q';have e8 := (hb' 8 (by simp)).trans s8;clear hb hb';go_simp;exact hK _ _ rfl (fun _ _ _ h => h) hJ
  .
   intro done us W hJ hdep haft hnot b hb hb' K hK Q';have e13 := (hb' 13 (by simp)).trans s13;clear hb hb';go_simp;exact hK _ _ rfl (fun _ _ _ h => h) hJ
  .
   intro done us W hJ hdep haft hnot b hb hb' K hK Q';simp only [List.getD_cons_succ, List.getD_cons_zero, List.mem_cons, List.not_mem_nil, or_false, forall_eq] at hdep;have e76 := hb 5 76 rfl;have d5 := hdep;rw [d5.1] at e76;clear hb hb' hdep d5;have qw : IntKind.i64.wrap ((aa : Int) + 1) = (aa : Int) + 1 := IntWalk.i64_in _ (by omega);go_simp;exact hK _ _ rfl (fun _ _ _ h => h) hJ
  .
   intro done us W hJ hdep haft hnot b hb hb' K hK Q';simp only [List.getD_cons_succ, List.getD_cons_zero, List.mem_cons, List.not_mem_nil, or_false, forall_eq_or_imp, forall_eq] at hdep;have e75 := hb 4 75 rfl;have e77 := hb 6 77 rfl;have d4 := hdep.1;have d6 := hdep.2;rw [d4.1] at e75;rw [d6.1] at e77;clear hb hb' hdep d4 d6;have q := jO (P := Try.prog) (w := W) du (some ⟨gl, ol, none⟩) nl cl .i64 (aa + 1) ((aa : Int) + 1) (by omega) (by omega);rw [hmm.out, hkk.out] at q;go_simp;exact hK _ _ rfl (fun _ _ _ h => h) hJ
  .
   intro done us W hJ hdep haft hnot b hb hb' K hK Q';simp only [List.getD_cons_succ, List.getD_cons_zero, List.mem_cons, List.not_mem_nil, or_false, forall_eq_or_imp, forall_eq] at hdep;have e74 := hb 3 74 rfl;have e78 := hb 7 78 rfl;have d3 := hdep.1;have d7 := hdep.2;rw [d3.1] at e74;rw [d7.1] at e78;clear hb hb' hdep d3 d7;have hz := hzs.ext hJ;have hy := hz.tail (c := cl) (aa + 1) (by omega) (by omega);rw [hmm.out] at hy;obtain ⟨g', o', c', w', hr, hc', hi', hX, hg, hg2⟩ := pI (P := Try.prog) (w := W) du 61 gl ol aa _ _ mm kk _ (hz.cut aa (by omega)) hy (by have := hmm.out; omega) (by have := hmm.out; omega);have hlo := Ext.size hJ;have e9 : aa + mm = nl - 1 := by have := hmm.out; omega
   rw [e9] at hr hc' hi';exact ig rfl rfl e74 e78 hr (hK _ _ ⟨g', o', c', rfl, hc', hi', by omega, fun h => hg2 (by omega)⟩ (fun j u _ h => hmono _ _ j u hX h) (Ext.trans hJ hX))
 .
  intro us W hV hJ;exact hend (us 0) (us 1) (us 2) (us 3) (us 4) (us 5) (us 6) (us 7) (us 8) W (hV 0 (by omega)) (hV 1 (by omega)) (hV 2 (by omega)) (hV 3 (by omega)) (hV 4 (by omega)) (hV 5 (by omega)) (hV 6 (by omega)) (hV 7 (by omega)) (hV 8 (by omega)) hJ
theorem nr (S : Int) (A : Option Addr) (n c : Nat) (ms : List Mt) (li : Int) (w : World) (h : MsAt w A n ms) (hv : ¬ VP S ms)  :
  Calls Try.prog 79 #[.agg #[.int .i64 S, .slice A n c], .int .i64 li] w (fun e w' => e = .returned (.tuple #[.slice none 0 0, .slice none 0 0, .int .i64 50]) /\ Ext w w') := by
 have H := hid h;have HV := hid hv;clear h hv;have HX := hid ((Ext.refl w).alloc (.cells #[.int .i64 S, .slice A n c] 76));have HP := hid (Blk.new w 76 #[.int .i64 S, .slice A n c]);go_enter Try.func79, Try.ntmps79
 go_upto_region 1 with (fail)
 generalize w.alloc _ = w1 at HX HP |-;have p0 := HP.out.cell 0;have p1 := HP.out.cell 1;simp only [List.getElem?_toArray, List.getElem?_cons_zero, List.getElem?_cons_succ] at p0 p1
 go_wp2_with fail
 refine (bG S A n c ms _ (H.out.ext HX.out)).mono ?_;rw [bd HV.out];rintro e w2 ⟨rfl, hX⟩;replace HX := hid (HX.out.trans hX);clear hX p0 p1;go_wp2
 go_ret3
 exact ⟨rfl, HX.out⟩
theorem kH (S : Nat) (A : Option Addr) (n c : Nat) (ms : List Mt) (li : Int) (w : World) (h : MsAt w A n ms) (hv : VP (S : Int) ms) (hl : li < 0) :
  Calls Try.prog 79 #[.agg #[.int .i64 (S : Int), .slice A n c], .int .i64 li] w (fun e w' => e = .returned (.tuple #[.slice none 0 0, .slice none 0 0, .int .i64 2]) /\ Ext w w') := by
 have H := hid h;have HV := hid hv;clear h hv;have HX := hid ((Ext.refl w).alloc (.cells #[.int .i64 (S : Int), .slice A n c] 76));have HP := hid (Blk.new w 76 #[.int .i64 (S : Int), .slice A n c]);go_enter Try.func79, Try.ntmps79
 go_upto_region 1 with (fail)
 generalize w.alloc _ = w1 at HX HP |-;have p0 := HP.out.cell 0;have p1 := HP.out.cell 1;simp only [List.getElem?_toArray, List.getElem?_cons_zero, List.getElem?_cons_succ] at p0 p1
 go_wp2_with fail
 refine (bG (S : Int) A n c ms _ (H.out.ext HX.out)).mono ?_;rw [aW.2 HV.out];rintro e w2 ⟨rfl, hX⟩;replace HX := hid (HX.out.trans hX);have q1 : decide (li < 0) = true := decide_eq_true hl;clear hX p0 p1 hl;go_wp2
 go_ret3
 exact ⟨rfl, HX.out⟩
theorem ns (S : Nat) (A : Option Addr) (n c : Nat) (ms : List Mt) (li : Int) (w : World) (h : MsAt w A n ms) (hv : VP (S : Int) ms) (_hl : 0 <= li /\ li <= 9223372036854775807) :
  Calls Try.prog 79 #[.agg #[.int .i64 (S : Int), .slice A n c], .int .i64 li] w (fun e w' => ∃ r go rv, (∀ k, k < r -> ¬ br (3 * S) ms li (ap (3 * S) ms k)) /\ br (3 * S) ms li (ap (3 * S) ms r) /\ e = .returned (.tuple #[.slice (some ⟨go, 0, none⟩) S S, rv, .int .i64 0]) /\ ShP RatC w' go 0 S (bz (3 * S) (a9 ms (ap (3 * S) ms r))) /\ w'.ownsRow w.heap.size 3 1 rv r ((ap (3 * S) ms r).map (Value.int .i64)) /\ Ext w w') := by
 have H := hid h;have HV := hid hv;clear h hv;have HX := hid ((Ext.refl w).alloc (.cells #[.int .i64 (S : Int), .slice A n c] 76));have HP := hid (Blk.new w 76 #[.int .i64 (S : Int), .slice A n c]);go_enter Try.func79, Try.ntmps79
 go_upto_region 1 with (fail)
 generalize w.alloc _ = w1 at HX HP |-;have p0 := HP.out.cell 0;have p1 := HP.out.cell 1;simp only [List.getElem?_toArray, List.getElem?_cons_zero, List.getElem?_cons_succ] at p0 p1
 go_wp2_with fail
 refine (bG (S : Int) A n c ms _ (H.out.ext HX.out)).mono ?_;rw [aW.2 HV.out];rintro e w2 ⟨rfl, hX⟩;have hS1 : 1 <= S := by have := HV.out.1; omega
 have hS8 : S <= 8 := by have := HV.out.2.1; omega
 have HML := hid H.out.1;have hn64 : n <= 64 := by have := HV.out.2.2.1; have := HML.out; omega
 replace HX := hid (HX.out.trans hX);replace HP := hid (HP.out.ext hX);have q1 : decide (li < 0) = false := decide_eq_false (by omega);clear hX p0 p1;have p0 := HP.out.cell 0;have p1 := HP.out.cell 1;simp only [List.getElem?_toArray, List.getElem?_cons_zero, List.getElem?_cons_succ] at p0 p1
 go_wp2_with fail
 clear p0 p1 q1
 go_loopg [8, 25] n (fun fu lv iv wr => ∃ j : Nat, fu = n - j /\ j <= n /\ iv = .int .i64 (j : Int) /\ Hid (wr.ownsRow w.heap.size 3 1 lv j ((List.range j).map fun i => .int .i64 ((i : Nat) : Int))) /\ Hid (Blk wr w.heap.size 76 #[.int .i64 (S : Int), .slice A n c]) /\ Hid (Ext w wr))
 case atStart => exact ⟨0, rfl, by omega, rfl, hid (World.ownsRow_nil _ _ _ _), HP, HX⟩
 case round =>
  clear HP HX;obtain ⟨j, rfl, hj, rfl, HO, HP, HX⟩ := hrel;obtain ⟨Ao, co, rfl⟩ := ak HO.out
  by_cases hlt : j < n
  .
   have q1 : decide (j < n) = true := decide_eq_true hlt;have hsz := HX.out.size
   go_wp2_with (at_builtin; refine ao _ du rfl _ _ rfl w.heap.size (.slice Ao j co) j _ rfl (HO.out.alloc _) _ 1 1 [.int .i64 (j : Int)] rfl rfl (At.new' _ [_] _ rfl) (by simp [Value.oneCell']) (by omega) (by unfold maxLen; omega) (by simp; omega) ?_; intro v8 w8 hown8 hgr8 _; have HG8 := hid hgr8; have HO8 := hid hown8; clear hgr8 hown8)
   go_roundg (n - (j + 1))
   case rel =>
    refine ⟨j + 1, rfl, by omega, by go_num, hid ?_, hid ((HP.out.alloc _).grown HG8.out (fun e => aQ HO.out HP.out (by decide) e.symm)), hid ((HX.out.alloc _).grown HG8.out (fun b hb => (HO.out.lt b hb).1))⟩;rw [List.range_succ, List.map_append];exact HO8.out
   case measure => omega
  .
   obtain rfl : n = j := by omega
   have q1 : decide (n < n) = false := by simp
   have hcap := (dB HO.out).1
   have hIn : Ints .i64 wr Ao n ((al (ap (3 * S) ms 0) n).map fun i : Nat => (i : Int)) := by
    refine Ints.of_ownI (c := co) (xs := ((al (ap (3 * S) ms 0) n).map fun i : Nat => (i : Int))) (base := w.heap.size) (e := 3) ?_ ?_
    .
     rw [List.map_map];have e : al (ap (3 * S) ms 0) n = List.range n := by show al [] n = _; unfold al; exact List.filter_eq_self.2 (by simp)
     rw [e];exact HO.out
    .
     intro x hx;obtain ⟨i, hi, rfl⟩ := List.mem_map.1 hx;have := (bL.1 hi).1;omega
   have hAl : ∀ ad, Ao = some ad -> ad.block < wr.heap.size := fun ad e => by
    subst e;exact (HO.out.lt ad.block (by simp [Value.ownBlock])).2
   have HIN := hid hIn;have HAL := hid hAl;clear hIn hAl HO
   go_upto_region 11 with (fail)
   go_loopg [7, 8] (n + 1) (fun fu rv lv wz => ∃ (r nl cl : Nat) (Al : Option Addr), fu = n - r + 1 /\ r <= n /\ lv = .slice Al nl cl /\ nl + r = n /\ nl <= cl /\ Hid (∀ k, k < r -> ¬ br (3 * S) ms li (ap (3 * S) ms k)) /\ Hid (wz.ownsRow w.heap.size 3 1 rv r ((ap (3 * S) ms r).map (Value.int .i64))) /\ Hid (Ints .i64 wz Al nl ((al (ap (3 * S) ms r) n).map fun i : Nat => (i : Int))) /\ Hid (∀ ad, Al = some ad -> rv.ownBlock ≠ some ad.block /\ ad.block < wz.heap.size) /\ Hid (Blk wz w.heap.size 76 #[.int .i64 (S : Int), .slice A n c]) /\ Hid (Ext w wz))
   case atStart => exact ⟨0, n, co, Ao, by omega, by omega, rfl, by omega, hcap, hid (fun k hk => by omega), hid (World.ownsRow_nil _ _ _ _), HIN, hid (fun ad e => ⟨by simp [Value.ownBlock], HAL.out ad e⟩), HP, HX⟩
   case round =>
    clear HIN HAL HP HX hcap;obtain ⟨r, nl, cl, Al, rfl, hr, rfl, hnl, hcap, HNE, HO, HIL, HAP, HP, HX⟩ := hrel;obtain ⟨Ar, cr, rfl⟩ := ak HO.out;have p0 := HP.out.cell 0;have p1 := HP.out.cell 1;simp only [List.getElem?_toArray, List.getElem?_cons_zero, List.getElem?_cons_succ] at p0 p1;have HDO : Hid (DropOk n (ap (3 * S) ms r)) := hid (by have := gZ (3 * S) ms r; rw [HML.out] at this; exact this);have HDL : Hid ((ap (3 * S) ms r).length = r) := hid (i8 HNE.out);have HDI : Hid (Ints .i64 wr Ar r (ap (3 * S) ms r)) := hid (Ints.of_ownI HO.out (fun x hx => by have := HDO.out.1 x hx; omega));have HWL : Hid ((a9 ms (ap (3 * S) ms r)).length = nl) := hid (by have := dL r HNE.out; rw [ew]; have := HML.out; omega);have HKL : Hid ((al (ap (3 * S) ms r) n).length = nl) := hid (by have := HWL.out; rw [ew, HML.out] at this; exact this);have HVW := hid (ip HV.out (ap (3 * S) ms r))
    go_wp2_with fail
    refine (kC S A n c ms Ar r cr (ap (3 * S) ms r) _ (H.out.ext HX.out) HV.out HDL.out HDI.out (by omega) HDO.out).mono ?_;rintro e w5 ⟨vq, rfl, hW, hX⟩;rw [HWL.out] at hW;obtain ⟨Aw, cw, rfl⟩ := ak hW;have HMW : Hid (MsAt w5 Aw nl (a9 ms (ap (3 * S) ms r))) := hid (MsAt.of_own hW HWL.out);replace HX := hid (HX.out.trans hX);replace HP := hid (HP.out.ext hX);replace HO := hid (World.ownsRow.ext' HO.out hX);replace HIL := hid (HIL.out.ext hX);replace HAP : Hid (∀ ad, Al = some ad -> (Value.slice Ar r cr).ownBlock ≠ some ad.block /\ ad.block < w5.heap.size) := hid (fun ad e => ⟨(HAP.out ad e).1, Nat.lt_of_lt_of_le (HAP.out ad e).2 hX.size⟩);clear hW hX p0 p1 HDI
    go_upto_region 12 with (fail)
    have hXa : Ext w5 (w5.alloc (.cells #[.int .i64 (S : Int), .slice Aw nl cw] 76)) := (Ext.refl _).alloc _;have kB := Blk.new w5 76 #[.int .i64 (S : Int), .slice Aw nl cw];replace HX := hid (HX.out.trans hXa);replace HP := hid (HP.out.ext hXa);replace HO := hid (World.ownsRow.ext' HO.out hXa);replace HIL := hid (HIL.out.ext hXa);replace HMW := hid (HMW.out.ext hXa);replace HAP : Hid (∀ ad, Al = some ad -> (Value.slice Ar r cr).ownBlock ≠ some ad.block /\ ad.block < (w5.alloc (.cells #[.int .i64 (S : Int), .slice Aw nl cw] 76)).heap.size) := hid (fun ad e => ⟨(HAP.out ad e).1, Nat.lt_of_lt_of_le (HAP.out ad e).2 hXa.size⟩);clear hXa;generalize w5.heap.size = gn at kB |-;generalize w5.alloc _ = w6 at kB HX HP HO HIL HMW HAP |-;have KN := hid kB;clear kB;have n0 := KN.out.cell 0;have n1 := KN.out.cell 1;simp only [List.getElem?_toArray, List.getElem?_cons_zero, List.getElem?_cons_succ] at n0 n1
    go_wp2_with fail
    refine (ju S Aw nl cw (a9 ms (ap (3 * S) ms r)) _ HMW.out HVW.out).mono ?_;rintro e w7 ⟨gs, rfl, _, hS, hX⟩;replace HX := hid (HX.out.trans hX);replace HP := hid (HP.out.ext hX);replace HO := hid (World.ownsRow.ext' HO.out hX);replace HIL := hid (HIL.out.ext hX);replace HMW := hid (HMW.out.ext hX);replace KN := hid (KN.out.ext hX);replace HAP : Hid (∀ ad, Al = some ad -> (Value.slice Ar r cr).ownBlock ≠ some ad.block /\ ad.block < w7.heap.size) := hid (fun ad e => ⟨(HAP.out ad e).1, Nat.lt_of_lt_of_le (HAP.out ad e).2 hX.size⟩);have HSS := hid hS;clear hX n0 n1 hS;have n0 := KN.out.cell 0;have n1 := KN.out.cell 1;simp only [List.getElem?_toArray, List.getElem?_cons_zero, List.getElem?_cons_succ] at n0 n1
    go_wp2_with fail
    refine (nf S Aw nl cw (a9 ms (ap (3 * S) ms r)) gs 0 S (bz (3 * S) (a9 ms (ap (3 * S) ms r))) _ HMW.out HVW.out.2.2.2 (by omega) hS1 (HSS.out.imp (fun v q h => h.mono (by omega)))).mono ?_;rw [show bT (3 * S) (bz (3 * S) (a9 ms (ap (3 * S) ms r))) (a9 ms (ap (3 * S) ms r)) = eJ (3 * S) ms (ap (3 * S) ms r) from rfl];obtain ⟨oa, hoa⟩ : ∃ oa, (eJ (3 * S) ms (ap (3 * S) ms r)).1 = oa := ⟨_, rfl⟩;rw [hoa];have HOA := hid hoa;clear hoa;rintro e w8 ⟨v8, rfl, hv, hX⟩;obtain ⟨s1, A1, l1, c1, B1, m1, k1, rfl⟩ := NumX.open hv;replace HX := hid (HX.out.trans hX);replace HP := hid (HP.out.ext hX);replace HO := hid (World.ownsRow.ext' HO.out hX);replace HIL := hid (HIL.out.ext hX);replace HSS := hid (HSS.out.ext (aV 53) hX);replace HAP : Hid (∀ ad, Al = some ad -> (Value.slice Ar r cr).ownBlock ≠ some ad.block /\ ad.block < w8.heap.size) := hid (fun ad e => ⟨(HAP.out ad e).1, Nat.lt_of_lt_of_le (HAP.out ad e).2 hX.size⟩);have HWV := hid hv;clear hX n0 n1 hv KN HMW
    go_upto_region 14 with (fail)
    have hXa : Ext w8 (w8.alloc (.cells #[.bool s1, .slice A1 l1 c1, .slice B1 m1 k1] 217)) := (Ext.refl _).alloc _;have kB := Blk.new w8 217 #[.bool s1, .slice A1 l1 c1, .slice B1 m1 k1];replace HX := hid (HX.out.trans hXa);replace HP := hid (HP.out.ext hXa);replace HO := hid (World.ownsRow.ext' HO.out hXa);replace HIL := hid (HIL.out.ext hXa);replace HSS := hid (HSS.out.ext (aV 53) hXa);replace HWV := hid (HWV.out.ext hXa);replace HAP : Hid (∀ ad, Al = some ad -> (Value.slice Ar r cr).ownBlock ≠ some ad.block /\ ad.block < (w8.alloc (.cells #[.bool s1, .slice A1 l1 c1, .slice B1 m1 k1] 217)).heap.size) := hid (fun ad e => ⟨(HAP.out ad e).1, Nat.lt_of_lt_of_le (HAP.out ad e).2 hXa.size⟩);clear hXa;generalize w8.heap.size = gw at kB |-;generalize w8.alloc _ = w9 at kB HX HP HO HIL HSS HWV HAP |-;have KW := hid kB;clear kB
    by_cases hno : oa = none
    .
     subst hno;have HEN : Hid (br (3 * S) ms li (ap (3 * S) ms r)) := hid (.inl HOA.out);rw [show rX none = (-1 : Int) from rfl];refine pJ gw li w9 _ _ (by simp) ⟨rfl, rfl, rfl, trivial⟩ ?_;rintro W hX;simp only [EndK, ae, Try.f79, ab, Option.bind_some, Nat.reduceBEq, if_true, if_false, Bool.false_eq_true, Option.getD_some, List.drop_succ_cons, List.drop_zero];simp only [Act.put, List.setIfInBounds_toArray, List.set_cons_succ, List.set_cons_zero];replace HX := hid (HX.out.trans hX);replace HP := hid (HP.out.ext hX);replace HO := hid (World.ownsRow.ext' HO.out hX);replace HIL := hid (HIL.out.ext hX);replace HSS := hid (HSS.out.ext (aV 53) hX);replace HAP : Hid (∀ ad, Al = some ad -> (Value.slice Ar r cr).ownBlock ≠ some ad.block /\ ad.block < W.heap.size) := hid (fun ad e => ⟨(HAP.out ad e).1, Nat.lt_of_lt_of_le (HAP.out ad e).2 hX.size⟩);clear hX HWV KW;have HFT : Hid (∀ j, j < 3 * S -> FitQW (bz (3 * S) (a9 ms (ap (3 * S) ms r)) j)) := hid (fun j _ => FitQW.of4 (dz HVW.out.2.2.2 HVW.out.2.2.1 (by omega) j) (by omega))
     go_wp2_with fail
     refine (kf 53 gs 0 S S _ _ HSS.out (by omega) HFT.out (by omega)).mono ?_;rintro e w12 ⟨gd, rfl, _, hD, hX⟩;replace HX := hid (HX.out.trans hX);replace HO := hid (World.ownsRow.ext' HO.out hX);have HDD := hid hD;clear hX hD;go_wp2
     go_ret3
     exact ⟨r, gd, _, HNE.out, HEN.out, rfl, HDD.out, HO.out, HX.out⟩
    .
     obtain ⟨aa, rfl⟩ : ∃ aa, oa = some aa := by
      cases oa with
      | none => exact absurd rfl hno
      | some aa => exact ⟨aa, rfl⟩
     clear hno;rw [show rX (some aa) = (aa : Int) from rfl];have h0 : decide ((aa : Int) < 0) = false := decide_eq_false (by omega);obtain ⟨le, hle⟩ : ∃ le, decide (bN ((eJ (3 * S) ms (ap (3 * S) ms r)).2 - ((li : Int) : Rat)) <= 0) = le := ⟨_, rfl⟩;have HLE := hid hle;clear hle;refine pK gw aa li le _ s1 A1 B1 l1 c1 m1 k1 w9 (KW.out.cell 0) (KW.out.cell 1) (KW.out.cell 2) HWV.out h0 (by omega) HLE _ _ (by simp) ⟨rfl, rfl, rfl, trivial⟩ ?_;rintro W hX xv5 _;simp only [EndK, ae, Try.f79, ab, Option.bind_some, Nat.reduceBEq, if_true, if_false, Bool.false_eq_true, Option.getD_some, List.drop_succ_cons, List.drop_zero];simp only [Act.put, List.setIfInBounds_toArray, List.set_cons_succ, List.set_cons_zero];clear h0;replace HX := hid (HX.out.trans hX);replace HP := hid (HP.out.ext hX);replace HO := hid (World.ownsRow.ext' HO.out hX);replace HIL := hid (HIL.out.ext hX);replace HSS := hid (HSS.out.ext (aV 53) hX);replace HAP : Hid (∀ ad, Al = some ad -> (Value.slice Ar r cr).ownBlock ≠ some ad.block /\ ad.block < W.heap.size) := hid (fun ad e => ⟨(HAP.out ad e).1, Nat.lt_of_lt_of_le (HAP.out ad e).2 hX.size⟩);clear hX HWV KW
     by_cases hl2 : le = true
     .
      subst hl2;have HEN : Hid (br (3 * S) ms li (ap (3 * S) ms r)) := hid (.inr (iq.1 (of_decide_eq_true HLE.out)));have HFT : Hid (∀ j, j < 3 * S -> FitQW (bz (3 * S) (a9 ms (ap (3 * S) ms r)) j)) := hid (fun j _ => FitQW.of4 (dz HVW.out.2.2.2 HVW.out.2.2.1 (by omega) j) (by omega))
      go_wp2_with fail
      refine (kf 53 gs 0 S S _ _ HSS.out (by omega) HFT.out (by omega)).mono ?_;rintro e w12 ⟨gd, rfl, _, hD, hX⟩;replace HX := hid (HX.out.trans hX);replace HO := hid (World.ownsRow.ext' HO.out hX);have HDD := hid hD;clear hX hD;go_wp2
      go_ret3
      exact ⟨r, gd, _, HNE.out, HEN.out, rfl, HDD.out, HO.out, HX.out⟩
     .
      obtain rfl : le = false := by simpa using hl2
      clear hl2
      have HNX : Hid (∀ k, k < r + 1 -> ¬ br (3 * S) ms li (ap (3 * S) ms k)) := hid (fun k hk => by
       by_cases e : k = r
       .
        subst e;rintro (h | h)
        .
         rw [HOA.out] at h; cases h
        .
         exact absurd (iq.2 h) (of_decide_eq_false HLE.out)
       .
        exact HNE.out k (by omega))
      obtain ⟨hak, hnx, hke⟩ := ep HOA.out;simp only [HML.out] at hak hnx hke;have hanl : aa < nl := by have := HKL.out; omega
      obtain ⟨zz, hzz⟩ : ∃ zz : Nat, (al (ap (3 * S) ms r) n)[aa] = zz := ⟨_, rfl⟩;rw [hzz] at hnx;have hD1 : (ap (3 * S) ms (r + 1)) = (ap (3 * S) ms r) ++ [((zz : Nat) : Int)] := hnx;have HD1 := hid hD1;have HK1 : Hid (al (ap (3 * S) ms (r + 1)) n = (al (ap (3 * S) ms r) n).eraseIdx aa) := hid hke;have HER := hid (f5 hak);obtain ⟨gl, ol, x, hAl, hx, _, x0⟩ := HIL.out.get hanl
      obtain rfl : x = (zz : Int) := by
       rw [List.getElem?_map, List.getElem?_eq_getElem hak, hzz] at hx;injection hx with hx;exact hx.symm
      subst hAl;have hz64 : zz < n := by rw [<- hzz]; exact (bL.1 (List.getElem_mem hak)).1
      have hsz := HX.out.size;clear hx hnx hD1 hke hak hzz;obtain ⟨hap1, hap2⟩ := HAP.out _ rfl;simp only at hap1 hap2;have HAP1 := hid hap1;clear hap1
      go_upto_region 18 with (at_builtin; refine ao _ du rfl _ _ rfl w.heap.size (.slice Ar r cr) r _ rfl (HO.out.alloc _) _ 1 1 [.int .i64 ((zz : Nat) : Int)] rfl rfl (At.new' _ [_] _ rfl) (by simp [Value.oneCell']) (by omega) (by unfold maxLen; omega) (by simp; omega) ?_; intro v8 w8 hown8 hgr8 hbl8; have HG8 := hid hgr8; have HO8 := hid hown8; have HB8 := hid hbl8; clear hgr8 hown8 hbl8)
      clear x0;have hkp := aG HG8.out;have HIL8 := hid ((HIL.out.ext ((Ext.refl W).alloc (.cells #[.int .i64 ((zz : Nat) : Int)] 3))).keepsA hkp (fun ad e => by injection e with e; subst e; simp only [Option.mem_toList]; exact HAP1.out));have HX8 := hid ((HX.out.alloc (.cells #[.int .i64 ((zz : Nat) : Int)] 3)).grown HG8.out (fun b hb => (HO.out.lt b hb).1));have HP8 := hid ((HP.out.alloc (.cells #[.int .i64 ((zz : Nat) : Int)] 3)).grown HG8.out (fun e => aQ HO.out HP.out (by decide) e.symm));have hs8 : W.heap.size + 1 <= w8.heap.size := by have := hkp.size; simpa using this
      have HV8 : Hid (v8.ownBlock ≠ some gl) := hid (fun e => by
       rcases HB8.out with h | h
       .
        rw [h] at e; exact HAP1.out e
       .
        rw [h] at e; injection e with e; simp at e; omega)
      obtain ⟨A8, c8, rfl⟩ := ak HO8.out;have HLO8 : Hid (∀ g, (Value.slice A8 (r + 1) c8).ownBlock = some g -> g < w8.heap.size) := hid (fun g hg => (HO8.out.lt g hg).2);clear hkp HO HIL HX HP HG8 HB8;obtain ⟨mm, hmm⟩ : ∃ mm, nl - (aa + 1) = mm := ⟨_, rfl⟩;obtain ⟨kk, hkk⟩ : ∃ kk, cl - (aa + 1) = kk := ⟨_, rfl⟩;have HMM := hid hmm;have HKK := hid hkk;clear hmm hkk;refine rP gl ol nl cl aa mm kk _ w8 HIL8.out hanl hcap (by omega) HMM HKK _ _ (by simp) rfl rfl ?_;rintro xv0 xv1 xv2 xv3 xv4 xv5 xv6 xv7 xv8 W2 rfl rfl rfl rfl rfl rfl rfl rfl ⟨g9, o9, c9, rfl, hc9, hI9, hg9, hz9⟩ hX;simp only [ae, Try.f79, ab, Option.bind_some, Nat.reduceBEq, if_true, if_false, Bool.false_eq_true, Option.getD_some, List.drop_succ_cons, List.drop_zero];simp only [Act.put, List.setIfInBounds_toArray, List.set_cons_succ, List.set_cons_zero];have HI9 := hid hI9;have hsz8 := hX.size;have hlt9 := hz9 (by omega);replace HX8 := hid (HX8.out.trans hX);replace HP8 := hid (HP8.out.ext hX);replace HO8 := hid (World.ownsRow.ext' HO8.out hX);clear hX hI9;go_wp2;go_roundg (n - (r + 1) + 1)
      case rel =>
       refine ⟨r + 1, nl - 1, c9, _, by omega, by omega, rfl, by omega, hc9, HNX, hid ?_, hid ?_, hid (fun ad e => ?_), HP8, HX8⟩
       .
        rw [HD1.out, List.map_append];exact HO8.out
       .
        rw [HK1.out, <- HER.out];exact HI9.out
       .
        injection e with e;subst e;refine ⟨fun e => ?_, ?_⟩
        .
         simp only at e
         rcases hg9 with rfl | h
         .
          exact HV8.out e
         .
          have := HLO8.out _ e; omega
        .
         exact hlt9
      case measure => omega

end Go.Proofs.Ytikhlcgnlbinfaa
