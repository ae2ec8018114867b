/- Lemmas of the proof that follows (Worsts, part 17): walks of functions by contract, and plain lemmas. Conditions: none. -/
import Derived.Test.YtikhlcgnlbinfaaWorstsP
set_option maxRecDepth 100000
set_option maxHeartbeats 16000000
namespace Go.Proofs.Ytikhlcgnlbinfaa
open Lib (hid)
open Go.RowKit
/-- Column i of the pivots. -/
theorem ColR.get {base : Nat} {w : World} {A : Option Addr} {c : Nat} {l : List Nat} (h : ColR base w (.slice A l.length c) l) {i j : Nat} (hi : l[i]? = some j) : ∃ g, A = some ⟨g, 0, none⟩ /\ base <= g /\ w.cell? ⟨g, i, none⟩ = some (.int .i64 (j : Int)) := by
 have hl : 0 < l.length := by have := (List.getElem?_eq_some_iff.1 hi).1; omega
 obtain ⟨g, rfl, h1, h2⟩ := fB h hl;exact ⟨g, rfl, h1, af h (by rw [List.getElem?_map, hi]; rfl)⟩
theorem RowN.srow {base go S : Nat} {w : World} {f : Nat -> Rat} (h : RowN QZ 229 9 base w go S S (3 * S) (fun u => some (f u))) : SRow base w (.slice (some ⟨go, 0, none⟩) S S) S f := by
 obtain ⟨hf, ⟨us, h1, h2⟩, hn⟩ := h;refine ⟨⟨us, h1, h2.1, fun j hj => ?_⟩, fun g hg => by simp [Value.ownBlock] at hg; subst hg; exact hn⟩;obtain ⟨cs, c1, ⟨s, A, l, c, B, m, k, e, hx⟩, c3⟩ := h2.2 j hj;exact ⟨cs, c1, ⟨s, A, l, c, B, m, k, e, hx _ rfl⟩, c3⟩
theorem gE {x : Int} {d : Nat} (_hd : 0 < d) : ap (decide (x < 0)) x.natAbs d = (x : Rat) / ((d : Nat) : Rat) := by
 have h := nU x (n := (d : Int)) (by omega);rw [Int.toNat_natCast] at h;rw [h];rfl
theorem sa (go S jj ss kk : Nat) (w : World) (hss : Hid (jj / 3 = ss)) (hkk : Hid (jj % 3 = kk)) (_hs1 : ss < S) (_hk3 : (kk : Int) < 3) (_hk4 : kk < 3) (_hj : jj <= 1000) : aJ Try.prog Try.f73 5 8 28 w [20, 21, 22, 23, 24, 25, 26, 27] [.c (.slice (some ⟨go, 0, none⟩) S S), .c (.int .i64 (jj : Int)), .c (.int .i64 (ss : Int)), .c (.int .i64 (jj : Int)), .c (.int .i64 (kk : Int)), .p fun v W => QZ W v (((0 : Int) : Rat)), .c (.pointer (some ⟨go, ss * 9, none⟩)), .c (.pointer (some ⟨go, ss * 9 + kk * 3, none⟩))] [(3, .slice (some ⟨go, 0, none⟩) S S), (4, .int .i64 (jj : Int))] := by
 refine aM [[], [], [1], [], [3], [], [0, 2], [4, 6]] (by kernel_rfl) (by kernel_rfl) rfl ⟨by intro v W W' h hX; exact QZ.ext h hX, trivial⟩ ?_;simp only [ae, Try.f73, ab, Option.bind_some, Nat.reduceBEq, if_true, if_false, Bool.false_eq_true, Option.getD_some];simp only [List.take_succ_cons, List.take_zero]
 repeat' first | refine ⟨?_, ?_⟩ | fail
 all_goals first | (intro us W b hJ K hK0 hK Qz; simp only [aF, am, ao, List.getD_cons_succ, List.getD_cons_zero]) | exact True.intro
 all_goals try (intros; go_simp; exact hK0 _ rfl)
 .
  intro e21 e3 e4;have qw : IntKind.i64.wrap ((jj : Int) / 3) = (jj : Int) / 3 := IntWalk.i64_in _ (by omega);go_simp;exact hK0 _ (by have := hss.out; congr 1; omega)
 .
  intro e23 e3 e4;have ht : (jj : Int).tmod 3 = (jj : Int) % 3 := Int.tmod_eq_emod_of_nonneg (by omega);have qw : IntKind.i64.wrap ((jj : Int) % 3) = (jj : Int) % 3 := IntWalk.i64_in _ (by omega);go_simp;exact hK0 _ (by have := hkk.out; congr 1; omega)
 .
  intro e3 e4;go_simp;refine (bN 0 W (by omega) (by omega)).mono ?_;rintro e w' ⟨v, rfl, hv, hX⟩;exact hK _ _ hv hX
theorem p9 (gm ct nn ii ga ca gp S : Nat) (sx : Bool) (Ax : Option Addr) (lx cx : Nat) (w : World) (ha : w.cell? ⟨gm, ii, none⟩ = some (.slice (some ⟨ga, 0, none⟩) (nn + 1) ca)) (hp : w.cell? ⟨gp, 0, none⟩ = some (.int .i64 (S : Int))) (x0 : w.cell? ⟨ga, nn * 2, none⟩ = some (.bool sx)) (x1 : w.cell? ⟨ga, nn * 2 + 1, none⟩ = some (.slice Ax lx cx)) (_hqN : IntKind.i64.wrap (3 * (S : Int)) = (nn : Int)) (_hin : ii < nn) (_hnn : nn < nn + 1) (_hnn2 : (nn : Int) < (nn : Int) + 1) (a : Act) (Q : Exit -> Act -> World -> Prop) (hsize : 49 <= a.tmps.size)
  (s1 : a.tmps[1]? = some (.pointer (some ⟨gp, 0, none⟩)))
  (s5 : a.tmps[5]? = some (.slice (some ⟨gm, 0, none⟩) nn ct))
  (s8 : a.tmps[8]? = some (.int .i64 (ii : Int)))
  (hend : ∀ (xv0 xv1 xv2 xv3 xv4 xv5 xv6 xv7 xv8 xv9 xv10 : Value) (W : World), (xv0 = .slice (some ⟨gm, 0, none⟩) nn ct) -> (xv1 = .int .i64 (ii : Int)) -> (xv2 = .pointer (some ⟨gm, ii, none⟩)) -> (xv3 = .slice (some ⟨ga, 0, none⟩) (nn + 1) ca) -> (xv4 = .pointer (some ⟨gp, 0, none⟩)) -> (xv5 = .int .i64 (S : Int)) -> (xv6 = .int .i64 (nn : Int)) -> (xv7 = .pointer (some ⟨ga, nn * 2, none⟩)) -> (xv8 = .agg #[.bool sx, .slice Ax lx cx]) -> (∃ g, xv9 = .pointer (some ⟨g, 0, none⟩) /\ w.heap.size <= g /\ Blk W g 63 #[.bool sx, .slice Ax lx cx]) -> Ext w W -> wpList Try.prog (ae Try.f73 10).toArray Q [] (((((((((((a.put (some 40) xv0).put (some 41) xv1).put (some 42) xv2).put (some 43) xv3).put (some 44) xv4).put (some 45) xv5).put (some 46) xv6).put (some 47) xv7).put (some 48) xv8).put (some 9) xv9).put (none) xv10) W) :
  (Code.region 10 (ae Try.f73 10).toArray true).wp Try.prog Q a w := by
 have hsz : ∀ d, some d ∈ ([some 40, some 41, some 42, some 43, some 44, some 45, some 46, some 47, some 48, some 9, none] : List (Option Tmp)) -> d < a.tmps.size := cw (by decide) hsize;refine dC 11 [some 40, some 41, some 42, some 43, some 44, some 45, some 46, some 47, some 48, some 9, none] [[], [], [0, 1], [2], [], [4], [5], [3, 6], [7], [], [8, 9]] [[], [], [], [], [], [], [], [], [], [10], []] (fun (done : Nat -> Prop) (us : Nat -> Value) (W : World) => Ext w W /\ (done 0 -> us 0 = .slice (some ⟨gm, 0, none⟩) nn ct) /\ (done 1 -> us 1 = .int .i64 (ii : Int)) /\ (done 2 -> us 2 = .pointer (some ⟨gm, ii, none⟩)) /\ (done 3 -> us 3 = .slice (some ⟨ga, 0, none⟩) (nn + 1) ca) /\ (done 4 -> us 4 = .pointer (some ⟨gp, 0, none⟩)) /\ (done 5 -> us 5 = .int .i64 (S : Int)) /\ (done 6 -> us 6 = .int .i64 (nn : Int)) /\ (done 7 -> us 7 = .pointer (some ⟨ga, nn * 2, none⟩)) /\ (done 8 -> us 8 = .agg #[.bool sx, .slice Ax lx cx]) /\ Loc w W 63 #[.bool false, .slice none 0 0] #[.bool sx, .slice Ax lx cx] (done 9) (done 10) (us 9)) (by kernel_rfl) (by kernel_rfl) hsz (fun p q us W h => by have e : p = q := funext fun k => propext (h k); rw [e]; exact id) (fun us => ⟨(Ext.refl w).drew, fun h => h.elim, fun h => h.elim, fun h => h.elim, fun h => h.elim, fun h => h.elim, fun h => h.elim, fun h => h.elim, fun h => h.elim, fun h => h.elim, Loc.unmade id⟩) ?_ ?_
 .
  clear hend;simp only [ae, Try.f73, ab, Option.bind_some, Nat.reduceBEq, if_true, if_false, Bool.false_eq_true, Option.getD_some];simp only [List.take_succ_cons, List.take_zero];refine ⟨?_, ?_, ?_, ?_, ?_, ?_, ?_, ?_, ?_, ?_, ?_, trivial⟩
  .
   intro done us W hJ hdep haft hnot b hb hb' K hK Q';obtain ⟨hX0, cc0, cc1, cc2, cc3, cc4, cc5, cc6, cc7, cc8, ll9⟩ := hJ;have e5 := (hb' 5 (by simp)).trans s5;clear hb hb';have hfin := hK (.slice (some ⟨gm, 0, none⟩) nn ct) _ ⟨hX0, fun _ => rfl, fun h => cc1 (h.resolve_right (by decide)), fun h => cc2 (h.resolve_right (by decide)), fun h => cc3 (h.resolve_right (by decide)), fun h => cc4 (h.resolve_right (by decide)), fun h => cc5 (h.resolve_right (by decide)), fun h => cc6 (h.resolve_right (by decide)), fun h => cc7 (h.resolve_right (by decide)), fun h => cc8 (h.resolve_right (by decide)), Loc.same ll9 ⟨fun h => h.resolve_right (by decide), .inl⟩ ⟨fun h => h.resolve_right (by decide), .inl⟩⟩;clear hK cc0 cc1 cc2 cc3 cc4 cc5 cc6 cc7 cc8 ll9;go_simp;exact hfin
  .
   intro done us W hJ hdep haft hnot b hb hb' K hK Q';obtain ⟨hX0, cc0, cc1, cc2, cc3, cc4, cc5, cc6, cc7, cc8, ll9⟩ := hJ;have e8 := (hb' 8 (by simp)).trans s8;clear hb hb';have hfin := hK (.int .i64 (ii : Int)) _ ⟨hX0, fun h => cc0 (h.resolve_right (by decide)), fun _ => rfl, fun h => cc2 (h.resolve_right (by decide)), fun h => cc3 (h.resolve_right (by decide)), fun h => cc4 (h.resolve_right (by decide)), fun h => cc5 (h.resolve_right (by decide)), fun h => cc6 (h.resolve_right (by decide)), fun h => cc7 (h.resolve_right (by decide)), fun h => cc8 (h.resolve_right (by decide)), Loc.same ll9 ⟨fun h => h.resolve_right (by decide), .inl⟩ ⟨fun h => h.resolve_right (by decide), .inl⟩⟩;clear hK cc0 cc1 cc2 cc3 cc4 cc5 cc6 cc7 cc8 ll9;go_simp;exact hfin
  .
   intro done us W hJ hdep haft hnot b hb hb' K hK Q';obtain ⟨hX0, cc0, cc1, cc2, cc3, cc4, cc5, cc6, cc7, cc8, ll9⟩ := hJ;simp only [List.getD_cons_succ, List.getD_cons_zero, List.mem_cons, List.not_mem_nil, or_false, forall_eq_or_imp, forall_eq] at hdep;have e40 := hb 0 40 rfl;rw [cc0 hdep.1] at e40;have e41 := hb 1 41 rfl;rw [cc1 hdep.2] at e41;clear hb hb';have hfin := hK (.pointer (some ⟨gm, ii, none⟩)) _ ⟨hX0, fun h => cc0 (h.resolve_right (by decide)), fun h => cc1 (h.resolve_right (by decide)), fun _ => rfl, fun h => cc3 (h.resolve_right (by decide)), fun h => cc4 (h.resolve_right (by decide)), fun h => cc5 (h.resolve_right (by decide)), fun h => cc6 (h.resolve_right (by decide)), fun h => cc7 (h.resolve_right (by decide)), fun h => cc8 (h.resolve_right (by decide)), Loc.same ll9 ⟨fun h => h.resolve_right (by decide), .inl⟩ ⟨fun h => h.resolve_right (by decide), .inl⟩⟩;clear hK cc0 cc1 cc2 cc3 cc4 cc5 cc6 cc7 cc8 ll9;go_simp;exact hfin
  .
   intro done us W hJ hdep haft hnot b hb hb' K hK Q';obtain ⟨hX0, cc0, cc1, cc2, cc3, cc4, cc5, cc6, cc7, cc8, ll9⟩ := hJ;simp only [List.getD_cons_succ, List.getD_cons_zero, List.mem_cons, List.not_mem_nil, or_false, forall_eq] at hdep;have e42 := hb 2 42 rfl;rw [cc2 hdep] at e42;clear hb hb';have q0 := hX0.cell ha;have hfin := hK (.slice (some ⟨ga, 0, none⟩) (nn + 1) ca) _ ⟨hX0, fun h => cc0 (h.resolve_right (by decide)), fun h => cc1 (h.resolve_right (by decide)), fun h => cc2 (h.resolve_right (by decide)), fun _ => rfl, fun h => cc4 (h.resolve_right (by decide)), fun h => cc5 (h.resolve_right (by decide)), fun h => cc6 (h.resolve_right (by decide)), fun h => cc7 (h.resolve_right (by decide)), fun h => cc8 (h.resolve_right (by decide)), Loc.same ll9 ⟨fun h => h.resolve_right (by decide), .inl⟩ ⟨fun h => h.resolve_right (by decide), .inl⟩⟩;clear hK cc0 cc1 cc2 cc3 cc4 cc5 cc6 cc7 cc8 ll9;go_simp;exact hfin
  .
   intro done us W hJ hdep haft hnot b hb hb' K hK Q';obtain ⟨hX0, cc0, cc1, cc2, cc3, cc4, cc5, cc6, cc7, cc8, ll9⟩ := hJ;have e1 := (hb' 1 (by simp)).trans s1;clear hb hb';have hfin := hK (.pointer (some ⟨gp, 0, none⟩)) _ ⟨hX0, fun h => cc0 (h.resolve_right (by decide)), fun h => cc1 (h.resolve_right (by decide)), fun h => cc2 (h.resolve_right (by decide)), fun h => cc3 (h.resolve_right (by decide)), fun _ => rfl, fun h => cc5 (h.resolve_right (by decide)), fun h => cc6 (h.resolve_right (by decide)), fun h => cc7 (h.resolve_right (by decide)), fun h => cc8 (h.resolve_right (by decide)), Loc.same ll9 ⟨fun h => h.resolve_right (by decide), .inl⟩ ⟨fun h => h.resolve_right (by decide), .inl⟩⟩;clear hK cc0 cc1 cc2 cc3 cc4 cc5 cc6 cc7 cc8 ll9;go_simp;exact hfin
  .
   intro done us W hJ hdep haft hnot b hb hb' K hK Q';obtain ⟨hX0, cc0, cc1, cc2, cc3, cc4, cc5, cc6, cc7, cc8, ll9⟩ := hJ;simp only [List.getD_cons_succ, List.getD_cons_zero, List.mem_cons, List.not_mem_nil, or_false, forall_eq] at hdep;have e44 := hb 4 44 rfl;rw [cc4 hdep] at e44;clear hb hb';have q0 := hX0.cell hp;have hfin := hK (.int .i64 (S : Int)) _ ⟨hX0, fun h => cc0 (h.resolve_right (by decide)), fun h => cc1 (h.resolve_right (by decide)), fun h => cc2 (h.resolve_right (by decide)), fun h => cc3 (h.resolve_right (by decide)), fun h => cc4 (h.resolve_right (by decide)), fun _ => rfl, fun h => cc6 (h.resolve_right (by decide)), fun h => cc7 (h.resolve_right (by decide)), fun h => cc8 (h.resolve_right (by decide)), Loc.same ll9 ⟨fun h => h.resolve_right (by decide), .inl⟩ ⟨fun h => h.resolve_right (by decide), .inl⟩⟩;clear hK cc0 cc1 cc2 cc3 cc4 cc5 cc6 cc7 cc8 ll9;go_simp;exact hfin
  .
   intro done us W hJ hdep haft hnot b hb hb' K hK Q';obtain ⟨hX0, cc0, cc1, cc2, cc3, cc4, cc5, cc6, cc7, cc8, ll9⟩ := hJ;simp only [List.getD_cons_succ, List.getD_cons_zero, List.mem_cons, List.not_mem_nil, or_false, forall_eq] at hdep;have e45 := hb 5 45 rfl;rw [cc5 hdep] at e45;clear hb hb';have hfin := hK (.int .i64 (nn : Int)) _ ⟨hX0, fun h => cc0 (h.resolve_right (by decide)), fun h => cc1 (h.resolve_right (by decide)), fun h => cc2 (h.resolve_right (by decide)), fun h => cc3 (h.resolve_right (by decide)), fun h => cc4 (h.resolve_right (by decide)), fun h => cc5 (h.resolve_right (by decide)), fun _ => rfl, fun h => cc7 (h.resolve_right (by decide)), fun h => cc8 (h.resolve_right (by decide)), Loc.same ll9 ⟨fun h => h.resolve_right (by decide), .inl⟩ ⟨fun h => h.resolve_right (by decide), .inl⟩⟩;clear hK cc0 cc1 cc2 cc3 cc4 cc5 cc6 cc7 cc8 ll9;go_simp;exact hfin
  .
   intro done us W hJ hdep haft hnot b hb hb' K hK Q';obtain ⟨hX0, cc0, cc1, cc2, cc3, cc4, cc5, cc6, cc7, cc8, ll9⟩ := hJ;simp only [List.getD_cons_succ, List.getD_cons_zero, List.mem_cons, List.not_mem_nil, or_false, forall_eq_or_imp, forall_eq] at hdep;have e43 := hb 3 43 rfl;rw [cc3 hdep.1] at e43;have e46 := hb 6 46 rfl;rw [cc6 hdep.2] at e46;clear hb hb';have hfin := hK (.pointer (some ⟨ga, nn * 2, none⟩)) _ ⟨hX0, fun h => cc0 (h.resolve_right (by decide)), fun h => cc1 (h.resolve_right (by decide)), fun h => cc2 (h.resolve_right (by decide)), fun h => cc3 (h.resolve_right (by decide)), fun h => cc4 (h.resolve_right (by decide)), fun h => cc5 (h.resolve_right (by decide)), fun h => cc6 (h.resolve_right (by decide)), fun _ => rfl, fun h => cc8 (h.resolve_right (by decide)), Loc.same ll9 ⟨fun h => h.resolve_right (by decide), .inl⟩ ⟨fun h => h.resolve_right (by decide), .inl⟩⟩;clear hK cc0 cc1 cc2 cc3 cc4 cc5 cc6 cc7 cc8 ll9;go_simp;exact hfin
  .
   intro done us W hJ hdep haft hnot b hb hb' K hK Q';obtain ⟨hX0, cc0, cc1, cc2, cc3, cc4, cc5, cc6, cc7, cc8, ll9⟩ := hJ;simp only [List.getD_cons_succ, List.getD_cons_zero, List.mem_cons, List.not_mem_nil, or_false, forall_eq] at hdep;have e47 := hb 7 47 rfl;rw [cc7 hdep] at e47;clear hb hb';have q0 := hX0.cell x0;have q1 := hX0.cell x1;have hfin := hK (.agg #[.bool sx, .slice Ax lx cx]) _ ⟨hX0, fun h => cc0 (h.resolve_right (by decide)), fun h => cc1 (h.resolve_right (by decide)), fun h => cc2 (h.resolve_right (by decide)), fun h => cc3 (h.resolve_right (by decide)), fun h => cc4 (h.resolve_right (by decide)), fun h => cc5 (h.resolve_right (by decide)), fun h => cc6 (h.resolve_right (by decide)), fun h => cc7 (h.resolve_right (by decide)), fun _ => rfl, Loc.same ll9 ⟨fun h => h.resolve_right (by decide), .inl⟩ ⟨fun h => h.resolve_right (by decide), .inl⟩⟩;clear hK cc0 cc1 cc2 cc3 cc4 cc5 cc6 cc7 cc8 ll9;go_simp;exact hfin
  .
   intro done us W hJ hdep haft hnot b hb hb' K hK Q';obtain ⟨hX0, cc0, cc1, cc2, cc3, cc4, cc5, cc6, cc7, cc8, ll9⟩ := hJ;simp only [List.getD_cons_succ, List.getD_cons_zero, List.mem_cons, List.not_mem_nil, or_false, forall_eq_or_imp, forall_eq] at haft;clear hb hb';have hfin := hK _ _ ⟨hX0.alloc _, fun h => cc0 (h.resolve_right (by decide)), fun h => cc1 (h.resolve_right (by decide)), fun h => cc2 (h.resolve_right (by decide)), fun h => cc3 (h.resolve_right (by decide)), fun h => cc4 (h.resolve_right (by decide)), fun h => cc5 (h.resolve_right (by decide)), fun h => cc6 (h.resolve_right (by decide)), fun h => cc7 (h.resolve_right (by decide)), fun h => cc8 (h.resolve_right (by decide)), Loc.new w W hX0 (fun h => h.elim haft (by decide)) (Ext.refl _)⟩;clear hK hX0 cc0 cc1 cc2 cc3 cc4 cc5 cc6 cc7 cc8 ll9;go_simp;exact hfin
  .
   intro done us W hJ hdep haft hnot b hb hb' K hK Q';obtain ⟨hX0, cc0, cc1, cc2, cc3, cc4, cc5, cc6, cc7, cc8, ll9⟩ := hJ;simp only [List.getD_cons_succ, List.getD_cons_zero, List.mem_cons, List.not_mem_nil, or_false, forall_eq_or_imp, forall_eq] at hdep;have e9 := hb 9 9 rfl;have e48 := hb 8 48 rfl;rw [cc8 hdep.1] at e48;obtain ⟨g, eg, hg, hB⟩ := ll9.stored hdep.2 hnot;rw [eg] at e9;have q0 : W.cell? ⟨g, 0, none⟩ = some (.bool false) := hB.cell 0;have z0 : W.frozen? ⟨g, 0, none⟩ = false := hB.free 0;have q1 : W.cell? ⟨g, 1, none⟩ = some (.slice none 0 0) := hB.cell 1;have z1 : W.frozen? ⟨g, 1, none⟩ = false := hB.free 1;clear hb hb';have hfin := hK undef _ ⟨((hX0.setCell hg _).setCell hg _), fun h => cc0 (h.resolve_right (by decide)), fun h => cc1 (h.resolve_right (by decide)), fun h => cc2 (h.resolve_right (by decide)), fun h => cc3 (h.resolve_right (by decide)), fun h => cc4 (h.resolve_right (by decide)), fun h => cc5 (h.resolve_right (by decide)), fun h => cc6 (h.resolve_right (by decide)), fun h => cc7 (h.resolve_right (by decide)), fun h => cc8 (h.resolve_right (by decide)), ⟨fun _ => ⟨g, eg, hg, fun _ => (Blk.set (Blk.set hB 0 _) 1 _), fun h => absurd (.inr rfl) h⟩⟩⟩;clear hK hX0 cc0 cc1 cc2 cc3 cc4 cc5 cc6 cc7 cc8 ll9;go_simp;exact hfin
 .
  intro us W hJ;obtain ⟨hX0, cc0, cc1, cc2, cc3, cc4, cc5, cc6, cc7, cc8, ll9⟩ := hJ;rw [show (ae Try.f73 10).drop 11 = [] by kernel_rfl];exact hend (us 0) (us 1) (us 2) (us 3) (us 4) (us 5) (us 6) (us 7) (us 8) (us 9) (us 10) W (cc0 (show 0 < 11 by decide)) (cc1 (show 1 < 11 by decide)) (cc2 (show 2 < 11 by decide)) (cc3 (show 3 < 11 by decide)) (cc4 (show 4 < 11 by decide)) (cc5 (show 5 < 11 by decide)) (cc6 (show 6 < 11 by decide)) (cc7 (show 7 < 11 by decide)) (cc8 (show 8 < 11 by decide)) (ll9.done (show 9 < 11 by decide) (show 10 < 11 by decide)) hX0
theorem jR (go S gc tp cc ii jj ss kk gx gl d : Nat) (xz : Int) (sx : Bool) (Ax : Option Addr) (lx cx : Nat) (Al : Option Addr) (ll cl : Nat) (w : World) (hss : Hid (jj / 3 = ss)) (hkk : Hid (jj % 3 = kk)) (_hs1 : ss < S) (_hk3 : (kk : Int) < 3) (_hk4 : kk < 3) (_hj : jj <= 1000) (_hit : ii < tp) (hc : w.cell? ⟨gc, ii, none⟩ = some (.int .i64 (jj : Int))) (x0 : w.cell? ⟨gx, 0, none⟩ = some (.bool sx)) (x1 : w.cell? ⟨gx, 1, none⟩ = some (.slice Ax lx cx)) (hl1 : w.cell? ⟨gl, 1, none⟩ = some (.slice Al ll cl)) (hx : IntZ w (.agg #[.bool sx, .slice Ax lx cx]) xz) (hd : Z16 w (.slice Al ll cl) d) (fx : Fit 65536 xz.natAbs 106) (fd : Fit 65536 d 106) (hd0 : 0 < d) : aJ Try.prog Try.f73 13 18 72 w [54, 55, 56, 57, 58, 59, 60, 61, 62, 63, 64, 65, 66, 67, 68, 69, 70, 71] [.c (.slice (some ⟨go, 0, none⟩) S S), .c (.slice (some ⟨gc, 0, none⟩) tp cc), .c (.int .i64 (ii : Int)), .c (.pointer (some ⟨gc, ii, none⟩)), .c (.int .i64 (jj : Int)), .c (.int .i64 (ss : Int)), .c (.slice (some ⟨gc, 0, none⟩) tp cc), .c (.int .i64 (ii : Int)), .c (.pointer (some ⟨gc, ii, none⟩)), .c (.int .i64 (jj : Int)), .c (.int .i64 (kk : Int)), .c (.agg #[.bool sx, .slice Ax lx cx]), .c (.pointer (some ⟨gl, 1, none⟩)), .c (.slice Al ll cl), .c (.agg #[.bool false, .slice Al ll cl]), .p fun v W => QZ W v (ap (decide (xz < 0)) xz.natAbs d), .c (.pointer (some ⟨go, ss * 9, none⟩)), .c (.pointer (some ⟨go, ss * 9 + kk * 3, none⟩))] [(3, .slice (some ⟨go, 0, none⟩) S S), (6, .slice (some ⟨gc, 0, none⟩) tp cc), (7, .pointer (some ⟨gl, 0, none⟩)), (8, .int .i64 (ii : Int)), (9, .pointer (some ⟨gx, 0, none⟩))] := by
 refine aM [[], [], [], [1, 2], [3], [4], [], [], [6, 7], [8], [9], [], [], [12], [13], [11, 14], [0, 5], [10, 16]] (by kernel_rfl) (by kernel_rfl) rfl ⟨by intro v W W' h hX; exact QZ.ext h hX, trivial⟩ ?_;simp only [ae, Try.f73, ab, Option.bind_some, Nat.reduceBEq, if_true, if_false, Bool.false_eq_true, Option.getD_some];simp only [List.take_succ_cons, List.take_zero]
 repeat' first | refine ⟨?_, ?_⟩ | fail
 all_goals first | (intro us W b hJ K hK0 hK Qz; simp only [aF, am, ao, List.getD_cons_succ, List.getD_cons_zero]) | exact True.intro
 all_goals try (intros; have q0 := Ext.cell hJ hc; have q1 := Ext.cell hJ x0; have q2 := Ext.cell hJ x1; have q3 := Ext.cell hJ hl1; go_simp; exact hK0 _ rfl)
 .
  intro e58 e3 e6 e7 e8 e9;have qw : IntKind.i64.wrap ((jj : Int) / 3) = (jj : Int) / 3 := IntWalk.i64_in _ (by omega);go_simp;exact hK0 _ (by have := hss.out; congr 1; omega)
 .
  intro e63 e3 e6 e7 e8 e9;have ht : (jj : Int).tmod 3 = (jj : Int) % 3 := Int.tmod_eq_emod_of_nonneg (by omega);have qw : IntKind.i64.wrap ((jj : Int) % 3) = (jj : Int) % 3 := IntWalk.i64_in _ (by omega);go_simp;exact hK0 _ (by have := hkk.out; congr 1; omega)
 .
  intro e65 e68 e3 e6 e7 e8 e9;go_simp;refine (oQ _ xz false Al ll cl d 106 W (hx.ext hJ) (hd.ext hJ) fx fd (by omega) hd0).mono ?_;rintro e w' ⟨v, rfl, hv, hX⟩;exact hK _ _ hv hX
theorem sX (S : Nat) (A : Option Addr) (n c : Nat) (ms : List Mt) (w : World) (h : MsAt w A n ms) (hv : VP S ms) :
  Calls Try.prog 73 #[.agg #[.int .i64 (S : Int), .slice A n c]] w (fun e w' => ∃ go, e = .returned (.slice (some ⟨go, 0, none⟩) S S) /\ SRow w.heap.size w' (.slice (some ⟨go, 0, none⟩) S S) S (bD (3 * S) ms) /\ Ext w w') := by
 have hS1 : 1 <= S := by have := hv.1; omega
 have hS8 : S <= 8 := by have := hv.2.1; omega
 obtain ⟨nn, hN⟩ : ∃ nn, nn = 3 * S := ⟨_, rfl⟩;have hNb : nn <= 24 := by omega
 have hqN : IntKind.i64.wrap (3 * (S : Int)) = (nn : Int) := by rw [IntWalk.i64_in _ (by omega)]; omega
 have HX := hid ((Ext.refl w).alloc (.cells #[.int .i64 (S : Int), .slice A n c] 76));have HP := hid (Blk.new w 76 #[.int .i64 (S : Int), .slice A n c]);have H := hid h;have HV := hid hv;have HNN := hid hN;rw [<- hN];clear h hv hN;go_enter Try.func73, Try.ntmps73
 go_upto_region 1 with (fail)
 generalize w.alloc _ = w1 at HX HP |-;have p0 := HP.out.cell 0;have p1 := HP.out.cell 1;simp only [List.getElem?_toArray, List.getElem?_cons_zero, List.getElem?_cons_succ] at p0 p1;have hs1 := HX.out.size;have hpl := HP.out.lt
 go_upto_region 2 with (at_make; refine cT w1 tI rfl _ _ rfl w.heap.size _ _ _ _ S S rfl rfl (by first | rfl | omega) (by first | rfl | omega) (Nat.le_refl _) (by omega) (by unfold maxLen; omega) hs1 ?_; intro w2 us hown hz1 hz2 hext hsz)
 clear p0 p1;have hrow : RowN QZ 229 9 w.heap.size w2 w1.heap.size S S (3 * S) (fun _ => none) := RowN.make9 hown hz1 hz2;replace HX := hid (HX.out.trans hext);replace HP := hid (HP.out.ext hext);have hgo : w.heap.size < w1.heap.size := hpl;generalize w1.heap.size = go at hrow hs1 hsz hgo |-;have HR := hid hrow;have HGO : Hid (w.heap.size ≠ go) := hid (by omega);clear hrow hown hz1 hz2 hext hpl
 go_wp2_with fail
 go_loopg [4] nn (fun f iv wr => ∃ j : Nat, f = nn - j /\ j <= nn /\ iv = .int .i64 (j : Int) /\ Hid (RowN QZ 229 9 w.heap.size wr go S S (3 * S) (fun u => if u < j then some (0 : Rat) else none)) /\ Hid (Ext w wr) /\ Hid (Keeps [go] w2 wr))
 case atStart => exact ⟨0, by omega, by omega, rfl, hid (HR.out.congr (fun u _ => by rw [if_neg (by omega)])), HX, hid (Keeps.refl _ _)⟩
 case round =>
  clear HR HX;obtain ⟨j, rfl, hj, rfl, HR, HX, HK⟩ := hrel;replace HP := hid (HP.out.keeps HK.out (by have := HGO.out; simp; omega));have p0 := HP.out.cell 0;have p1 := HP.out.cell 1;simp only [List.getElem?_toArray, List.getElem?_cons_zero, List.getElem?_cons_succ] at p0 p1
  by_cases hlt : j < nn
  .
   have q1 : decide (j < nn) = true := decide_eq_true hlt;have q1b : decide ((j : Int) < (nn : Int)) = true := decide_eq_true (by omega);obtain ⟨ss, hss⟩ : ∃ ss, j / 3 = ss := ⟨_, rfl⟩;obtain ⟨kk, hkk⟩ : ∃ kk, j % 3 = kk := ⟨_, rfl⟩;have hkk3 : kk < 3 := by omega
   have hssS : ss < S := by have := HNN.out; omega
   have hpj : ss * 9 + kk * 3 = j * 3 := by omega
   have hj3 : j < 3 * S := by have := HNN.out; omega
   have HSS := hid hss;have HKK := hid hkk;have HPJ := hid hpj;clear hss hkk hpj
   go_upto_region 5 with (fail)
   refine sa go S j ss kk wr HSS.out HKK.out hssS (by omega) hkk3 (by omega) _ _ (by simp) ⟨rfl, rfl, trivial⟩ ?_;rintro W hX xv5 hv;simp only [EndK, ae, Try.f73, ab, Option.bind_some, Nat.reduceBEq, if_true, if_false, Bool.false_eq_true, Option.getD_some, List.drop_succ_cons, List.drop_zero];simp only [Act.put, List.setIfInBounds_toArray, List.set_cons_succ, List.set_cons_zero];replace HR := hid (HR.out.ext bG hX);replace HX := hid (HX.out.trans hX);replace HK := hid (HK.out.trans (Keeps.of_ext hX _));clear hX p0 p1;obtain ⟨s4, A4, l4, c4, B4, m4, k4, rfl⟩ := QZ.open hv;have HN := hid hv;clear hv;obtain ⟨s5, A5, l5, c5, B5, m5, k5, y0, y1, y2, _⟩ := HR.out.cells hj3 HPJ.out;have f0 := HR.out.free (ss * 9 + kk * 3);have f1 := HR.out.free (ss * 9 + kk * 3 + 1);have f2 := HR.out.free (ss * 9 + kk * 3 + 2);have hput := HR.out.put bG hj3 HPJ.out (hx := HN.out);have hkp : Keeps [go] W (((W.setCell ⟨go, ss * 9 + kk * 3, none⟩ (.bool s4)).setCell ⟨go, ss * 9 + kk * 3 + 1, none⟩ (.slice A4 l4 c4)).setCell ⟨go, ss * 9 + kk * 3 + 2, none⟩ (.slice B4 m4 k4)) := (((Keeps.refl [go] W).setCell (.inl (by simp)) _).setCell (.inl (by simp)) _).setCell (.inl (by simp)) _;have HPUT := hid hput;have HKP := hid hkp;have hgw : w.heap.size <= go := HR.out.low.1;have HX2 := hid (hkp.ext HX.out (fun g hg => by simp at hg; subst hg; exact hgw));clear hput hkp;have HK2 := hid (HK.out.trans HKP.out);go_wp2;go_roundg (nn - (j + 1))
   case rel =>
    refine ⟨j + 1, rfl, by omega, by go_num, hid (HPUT.out.congr (fun u _ => ?_)), HX2, HK2⟩
    by_cases e : u = j
    .
     rw [if_pos e, if_pos (by omega)]; rfl
    .
     rw [if_neg e]
     by_cases e2 : u < j
     .
      rw [if_pos e2, if_pos (by omega)]
     .
      rw [if_neg e2, if_neg (by omega)]
   case measure => omega
  .
   obtain rfl : nn = j := by omega
   have q1 : decide (nn < nn) = false := by simp
   have q1b : decide ((nn : Int) < (nn : Int)) = false := by simp
   have HR0 : Hid (RowN QZ 229 9 w.heap.size wr go S S (3 * S) (fun _ => some (0 : Rat))) := hid (HR.out.congr (fun u hu => by rw [if_pos (by have := HNN.out; omega)]));clear HR HK
   go_wp2_with fail
   refine (p8 S nn A n c ms _ (H.out.ext HX.out) HV.out HNN.out).mono ?_;rintro e w3 ⟨gm, ct, vs, cv, sl, Al, ll, cl, rfl, hT, hC, hI, hX⟩;have hs3 := HX.out.size;have hgol := HR0.out.low.2;obtain ⟨B1, hB1⟩ : ∃ B1, wr.heap.size = B1 := ⟨_, rfl⟩;rw [hB1] at hT hC hgol;replace HX := hid (HX.out.trans hX);replace HP := hid (HP.out.ext hX);replace HR0 := hid (HR0.out.ext bG hX);clear hX p0 p1
   go_upto_region 7 with (fail)
   have hXa : Ext w3 (w3.alloc (.cells #[.bool sl, .slice Al ll cl] 63)) := (Ext.refl _).alloc _;have hB := Blk.new w3 63 #[.bool sl, .slice Al ll cl];have hg3 : go < w3.heap.size := HR0.out.low.2;have hlowT := hT.tabL_low;replace HX := hid (HX.out.trans hXa);replace HP := hid (HP.out.ext hXa);replace HR0 := hid (HR0.out.ext bG hXa);have HT := hid (hT.ext cL hXa);replace hC := hC.ext hXa;replace hI := hI.ext hXa;generalize w3.heap.size = gl at hB hg3 hlowT |-;generalize w3.alloc _ = w4 at hB HX HP HR0 HT hC hI |-;have HBL0 := hid hB;obtain ⟨tp, htp⟩ : ∃ tp, (kR ms nn nn).length = tp := ⟨_, rfl⟩;have hC2 : w4.ownsRow B1 3 1 cv (kR ms nn nn).length ((kR ms nn nn).map fun j : Nat => .int .i64 (j : Int)) := hC;rw [htp] at hC2;obtain ⟨Ac, cc, rfl⟩ := ar hC2;have HC := hid hC;have HTP := hid htp;have htn : tp <= nn := by rw [<- htp]; exact pX HV.out.2.2.2 (Nat.le_refl _)
   have HLOWT := hid hlowT
   obtain ⟨hIs, hId⟩ : sl = decide (lR ms nn nn < 0) /\ Z16 w4 (.slice Al ll cl) (lR ms nn nn).natAbs := by
    obtain ⟨A', l', c', e, hz⟩ := hI;injection e with e;have e : [Value.bool sl, .slice Al ll cl] = [.bool (decide (lR ms nn nn < 0)), .slice A' l' c'] := by simpa using e
    simp only [List.cons.injEq, Value.bool.injEq, Value.slice.injEq] at e;obtain ⟨h1, ⟨rfl, rfl, rfl⟩, _⟩ := e;exact ⟨h1, hz⟩
   have HII := hid hI;have HLD0 := hid hId;clear hC hC2 htp hB hlowT hT hXa hI hId hIs
   go_wp2_with fail
   go_loopg [8] tp (fun f iv wr => ∃ i : Nat, f = tp - i /\ i <= tp /\ iv = .int .i64 (i : Int) /\ Hid (RowN QZ 229 9 w.heap.size wr go S S (3 * S) (fun u => some (if u ∈ (kR ms nn nn).take i then bD nn ms u else 0))) /\ Hid (Ext w wr) /\ Hid (Keeps [go] w4 wr))
   case atStart => exact ⟨0, by omega, by omega, rfl, hid (HR0.out.congr (fun u _ => by simp)), HX, hid (Keeps.refl _ _)⟩
   case round =>
    clear HX;obtain ⟨i, rfl, hi, rfl, HR, HX, HK⟩ := hrel
    by_cases hil : i < tp
    .
     have q1 : decide (i < tp) = true := decide_eq_true hil;have q1b : decide ((i : Int) < (tp : Int)) = true := decide_eq_true (by omega);have hC5 : ColR B1 w4 (.slice Ac (kR ms nn nn).length cc) (kR ms nn nn) := by rw [HTP.out]; exact HC.out
     obtain ⟨j, hj⟩ : ∃ j, (kR ms nn nn)[i]? = some j := ⟨_, List.getElem?_eq_getElem (by rw [HTP.out]; exact hil)⟩;obtain ⟨gc, rfl, hgc, hcell⟩ := hC5.get hj;obtain ⟨hin, hjn, hsol⟩ := lY HV.out.2.2.2 hj;have HJ := hid hj;have HSOL := hid hsol;have HCC := hid hcell
     have hgcg : gc ≠ go := by
      have h1 : w4.ownsRow B1 3 1 (.slice (some ⟨gc, 0, none⟩) tp cc) tp ((kR ms nn nn).map fun j : Nat => .int .i64 (j : Int)) := by have := HC.out; unfold ColR at this; rw [HTP.out] at this; exact this
      obtain ⟨_, ⟨us, ho, _⟩, _⟩ := HR0.out
      rcases du h1 ho (by decide) with q | q
      .
       simp [Value.ownBlock] at q
      .
       simpa [Value.ownBlock] using q
     have hw4 := HK.out.size;have hni : ∀ g ∈ [go], NoInts w4 g := fun g hg => by simp at hg; subst hg; exact HR0.out.ni
     have hTK := HT.out.keeps cL HK.out hni (fun g hg => by
      simp at hg;subst hg;exact ⟨fun e => by have h1 := (HLOWT.out gm List.mem_cons_self).1; omega, fun v hv e => by have h1 := (HLOWT.out _ (List.mem_cons_of_mem _ (List.mem_filterMap.2 ⟨v, hv, e⟩))).1; omega⟩)
     obtain ⟨ga, ca, ra, tca, hva, hoa, hra, ha1, ha2, hat, ha3, ha4⟩ := hTK.row (by decide) (Nat.succ_pos _) hin;obtain ⟨sx, Ax, lx, cx, x0, x1, hx⟩ := hra.two (j := nn) (by omega);replace x0 := af hoa x0;replace x1 := af hoa x1;have HBL := hid (HBL0.out.keeps HK.out (by simp; omega));have HLI := hid (IntZ.keepsNI HII.out HK.out hni);have HLD : Hid (Z16 wr (.slice Al ll cl) (lR ms nn nn).natAbs) := hid (NatV.keepsNI HLD0.out HK.out hni);have HXI0 := hid hx;obtain ⟨ss, hss⟩ : ∃ ss, j / 3 = ss := ⟨_, rfl⟩;obtain ⟨kk, hkk⟩ : ∃ kk, j % 3 = kk := ⟨_, rfl⟩;have hkk3 : kk < 3 := by omega
     have hssS : ss < S := by have := HNN.out; omega
     have hpj : ss * 9 + kk * 3 = j * 3 := by omega
     have hj3 : j < 3 * S := by have := HNN.out; omega
     have HSS := hid hss;have HKK := hid hkk;have HPJ := hid hpj;have HFX : Hid (Fit 65536 (zR ms nn nn i nn).natAbs 106) := hid (kN HV.out.2.2.2 HV.out.2.2.1 hNb (Nat.le_refl _) hin (Nat.le_refl _));have HFL : Hid (Fit 65536 (lR ms nn nn).natAbs 106) := hid (pV HV.out.2.2.2 HV.out.2.2.1 hNb (Nat.le_refl _));have HL0 : Hid (0 < (lR ms nn nn).natAbs) := hid (by have := pW (n := nn) HV.out.2.2.2 (Nat.le_refl nn); omega);have HGCG : Hid (gc ≠ go) := hid hgcg;clear hC5 hj hsol hcell hgcg hni hTK hva hoa hra ha1 ha2 hat ha3 ha4 hx hss hkk hpj;have p0 := (HP.out.keeps HK.out (by have := HGO.out; simp; omega)).cell 0;have p1 := (HP.out.keeps HK.out (by have := HGO.out; simp; omega)).cell 1;simp only [List.getElem?_toArray, List.getElem?_cons_zero, List.getElem?_cons_succ] at p0 p1
     go_upto_region 10 with (fail)
     refine p9 gm ct nn i ga ca w.heap.size S sx Ax lx cx wr tca p0 x0 x1 hqN hin (by omega) (by omega) _ _ (by simp) rfl rfl rfl ?_;rintro xv0 xv1 xv2 xv3 xv4 xv5 xv6 xv7 xv8 xv9 xv10 W rfl rfl rfl rfl rfl rfl rfl rfl rfl ⟨gx, rfl, hgx, kB⟩ hX;simp only [ae, Try.f73, ab, Option.bind_some, Nat.reduceBEq, if_true, if_false, Bool.false_eq_true, Option.getD_some, List.drop_succ_cons, List.drop_zero];simp only [Act.put, List.setIfInBounds_toArray, List.set_cons_succ, List.set_cons_zero];have HBX := hid kB;have HGXW : Hid (w.heap.size <= gx) := hid (by have := HX.out.size; omega);have HGXW4 : Hid (w4.heap.size <= gx) := hid (by have := HK.out.size; omega);have HGXL : Hid (gl ≠ gx) := hid (by have := HBL.out.lt; omega);have HGXG : Hid (go ≠ gx) := hid (by have := HR.out.low.2; omega);replace HXI0 := hid (HXI0.out.ext hX);replace HBL := hid (HBL.out.ext hX);replace HLI := hid (HLI.out.ext hX);replace HLD := hid (HLD.out.ext hX);replace HR := hid (HR.out.ext bG hX);replace HX := hid (HX.out.trans hX);replace HK := hid (HK.out.trans (Keeps.of_ext hX _));clear kB hX p0 p1 tca x0 x1;have kl0 := HBL.out.cell 0;have kl1 := HBL.out.cell 1;simp only [List.getElem?_toArray, List.getElem?_cons_zero, List.getElem?_cons_succ] at kl0 kl1
     go_wp2_with fail
     refine (eL _ (lR ms nn nn) _ HLI.out).mono ?_;rintro e w6 ⟨rfl, hX⟩;replace HXI0 := hid (HXI0.out.ext hX);replace HBX := hid (HBX.out.ext hX);replace HBL := hid (HBL.out.ext hX);replace HLI := hid (HLI.out.ext hX);replace HLD := hid (HLD.out.ext hX);replace HR := hid (HR.out.ext bG hX);replace HX := hid (HX.out.trans hX);replace HK := hid (HK.out.trans (Keeps.of_ext hX _));clear hX kl0 kl1
     by_cases hneg : lR ms nn nn < 0
     .
      have hsg : mL (lR ms nn nn) = -1 := by simp [mL, hneg]
      rw [hsg];clear hsg;have kx0 := HBX.out.cell 0;have kx1 := HBX.out.cell 1;simp only [List.getElem?_toArray, List.getElem?_cons_zero, List.getElem?_cons_succ] at kx0 kx1
      go_wp2_with fail
      refine (dW _ (zR ms nn nn i nn) _ HXI0.out).mono ?_;rintro e w7 ⟨v7, rfl, hv7, hX⟩;obtain ⟨Ay, ly, cy, rfl, _⟩ := IntZ.open hv7;obtain ⟨sy, hsy⟩ : ∃ s, decide (-(zR ms nn nn i nn) < 0) = s := ⟨_, rfl⟩;rw [hsy] at hv7 |-;clear hsy kx0 kx1;replace HBX := hid (HBX.out.ext hX);replace HBL := hid (HBL.out.ext hX);replace HLD := hid (HLD.out.ext hX);replace HR := hid (HR.out.ext bG hX);replace HX := hid (HX.out.trans hX);replace HK := hid (HK.out.trans (Keeps.of_ext hX _));clear hX;have kx0 := HBX.out.cell 0;have kx1 := HBX.out.cell 1;have fx0 := HBX.out.free 0;have fx1 := HBX.out.free 1;simp only [List.getElem?_toArray, List.getElem?_cons_zero, List.getElem?_cons_succ] at kx0 kx1;have hkx : Keeps [gx] w7 ((w7.setCell ⟨gx, 0, none⟩ (.bool sy)).setCell ⟨gx, 1, none⟩ (.slice Ay ly cy)) := ((Keeps.refl [gx] w7).setCell (.inl (by simp)) _).setCell (.inl (by simp)) _;have hnx : ∀ g ∈ [gx], NoInts w7 g := fun g hg => by simp at hg; subst hg; exact NoInts.two HBX.out
      have HXI := hid (IntZ.keepsNI hv7 hkx hnx);have HBX2 : Hid (Blk ((w7.setCell ⟨gx, 0, none⟩ (.bool sy)).setCell ⟨gx, 1, none⟩ (.slice Ay ly cy)) gx 63 #[.bool sy, .slice Ay ly cy]) := hid (by simpa using (HBX.out.set 0 (.bool sy)).set 1 (.slice Ay ly cy));have hgoL := HR.out.low.1;have hgl2 := HBL.out.lt;have HBL2 := hid (HBL.out.keeps hkx (by have := HGXL.out; simp; omega));have HLD2 : Hid (Z16 _ (.slice Al ll cl) (lR ms nn nn).natAbs) := hid (NatV.keepsNI HLD.out hkx hnx);have HR2 := hid (HR.out.keeps bG hkx hnx (by have := HGXG.out; simp; omega));have hxsz := HX.out.size;have HX2 := hid (hkx.ext HX.out (fun g hg => by simp at hg; subst hg; have := HGXW.out; omega));have HK2 := hid (HK.out.setCell (p := ⟨gx, 0, none⟩) (.inr (by have := HGXW4.out; simp only; omega)) (.bool sy));have HK3 := hid (HK2.out.setCell (p := ⟨gx, 1, none⟩) (.inr (by have := HGXW4.out; simp only; omega)) (.slice Ay ly cy));clear HBX HBL HLD HR HX HK HK2 hnx hkx hv7 HXI0 HLI
      go_upto_region 13 with (fail)
      clear kx0 kx1 fx0 fx1;generalize (w7.setCell _ _).setCell _ _ = w8 at HXI HBX2 HBL2 HLD2 HR2 HX2 HK3 |-;have HBX := HBX2;have HBL := HBL2;have HLD := HLD2;have HR := HR2;have HX := HX2;have HK := HK3;clear HBX2 HBL2 HLD2 HR2 HX2 HK3;have p0 := (HP.out.keeps HK.out (by have := HGO.out; simp; omega)).cell 0;have p1 := (HP.out.keeps HK.out (by have := HGO.out; simp; omega)).cell 1;simp only [List.getElem?_toArray, List.getElem?_cons_zero, List.getElem?_cons_succ] at p0 p1;have kx0 := HBX.out.cell 0;have kx1 := HBX.out.cell 1;have kl1 := HBL.out.cell 1;simp only [List.getElem?_toArray, List.getElem?_cons_zero, List.getElem?_cons_succ] at kx0 kx1 kl1;have xc := fw HK.out HCC.out (by have := HGO.out; simp; omega)
      go_upto_region 13 with (fail)
      refine jR go S gc tp cc i j ss kk gx gl (lR ms nn nn).natAbs (-(zR ms nn nn i nn)) sy Ay ly cy Al ll cl w8 HSS.out HKK.out hssS (by omega) hkk3 (by omega) hil xc kx0 kx1 kl1 HXI.out HLD.out (by rw [Int.natAbs_neg]; exact HFX.out) HFL.out HL0.out _ _ (by simp) ⟨rfl, rfl, rfl, rfl, rfl, trivial⟩ ?_;rintro W hX xv15 hv;simp only [EndK, ae, Try.f73, ab, Option.bind_some, Nat.reduceBEq, if_true, if_false, Bool.false_eq_true, Option.getD_some, List.drop_succ_cons, List.drop_zero];simp only [Act.put, List.setIfInBounds_toArray, List.set_cons_succ, List.set_cons_zero];rw [gE HL0.out] at hv;replace HR := hid (HR.out.ext bG hX);replace HX := hid (HX.out.trans hX);replace HK := hid (HK.out.trans (Keeps.of_ext hX _));clear hX kx0 kx1 kl1 xc p0 p1;obtain ⟨s4, A4, l4, c4, B4, m4, k4, rfl⟩ := QZ.open hv;have HN := hid hv;clear hv;obtain ⟨s5, A5, l5, c5, B5, m5, k5, y0, y1, y2, _⟩ := HR.out.cells hj3 HPJ.out;have f0 := HR.out.free (ss * 9 + kk * 3);have f1 := HR.out.free (ss * 9 + kk * 3 + 1);have f2 := HR.out.free (ss * 9 + kk * 3 + 2);have hput := HR.out.put bG hj3 HPJ.out (hx := HN.out);have hkp : Keeps [go] W (((W.setCell ⟨go, ss * 9 + kk * 3, none⟩ (.bool s4)).setCell ⟨go, ss * 9 + kk * 3 + 1, none⟩ (.slice A4 l4 c4)).setCell ⟨go, ss * 9 + kk * 3 + 2, none⟩ (.slice B4 m4 k4)) := (((Keeps.refl [go] W).setCell (.inl (by simp)) _).setCell (.inl (by simp)) _).setCell (.inl (by simp)) _;have HPUT := hid hput;have HKP := hid hkp;have hgw : w.heap.size <= go := HR.out.low.1;have HX2 := hid (hkp.ext HX.out (fun g hg => by simp at hg; subst hg; exact hgw));clear hput hkp;have HK2 := hid (HK.out.trans HKP.out);go_wp2;go_roundg (tp - (i + 1))
      case rel =>
       refine ⟨i + 1, rfl, by omega, by go_num, hid (HPUT.out.congr (fun u _ => ?_)), HX2, HK2⟩;rw [List.take_add_one, HJ.out]
       by_cases e : u = j
       .
        subst e;rw [if_pos rfl, if_pos (by simp), <- HSOL.out, if_pos hneg]
       .
        rw [if_neg e]
        by_cases e2 : u ∈ (kR ms nn nn).take i
        .
         rw [if_pos e2, if_pos (by simp [e2])]
        .
         rw [if_neg e2, if_neg (by simp [e, e2])]
      case measure => omega
     .
      obtain ⟨sv, hsv, hsv2⟩ : ∃ sv, mL (lR ms nn nn) = sv /\ decide (sv < 0) = false := ⟨_, rfl, by unfold mL; rw [if_neg hneg]; split <;> rfl⟩;rw [hsv];clear hsv;have HXI := HXI0;clear HXI0 HLI
      go_upto_region 13 with (fail)
      obtain ⟨w8, hw8⟩ : ∃ w8, w8 = w6 := ⟨_, rfl⟩;subst hw8;have p0 := (HP.out.keeps HK.out (by have := HGO.out; simp; omega)).cell 0;have p1 := (HP.out.keeps HK.out (by have := HGO.out; simp; omega)).cell 1;simp only [List.getElem?_toArray, List.getElem?_cons_zero, List.getElem?_cons_succ] at p0 p1;have kx0 := HBX.out.cell 0;have kx1 := HBX.out.cell 1;have kl1 := HBL.out.cell 1;simp only [List.getElem?_toArray, List.getElem?_cons_zero, List.getElem?_cons_succ] at kx0 kx1 kl1;have xc := fw HK.out HCC.out (by have := HGO.out; simp; omega)
      go_upto_region 13 with (fail)
      refine jR go S gc tp cc i j ss kk gx gl (lR ms nn nn).natAbs (zR ms nn nn i nn) sx Ax lx cx Al ll cl w8 HSS.out HKK.out hssS (by omega) hkk3 (by omega) hil xc kx0 kx1 kl1 HXI.out HLD.out HFX.out HFL.out HL0.out _ _ (by simp) ⟨rfl, rfl, rfl, rfl, rfl, trivial⟩ ?_;rintro W hX xv15 hv;simp only [EndK, ae, Try.f73, ab, Option.bind_some, Nat.reduceBEq, if_true, if_false, Bool.false_eq_true, Option.getD_some, List.drop_succ_cons, List.drop_zero];simp only [Act.put, List.setIfInBounds_toArray, List.set_cons_succ, List.set_cons_zero];rw [gE HL0.out] at hv;replace HR := hid (HR.out.ext bG hX);replace HX := hid (HX.out.trans hX);replace HK := hid (HK.out.trans (Keeps.of_ext hX _));clear hX kx0 kx1 kl1 xc p0 p1;obtain ⟨s4, A4, l4, c4, B4, m4, k4, rfl⟩ := QZ.open hv;have HN := hid hv;clear hv;obtain ⟨s5, A5, l5, c5, B5, m5, k5, y0, y1, y2, _⟩ := HR.out.cells hj3 HPJ.out;have f0 := HR.out.free (ss * 9 + kk * 3);have f1 := HR.out.free (ss * 9 + kk * 3 + 1);have f2 := HR.out.free (ss * 9 + kk * 3 + 2);have hput := HR.out.put bG hj3 HPJ.out (hx := HN.out);have hkp : Keeps [go] W (((W.setCell ⟨go, ss * 9 + kk * 3, none⟩ (.bool s4)).setCell ⟨go, ss * 9 + kk * 3 + 1, none⟩ (.slice A4 l4 c4)).setCell ⟨go, ss * 9 + kk * 3 + 2, none⟩ (.slice B4 m4 k4)) := (((Keeps.refl [go] W).setCell (.inl (by simp)) _).setCell (.inl (by simp)) _).setCell (.inl (by simp)) _;have HPUT := hid hput;have HKP := hid hkp;have hgw : w.heap.size <= go := HR.out.low.1;have HX2 := hid (hkp.ext HX.out (fun g hg => by simp at hg; subst hg; exact hgw));clear hput hkp;have HK2 := hid (HK.out.trans HKP.out);go_wp2;go_roundg (tp - (i + 1))
      case rel =>
       refine ⟨i + 1, rfl, by omega, by go_num, hid (HPUT.out.congr (fun u _ => ?_)), HX2, HK2⟩;rw [List.take_add_one, HJ.out]
       by_cases e : u = j
       .
        subst e;rw [if_pos rfl, if_pos (by simp), <- HSOL.out, if_neg (by omega)]
       .
        rw [if_neg e]
        by_cases e2 : u ∈ (kR ms nn nn).take i
        .
         rw [if_pos e2, if_pos (by simp [e2])]
        .
         rw [if_neg e2, if_neg (by simp [e, e2])]
      case measure => omega
    .
     obtain rfl : i = tp := by omega
     have q1 : decide (i < i) = false := by simp
     have q1b : decide ((i : Int) < (i : Int)) = false := by simp
     have HF : Hid (SRow w.heap.size wr (.slice (some ⟨go, 0, none⟩) S S) S (bD nn ms)) := hid (RowN.srow (HR.out.congr (h := fun u => some (bD nn ms u)) (fun u hu => by
      rw [List.take_of_length_le (by rw [HTP.out]; omega)]
      by_cases e : u ∈ kR ms nn nn
      .
       rw [if_pos e]
      .
       rw [if_neg e, jQ HV.out.2.2.2 (by have := HNN.out; omega) e])))
     go_wp2;go_ret
     exact ⟨go, rfl, HF.out, HX.out⟩
theorem ec {S L : Nat} {u : Nat -> Rat} (hf : dP S u L) (hS8 : S <= 8) {ms : List Mt} (hm : ∀ m ∈ ms, VM S m) {k : Nat} (_hk : k <= ms.length) : FitR (aq (3 * S) (ms.take k) u) (4 + k * (48 * (L + 5) + 13)) := by
 induction k with
 | zero =>
  have h := aT (n := 0) (by omega) (by omega);rw [show aq (3 * S) (ms.take 0) u = ((0 : Int) : Rat) by rw [List.take_zero]; rfl];exact h.mono (by omega)
 | succ k ih =>
  have hx : ms[k]? = some ms[k] := List.getElem?_eq_getElem (by omega);rw [dE hx];exact (gk (ih (by omega)) (fv (hm _ (List.getElem_mem _)) hf hS8)).mono (by have e : (k + 1) * (48 * (L + 5) + 13) = k * (48 * (L + 5) + 13) + (48 * (L + 5) + 13) := Nat.succ_mul _ _; omega)
theorem sb (gs gp gt ot ct S gm om n c kk L M : Nat) (ma mb mx my mz md mw : Int) (un : Nat -> Rat) (sp : Bool) (Ap Bp : Option Addr) (lp cp mp kp : Nat) (q : Rat) (w : World) (x0 : w.cell? ⟨gs, 0, none⟩ = some (.bool sp)) (x1 : w.cell? ⟨gs, 1, none⟩ = some (.slice Ap lp cp)) (x2 : w.cell? ⟨gs, 2, none⟩ = some (.slice Bp mp kp)) (v0 : w.cell? ⟨gm, om + kk * 7, none⟩ = some (.int .i64 (ma))) (v1 : w.cell? ⟨gm, om + kk * 7 + 1, none⟩ = some (.int .i64 (mb))) (v2 : w.cell? ⟨gm, om + kk * 7 + 2, none⟩ = some (.int .i64 (mx))) (v3 : w.cell? ⟨gm, om + kk * 7 + 3, none⟩ = some (.int .i64 (my))) (v4 : w.cell? ⟨gm, om + kk * 7 + 4, none⟩ = some (.int .i64 (mz))) (v5 : w.cell? ⟨gm, om + kk * 7 + 5, none⟩ = some (.int .i64 (md))) (v6 : w.cell? ⟨gm, om + kk * 7 + 6, none⟩ = some (.int .i64 (mw))) (b0 : w.cell? ⟨gp, 0, none⟩ = some (.int .i64 (S : Int))) (b1 : w.cell? ⟨gp, 1, none⟩ = some (.slice (some ⟨gm, om, none⟩) n c)) (_hkn : kk < n) (_hkn2 : (kk : Int) < (n : Int)) (hS8 : S <= 8) (hS : ShP QZ w gt ot S un) (hf : dP S un L) (_hL : L <= 110) (hm : VM S ⟨ma, mb, mx, my, mz, md, mw⟩) (hgt : gt < w.heap.size) (hx : QZ w (.agg #[.bool sp, .slice Ap lp cp, .slice Bp mp kp]) q) (fq : FitR q M) (_hM : M <= 355000) : aJ Try.prog Try.f62 5 10 25 w [15, 16, 17, 18, 19, 20, 21, 22, 23, 24] [.c (.agg #[.bool sp, .slice Ap lp cp, .slice Bp mp kp]), .c (.agg #[.int .i64 (S : Int), .slice (some ⟨gm, om, none⟩) n c]), .c (.slice (some ⟨gt, ot, none⟩) S ct), .c (.pointer (some ⟨gp, 1, none⟩)), .c (.slice (some ⟨gm, om, none⟩) n c), .c (.int .i64 (kk : Int)), .c (.pointer (some ⟨gm, om + kk * 7, none⟩)), .c (.agg #[.int .i64 (ma), .int .i64 (mb), .int .i64 (mx), .int .i64 (my), .int .i64 (mz), .int .i64 (md), .int .i64 (mw)]), .p fun v W => QZ W v (cG (3 * S) un ⟨ma, mb, mx, my, mz, md, mw⟩), .p fun v W => QZ W v (q + cG (3 * S) un ⟨ma, mb, mx, my, mz, md, mw⟩)] [(1, .slice (some ⟨gt, ot, none⟩) S ct), (2, .pointer (some ⟨gp, 0, none⟩)), (5, .pointer (some ⟨gs, 0, none⟩)), (6, .int .i64 (kk : Int))] := by
 refine aM [[], [], [], [], [3], [], [4, 5], [6], [1, 2, 7], [0, 8]] (by kernel_rfl) (by kernel_rfl) rfl ⟨by intro v W W' h hX; exact QZ.ext h hX, by intro v W W' h hX; exact QZ.ext h hX, trivial⟩ ?_;simp only [ae, Try.f62, ab, Option.bind_some, Nat.reduceBEq, if_true, if_false, Bool.false_eq_true, Option.getD_some];simp only [List.take_succ_cons, List.take_zero]
 repeat' first | refine ⟨?_, ?_⟩ | fail
 all_goals first | (intro us W b hJ K hK0 hK Qz; simp only [aF, am, ao, List.getD_cons_succ, List.getD_cons_zero]) | exact True.intro
 all_goals try (intros; have q0 := Ext.cell hJ x0; have q1 := Ext.cell hJ x1; have q2 := Ext.cell hJ x2; have q3 := Ext.cell hJ b0; have q4 := Ext.cell hJ b1; have q5 := Ext.cell hJ v0; have q6 := Ext.cell hJ v1; have q7 := Ext.cell hJ v2; have q8 := Ext.cell hJ v3; have q9 := Ext.cell hJ v4; have q10 := Ext.cell hJ v5; have q11 := Ext.cell hJ v6; go_simp; exact hK0 _ rfl)
 .
  intro e16 e17 e22 e1 e2 e5 e6;go_simp;refine (jI (m := ⟨ma, mb, mx, my, mz, md, mw⟩) (S := S) (n := n) (c := c) (A := some ⟨gm, om, none⟩) (ct := ct) hS8 (hS.ext bE hJ) hf (by omega) hm (Nat.lt_of_lt_of_le hgt hJ.size)).mono ?_;rintro e w' ⟨v, rfl, hv, hX⟩;exact hK _ _ hv hX
 .
  intro e15 e23 d8 e1 e2 e5 e6;go_simp;refine (fV _ _ _ _ M (12 + 48 * (L + 5)) W (hx.ext hJ) d8 fq (fv hm hf hS8) (by omega)).mono ?_;rintro e w' ⟨v, rfl, hv, hX⟩;exact hK _ _ hv hX
theorem jS (S n c gt ot ct L : Nat) (A : Option Addr) (ms : List Mt) (un : Nat -> Rat) (w : World) (h : MsAt w A n ms) (hV : VP S ms) (hS : ShP QZ w gt ot S un) (hf : dP S un L) (_hL : L <= 110) (hgt : gt < w.heap.size) :
  Calls Try.prog 62 #[.agg #[.int .i64 (S : Int), .slice A n c], .slice (some ⟨gt, ot, none⟩) S ct] w (RetQz w (aq (3 * S) ms un)) := by
 have HX := hid (((Ext.refl w).alloc (.cells #[.int .i64 (S : Int), .slice A n c] 76)).alloc (.cells #[.bool false, .slice none 0 0, .slice none 0 0] 65));have HP : Hid (Blk ((w.alloc (.cells #[.int .i64 (S : Int), .slice A n c] 76)).alloc (.cells #[.bool false, .slice none 0 0, .slice none 0 0] 65)) w.heap.size 76 #[.int .i64 (S : Int), .slice A n c]) := hid (Blk.alloc (Blk.new w _ _) _);have HR : Hid (Blk ((w.alloc (.cells #[.int .i64 (S : Int), .slice A n c] 76)).alloc (.cells #[.bool false, .slice none 0 0, .slice none 0 0] 65)) (w.heap.size + 1) 65 #[.bool false, .slice none 0 0, .slice none 0 0]) := hid (Blk.at_ (by simp));have hS8 : S <= 8 := by have := hV.2.1; omega
 have hn64 : n <= 64 := by have := hV.2.2.1; have := h.1; omega
 have H := hid h;have HVV := hid hV;have HS := hid hS;have HF := hid hf;clear h hV hS hf;unfold RetQz;go_enter Try.func62, Try.ntmps62
 go_upto_region 1 with (fail)
 generalize (w.alloc _).alloc _ = w1 at HX HP HR |-
 go_wp2_with fail
 refine (bN 0 _ (by omega) (by omega)).mono ?_;rintro e w2 ⟨v, rfl, hv, hX2⟩;replace HP := hid (HP.out.ext hX2);replace HR := hid (HR.out.ext hX2);replace HX := hid (HX.out.trans hX2);clear hX2;obtain ⟨s0, A0, l0, c0, B0, m0, k0, rfl⟩ := QZ.open hv
 go_upto_region 2 with (fail)
 have hX2 : Ext w2 (w2.alloc (.cells #[.bool s0, .slice A0 l0 c0, .slice B0 m0 k0] 65)) := (Ext.refl _).alloc _;have hgs : w.heap.size + 1 < w2.heap.size := HR.out.lt;have HB : Hid (QB (w2.alloc (.cells #[.bool s0, .slice A0 l0 c0, .slice B0 m0 k0] 65)) w2.heap.size (aq (3 * S) (ms.take 0) un)) := hid (QB.new hv);clear hv;generalize w2.heap.size = gs at hgs HB |-;generalize w2.alloc _ = w3 at hX2 HB |-;replace HP := hid (HP.out.ext hX2);replace HR := hid (HR.out.ext hX2);replace HX := hid (HX.out.trans hX2);clear hX2
 go_wp2_with fail
 go_loopg [6] n (fun fu iv W => ∃ k : Nat, fu = n - k /\ k <= n /\ iv = .int .i64 (k : Int) /\ Hid (QB W gs (aq (3 * S) (ms.take k) un)) /\ Hid (Blk W w.heap.size 76 #[.int .i64 (S : Int), .slice A n c]) /\ Hid (Blk W (w.heap.size + 1) 65 #[.bool false, .slice none 0 0, .slice none 0 0]) /\ Hid (Ext w W))
 case atStart => exact ⟨0, by omega, by omega, rfl, HB, HP, HR, HX⟩
 case round =>
  clear HB HP HR HX;obtain ⟨k, rfl, hk, rfl, HB, HP, HR, HX⟩ := hrel;have p0 := HP.out.cell 0;have p1 := HP.out.cell 1;simp only [List.getElem?_toArray, List.getElem?_cons_zero, List.getElem?_cons_succ] at p0 p1
  by_cases hkn : k < n
  .
   have q1 : decide ((k : Int) < (n : Int)) = true := decide_eq_true (by omega);have q1b : decide (k < n) = true := decide_eq_true hkn;obtain ⟨gm, om, ⟨a, b, x, y, z, dd, ww⟩, rfl, hm, hmem, y0, y1, y2, y3, y4, y5, y6⟩ := (H.out.ext HX.out).get hkn;have hvm := HVV.out.2.2.2 _ hmem;have HN : Hid (aq (3 * S) (ms.take (k + 1)) un = aq (3 * S) (ms.take k) un + cG (3 * S) un ⟨a, b, x, y, z, dd, ww⟩) := hid (dE hm);have HFQ := hid (ec HF.out hS8 HVV.out.2.2.2 (k := k) (by rw [H.out.1]; omega));clear hm hmem;obtain ⟨sp, Ap, lp, cp, Bp, mp, kp, x0, x1, x2, hx⟩ := HB.out.cells
   go_upto_region 5 with (fail)
   refine sb gs w.heap.size gt ot ct S gm om n c k L (4 + k * (48 * (L + 5) + 13)) a b x y z dd ww un sp Ap Bp lp cp mp kp _ wr x0 x1 x2 y0 y1 y2 y3 y4 y5 y6 p0 p1 hkn (by omega) hS8 (HS.out.ext bE HX.out) HF.out (by omega) hvm (Nat.lt_of_lt_of_le hgt HX.out.size) hx HFQ.out (by have : k * (48 * (L + 5) + 13) <= 64 * (48 * (L + 5) + 13) := Nat.mul_le_mul_right _ (by omega); omega) _ _ (by simp) ⟨rfl, rfl, rfl, rfl, trivial⟩ ?_;rintro w5 hX2 xv8 _ xv9 hv;simp only [EndK, ae, Try.f62, ab, Option.bind_some, Nat.reduceBEq, if_true, if_false, Bool.false_eq_true, Option.getD_some, List.drop_succ_cons, List.drop_zero];simp only [Act.put, List.setIfInBounds_toArray, List.set_cons_succ, List.set_cons_zero];replace HB := hid (HB.out.ext hX2);replace HP := hid (HP.out.ext hX2);replace HR := hid (HR.out.ext hX2);replace HX := hid (HX.out.trans hX2);clear hX2;clear x0 x1 x2 hx y0 y1 y2 y3 y4 y5 y6 p0 p1 hvm HFQ;obtain ⟨s4, A4, l4, c4, B4, m4, k4, rfl⟩ := QZ.open hv;have f0 := HB.out.free 0;have f1 := HB.out.free 1;have f2 := HB.out.free 2;obtain ⟨s5, A5, l5, c5, B5, m5, k5, z0, z1, z2, _⟩ := HB.out.cells;have HB2 := hid (HB.out.put hv);have HP2 := hid (HP.out.far3 (g := gs) (by omega) (.bool s4) (.slice A4 l4 c4) (.slice B4 m4 k4));have HR2 := hid (HR.out.far3 (g := gs) (by omega) (.bool s4) (.slice A4 l4 c4) (.slice B4 m4 k4));have HX2 := hid (Ext.boxed HX.out (g := gs) (by omega) (.bool s4) (.slice A4 l4 c4) (.slice B4 m4 k4));clear hv HB HP HR HX;go_wp2;go_roundg (n - (k + 1))
   case rel => exact ⟨k + 1, by omega, by omega, by go_num, hid (by rw [HN.out]; exact HB2.out), HP2, HR2, HX2⟩
   case measure => omega
  obtain rfl : k = n := by omega
  have q1 : decide ((k : Int) < (k : Int)) = false := by simp
  have q1b : decide (k < k) = false := by simp
  have HE : Hid (ms.take k = ms) := hid (List.take_of_length_le (by rw [H.out.1]; exact Nat.le_refl _));rw [HE.out] at HB;obtain ⟨sp, Ap, lp, cp, Bp, mp, kp, x0, x1, x2, hx⟩ := HB.out.cells;obtain ⟨r0, r1, r2, f0, f1, f2⟩ := HR.out.three;have HXX := hid hx;clear hx;go_wp2;refine bodyPost_ret (v := .agg #[.bool sp, .slice Ap lp cp, .slice Bp mp kp]) (by simp [results, Try.results62, go_sem, *]) rfl ?_;exact ⟨_, rfl, HXX.out.past (NoInts.three HR.out), Ext.boxed HX.out (by omega) _ _ _⟩
theorem jT {S : Nat} {ms : List Mt} (hV : VP S ms) : dP S (bD (3 * S) ms) 106 := by
 intro j hj;have hS8 : S <= 8 := by have := hV.2.1; omega
 by_cases hk : j ∈ kR ms (3 * S) (3 * S)
 .
  obtain ⟨i, hi⟩ := List.mem_iff_getElem?.1 hk;obtain ⟨h1, h2, h3⟩ := lY hV.2.2.2 hi;have f1 := kN (n := 3 * S) (j := 3 * S) hV.2.2.2 hV.2.2.1 (by omega) (Nat.le_refl _) h1 (Nat.le_refl _);have f2 := pV (n := 3 * S) (j := 3 * S) hV.2.2.2 hV.2.2.1 (by omega) (Nat.le_refl _);have hz := pW (n := 3 * S) (j := 3 * S) hV.2.2.2 (Nat.le_refl _);have h0 : 0 < (lR ms (3 * S) (3 * S)).natAbs := by omega
  rw [<- h3, <- gE h0];refine fO h0 ?_ f2;split
  .
   rw [Int.natAbs_neg]; exact f1
  .
   exact f1
 .
  rw [jQ hV.2.2.2 hj hk];have h := aT (n := 0) (by omega) (by omega);exact FitR.mono (q := ((0 : Int) : Rat)) h (by omega)
theorem kZ {S : Int} {ms : List Mt} (hm : ∀ m ∈ ms, VM S m) {n : Nat} (hn : n <= 24) {u : Nat -> Rat} (ht : ka n u) : FitQW (br n u ms).2 := by
 cases h : (br n u ms).1 with
 | none =>
  have := (jf n u ms).1 h;subst this;show FitQW 0;exact FitQW.of4 (gU 3) (by omega)
 | some a =>
  rcases ms with _ | ⟨m0, l⟩
  .
   cases h
  .
   obtain ⟨a', h1, h2, h3⟩ := et n u (m0 :: l) l.length;show FitQW (bU n u (m0 :: l) (l.length + 1)).2;rw [h3];exact rF (hm _ (o6 (by simp; omega))) hn ht
/-- Where the least aq is reached. -/
theorem nV {S : Nat} {ms : List Mt} (hV : VP S ms) (u : Nat -> Rat) : (bW (aq (3 * S) ms u - aq (3 * S) ms (bD (3 * S) ms)) == 0) = ix (3 * S) ms u := by
 have h := mY (u := u) hV.2.2.2 (mZ hV.2.2.2 (3 * S))
 rcases hb : ix (3 * S) ms u with _ | _
 .
  apply beq_false_of_ne;intro e;have e2 := dr.1 e;have := ez.2 (h.1 (by grind));rw [hb] at this
  cases this
 .
  rw [beq_iff_eq];exact dr.2 (by have := h.2 (ez.1 hb); grind)
/-- What the reference's Solve returns. -/
def SolV (w : World) (v : Value) (S : Nat) (ms : List Mt) : Prop := ∃ go, v = .slice (some ⟨go, 0, none⟩) S S /\ go < w.heap.size /\ ShP QZ w go 0 S (bD (3 * S) ms)
theorem SolV.ext {w w' : World} {v : Value} {S : Nat} {ms : List Mt} (h : SolV w v S ms) (he : Ext w w') : SolV w' v S ms := by
 obtain ⟨go, h1, h2, h3⟩ := h;exact ⟨go, h1, Nat.lt_of_lt_of_le h2 he.size, h3.ext bE he⟩
theorem k6 {S n c : Nat} {A : Option Addr} {ms : List Mt} {w : World} (h : MsAt w A n ms) (hv : VP S ms) :
  Calls Try.prog 73 #[.agg #[.int .i64 (S : Int), .slice A n c]] w (fun e w' => ∃ v, e = .returned v /\ SolV w' v S ms /\ Ext w w') := by
 refine (sX S A n c ms w h hv).mono ?_;rintro e w' ⟨go, rfl, hs, hX⟩;obtain ⟨g, hg, _, hl, hsh⟩ := hs.shp (by have := hv.1; omega);injection hg with hg;injection hg with hg;subst hg;exact ⟨_, rfl, ⟨go, rfl, hl, hsh⟩, hX⟩
theorem qa (gp gs ct S n c L : Nat) (A : Option Addr) (ms : List Mt) (un : Nat -> Rat) (sg : Int) (bl : Bool) (w : World) (b0 : w.cell? ⟨gp, 0, none⟩ = some (.int .i64 (S : Int))) (b1 : w.cell? ⟨gp, 1, none⟩ = some (.slice A n c)) (hM : MsAt w A n ms) (hV : VP S ms) (hS : ShP QZ w gs 0 S un) (hf : dP S un L) (_hL : L <= 100) (hgs : gs < w.heap.size) (fu : FitR (aq (3 * S) ms un) (4 + 16 * (48 * (106 + 5) + 13))) (fs : FitR (aq (3 * S) ms (bD (3 * S) ms)) (4 + 16 * (48 * (106 + 5) + 13))) (hsg : Hid (bW (aq (3 * S) ms un - aq (3 * S) ms (bD (3 * S) ms)) = sg)) (_hb1 : (sg == 0) = bl) (_hb2 : decide (sg = 0) = bl) : aJ Try.prog Try.f15 11 10 97 w [88, 89, 90, 91, 92, 93, 94, 95, 96, 14] [.c (.agg #[.int .i64 (S : Int), .slice A n c]), .c (.slice (some ⟨gs, 0, none⟩) S ct), .p fun v W => QZ W v (aq (3 * S) ms un), .c (.agg #[.int .i64 (S : Int), .slice A n c]), .c (.agg #[.int .i64 (S : Int), .slice A n c]), .p fun v W => SolV W v S ms, .p fun v W => QZ W v (aq (3 * S) ms (bD (3 * S) ms)), .c (.int .i64 sg), .c (.bool bl), .c (.bool bl)] [(2, .pointer (some ⟨gp, 0, none⟩)), (10, .slice (some ⟨gs, 0, none⟩) S ct)] := by
 refine aM [[], [], [0, 1], [], [], [4], [3, 5], [2, 6], [7], [8]] (by kernel_rfl) (by kernel_rfl) rfl ⟨by intro v W W' h hX; exact QZ.ext h hX, by intro v W W' h hX; exact SolV.ext h hX, by intro v W W' h hX; exact QZ.ext h hX, trivial⟩ ?_;simp only [ae, Try.f15, ab, Option.bind_some, Nat.reduceBEq, if_true, if_false, Bool.false_eq_true, Option.getD_some];simp only [List.take_succ_cons, List.take_zero]
 repeat' first | refine ⟨?_, ?_⟩ | fail
 all_goals first | (intro us W b hJ K hK0 hK Qz; simp only [aF, am, ao, List.getD_cons_succ, List.getD_cons_zero]) | exact True.intro
 all_goals try (intros; have q0 := Ext.cell hJ b0; have q1 := Ext.cell hJ b1; go_simp; exact hK0 _ rfl)
 .
  intro e88 e89 e2 e10;go_simp;refine (jS S n c gs 0 ct L A ms un W (hM.ext hJ) hV (hS.ext bE hJ) hf (by omega) (Nat.lt_of_lt_of_le hgs hJ.size)).mono ?_;rintro e w' ⟨v, rfl, hv, hX⟩;exact hK _ _ hv hX
 .
  intro e92 e2 e10;go_simp;refine (k6 (hM.ext hJ) hV).mono ?_;rintro e w' ⟨v, rfl, hv, hX⟩;exact hK _ _ hv hX
 .
  intro e91 e93 d5 e2 e10;obtain ⟨go, hv5, hgo, hsh⟩ := d5;rw [hv5] at e93;go_simp;refine (jS S n c go 0 S 106 A ms (bD (3 * S) ms) W (hM.ext hJ) hV hsh (jT hV) (by omega) hgo).mono ?_;rintro e w' ⟨v, rfl, hv, hX⟩;exact hK _ _ hv hX
 .
  intro e90 d2 e94 d6 e2 e10;go_simp;refine (jg _ _ _ _ (4 + 16 * (48 * (106 + 5) + 13)) (4 + 16 * (48 * (106 + 5) + 13)) _ d2 d6 fu fs (by omega)).mono ?_;rintro e w' ⟨rfl, hX⟩;exact hK _ _ (congrArg (Value.int .i64) hsg.out) hX
theorem lc (S : Int) (A : Option Addr) (n c : Nat) (ms : List Mt) (tA : Option Addr) (m ct gt ot : Nat) (N : Nat -> Bool × List Int × List Int) (w : World) (h : MsAt w A n ms) (hT : ShV w gt ot m N) (_hA : 0 < m -> tA = some ⟨gt, ot, none⟩) (_hmm : m <= 9223372036854775807) (hhv : nX S ms = true) :
  Calls Try.prog 15 #[.agg #[.int .i64 S, .slice A n c], .slice tA m ct] w (fun e w' => e = .returned (.bool true) /\ Ext w w') := by
 have H := hid h;have HT := hid hT;have HX := hid ((Ext.refl w).alloc (.cells #[.int .i64 S, .slice A n c] 76));have HP := hid (Blk.new w 76 #[.int .i64 S, .slice A n c]);clear h hT;go_enter Try.func15, Try.ntmps15
 go_upto_region 1 with (fail)
 generalize w.alloc _ = w1 at HX HP |-;have p0 := HP.out.cell 0;have p1 := HP.out.cell 1;simp only [List.getElem?_toArray, List.getElem?_cons_zero, List.getElem?_cons_succ] at p0 p1;have hh := b7 S A n c ms _ (H.out.ext HX.out);rw [hhv] at hh
 go_wp2_with fail
 refine hh.mono ?_;rintro e w2 ⟨rfl, hX2⟩;clear hh p0 p1;replace HP := hid (HP.out.ext hX2);replace HX := hid (HX.out.trans hX2);clear hX2
 go_wp2_with fail
 refine (cO _).mono ?_;rintro e w19 ⟨rfl, hX⟩;replace HX := hid (HX.out.trans hX);clear hX;go_wp2;go_ret;exact ⟨rfl, HX.out⟩
theorem nW (S : Int) (A : Option Addr) (n c : Nat) (ms : List Mt) (tA : Option Addr) (m ct gt ot : Nat) (N : Nat -> Bool × List Int × List Int) (w : World) (h : MsAt w A n ms) (hT : ShV w gt ot m N) (hA : 0 < m -> tA = some ⟨gt, ot, none⟩) (hmm : m <= 9223372036854775807) (hhv : nX S ms = false) (hlg : 20 < m \/ sm m N) :
  Calls Try.prog 15 #[.agg #[.int .i64 S, .slice A n c], .slice tA m ct] w (fun e w' => e = .returned (.bool true) /\ Ext w w') := by
 have H := hid h;have HT := hid hT;have HX := hid ((Ext.refl w).alloc (.cells #[.int .i64 S, .slice A n c] 76));have HP := hid (Blk.new w 76 #[.int .i64 S, .slice A n c]);clear h hT;go_enter Try.func15, Try.ntmps15
 go_upto_region 1 with (fail)
 generalize w.alloc _ = w1 at HX HP |-;have p0 := HP.out.cell 0;have p1 := HP.out.cell 1;simp only [List.getElem?_toArray, List.getElem?_cons_zero, List.getElem?_cons_succ] at p0 p1;have hh := b7 S A n c ms _ (H.out.ext HX.out);rw [hhv] at hh
 go_wp2_with fail
 refine hh.mono ?_;rintro e w2 ⟨rfl, hX2⟩;clear hh p0 p1;replace HP := hid (HP.out.ext hX2);replace HX := hid (HX.out.trans hX2);clear hX2;have hl := dp m ct gt ot tA N true _ (HT.out.ext HX.out) hA hmm (by simp [hlg])
 go_wp2_with fail
 refine hl.mono ?_;rintro e w3 ⟨rfl, hX2⟩;clear hl;replace HP := hid (HP.out.ext hX2);replace HX := hid (HX.out.trans hX2);clear hX2
 go_wp2_with fail
 refine (cO _).mono ?_;rintro e w19 ⟨rfl, hX⟩;replace HX := hid (HX.out.trans hX);clear hX;go_wp2;go_ret;exact ⟨rfl, HX.out⟩
theorem jU (S : Int) (A : Option Addr) (n c : Nat) (ms : List Mt) (tA : Option Addr) (m ct gt ot : Nat) (N : Nat -> Bool × List Int × List Int) (w : World) (h : MsAt w A n ms) (hT : ShV w gt ot m N) (hA : 0 < m -> tA = some ⟨gt, ot, none⟩) (hmm : m <= 9223372036854775807) (hhv : nX S ms = false) (hlg : ¬ (20 < m \/ sm m N)) (hne : ¬ (m : Int) = S) (hV : ¬ VP S ms) :
  Calls Try.prog 15 #[.agg #[.int .i64 S, .slice A n c], .slice tA m ct] w (fun e w' => e = .returned (.bool true) /\ Ext w w') := by
 have H := hid h;have HT := hid hT;have HX := hid ((Ext.refl w).alloc (.cells #[.int .i64 S, .slice A n c] 76));have HP := hid (Blk.new w 76 #[.int .i64 S, .slice A n c]);clear h hT;go_enter Try.func15, Try.ntmps15
 go_upto_region 1 with (fail)
 generalize w.alloc _ = w1 at HX HP |-;have p0 := HP.out.cell 0;have p1 := HP.out.cell 1;simp only [List.getElem?_toArray, List.getElem?_cons_zero, List.getElem?_cons_succ] at p0 p1;have hh := b7 S A n c ms _ (H.out.ext HX.out);rw [hhv] at hh
 go_wp2_with fail
 refine hh.mono ?_;rintro e w2 ⟨rfl, hX2⟩;clear hh p0 p1;replace HP := hid (HP.out.ext hX2);replace HX := hid (HX.out.trans hX2);clear hX2;have hl := dp m ct gt ot tA N false _ (HT.out.ext HX.out) hA hmm (by simp [hlg])
 go_wp2_with fail
 refine hl.mono ?_;rintro e w3 ⟨rfl, hX2⟩;clear hl;replace HP := hid (HP.out.ext hX2);replace HX := hid (HX.out.trans hX2);clear hX2;have p0 := HP.out.cell 0;have p1 := HP.out.cell 1;simp only [List.getElem?_toArray, List.getElem?_cons_zero, List.getElem?_cons_succ] at p0 p1
 go_wp2_with fail
 refine (gD S A n c ms (.slice tA m ct) _ (H.out.ext HX.out) hV).mono ?_;rintro e v1 ⟨rfl, hX2⟩;clear p0 p1;replace HP := hid (HP.out.ext hX2);replace HX := hid (HX.out.trans hX2);clear hX2
 go_upto_region 4 with (fail)
 have hX2 : Ext v1 (v1.alloc (.cells #[.bool false, .slice none 0 0, .slice none 0 0] 97)) := (Ext.refl _).alloc _;have BX := hid (Blk.new v1 97 #[.bool false, .slice none 0 0, .slice none 0 0]);generalize v1.heap.size = gBX at BX |-;generalize v1.alloc (.cells #[.bool false, .slice none 0 0, .slice none 0 0] 97) = v1b at BX hX2 |-;replace HP := hid (HP.out.ext hX2);replace HX := hid (HX.out.trans hX2);clear hX2

 have p0 := HP.out.cell 0;have p1 := HP.out.cell 1;simp only [List.getElem?_toArray, List.getElem?_cons_zero, List.getElem?_cons_succ] at p0 p1
 go_wp2_with fail
 refine (eA S A n c ms (.slice tA m ct) _ (H.out.ext HX.out) hV).mono ?_;rintro e v3 ⟨rfl, hX2⟩;clear p0 p1;replace HP := hid (HP.out.ext hX2);replace BX := hid (BX.out.ext hX2);replace HX := hid (HX.out.trans hX2);clear hX2
 go_upto_region 5 with (fail)
 have p0 := HP.out.cell 0;have p1 := HP.out.cell 1;simp only [List.getElem?_toArray, List.getElem?_cons_zero, List.getElem?_cons_succ] at p0 p1
 go_wp2_with fail
 refine (gC S A tA n c m ct _ hne hmm).mono ?_;rintro e v4 ⟨rfl, hX2⟩;clear p0 p1;replace HP := hid (HP.out.ext hX2);replace BX := hid (BX.out.ext hX2);replace HX := hid (HX.out.trans hX2);clear hX2
 go_upto_region 6 with (fail)
 have p0 := HP.out.cell 0;have p1 := HP.out.cell 1;simp only [List.getElem?_toArray, List.getElem?_cons_zero, List.getElem?_cons_succ] at p0 p1;have hv := cC S A n c ms _ (H.out.ext HX.out);rw [a9 hV] at hv
 go_wp2_with fail
 refine hv.mono ?_;rintro e v5 ⟨rfl, hX2⟩;clear hv p0 p1;replace HP := hid (HP.out.ext hX2);replace BX := hid (BX.out.ext hX2);replace HX := hid (HX.out.trans hX2);clear hX2
 go_wp2_with fail
 refine (cO _).mono ?_;rintro e w19 ⟨rfl, hX⟩;replace HX := hid (HX.out.trans hX);clear hX;go_wp2;go_ret;exact ⟨rfl, HX.out⟩
theorem iA (_ : True) (A : Option Addr) (n c : Nat) (ms : List Mt) (tA : Option Addr) (m ct gt ot : Nat) (N : Nat -> Bool × List Int × List Int) (w : World) (h : MsAt w A n ms) (hT : ShV w gt ot m N) (hA : 0 < m -> tA = some ⟨gt, ot, none⟩) (hmm : m <= 9223372036854775807) (hhv : nX (m : Int) ms = false) (hlg : ¬ (20 < m \/ sm m N)) (hV : ¬ VP (m : Int) ms) :
  Calls Try.prog 15 #[.agg #[.int .i64 (m : Int), .slice A n c], .slice tA m ct] w (fun e w' => e = .returned (.bool true) /\ Ext w w') := by
 have H := hid h;have HT := hid hT;have HX := hid ((Ext.refl w).alloc (.cells #[.int .i64 (m : Int), .slice A n c] 76));have HP := hid (Blk.new w 76 #[.int .i64 (m : Int), .slice A n c]);clear h hT;go_enter Try.func15, Try.ntmps15
 go_upto_region 1 with (fail)
 generalize w.alloc _ = w1 at HX HP |-;have p0 := HP.out.cell 0;have p1 := HP.out.cell 1;simp only [List.getElem?_toArray, List.getElem?_cons_zero, List.getElem?_cons_succ] at p0 p1;have hh := b7 (m : Int) A n c ms _ (H.out.ext HX.out);rw [hhv] at hh
 go_wp2_with fail
 refine hh.mono ?_;rintro e w2 ⟨rfl, hX2⟩;clear hh p0 p1;replace HP := hid (HP.out.ext hX2);replace HX := hid (HX.out.trans hX2);clear hX2;have hl := dp m ct gt ot tA N false _ (HT.out.ext HX.out) hA hmm (by simp [hlg])
 go_wp2_with fail
 refine hl.mono ?_;rintro e w3 ⟨rfl, hX2⟩;clear hl;replace HP := hid (HP.out.ext hX2);replace HX := hid (HX.out.trans hX2);clear hX2;have p0 := HP.out.cell 0;have p1 := HP.out.cell 1;simp only [List.getElem?_toArray, List.getElem?_cons_zero, List.getElem?_cons_succ] at p0 p1
 go_wp2_with fail
 refine (gD (m : Int) A n c ms (.slice tA m ct) _ (H.out.ext HX.out) hV).mono ?_;rintro e v1 ⟨rfl, hX2⟩;clear p0 p1;replace HP := hid (HP.out.ext hX2);replace HX := hid (HX.out.trans hX2);clear hX2
 go_upto_region 4 with (fail)
 have hX2 : Ext v1 (v1.alloc (.cells #[.bool false, .slice none 0 0, .slice none 0 0] 97)) := (Ext.refl _).alloc _;have BX := hid (Blk.new v1 97 #[.bool false, .slice none 0 0, .slice none 0 0]);generalize v1.heap.size = gBX at BX |-;generalize v1.alloc (.cells #[.bool false, .slice none 0 0, .slice none 0 0] 97) = v1b at BX hX2 |-;replace HP := hid (HP.out.ext hX2);replace HX := hid (HX.out.trans hX2);clear hX2

 have p0 := HP.out.cell 0;have p1 := HP.out.cell 1;simp only [List.getElem?_toArray, List.getElem?_cons_zero, List.getElem?_cons_succ] at p0 p1
 go_wp2_with fail
 refine (eA (m : Int) A n c ms (.slice tA m ct) _ (H.out.ext HX.out) hV).mono ?_;rintro e v3 ⟨rfl, hX2⟩;clear p0 p1;replace HP := hid (HP.out.ext hX2);replace BX := hid (BX.out.ext hX2);replace HX := hid (HX.out.trans hX2);clear hX2
 go_upto_region 5 with (fail)
 have p0 := HP.out.cell 0;have p1 := HP.out.cell 1;simp only [List.getElem?_toArray, List.getElem?_cons_zero, List.getElem?_cons_succ] at p0 p1
 go_wp2_with fail
 refine (fc m n c gt ot ct A tA (eS N) _ (jN (HT.out.ext HX.out) (fun q => hlg (.inr q))).1 hA (Nat.le_of_not_lt (fun q => hlg (.inl q)))).mono ?_;rintro e v4 ⟨v, rfl, hv, hX2⟩;obtain ⟨A9, c9, hA9⟩ := hv.slice;subst hA9;clear hv;clear p0 p1;replace HP := hid (HP.out.ext hX2);replace BX := hid (BX.out.ext hX2);replace HX := hid (HX.out.trans hX2);clear hX2
 go_upto_region 6 with (fail)
 have p0 := HP.out.cell 0;have p1 := HP.out.cell 1;simp only [List.getElem?_toArray, List.getElem?_cons_zero, List.getElem?_cons_succ] at p0 p1;have hv := cC (m : Int) A n c ms _ (H.out.ext HX.out);rw [a9 hV] at hv
 go_wp2_with fail
 refine hv.mono ?_;rintro e v5 ⟨rfl, hX2⟩;clear hv p0 p1;replace HP := hid (HP.out.ext hX2);replace BX := hid (BX.out.ext hX2);replace HX := hid (HX.out.trans hX2);clear hX2
 go_wp2_with fail
 refine (cO _).mono ?_;rintro e w19 ⟨rfl, hX⟩;replace HX := hid (HX.out.trans hX);clear hX;go_wp2;go_ret;exact ⟨rfl, HX.out⟩
theorem qb (S : Nat) (A : Option Addr) (n c : Nat) (ms : List Mt) (tA : Option Addr) (m ct gt ot : Nat) (N : Nat -> Bool × List Int × List Int) (w : World) (h : MsAt w A n ms) (hT : ShV w gt ot m N) (hA : 0 < m -> tA = some ⟨gt, ot, none⟩) (hmm : m <= 9223372036854775807) (hhv : nX (S : Int) ms = false) (hlg : ¬ (20 < m \/ sm m N)) (hne : ¬ (m : Int) = (S : Int)) (hV : VP (S : Int) ms) :
  Calls Try.prog 15 #[.agg #[.int .i64 (S : Int), .slice A n c], .slice tA m ct] w (fun e w' => e = .returned (.bool true) /\ Ext w w') := by
 have H := hid h;have HT := hid hT;have HX := hid ((Ext.refl w).alloc (.cells #[.int .i64 (S : Int), .slice A n c] 76));have HP := hid (Blk.new w 76 #[.int .i64 (S : Int), .slice A n c]);clear h hT;go_enter Try.func15, Try.ntmps15
 go_upto_region 1 with (fail)
 generalize w.alloc _ = w1 at HX HP |-;have p0 := HP.out.cell 0;have p1 := HP.out.cell 1;simp only [List.getElem?_toArray, List.getElem?_cons_zero, List.getElem?_cons_succ] at p0 p1;have hh := b7 (S : Int) A n c ms _ (H.out.ext HX.out);rw [hhv] at hh
 go_wp2_with fail
 refine hh.mono ?_;rintro e w2 ⟨rfl, hX2⟩;clear hh p0 p1;replace HP := hid (HP.out.ext hX2);replace HX := hid (HX.out.trans hX2);clear hX2;have hl := dp m ct gt ot tA N false _ (HT.out.ext HX.out) hA hmm (by simp [hlg])
 go_wp2_with fail
 refine hl.mono ?_;rintro e w3 ⟨rfl, hX2⟩;clear hl;replace HP := hid (HP.out.ext hX2);replace HX := hid (HX.out.trans hX2);clear hX2;have p0 := HP.out.cell 0;have p1 := HP.out.cell 1;simp only [List.getElem?_toArray, List.getElem?_cons_zero, List.getElem?_cons_succ] at p0 p1
 go_wp2_with fail
 refine (kK S A n c ms tA m ct _ (H.out.ext HX.out) hV (by omega)).mono ?_;rintro e v1 ⟨rfl, hX2⟩;clear p0 p1;replace HP := hid (HP.out.ext hX2);replace HX := hid (HX.out.trans hX2);clear hX2
 go_upto_region 4 with (fail)
 have hX2 : Ext v1 (v1.alloc (.cells #[.bool false, .slice none 0 0, .slice none 0 0] 97)) := (Ext.refl _).alloc _;have BX := hid (Blk.new v1 97 #[.bool false, .slice none 0 0, .slice none 0 0]);generalize v1.heap.size = gBX at BX |-;generalize v1.alloc (.cells #[.bool false, .slice none 0 0, .slice none 0 0] 97) = v1b at BX hX2 |-;replace HP := hid (HP.out.ext hX2);replace HX := hid (HX.out.trans hX2);clear hX2

 have p0 := HP.out.cell 0;have p1 := HP.out.cell 1;simp only [List.getElem?_toArray, List.getElem?_cons_zero, List.getElem?_cons_succ] at p0 p1
 go_wp2_with fail
 refine (iy S A n c ms tA m ct _ (H.out.ext HX.out) hV (by omega)).mono ?_;rintro e v3 ⟨rfl, hX2⟩;clear p0 p1;replace HP := hid (HP.out.ext hX2);replace BX := hid (BX.out.ext hX2);replace HX := hid (HX.out.trans hX2);clear hX2
 go_upto_region 5 with (fail)
 have p0 := HP.out.cell 0;have p1 := HP.out.cell 1;simp only [List.getElem?_toArray, List.getElem?_cons_zero, List.getElem?_cons_succ] at p0 p1
 go_wp2_with fail
 refine (gC (S : Int) A tA n c m ct _ hne hmm).mono ?_;rintro e v4 ⟨rfl, hX2⟩;clear p0 p1;replace HP := hid (HP.out.ext hX2);replace BX := hid (BX.out.ext hX2);replace HX := hid (HX.out.trans hX2);clear hX2
 go_upto_region 6 with (fail)
 have p0 := HP.out.cell 0;have p1 := HP.out.cell 1;simp only [List.getElem?_toArray, List.getElem?_cons_zero, List.getElem?_cons_succ] at p0 p1;have hv := cC (S : Int) A n c ms _ (H.out.ext HX.out);rw [bB.2 hV] at hv
 go_wp2_with fail
 refine hv.mono ?_;rintro e v5 ⟨rfl, hX2⟩;clear hv p0 p1;replace HP := hid (HP.out.ext hX2);replace BX := hid (BX.out.ext hX2);replace HX := hid (HX.out.trans hX2);clear hX2
 go_wp2_with fail
 refine (cO _).mono ?_;rintro e w19 ⟨rfl, hX⟩;replace HX := hid (HX.out.trans hX);clear hX;go_wp2;go_ret;exact ⟨rfl, HX.out⟩
theorem sc (_ : True) (A : Option Addr) (n c : Nat) (ms : List Mt) (tA : Option Addr) (m ct gt ot : Nat) (N : Nat -> Bool × List Int × List Int) (w : World) (h : MsAt w A n ms) (hT : ShV w gt ot m N) (hA : 0 < m -> tA = some ⟨gt, ot, none⟩) (hmm : m <= 9223372036854775807) (hhv : nX (m : Int) ms = false) (hlg : ¬ (20 < m \/ sm m N)) (hV : VP (m : Int) ms) :
  Calls Try.prog 15 #[.agg #[.int .i64 (m : Int), .slice A n c], .slice tA m ct] w (fun e w' => e = .returned (.bool true) /\ Ext w w') := by
 have H := hid h;have HT := hid hT;have HX := hid ((Ext.refl w).alloc (.cells #[.int .i64 (m : Int), .slice A n c] 76));have HP := hid (Blk.new w 76 #[.int .i64 (m : Int), .slice A n c]);clear h hT;go_enter Try.func15, Try.ntmps15
 go_upto_region 1 with (fail)
 generalize w.alloc _ = w1 at HX HP |-;have p0 := HP.out.cell 0;have p1 := HP.out.cell 1;simp only [List.getElem?_toArray, List.getElem?_cons_zero, List.getElem?_cons_succ] at p0 p1;have hh := b7 (m : Int) A n c ms _ (H.out.ext HX.out);rw [hhv] at hh
 go_wp2_with fail
 refine hh.mono ?_;rintro e w2 ⟨rfl, hX2⟩;clear hh p0 p1;replace HP := hid (HP.out.ext hX2);replace HX := hid (HX.out.trans hX2);clear hX2;have hl := dp m ct gt ot tA N false _ (HT.out.ext HX.out) hA hmm (by simp [hlg])
 go_wp2_with fail
 refine hl.mono ?_;rintro e w3 ⟨rfl, hX2⟩;clear hl;replace HP := hid (HP.out.ext hX2);replace HX := hid (HX.out.trans hX2);clear hX2;have hm1 : 0 < m := by have := hV.1; omega
 have hm4 : m <= 4 := by have := ((lV.1 hhv).2 hV).1; omega
 have hms16 : ms.length <= 16 := ((lV.1 hhv).2 hV).2;have hAe := hA hm1;subst hAe;have HG := hid (jN HT.out (fun q => hlg (.inr q)));have HTM := hid (rM hm4 HG.out.2);have HFU := hid (rL HG.out.2);have HVP := hid hV;have HWF := hid (kZ (n := 3 * m) HVP.out.2.2.2 (by omega) HTM.out);clear hV hA hhv;obtain ⟨wp, hwp⟩ : ∃ wp, br (3 * m) (eS N) ms = wp := ⟨_, rfl⟩;have hwpe := hwp;rw [hwp] at HWF;have HWP := hid hwp;obtain ⟨ai, hai⟩ : ∃ ai, sU wp.1 = ai := ⟨_, rfl⟩;have HAI := hid hai;clear hwp hwpe;have p0 := HP.out.cell 0;have p1 := HP.out.cell 1;simp only [List.getElem?_toArray, List.getElem?_cons_zero, List.getElem?_cons_succ] at p0 p1
 go_wp2_with fail
 refine (nQ m A n c ms gt ot ct (eS N) _ (H.out.ext HX.out) HVP.out (HG.out.1.ext ea HX.out) (by rw [HWP.out]; exact HWF.out)).mono ?_;rw [HWP.out, HAI.out];rintro e v1 ⟨v, rfl, hv, hX2⟩;clear p0 p1 hai;replace HP := hid (HP.out.ext hX2);replace HX := hid (HX.out.trans hX2);clear hX2;obtain ⟨s8, A8, l8, c8, B8, m8, k8, rfl⟩ := RatC.open hv;have HD := hid hv;clear hv
 go_upto_region 4 with (fail)
 have hX2 : Ext v1 (v1.alloc (.cells #[.bool s8, .slice A8 l8 c8, .slice B8 m8 k8] 97)) := (Ext.refl _).alloc _;have BX := hid (Blk.new v1 97 #[.bool s8, .slice A8 l8 c8, .slice B8 m8 k8]);generalize v1.heap.size = gBX at BX |-;generalize v1.alloc (.cells #[.bool s8, .slice A8 l8 c8, .slice B8 m8 k8] 97) = v1b at BX hX2 |-;replace HD := hid (RatC.ext HD.out hX2);replace HP := hid (HP.out.ext hX2);replace HX := hid (HX.out.trans hX2);clear hX2;have p0 := HP.out.cell 0;have p1 := HP.out.cell 1;simp only [List.getElem?_toArray, List.getElem?_cons_zero, List.getElem?_cons_succ] at p0 p1;obtain ⟨bl, hbl⟩ : ∃ bl, ix (3 * m) ms (eS N) = bl := ⟨_, rfl⟩;have HBL := hid hbl;clear hbl
 go_wp2_with fail
 refine (jO m A n c ms (3 * m) gt ot ct (eS N) _ (H.out.ext HX.out) HVP.out rfl (HG.out.1.ext ea HX.out) HTM.out).mono ?_;rw [HBL.out];rintro e v3 ⟨rfl, hX2⟩;clear p0 p1;replace HD := hid (RatC.ext HD.out hX2);replace HP := hid (HP.out.ext hX2);replace BX := hid (BX.out.ext hX2);replace HX := hid (HX.out.trans hX2);clear hX2
 go_upto_region 5 with (fail)
 have p0 := HP.out.cell 0;have p1 := HP.out.cell 1;simp only [List.getElem?_toArray, List.getElem?_cons_zero, List.getElem?_cons_succ] at p0 p1
 go_wp2_with fail
 refine (fc m n c gt ot ct A (some ⟨gt, ot, none⟩) (eS N) _ (HG.out.1.ext ea HX.out) (fun _ => rfl) (by omega)).mono ?_;rintro e v4 ⟨v, rfl, hv, hX2⟩;clear p0 p1;obtain ⟨A9, c9, hA9⟩ := hv.slice;subst hA9;obtain ⟨gs, hgs, _, hgl, hsh⟩ := hv.shp hm1;subst hgs;have HSH := hid hsh;have HGL := hid hgl;clear hv hsh hgl;replace HD := hid (RatC.ext HD.out hX2);replace HP := hid (HP.out.ext hX2);replace BX := hid (BX.out.ext hX2);replace HX := hid (HX.out.trans hX2);clear hX2
 go_upto_region 6 with (fail)
 have p0 := HP.out.cell 0;have p1 := HP.out.cell 1;simp only [List.getElem?_toArray, List.getElem?_cons_zero, List.getElem?_cons_succ] at p0 p1;have hv5 := cC (m : Int) A n c ms _ (H.out.ext HX.out);rw [bB.2 HVP.out] at hv5
 go_wp2_with fail
 refine hv5.mono ?_;rintro e v5 ⟨rfl, hX2⟩;clear hv5 p0 p1;replace HD := hid (RatC.ext HD.out hX2);replace HSH := hid (HSH.out.ext bE hX2);replace HGL := hid (Nat.lt_of_lt_of_le HGL.out hX2.size);replace HP := hid (HP.out.ext hX2);replace BX := hid (BX.out.ext hX2);replace HX := hid (HX.out.trans hX2);clear hX2
 go_upto_region 10 with (fail)
 have p0 := HP.out.cell 0;have p1 := HP.out.cell 1;simp only [List.getElem?_toArray, List.getElem?_cons_zero, List.getElem?_cons_succ] at p0 p1
 go_wp2_with fail
 refine (kL m n c gs 0 c9 8 A ms (eS N) _ (H.out.ext HX.out) HVP.out HSH.out HFU.out (by omega) HGL.out).mono ?_;rw [HWP.out, HAI.out];rintro e v6 ⟨v, rfl, hv, hX2⟩;clear p0 p1;replace HD := hid (RatC.ext HD.out hX2);replace HSH := hid (HSH.out.ext bE hX2);replace HGL := hid (Nat.lt_of_lt_of_le HGL.out hX2.size);replace HP := hid (HP.out.ext hX2);replace BX := hid (BX.out.ext hX2);replace HX := hid (HX.out.trans hX2);clear hX2;obtain ⟨s7, A7, l7, c7, B7, m7, k7, rfl⟩ := QZ.open hv;have HQ := hid hv;clear hv
 go_upto_region 11 with (fail)
 have hX2 : Ext v6 (v6.alloc (.cells #[.bool s7, .slice A7 l7 c7, .slice B7 m7 k7] 65)) := (Ext.refl _).alloc _;have BY := hid (Blk.new v6 65 #[.bool s7, .slice A7 l7 c7, .slice B7 m7 k7]);generalize v6.heap.size = gBY at BY |-;generalize v6.alloc (.cells #[.bool s7, .slice A7 l7 c7, .slice B7 m7 k7] 65) = v6b at BY hX2 |-;replace HD := hid (RatC.ext HD.out hX2);replace HSH := hid (HSH.out.ext bE hX2);replace HGL := hid (Nat.lt_of_lt_of_le HGL.out hX2.size);replace HQ := hid (HQ.out.ext hX2);replace HP := hid (HP.out.ext hX2);replace BX := hid (BX.out.ext hX2);replace HX := hid (HX.out.trans hX2);clear hX2;have p0 := HP.out.cell 0;have p1 := HP.out.cell 1;simp only [List.getElem?_toArray, List.getElem?_cons_zero, List.getElem?_cons_succ] at p0 p1;obtain ⟨sg, hsg⟩ : ∃ sg, bW (aq (3 * m) ms (eS N) - aq (3 * m) ms (bD (3 * m) ms)) = sg := ⟨_, rfl⟩;have HSG := hid hsg;have hsb : (sg == 0) = bl := by rw [<- hsg, <- HBL.out]; exact nV HVP.out (eS N)
 have hsb2 : decide (sg = 0) = bl := by rw [<- hsb]; rfl
 have hfu : FitR (aq (3 * m) ms (eS N)) (4 + 16 * (48 * (106 + 5) + 13)) := by
  have h := ec HFU.out (by omega) HVP.out.2.2.2 (k := ms.length) (Nat.le_refl _);rw [List.take_length] at h;exact h.mono (by have : ms.length * (48 * (8 + 5) + 13) <= 16 * (48 * (8 + 5) + 13) := Nat.mul_le_mul_right _ hms16; omega)
 have hfs : FitR (aq (3 * m) ms (bD (3 * m) ms)) (4 + 16 * (48 * (106 + 5) + 13)) := by
  have h := ec (jT HVP.out) (by omega) HVP.out.2.2.2 (k := ms.length) (Nat.le_refl _);rw [List.take_length] at h;exact h.mono (by have : ms.length * (48 * (106 + 5) + 13) <= 16 * (48 * (106 + 5) + 13) := Nat.mul_le_mul_right _ hms16; omega)
 clear hsg;refine qa w.heap.size gs c9 m n c 8 A ms (eS N) sg bl v6b p0 p1 (H.out.ext HX.out) HVP.out HSH.out HFU.out (by omega) HGL.out hfu hfs HSG hsb hsb2 _ _ (by simp) ⟨rfl, rfl, trivial⟩ ?_;rintro w8 hX2 xv2 _ xv5 _ xv6 _;simp only [EndK, ae, Try.f15, ab, Option.bind_some, Nat.reduceBEq, if_true, if_false, Bool.false_eq_true, Option.getD_some, List.drop_succ_cons, List.drop_zero];simp only [Act.put, List.setIfInBounds_toArray, List.set_cons_succ, List.set_cons_zero];replace HD := hid (RatC.ext HD.out hX2);replace HSH := hid (HSH.out.ext bE hX2);replace HGL := hid (Nat.lt_of_lt_of_le HGL.out hX2.size);replace HQ := hid (HQ.out.ext hX2);replace HP := hid (HP.out.ext hX2);replace BX := hid (BX.out.ext hX2);replace BY := hid (BY.out.ext hX2);replace HX := hid (HX.out.trans hX2);clear hX2;clear p0 p1 hfu hfs hsb hsb2;have y0 := BX.out.cell 0;have y1 := BX.out.cell 1;have y2 := BX.out.cell 2;simp only [List.getElem?_toArray, List.getElem?_cons_zero, List.getElem?_cons_succ] at y0 y1 y2;have z0 := BY.out.cell 0;have z1 := BY.out.cell 1;have z2 := BY.out.cell 2;simp only [List.getElem?_toArray, List.getElem?_cons_zero, List.getElem?_cons_succ] at z0 z1 z2
 go_wp2_with fail
 refine (fZ HD.out HQ.out HWF.out).mono ?_;rintro e w9 ⟨rfl, hX2⟩;clear y0 y1 y2 z0 z1 z2;replace HX := hid (HX.out.trans hX2);clear hX2
 go_wp2_with fail
 refine (cO _).mono ?_;rintro e w19 ⟨rfl, hX⟩;replace HX := hid (HX.out.trans hX);clear hX;go_wp2;go_ret;exact ⟨rfl, HX.out⟩
theorem eT (S : Int) (A : Option Addr) (n c : Nat) (ms : List Mt) (tA : Option Addr) (m ct : Nat) (w : World) (h : MsAt w A n ms) (hT : tK w tA m) (hmm : m <= 9223372036854775807) :
  Calls Try.prog 15 #[.agg #[.int .i64 S, .slice A n c], .slice tA m ct] w (fun e w' => e = .returned (.bool true) /\ Ext w w') := by
 obtain ⟨gt, ot, N, hA, hV⟩ := sO hT
 cases hhv : nX S ms with
 | true => exact lc S A n c ms tA m ct gt ot N w h hV hA hmm hhv
 | false =>
  by_cases hlg : 20 < m \/ sm m N
  .
   exact nW S A n c ms tA m ct gt ot N w h hV hA hmm hhv hlg
  .
   by_cases hv : VP S ms
   .
    obtain ⟨s, rfl⟩ : ∃ s : Nat, S = s := ⟨S.toNat, by have := hv.1; omega⟩
    by_cases hms : m = s
    .
     subst hms;exact sc trivial A n c ms tA m ct gt ot N w h hV hA hmm hhv hlg hv
    .
     exact qb s A n c ms tA m ct gt ot N w h hV hA hmm hhv hlg (by omega) hv
   .
    by_cases hms : (m : Int) = S
    .
     subst hms;exact iA trivial A n c ms tA m ct gt ot N w h hV hA hmm hhv hlg hv
    .
     exact jU S A n c ms tA m ct gt ot N w h hV hA hmm hhv hlg hms hv
end Go.Proofs.Ytikhlcgnlbinfaa
