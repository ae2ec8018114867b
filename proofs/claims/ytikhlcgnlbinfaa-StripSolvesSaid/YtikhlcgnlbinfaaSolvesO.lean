/- Lemmas of the proof that follows (Solves, part 15): walks of functions by contract, and plain lemmas. Conditions: none. -/
import Derived.Test.YtikhlcgnlbinfaaSolvesN
set_option maxRecDepth 100000
set_option maxHeartbeats 16000000
namespace Go.Proofs.Ytikhlcgnlbinfaa
open Lib (hid)
open Go.RowKit
/-- Column i of the pivots. -/
theorem ColR.get {base : Nat} {w : World} {A : Option Addr} {c : Nat} {l : List Nat} (h : ColR base w (.slice A l.length c) l) {i j : Nat} (hi : l[i]? = some j) : ∃ g, A = some ⟨g, 0, none⟩ /\ base <= g /\ w.cell? ⟨g, i, none⟩ = some (.int .i64 (j : Int)) := by
 have hl : 0 < l.length := by have := (List.getElem?_eq_some_iff.1 hi).1; omega
 obtain ⟨g, rfl, h1, h2⟩ := eU h hl;exact ⟨g, rfl, h1, af h (by rw [List.getElem?_map, hi]; rfl)⟩
theorem RowN.srow {base go S : Nat} {w : World} {f : Nat -> Rat} (h : RowN QZ 229 9 base w go S S (3 * S) (fun u => some (f u))) : SRow base w (.slice (some ⟨go, 0, none⟩) S S) S f := by
 obtain ⟨hf, ⟨us, h1, h2⟩, hn⟩ := h;refine ⟨⟨us, h1, h2.1, fun j hj => ?_⟩, fun g hg => by simp [Value.ownBlock] at hg; subst hg; exact hn⟩;obtain ⟨cs, c1, ⟨s, A, l, c, B, m, k, e, hx⟩, c3⟩ := h2.2 j hj;exact ⟨cs, c1, ⟨s, A, l, c, B, m, k, e, hx _ rfl⟩, c3⟩
theorem fI {x : Int} {d : Nat} (_hd : 0 < d) : aw (decide (x < 0)) x.natAbs d = (x : Rat) / ((d : Nat) : Rat) := by
 have h := mr x (n := (d : Int)) (by omega);rw [Int.toNat_natCast] at h;rw [h];rfl
theorem qN (go S jj ss kk : Nat) (w : World) (hss : Hid (jj / 3 = ss)) (hkk : Hid (jj % 3 = kk)) (_hs1 : ss < S) (_hk3 : (kk : Int) < 3) (_hk4 : kk < 3) (_hj : jj <= 1000) : aF Try.prog Try.f73 5 8 28 w [20, 21, 22, 23, 24, 25, 26, 27] [.c (.slice (some ⟨go, 0, none⟩) S S), .c (.int .i64 (jj : Int)), .c (.int .i64 (ss : Int)), .c (.int .i64 (jj : Int)), .c (.int .i64 (kk : Int)), .p fun v W => QZ W v (((0 : Int) : Rat)), .c (.pointer (some ⟨go, ss * 9, none⟩)), .c (.pointer (some ⟨go, ss * 9 + kk * 3, none⟩))] [(3, .slice (some ⟨go, 0, none⟩) S S), (4, .int .i64 (jj : Int))] := by
 refine aJ [[], [], [1], [], [3], [], [0, 2], [4, 6]] (by kernel_rfl) (by kernel_rfl) rfl ⟨by intro v W W' h hX; exact QZ.ext h hX, trivial⟩ ?_;simp only [ae, Try.f73, ab, Option.bind_some, Nat.reduceBEq, if_true, if_false, Bool.false_eq_true, Option.getD_some];simp only [List.take_succ_cons, List.take_zero]
 repeat' first | refine ⟨?_, ?_⟩ | fail
 all_goals first | (intro us W b hJ K hK0 hK Qz; simp only [aC, al, am, List.getD_cons_succ, List.getD_cons_zero]) | exact True.intro
 all_goals try (intros; go_simp; exact hK0 _ rfl)
 .
  intro e21 e3 e4;have qw : IntKind.i64.wrap ((jj : Int) / 3) = (jj : Int) / 3 := IntWalk.i64_in _ (by omega);go_simp;exact hK0 _ (by have := hss.out; congr 1; omega)
 .
  intro e23 e3 e4;have ht : (jj : Int).tmod 3 = (jj : Int) % 3 := Int.tmod_eq_emod_of_nonneg (by omega);have qw : IntKind.i64.wrap ((jj : Int) % 3) = (jj : Int) % 3 := IntWalk.i64_in _ (by omega);go_simp;exact hK0 _ (by have := hkk.out; congr 1; omega)
 .
  intro e3 e4;go_simp;refine (bO 0 W (by omega) (by omega)).mono ?_;rintro e w' ⟨v, rfl, hv, hX⟩;exact hK _ _ hv hX
theorem oQ (gm ct nn ii ga ca gp S : Nat) (sx : Bool) (Ax : Option Addr) (lx cx : Nat) (w : World) (ha : w.cell? ⟨gm, ii, none⟩ = some (.slice (some ⟨ga, 0, none⟩) (nn + 1) ca)) (hp : w.cell? ⟨gp, 0, none⟩ = some (.int .i64 (S : Int))) (x0 : w.cell? ⟨ga, nn * 2, none⟩ = some (.bool sx)) (x1 : w.cell? ⟨ga, nn * 2 + 1, none⟩ = some (.slice Ax lx cx)) (_hqN : IntKind.i64.wrap (3 * (S : Int)) = (nn : Int)) (_hin : ii < nn) (_hnn : nn < nn + 1) (_hnn2 : (nn : Int) < (nn : Int) + 1) (a : Act) (Q : Exit -> Act -> World -> Prop) (hsize : 49 <= a.tmps.size)
  (s1 : a.tmps[1]? = some (.pointer (some ⟨gp, 0, none⟩)))
  (s5 : a.tmps[5]? = some (.slice (some ⟨gm, 0, none⟩) nn ct))
  (s8 : a.tmps[8]? = some (.int .i64 (ii : Int)))
  (hend : ∀ (xv0 xv1 xv2 xv3 xv4 xv5 xv6 xv7 xv8 xv9 xv10 : Value) (W : World), (xv0 = .slice (some ⟨gm, 0, none⟩) nn ct) -> (xv1 = .int .i64 (ii : Int)) -> (xv2 = .pointer (some ⟨gm, ii, none⟩)) -> (xv3 = .slice (some ⟨ga, 0, none⟩) (nn + 1) ca) -> (xv4 = .pointer (some ⟨gp, 0, none⟩)) -> (xv5 = .int .i64 (S : Int)) -> (xv6 = .int .i64 (nn : Int)) -> (xv7 = .pointer (some ⟨ga, nn * 2, none⟩)) -> (xv8 = .agg #[.bool sx, .slice Ax lx cx]) -> (∃ g, xv9 = .pointer (some ⟨g, 0, none⟩) /\ w.heap.size <= g /\ Blk W g 63 #[.bool sx, .slice Ax lx cx]) -> Ext w W -> wpList Try.prog (ae Try.f73 10).toArray Q [] (((((((((((a.put (some 40) xv0).put (some 41) xv1).put (some 42) xv2).put (some 43) xv3).put (some 44) xv4).put (some 45) xv5).put (some 46) xv6).put (some 47) xv7).put (some 48) xv8).put (some 9) xv9).put (none) xv10) W) :
  (Code.region 10 (ae Try.f73 10).toArray true).wp Try.prog Q a w := by
 have hsz : ∀ d, some d ∈ ([some 40, some 41, some 42, some 43, some 44, some 45, some 46, some 47, some 48, some 9, none] : List (Option Tmp)) -> d < a.tmps.size := cC (by decide) hsize;refine eK 11 [some 40, some 41, some 42, some 43, some 44, some 45, some 46, some 47, some 48, some 9, none] [[], [], [0, 1], [2], [], [4], [5], [3, 6], [7], [], [8, 9]] [[], [], [], [], [], [], [], [], [], [10], []] (fun (done : Nat -> Prop) (us : Nat -> Value) (W : World) => Ext w W /\ (done 0 -> us 0 = .slice (some ⟨gm, 0, none⟩) nn ct) /\ (done 1 -> us 1 = .int .i64 (ii : Int)) /\ (done 2 -> us 2 = .pointer (some ⟨gm, ii, none⟩)) /\ (done 3 -> us 3 = .slice (some ⟨ga, 0, none⟩) (nn + 1) ca) /\ (done 4 -> us 4 = .pointer (some ⟨gp, 0, none⟩)) /\ (done 5 -> us 5 = .int .i64 (S : Int)) /\ (done 6 -> us 6 = .int .i64 (nn : Int)) /\ (done 7 -> us 7 = .pointer (some ⟨ga, nn * 2, none⟩)) /\ (done 8 -> us 8 = .agg #[.bool sx, .slice Ax lx cx]) /\ Loc w W 63 #[.bool false, .slice none 0 0] #[.bool sx, .slice Ax lx cx] (done 9) (done 10) (us 9)) (by kernel_rfl) (by kernel_rfl) hsz (fun p q us W h => by have e : p = q := funext fun k => propext (h k); rw [e]; exact id) (fun us => ⟨(Ext.refl w).drew, fun h => h.elim, fun h => h.elim, fun h => h.elim, fun h => h.elim, fun h => h.elim, fun h => h.elim, fun h => h.elim, fun h => h.elim, fun h => h.elim, Loc.unmade id⟩) ?_ ?_
 .
  clear hend;simp only [ae, Try.f73, ab, Option.bind_some, Nat.reduceBEq, if_true, if_false, Bool.false_eq_true, Option.getD_some];simp only [List.take_succ_cons, List.take_zero];refine ⟨?_, ?_, ?_, ?_, ?_, ?_, ?_, ?_, ?_, ?_, ?_, trivial⟩
  .
   intro done us W hJ hdep haft hnot b hb hb' K hK Q';obtain ⟨hX0, cc0, cc1, cc2, cc3, cc4, cc5, cc6, cc7, cc8, ll9⟩ := hJ;have e5 := (hb' 5 (by simp)).trans s5;clear hb hb';have hfin := hK (.slice (some ⟨gm, 0, none⟩) nn ct) _ ⟨hX0, fun _ => rfl, fun h => cc1 (h.resolve_right (by decide)), fun h => cc2 (h.resolve_right (by decide)), fun h => cc3 (h.resolve_right (by decide)), fun h => cc4 (h.resolve_right (by decide)), fun h => cc5 (h.resolve_right (by decide)), fun h => cc6 (h.resolve_right (by decide)), fun h => cc7 (h.resolve_right (by decide)), fun h => cc8 (h.resolve_right (by decide)), Loc.same ll9 ⟨fun h => h.resolve_right (by decide), .inl⟩ ⟨fun h => h.resolve_right (by decide), .inl⟩⟩;clear hK cc0 cc1 cc2 cc3 cc4 cc5 cc6 cc7 cc8 ll9;go_simp;exact hfin
  .
   intro done us W hJ hdep haft hnot b hb hb' K hK Q';obtain ⟨hX0, cc0, cc1, cc2, cc3, cc4, cc5, cc6, cc7, cc8, ll9⟩ := hJ;have e8 := (hb' 8 (by simp)).trans s8;clear hb hb';have hfin := hK (.int .i64 (ii : Int)) _ ⟨hX0, fun h => cc0 (h.resolve_right (by decide)), fun _ => rfl, fun h => cc2 (h.resolve_right (by decide)), fun h => cc3 (h.resolve_right (by decide)), fun h => cc4 (h.resolve_right (by decide)), fun h => cc5 (h.resolve_right (by decide)), fun h => cc6 (h.resolve_right (by decide)), fun h => cc7 (h.resolve_right (by decide)), fun h => cc8 (h.resolve_right (by decide)), Loc.same ll9 ⟨fun h => h.resolve_right (by decide), .inl⟩ ⟨fun h => h.resolve_right (by decide), .inl⟩⟩;clear hK cc0 cc1 cc2 cc3 cc4 cc5 cc6 cc7 cc8 ll9;go_simp;exact hfin
  .
   intro done us W hJ hdep haft hnot b hb hb' K hK Q';obtain ⟨hX0, cc0, cc1, cc2, cc3, cc4, cc5, cc6, cc7, cc8, ll9⟩ := hJ;simp only [List.getD_cons_succ, List.getD_cons_zero, List.mem_cons, List.not_mem_nil, or_false, forall_eq_or_imp, forall_eq] at hdep;have e40 := hb 0 40 rfl;rw [cc0 hdep.1] at e40;have e41 := hb 1 41 rfl;rw [cc1 hdep.2] at e41;clear hb hb';have hfin := hK (.pointer (some ⟨gm, ii, none⟩)) _ ⟨hX0, fun h => cc0 (h.resolve_right (by decide)), fun h => cc1 (h.resolve_right (by decide)), fun _ => rfl, fun h => cc3 (h.resolve_right (by decide)), fun h => cc4 (h.resolve_right (by decide)), fun h => cc5 (h.resolve_right (by decide)), fun h => cc6 (h.resolve_right (by decide)), fun h => cc7 (h.resolve_right (by decide)), fun h => cc8 (h.resolve_right (by decide)), Loc.same ll9 ⟨fun h => h.resolve_right (by decide), .inl⟩ ⟨fun h => h.resolve_right (by decide), .inl⟩⟩;clear hK cc0 cc1 cc2 cc3 cc4 cc5 cc6 cc7 cc8 ll9;go_simp;exact hfin
  .
   intro done us W hJ hdep haft hnot b hb hb' K hK Q';obtain ⟨hX0, cc0, cc1, cc2, cc3, cc4, cc5, cc6, cc7, cc8, ll9⟩ := hJ;simp only [List.getD_cons_succ, List.getD_cons_zero, List.mem_cons, List.not_mem_nil, or_false, forall_eq] at hdep;have e42 := hb 2 42 rfl;rw [cc2 hdep] at e42;clear hb hb';have q0 := hX0.cell ha;have hfin := hK (.slice (some ⟨ga, 0, none⟩) (nn + 1) ca) _ ⟨hX0, fun h => cc0 (h.resolve_right (by decide)), fun h => cc1 (h.resolve_right (by decide)), fun h => cc2 (h.resolve_right (by decide)), fun _ => rfl, fun h => cc4 (h.resolve_right (by decide)), fun h => cc5 (h.resolve_right (by decide)), fun h => cc6 (h.resolve_right (by decide)), fun h => cc7 (h.resolve_right (by decide)), fun h => cc8 (h.resolve_right (by decide)), Loc.same ll9 ⟨fun h => h.resolve_right (by decide), .inl⟩ ⟨fun h => h.resolve_right (by decide), .inl⟩⟩;clear hK cc0 cc1 cc2 cc3 cc4 cc5 cc6 cc7 cc8 ll9;go_simp;exact hfin
  .
   intro done us W hJ hdep haft hnot b hb hb' K hK Q';obtain ⟨hX0, cc0, cc1, cc2, cc3, cc4, cc5, cc6, cc7, cc8, ll9⟩ := hJ;have e1 := (hb' 1 (by simp)).trans s1;clear hb hb';have hfin := hK (.pointer (some ⟨gp, 0, none⟩)) _ ⟨hX0, fun h => cc0 (h.resolve_right (by decide)), fun h => cc1 (h.resolve_right (by decide)), fun h => cc2 (h.resolve_right (by decide)), fun h => cc3 (h.resolve_right (by decide)), fun _ => rfl, fun h => cc5 (h.resolve_right (by decide)), fun h => cc6 (h.resolve_right (by decide)), fun h => cc7 (h.resolve_right (by decide)), fun h => cc8 (h.resolve_right (by decide)), Loc.same ll9 ⟨fun h => h.resolve_right (by decide), .inl⟩ ⟨fun h => h.resolve_right (by decide), .inl⟩⟩;clear hK cc0 cc1 cc2 cc3 cc4 cc5 cc6 cc7 cc8 ll9;go_simp;exact hfin
  .
   intro done us W hJ hdep haft hnot b hb hb' K hK Q';obtain ⟨hX0, cc0, cc1, cc2, cc3, cc4, cc5, cc6, cc7, cc8, ll9⟩ := hJ;simp only [List.getD_cons_succ, List.getD_cons_zero, List.mem_cons, List.not_mem_nil, or_false, forall_eq] at hdep;have e44 := hb 4 44 rfl;rw [cc4 hdep] at e44;clear hb hb';have q0 := hX0.cell hp;have hfin := hK (.int .i64 (S : Int)) _ ⟨hX0, fun h => cc0 (h.resolve_right (by decide)), fun h => cc1 (h.resolve_right (by decide)), fun h => cc2 (h.resolve_right (by decide)), fun h => cc3 (h.resolve_right (by decide)), fun h => cc4 (h.resolve_right (by decide)), fun _ => rfl, fun h => cc6 (h.resolve_right (by decide)), fun h => cc7 (h.resolve_right (by decide)), fun h => cc8 (h.resolve_right (by decide)), Loc.same ll9 ⟨fun h => h.resolve_right (by decide), .inl⟩ ⟨fun h => h.resolve_right (by decide), .inl⟩⟩;clear hK cc0 cc1 cc2 cc3 cc4 cc5 cc6 cc7 cc8 ll9;go_simp;exact hfin
  .
   intro done us W hJ hdep haft hnot b hb hb' K hK Q';obtain ⟨hX0, cc0, cc1, cc2, cc3, cc4, cc5, cc6, cc7, cc8, ll9⟩ := hJ;simp only [List.getD_cons_succ, List.getD_cons_zero, List.mem_cons, List.not_mem_nil, or_false, forall_eq] at hdep;have e45 := hb 5 45 rfl;rw [cc5 hdep] at e45;clear hb hb';have hfin := hK (.int .i64 (nn : Int)) _ ⟨hX0, fun h => cc0 (h.resolve_right (by decide)), fun h => cc1 (h.resolve_right (by decide)), fun h => cc2 (h.resolve_right (by decide)), fun h => cc3 (h.resolve_right (by decide)), fun h => cc4 (h.resolve_right (by decide)), fun h => cc5 (h.resolve_right (by decide)), fun _ => rfl, fun h => cc7 (h.resolve_right (by decide)), fun h => cc8 (h.resolve_right (by decide)), Loc.same ll9 ⟨fun h => h.resolve_right (by decide), .inl⟩ ⟨fun h => h.resolve_right (by decide), .inl⟩⟩;clear hK cc0 cc1 cc2 cc3 cc4 cc5 cc6 cc7 cc8 ll9;go_simp;exact hfin
  .
   intro done us W hJ hdep haft hnot b hb hb' K hK Q';obtain ⟨hX0, cc0, cc1, cc2, cc3, cc4, cc5, cc6, cc7, cc8, ll9⟩ := hJ;simp only [List.getD_cons_succ, List.getD_cons_zero, List.mem_cons, List.not_mem_nil, or_false, forall_eq_or_imp, forall_eq] at hdep;have e43 := hb 3 43 rfl;rw [cc3 hdep.1] at e43;have e46 := hb 6 46 rfl;rw [cc6 hdep.2] at e46;clear hb hb';have hfin := hK (.pointer (some ⟨ga, nn * 2, none⟩)) _ ⟨hX0, fun h => cc0 (h.resolve_right (by decide)), fun h => cc1 (h.resolve_right (by decide)), fun h => cc2 (h.resolve_right (by decide)), fun h => cc3 (h.resolve_right (by decide)), fun h => cc4 (h.resolve_right (by decide)), fun h => cc5 (h.resolve_right (by decide)), fun h => cc6 (h.resolve_right (by decide)), fun _ => rfl, fun h => cc8 (h.resolve_right (by decide)), Loc.same ll9 ⟨fun h => h.resolve_right (by decide), .inl⟩ ⟨fun h => h.resolve_right (by decide), .inl⟩⟩;clear hK cc0 cc1 cc2 cc3 cc4 cc5 cc6 cc7 cc8 ll9;go_simp;exact hfin
  .
   intro done us W hJ hdep haft hnot b hb hb' K hK Q';obtain ⟨hX0, cc0, cc1, cc2, cc3, cc4, cc5, cc6, cc7, cc8, ll9⟩ := hJ;simp only [List.getD_cons_succ, List.getD_cons_zero, List.mem_cons, List.not_mem_nil, or_false, forall_eq] at hdep;have e47 := hb 7 47 rfl;rw [cc7 hdep] at e47;clear hb hb';have q0 := hX0.cell x0;have q1 := hX0.cell x1;have hfin := hK (.agg #[.bool sx, .slice Ax lx cx]) _ ⟨hX0, fun h => cc0 (h.resolve_right (by decide)), fun h => cc1 (h.resolve_right (by decide)), fun h => cc2 (h.resolve_right (by decide)), fun h => cc3 (h.resolve_right (by decide)), fun h => cc4 (h.resolve_right (by decide)), fun h => cc5 (h.resolve_right (by decide)), fun h => cc6 (h.resolve_right (by decide)), fun h => cc7 (h.resolve_right (by decide)), fun _ => rfl, Loc.same ll9 ⟨fun h => h.resolve_right (by decide), .inl⟩ ⟨fun h => h.resolve_right (by decide), .inl⟩⟩;clear hK cc0 cc1 cc2 cc3 cc4 cc5 cc6 cc7 cc8 ll9;go_simp;exact hfin
  .
   intro done us W hJ hdep haft hnot b hb hb' K hK Q';obtain ⟨hX0, cc0, cc1, cc2, cc3, cc4, cc5, cc6, cc7, cc8, ll9⟩ := hJ;simp only [List.getD_cons_succ, List.getD_cons_zero, List.mem_cons, List.not_mem_nil, or_false, forall_eq_or_imp, forall_eq] at haft;clear hb hb';have hfin := hK _ _ ⟨hX0.alloc _, fun h => cc0 (h.resolve_right (by decide)), fun h => cc1 (h.resolve_right (by decide)), fun h => cc2 (h.resolve_right (by decide)), fun h => cc3 (h.resolve_right (by decide)), fun h => cc4 (h.resolve_right (by decide)), fun h => cc5 (h.resolve_right (by decide)), fun h => cc6 (h.resolve_right (by decide)), fun h => cc7 (h.resolve_right (by decide)), fun h => cc8 (h.resolve_right (by decide)), Loc.new w W hX0 (fun h => h.elim haft (by decide)) (Ext.refl _)⟩;clear hK hX0 cc0 cc1 cc2 cc3 cc4 cc5 cc6 cc7 cc8 ll9;go_simp;exact hfin
  .
   intro done us W hJ hdep haft hnot b hb hb' K hK Q';obtain ⟨hX0, cc0, cc1, cc2, cc3, cc4, cc5, cc6, cc7, cc8, ll9⟩ := hJ;simp only [List.getD_cons_succ, List.getD_cons_zero, List.mem_cons, List.not_mem_nil, or_false, forall_eq_or_imp, forall_eq] at hdep;have e9 := hb 9 9 rfl;have e48 := hb 8 48 rfl;rw [cc8 hdep.1] at e48;obtain ⟨g, eg, hg, hB⟩ := ll9.stored hdep.2 hnot;rw [eg] at e9;have q0 : W.cell? ⟨g, 0, none⟩ = some (.bool false) := hB.cell 0;have z0 : W.frozen? ⟨g, 0, none⟩ = false := hB.free 0;have q1 : W.cell? ⟨g, 1, none⟩ = some (.slice none 0 0) := hB.cell 1;have z1 : W.frozen? ⟨g, 1, none⟩ = false := hB.free 1;clear hb hb';have hfin := hK undef _ ⟨((hX0.setCell hg _).setCell hg _), fun h => cc0 (h.resolve_right (by decide)), fun h => cc1 (h.resolve_right (by decide)), fun h => cc2 (h.resolve_right (by decide)), fun h => cc3 (h.resolve_right (by decide)), fun h => cc4 (h.resolve_right (by decide)), fun h => cc5 (h.resolve_right (by decide)), fun h => cc6 (h.resolve_right (by decide)), fun h => cc7 (h.resolve_right (by decide)), fun h => cc8 (h.resolve_right (by decide)), ⟨fun _ => ⟨g, eg, hg, fun _ => (Blk.set (Blk.set hB 0 _) 1 _), fun h => absurd (.inr rfl) h⟩⟩⟩;clear hK hX0 cc0 cc1 cc2 cc3 cc4 cc5 cc6 cc7 cc8 ll9;go_simp;exact hfin
 .
  intro us W hJ;obtain ⟨hX0, cc0, cc1, cc2, cc3, cc4, cc5, cc6, cc7, cc8, ll9⟩ := hJ;rw [show (ae Try.f73 10).drop 11 = [] by kernel_rfl];exact hend (us 0) (us 1) (us 2) (us 3) (us 4) (us 5) (us 6) (us 7) (us 8) (us 9) (us 10) W (cc0 (show 0 < 11 by decide)) (cc1 (show 1 < 11 by decide)) (cc2 (show 2 < 11 by decide)) (cc3 (show 3 < 11 by decide)) (cc4 (show 4 < 11 by decide)) (cc5 (show 5 < 11 by decide)) (cc6 (show 6 < 11 by decide)) (cc7 (show 7 < 11 by decide)) (cc8 (show 8 < 11 by decide)) (ll9.done (show 9 < 11 by decide) (show 10 < 11 by decide)) hX0
theorem i7 (go S gc tp cc ii jj ss kk gx gl d : Nat) (xz : Int) (sx : Bool) (Ax : Option Addr) (lx cx : Nat) (Al : Option Addr) (ll cl : Nat) (w : World) (hss : Hid (jj / 3 = ss)) (hkk : Hid (jj % 3 = kk)) (_hs1 : ss < S) (_hk3 : (kk : Int) < 3) (_hk4 : kk < 3) (_hj : jj <= 1000) (_hit : ii < tp) (hc : w.cell? ⟨gc, ii, none⟩ = some (.int .i64 (jj : Int))) (x0 : w.cell? ⟨gx, 0, none⟩ = some (.bool sx)) (x1 : w.cell? ⟨gx, 1, none⟩ = some (.slice Ax lx cx)) (hl1 : w.cell? ⟨gl, 1, none⟩ = some (.slice Al ll cl)) (hx : IntZ w (.agg #[.bool sx, .slice Ax lx cx]) xz) (hd : Z16 w (.slice Al ll cl) d) (fx : Fit 65536 xz.natAbs 106) (fd : Fit 65536 d 106) (hd0 : 0 < d) : aF Try.prog Try.f73 13 18 72 w [54, 55, 56, 57, 58, 59, 60, 61, 62, 63, 64, 65, 66, 67, 68, 69, 70, 71] [.c (.slice (some ⟨go, 0, none⟩) S S), .c (.slice (some ⟨gc, 0, none⟩) tp cc), .c (.int .i64 (ii : Int)), .c (.pointer (some ⟨gc, ii, none⟩)), .c (.int .i64 (jj : Int)), .c (.int .i64 (ss : Int)), .c (.slice (some ⟨gc, 0, none⟩) tp cc), .c (.int .i64 (ii : Int)), .c (.pointer (some ⟨gc, ii, none⟩)), .c (.int .i64 (jj : Int)), .c (.int .i64 (kk : Int)), .c (.agg #[.bool sx, .slice Ax lx cx]), .c (.pointer (some ⟨gl, 1, none⟩)), .c (.slice Al ll cl), .c (.agg #[.bool false, .slice Al ll cl]), .p fun v W => QZ W v (aw (decide (xz < 0)) xz.natAbs d), .c (.pointer (some ⟨go, ss * 9, none⟩)), .c (.pointer (some ⟨go, ss * 9 + kk * 3, none⟩))] [(3, .slice (some ⟨go, 0, none⟩) S S), (6, .slice (some ⟨gc, 0, none⟩) tp cc), (7, .pointer (some ⟨gl, 0, none⟩)), (8, .int .i64 (ii : Int)), (9, .pointer (some ⟨gx, 0, none⟩))] := by
 refine aJ [[], [], [], [1, 2], [3], [4], [], [], [6, 7], [8], [9], [], [], [12], [13], [11, 14], [0, 5], [10, 16]] (by kernel_rfl) (by kernel_rfl) rfl ⟨by intro v W W' h hX; exact QZ.ext h hX, trivial⟩ ?_;simp only [ae, Try.f73, ab, Option.bind_some, Nat.reduceBEq, if_true, if_false, Bool.false_eq_true, Option.getD_some];simp only [List.take_succ_cons, List.take_zero]
 repeat' first | refine ⟨?_, ?_⟩ | fail
 all_goals first | (intro us W b hJ K hK0 hK Qz; simp only [aC, al, am, List.getD_cons_succ, List.getD_cons_zero]) | exact True.intro
 all_goals try (intros; have q0 := Ext.cell hJ hc; have q1 := Ext.cell hJ x0; have q2 := Ext.cell hJ x1; have q3 := Ext.cell hJ hl1; go_simp; exact hK0 _ rfl)
 .
  intro e58 e3 e6 e7 e8 e9;have qw : IntKind.i64.wrap ((jj : Int) / 3) = (jj : Int) / 3 := IntWalk.i64_in _ (by omega);go_simp;exact hK0 _ (by have := hss.out; congr 1; omega)
 .
  intro e63 e3 e6 e7 e8 e9;have ht : (jj : Int).tmod 3 = (jj : Int) % 3 := Int.tmod_eq_emod_of_nonneg (by omega);have qw : IntKind.i64.wrap ((jj : Int) % 3) = (jj : Int) % 3 := IntWalk.i64_in _ (by omega);go_simp;exact hK0 _ (by have := hkk.out; congr 1; omega)
 .
  intro e65 e68 e3 e6 e7 e8 e9;go_simp;refine (nA _ xz false Al ll cl d 106 W (hx.ext hJ) (hd.ext hJ) fx fd (by omega) hd0).mono ?_;rintro e w' ⟨v, rfl, hv, hX⟩;exact hK _ _ hv hX
theorem rK (S : Nat) (A : Option Addr) (n c : Nat) (ms : List Mt) (w : World) (h : MsAt w A n ms) (hv : VP S ms) :
  Calls Try.prog 73 #[.agg #[.int .i64 (S : Int), .slice A n c]] w (fun e w' => ∃ go, e = .returned (.slice (some ⟨go, 0, none⟩) S S) /\ SRow w.heap.size w' (.slice (some ⟨go, 0, none⟩) S S) S (bp (3 * S) ms) /\ Ext w w') := by
 have hS1 : 1 <= S := by have := hv.1; omega
 have hS8 : S <= 8 := by have := hv.2.1; omega
 obtain ⟨nn, hN⟩ : ∃ nn, nn = 3 * S := ⟨_, rfl⟩;have hNb : nn <= 24 := by omega
 have hqN : IntKind.i64.wrap (3 * (S : Int)) = (nn : Int) := by rw [IntWalk.i64_in _ (by omega)]; omega
 have HX := hid ((Ext.refl w).alloc (.cells #[.int .i64 (S : Int), .slice A n c] 76));have HP := hid (Blk.new w 76 #[.int .i64 (S : Int), .slice A n c]);have H := hid h;have HV := hid hv;have HNN := hid hN;rw [<- hN];clear h hv hN;go_enter Try.func73, Try.ntmps73
 go_upto_region 1 with (fail)
 generalize w.alloc _ = w1 at HX HP |-;have p0 := HP.out.cell 0;have p1 := HP.out.cell 1;simp only [List.getElem?_toArray, List.getElem?_cons_zero, List.getElem?_cons_succ] at p0 p1;have hs1 := HX.out.size;have hpl := HP.out.lt
 go_upto_region 2 with (at_make; refine dg w1 sA rfl _ _ rfl w.heap.size _ _ _ _ S S rfl rfl (by first | rfl | omega) (by first | rfl | omega) (Nat.le_refl _) (by omega) (by unfold maxLen; omega) hs1 ?_; intro w2 us hown hz1 hz2 hext hsz)
 clear p0 p1;have hrow : RowN QZ 229 9 w.heap.size w2 w1.heap.size S S (3 * S) (fun _ => none) := RowN.make9 hown hz1 hz2;replace HX := hid (HX.out.trans hext);replace HP := hid (HP.out.ext hext);have hgo : w.heap.size < w1.heap.size := hpl;generalize w1.heap.size = go at hrow hs1 hsz hgo |-;have HR := hid hrow;have HGO : Hid (w.heap.size ≠ go) := hid (by omega);clear hrow hown hz1 hz2 hext hpl
 go_wp2_with fail
 go_loopg [4] nn (fun f iv wr => ∃ j : Nat, f = nn - j /\ j <= nn /\ iv = .int .i64 (j : Int) /\ Hid (RowN QZ 229 9 w.heap.size wr go S S (3 * S) (fun u => if u < j then some (0 : Rat) else none)) /\ Hid (Ext w wr) /\ Hid (Keeps [go] w2 wr))
 case atStart => exact ⟨0, by omega, by omega, rfl, hid (HR.out.congr (fun u _ => by rw [if_neg (by omega)])), HX, hid (Keeps.refl _ _)⟩
 case round =>
  clear HR HX;obtain ⟨j, rfl, hj, rfl, HR, HX, HK⟩ := hrel;replace HP := hid (HP.out.keeps HK.out (by have := HGO.out; simp; omega));have p0 := HP.out.cell 0;have p1 := HP.out.cell 1;simp only [List.getElem?_toArray, List.getElem?_cons_zero, List.getElem?_cons_succ] at p0 p1
  by_cases hlt : j < nn
  .
   have q1 : decide (j < nn) = true := decide_eq_true hlt;have q1b : decide ((j : Int) < (nn : Int)) = true := decide_eq_true (by omega);obtain ⟨ss, hss⟩ : ∃ ss, j / 3 = ss := ⟨_, rfl⟩;obtain ⟨kk, hkk⟩ : ∃ kk, j % 3 = kk := ⟨_, rfl⟩;have hkk3 : kk < 3 := by omega
   have hssS : ss < S := by have := HNN.out; omega
   have hpj : ss * 9 + kk * 3 = j * 3 := by omega
   have hj3 : j < 3 * S := by have := HNN.out; omega
   have HSS := hid hss;have HKK := hid hkk;have HPJ := hid hpj;clear hss hkk hpj
   go_upto_region 5 with (fail)
   refine qN go S j ss kk wr HSS.out HKK.out hssS (by omega) hkk3 (by omega) _ _ (by simp) ⟨rfl, rfl, trivial⟩ ?_;rintro W hX xv5 hv;simp only [EndK, ae, Try.f73, ab, Option.bind_some, Nat.reduceBEq, if_true, if_false, Bool.false_eq_true, Option.getD_some, List.drop_succ_cons, List.drop_zero];simp only [Act.put, List.setIfInBounds_toArray, List.set_cons_succ, List.set_cons_zero];replace HR := hid (HR.out.ext bT hX);replace HX := hid (HX.out.trans hX);replace HK := hid (HK.out.trans (Keeps.of_ext hX _));clear hX p0 p1;obtain ⟨s4, A4, l4, c4, B4, m4, k4, rfl⟩ := QZ.open hv;have HN := hid hv;clear hv;obtain ⟨s5, A5, l5, c5, B5, m5, k5, y0, y1, y2, _⟩ := HR.out.cells hj3 HPJ.out;have f0 := HR.out.free (ss * 9 + kk * 3);have f1 := HR.out.free (ss * 9 + kk * 3 + 1);have f2 := HR.out.free (ss * 9 + kk * 3 + 2);have hput := HR.out.put bT hj3 HPJ.out (hx := HN.out);have hkp : Keeps [go] W (((W.setCell ⟨go, ss * 9 + kk * 3, none⟩ (.bool s4)).setCell ⟨go, ss * 9 + kk * 3 + 1, none⟩ (.slice A4 l4 c4)).setCell ⟨go, ss * 9 + kk * 3 + 2, none⟩ (.slice B4 m4 k4)) := (((Keeps.refl [go] W).setCell (.inl (by simp)) _).setCell (.inl (by simp)) _).setCell (.inl (by simp)) _;have HPUT := hid hput;have HKP := hid hkp;have hgw : w.heap.size <= go := HR.out.low.1;have HX2 := hid (hkp.ext HX.out (fun g hg => by simp at hg; subst hg; exact hgw));clear hput hkp;have HK2 := hid (HK.out.trans HKP.out);go_wp2;go_roundg (nn - (j + 1))
   case rel =>
    refine ⟨j + 1, rfl, by omega, by go_num, hid (HPUT.out.congr (fun u _ => ?_)), HX2, HK2⟩
    by_cases e : u = j
    .
     rw [if_pos e, if_pos (by omega)]; rfl
    .
     rw [if_neg e]
     by_cases e2 : u < j
     .
      rw [if_pos e2, if_pos (by omega)]
     .
      rw [if_neg e2, if_neg (by omega)]
   case measure => omega
  .
   obtain rfl : nn = j := by omega
   have q1 : decide (nn < nn) = false := by simp
   have q1b : decide ((nn : Int) < (nn : Int)) = false := by simp
   have HR0 : Hid (RowN QZ 229 9 w.heap.size wr go S S (3 * S) (fun _ => some (0 : Rat))) := hid (HR.out.congr (fun u hu => by rw [if_pos (by have := HNN.out; omega)]));clear HR HK
   go_wp2_with fail
   refine (oP S nn A n c ms _ (H.out.ext HX.out) HV.out HNN.out).mono ?_;rintro e w3 ⟨gm, ct, vs, cv, sl, Al, ll, cl, rfl, hT, hC, hI, hX⟩;have hs3 := HX.out.size;have hgol := HR0.out.low.2;obtain ⟨B1, hB1⟩ : ∃ B1, wr.heap.size = B1 := ⟨_, rfl⟩;rw [hB1] at hT hC hgol;replace HX := hid (HX.out.trans hX);replace HP := hid (HP.out.ext hX);replace HR0 := hid (HR0.out.ext bT hX);clear hX p0 p1
   go_upto_region 7 with (fail)
   have hXa : Ext w3 (w3.alloc (.cells #[.bool sl, .slice Al ll cl] 63)) := (Ext.refl _).alloc _;have hB := Blk.new w3 63 #[.bool sl, .slice Al ll cl];have hg3 : go < w3.heap.size := HR0.out.low.2;have hlowT := hT.tabL_low;replace HX := hid (HX.out.trans hXa);replace HP := hid (HP.out.ext hXa);replace HR0 := hid (HR0.out.ext bT hXa);have HT := hid (hT.ext cz hXa);replace hC := hC.ext hXa;replace hI := hI.ext hXa;generalize w3.heap.size = gl at hB hg3 hlowT |-;generalize w3.alloc _ = w4 at hB HX HP HR0 HT hC hI |-;have HBL0 := hid hB;obtain ⟨tp, htp⟩ : ∃ tp, (kR ms nn nn).length = tp := ⟨_, rfl⟩;have hC2 : w4.ownsRow B1 3 1 cv (kR ms nn nn).length ((kR ms nn nn).map fun j : Nat => .int .i64 (j : Int)) := hC;rw [htp] at hC2;obtain ⟨Ac, cc, rfl⟩ := ar hC2;have HC := hid hC;have HTP := hid htp;have htn : tp <= nn := by rw [<- htp]; exact oL HV.out.2.2.2 (Nat.le_refl _)
   have HLOWT := hid hlowT
   obtain ⟨hIs, hId⟩ : sl = decide (lR ms nn nn < 0) /\ Z16 w4 (.slice Al ll cl) (lR ms nn nn).natAbs := by
    obtain ⟨A', l', c', e, hz⟩ := hI;injection e with e;have e : [Value.bool sl, .slice Al ll cl] = [.bool (decide (lR ms nn nn < 0)), .slice A' l' c'] := by simpa using e
    simp only [List.cons.injEq, Value.bool.injEq, Value.slice.injEq] at e;obtain ⟨h1, ⟨rfl, rfl, rfl⟩, _⟩ := e;exact ⟨h1, hz⟩
   have HII := hid hI;have HLD0 := hid hId;clear hC hC2 htp hB hlowT hT hXa hI hId hIs
   go_wp2_with fail
   go_loopg [8] tp (fun f iv wr => ∃ i : Nat, f = tp - i /\ i <= tp /\ iv = .int .i64 (i : Int) /\ Hid (RowN QZ 229 9 w.heap.size wr go S S (3 * S) (fun u => some (if u ∈ (kR ms nn nn).take i then bp nn ms u else 0))) /\ Hid (Ext w wr) /\ Hid (Keeps [go] w4 wr))
   case atStart => exact ⟨0, by omega, by omega, rfl, hid (HR0.out.congr (fun u _ => by simp)), HX, hid (Keeps.refl _ _)⟩
   case round =>
    clear HX;obtain ⟨i, rfl, hi, rfl, HR, HX, HK⟩ := hrel
    by_cases hil : i < tp
    .
     have q1 : decide (i < tp) = true := decide_eq_true hil;have q1b : decide ((i : Int) < (tp : Int)) = true := decide_eq_true (by omega);have hC5 : ColR B1 w4 (.slice Ac (kR ms nn nn).length cc) (kR ms nn nn) := by rw [HTP.out]; exact HC.out
     obtain ⟨j, hj⟩ : ∃ j, (kR ms nn nn)[i]? = some j := ⟨_, List.getElem?_eq_getElem (by rw [HTP.out]; exact hil)⟩;obtain ⟨gc, rfl, hgc, hcell⟩ := hC5.get hj;obtain ⟨hin, hjn, hsol⟩ := kw HV.out.2.2.2 hj;have HJ := hid hj;have HSOL := hid hsol;have HCC := hid hcell
     have hgcg : gc ≠ go := by
      have h1 : w4.ownsRow B1 3 1 (.slice (some ⟨gc, 0, none⟩) tp cc) tp ((kR ms nn nn).map fun j : Nat => .int .i64 (j : Int)) := by have := HC.out; unfold ColR at this; rw [HTP.out] at this; exact this
      obtain ⟨_, ⟨us, ho, _⟩, _⟩ := HR0.out
      rcases de h1 ho (by decide) with q | q
      .
       simp [Value.ownBlock] at q
      .
       simpa [Value.ownBlock] using q
     have hw4 := HK.out.size;have hni : ∀ g ∈ [go], NoInts w4 g := fun g hg => by simp at hg; subst hg; exact HR0.out.ni
     have hTK := HT.out.keeps cz HK.out hni (fun g hg => by
      simp at hg;subst hg;exact ⟨fun e => by have h1 := (HLOWT.out gm List.mem_cons_self).1; omega, fun v hv e => by have h1 := (HLOWT.out _ (List.mem_cons_of_mem _ (List.mem_filterMap.2 ⟨v, hv, e⟩))).1; omega⟩)
     obtain ⟨ga, ca, ra, tca, hva, hoa, hra, ha1, ha2, hat, ha3, ha4⟩ := hTK.row (by decide) (Nat.succ_pos _) hin;obtain ⟨sx, Ax, lx, cx, x0, x1, hx⟩ := hra.two (j := nn) (by omega);replace x0 := af hoa x0;replace x1 := af hoa x1;have HBL := hid (HBL0.out.keeps HK.out (by simp; omega));have HLI := hid (IntZ.keepsNI HII.out HK.out hni);have HLD : Hid (Z16 wr (.slice Al ll cl) (lR ms nn nn).natAbs) := hid (NatV.keepsNI HLD0.out HK.out hni);have HXI0 := hid hx;obtain ⟨ss, hss⟩ : ∃ ss, j / 3 = ss := ⟨_, rfl⟩;obtain ⟨kk, hkk⟩ : ∃ kk, j % 3 = kk := ⟨_, rfl⟩;have hkk3 : kk < 3 := by omega
     have hssS : ss < S := by have := HNN.out; omega
     have hpj : ss * 9 + kk * 3 = j * 3 := by omega
     have hj3 : j < 3 * S := by have := HNN.out; omega
     have HSS := hid hss;have HKK := hid hkk;have HPJ := hid hpj;have HFX : Hid (Fit 65536 (zR ms nn nn i nn).natAbs 106) := hid (jS HV.out.2.2.2 HV.out.2.2.1 hNb (Nat.le_refl _) hin (Nat.le_refl _));have HFL : Hid (Fit 65536 (lR ms nn nn).natAbs 106) := hid (oJ HV.out.2.2.2 HV.out.2.2.1 hNb (Nat.le_refl _));have HL0 : Hid (0 < (lR ms nn nn).natAbs) := hid (by have := oK (n := nn) HV.out.2.2.2 (Nat.le_refl nn); omega);have HGCG : Hid (gc ≠ go) := hid hgcg;clear hC5 hj hsol hcell hgcg hni hTK hva hoa hra ha1 ha2 hat ha3 ha4 hx hss hkk hpj;have p0 := (HP.out.keeps HK.out (by have := HGO.out; simp; omega)).cell 0;have p1 := (HP.out.keeps HK.out (by have := HGO.out; simp; omega)).cell 1;simp only [List.getElem?_toArray, List.getElem?_cons_zero, List.getElem?_cons_succ] at p0 p1
     go_upto_region 10 with (fail)
     refine oQ gm ct nn i ga ca w.heap.size S sx Ax lx cx wr tca p0 x0 x1 hqN hin (by omega) (by omega) _ _ (by simp) rfl rfl rfl ?_;rintro xv0 xv1 xv2 xv3 xv4 xv5 xv6 xv7 xv8 xv9 xv10 W rfl rfl rfl rfl rfl rfl rfl rfl rfl ⟨gx, rfl, hgx, kB⟩ hX;simp only [ae, Try.f73, ab, Option.bind_some, Nat.reduceBEq, if_true, if_false, Bool.false_eq_true, Option.getD_some, List.drop_succ_cons, List.drop_zero];simp only [Act.put, List.setIfInBounds_toArray, List.set_cons_succ, List.set_cons_zero];have HBX := hid kB;have HGXW : Hid (w.heap.size <= gx) := hid (by have := HX.out.size; omega);have HGXW4 : Hid (w4.heap.size <= gx) := hid (by have := HK.out.size; omega);have HGXL : Hid (gl ≠ gx) := hid (by have := HBL.out.lt; omega);have HGXG : Hid (go ≠ gx) := hid (by have := HR.out.low.2; omega);replace HXI0 := hid (HXI0.out.ext hX);replace HBL := hid (HBL.out.ext hX);replace HLI := hid (HLI.out.ext hX);replace HLD := hid (HLD.out.ext hX);replace HR := hid (HR.out.ext bT hX);replace HX := hid (HX.out.trans hX);replace HK := hid (HK.out.trans (Keeps.of_ext hX _));clear kB hX p0 p1 tca x0 x1;have kl0 := HBL.out.cell 0;have kl1 := HBL.out.cell 1;simp only [List.getElem?_toArray, List.getElem?_cons_zero, List.getElem?_cons_succ] at kl0 kl1
     go_wp2_with fail
     refine (ez _ (lR ms nn nn) _ HLI.out).mono ?_;rintro e w6 ⟨rfl, hX⟩;replace HXI0 := hid (HXI0.out.ext hX);replace HBX := hid (HBX.out.ext hX);replace HBL := hid (HBL.out.ext hX);replace HLI := hid (HLI.out.ext hX);replace HLD := hid (HLD.out.ext hX);replace HR := hid (HR.out.ext bT hX);replace HX := hid (HX.out.trans hX);replace HK := hid (HK.out.trans (Keeps.of_ext hX _));clear hX kl0 kl1
     by_cases hneg : lR ms nn nn < 0
     .
      have hsg : lm (lR ms nn nn) = -1 := by simp [lm, hneg]
      rw [hsg];clear hsg;have kx0 := HBX.out.cell 0;have kx1 := HBX.out.cell 1;simp only [List.getElem?_toArray, List.getElem?_cons_zero, List.getElem?_cons_succ] at kx0 kx1
      go_wp2_with fail
      refine (dK _ (zR ms nn nn i nn) _ HXI0.out).mono ?_;rintro e w7 ⟨v7, rfl, hv7, hX⟩;obtain ⟨Ay, ly, cy, rfl, _⟩ := IntZ.open hv7;obtain ⟨sy, hsy⟩ : ∃ s, decide (-(zR ms nn nn i nn) < 0) = s := ⟨_, rfl⟩;rw [hsy] at hv7 |-;clear hsy kx0 kx1;replace HBX := hid (HBX.out.ext hX);replace HBL := hid (HBL.out.ext hX);replace HLD := hid (HLD.out.ext hX);replace HR := hid (HR.out.ext bT hX);replace HX := hid (HX.out.trans hX);replace HK := hid (HK.out.trans (Keeps.of_ext hX _));clear hX;have kx0 := HBX.out.cell 0;have kx1 := HBX.out.cell 1;have fx0 := HBX.out.free 0;have fx1 := HBX.out.free 1;simp only [List.getElem?_toArray, List.getElem?_cons_zero, List.getElem?_cons_succ] at kx0 kx1;have hkx : Keeps [gx] w7 ((w7.setCell ⟨gx, 0, none⟩ (.bool sy)).setCell ⟨gx, 1, none⟩ (.slice Ay ly cy)) := ((Keeps.refl [gx] w7).setCell (.inl (by simp)) _).setCell (.inl (by simp)) _;have hnx : ∀ g ∈ [gx], NoInts w7 g := fun g hg => by simp at hg; subst hg; exact NoInts.two HBX.out
      have HXI := hid (IntZ.keepsNI hv7 hkx hnx);have HBX2 : Hid (Blk ((w7.setCell ⟨gx, 0, none⟩ (.bool sy)).setCell ⟨gx, 1, none⟩ (.slice Ay ly cy)) gx 63 #[.bool sy, .slice Ay ly cy]) := hid (by simpa using (HBX.out.set 0 (.bool sy)).set 1 (.slice Ay ly cy));have hgoL := HR.out.low.1;have hgl2 := HBL.out.lt;have HBL2 := hid (HBL.out.keeps hkx (by have := HGXL.out; simp; omega));have HLD2 : Hid (Z16 _ (.slice Al ll cl) (lR ms nn nn).natAbs) := hid (NatV.keepsNI HLD.out hkx hnx);have HR2 := hid (HR.out.keeps bT hkx hnx (by have := HGXG.out; simp; omega));have hxsz := HX.out.size;have HX2 := hid (hkx.ext HX.out (fun g hg => by simp at hg; subst hg; have := HGXW.out; omega));have HK2 := hid (HK.out.setCell (p := ⟨gx, 0, none⟩) (.inr (by have := HGXW4.out; simp only; omega)) (.bool sy));have HK3 := hid (HK2.out.setCell (p := ⟨gx, 1, none⟩) (.inr (by have := HGXW4.out; simp only; omega)) (.slice Ay ly cy));clear HBX HBL HLD HR HX HK HK2 hnx hkx hv7 HXI0 HLI
      go_upto_region 13 with (fail)
      clear kx0 kx1 fx0 fx1;generalize (w7.setCell _ _).setCell _ _ = w8 at HXI HBX2 HBL2 HLD2 HR2 HX2 HK3 |-;have HBX := HBX2;have HBL := HBL2;have HLD := HLD2;have HR := HR2;have HX := HX2;have HK := HK3;clear HBX2 HBL2 HLD2 HR2 HX2 HK3;have p0 := (HP.out.keeps HK.out (by have := HGO.out; simp; omega)).cell 0;have p1 := (HP.out.keeps HK.out (by have := HGO.out; simp; omega)).cell 1;simp only [List.getElem?_toArray, List.getElem?_cons_zero, List.getElem?_cons_succ] at p0 p1;have kx0 := HBX.out.cell 0;have kx1 := HBX.out.cell 1;have kl1 := HBL.out.cell 1;simp only [List.getElem?_toArray, List.getElem?_cons_zero, List.getElem?_cons_succ] at kx0 kx1 kl1;have xc := eT HK.out HCC.out (by have := HGO.out; simp; omega)
      go_upto_region 13 with (fail)
      refine i7 go S gc tp cc i j ss kk gx gl (lR ms nn nn).natAbs (-(zR ms nn nn i nn)) sy Ay ly cy Al ll cl w8 HSS.out HKK.out hssS (by omega) hkk3 (by omega) hil xc kx0 kx1 kl1 HXI.out HLD.out (by rw [Int.natAbs_neg]; exact HFX.out) HFL.out HL0.out _ _ (by simp) ⟨rfl, rfl, rfl, rfl, rfl, trivial⟩ ?_;rintro W hX xv15 hv;simp only [EndK, ae, Try.f73, ab, Option.bind_some, Nat.reduceBEq, if_true, if_false, Bool.false_eq_true, Option.getD_some, List.drop_succ_cons, List.drop_zero];simp only [Act.put, List.setIfInBounds_toArray, List.set_cons_succ, List.set_cons_zero];rw [fI HL0.out] at hv;replace HR := hid (HR.out.ext bT hX);replace HX := hid (HX.out.trans hX);replace HK := hid (HK.out.trans (Keeps.of_ext hX _));clear hX kx0 kx1 kl1 xc p0 p1;obtain ⟨s4, A4, l4, c4, B4, m4, k4, rfl⟩ := QZ.open hv;have HN := hid hv;clear hv;obtain ⟨s5, A5, l5, c5, B5, m5, k5, y0, y1, y2, _⟩ := HR.out.cells hj3 HPJ.out;have f0 := HR.out.free (ss * 9 + kk * 3);have f1 := HR.out.free (ss * 9 + kk * 3 + 1);have f2 := HR.out.free (ss * 9 + kk * 3 + 2);have hput := HR.out.put bT hj3 HPJ.out (hx := HN.out);have hkp : Keeps [go] W (((W.setCell ⟨go, ss * 9 + kk * 3, none⟩ (.bool s4)).setCell ⟨go, ss * 9 + kk * 3 + 1, none⟩ (.slice A4 l4 c4)).setCell ⟨go, ss * 9 + kk * 3 + 2, none⟩ (.slice B4 m4 k4)) := (((Keeps.refl [go] W).setCell (.inl (by simp)) _).setCell (.inl (by simp)) _).setCell (.inl (by simp)) _;have HPUT := hid hput;have HKP := hid hkp;have hgw : w.heap.size <= go := HR.out.low.1;have HX2 := hid (hkp.ext HX.out (fun g hg => by simp at hg; subst hg; exact hgw));clear hput hkp;have HK2 := hid (HK.out.trans HKP.out);go_wp2;go_roundg (tp - (i + 1))
      case rel =>
       refine ⟨i + 1, rfl, by omega, by go_num, hid (HPUT.out.congr (fun u _ => ?_)), HX2, HK2⟩;rw [List.take_add_one, HJ.out]
       by_cases e : u = j
       .
        subst e;rw [if_pos rfl, if_pos (by simp), <- HSOL.out, if_pos hneg]
       .
        rw [if_neg e]
        by_cases e2 : u ∈ (kR ms nn nn).take i
        .
         rw [if_pos e2, if_pos (by simp [e2])]
        .
         rw [if_neg e2, if_neg (by simp [e, e2])]
      case measure => omega
     .
      obtain ⟨sv, hsv, hsv2⟩ : ∃ sv, lm (lR ms nn nn) = sv /\ decide (sv < 0) = false := ⟨_, rfl, by unfold lm; rw [if_neg hneg]; split <;> rfl⟩;rw [hsv];clear hsv;have HXI := HXI0;clear HXI0 HLI
      go_upto_region 13 with (fail)
      obtain ⟨w8, hw8⟩ : ∃ w8, w8 = w6 := ⟨_, rfl⟩;subst hw8;have p0 := (HP.out.keeps HK.out (by have := HGO.out; simp; omega)).cell 0;have p1 := (HP.out.keeps HK.out (by have := HGO.out; simp; omega)).cell 1;simp only [List.getElem?_toArray, List.getElem?_cons_zero, List.getElem?_cons_succ] at p0 p1;have kx0 := HBX.out.cell 0;have kx1 := HBX.out.cell 1;have kl1 := HBL.out.cell 1;simp only [List.getElem?_toArray, List.getElem?_cons_zero, List.getElem?_cons_succ] at kx0 kx1 kl1;have xc := eT HK.out HCC.out (by have := HGO.out; simp; omega)
      go_upto_region 13 with (fail)
      refine i7 go S gc tp cc i j ss kk gx gl (lR ms nn nn).natAbs (zR ms nn nn i nn) sx Ax lx cx Al ll cl w8 HSS.out HKK.out hssS (by omega) hkk3 (by omega) hil xc kx0 kx1 kl1 HXI.out HLD.out HFX.out HFL.out HL0.out _ _ (by simp) ⟨rfl, rfl, rfl, rfl, rfl, trivial⟩ ?_;rintro W hX xv15 hv;simp only [EndK, ae, Try.f73, ab, Option.bind_some, Nat.reduceBEq, if_true, if_false, Bool.false_eq_true, Option.getD_some, List.drop_succ_cons, List.drop_zero];simp only [Act.put, List.setIfInBounds_toArray, List.set_cons_succ, List.set_cons_zero];rw [fI HL0.out] at hv;replace HR := hid (HR.out.ext bT hX);replace HX := hid (HX.out.trans hX);replace HK := hid (HK.out.trans (Keeps.of_ext hX _));clear hX kx0 kx1 kl1 xc p0 p1;obtain ⟨s4, A4, l4, c4, B4, m4, k4, rfl⟩ := QZ.open hv;have HN := hid hv;clear hv;obtain ⟨s5, A5, l5, c5, B5, m5, k5, y0, y1, y2, _⟩ := HR.out.cells hj3 HPJ.out;have f0 := HR.out.free (ss * 9 + kk * 3);have f1 := HR.out.free (ss * 9 + kk * 3 + 1);have f2 := HR.out.free (ss * 9 + kk * 3 + 2);have hput := HR.out.put bT hj3 HPJ.out (hx := HN.out);have hkp : Keeps [go] W (((W.setCell ⟨go, ss * 9 + kk * 3, none⟩ (.bool s4)).setCell ⟨go, ss * 9 + kk * 3 + 1, none⟩ (.slice A4 l4 c4)).setCell ⟨go, ss * 9 + kk * 3 + 2, none⟩ (.slice B4 m4 k4)) := (((Keeps.refl [go] W).setCell (.inl (by simp)) _).setCell (.inl (by simp)) _).setCell (.inl (by simp)) _;have HPUT := hid hput;have HKP := hid hkp;have hgw : w.heap.size <= go := HR.out.low.1;have HX2 := hid (hkp.ext HX.out (fun g hg => by simp at hg; subst hg; exact hgw));clear hput hkp;have HK2 := hid (HK.out.trans HKP.out);go_wp2;go_roundg (tp - (i + 1))
      case rel =>
       refine ⟨i + 1, rfl, by omega, by go_num, hid (HPUT.out.congr (fun u _ => ?_)), HX2, HK2⟩;rw [List.take_add_one, HJ.out]
       by_cases e : u = j
       .
        subst e;rw [if_pos rfl, if_pos (by simp), <- HSOL.out, if_neg (by omega)]
       .
        rw [if_neg e]
        by_cases e2 : u ∈ (kR ms nn nn).take i
        .
         rw [if_pos e2, if_pos (by simp [e2])]
        .
         rw [if_neg e2, if_neg (by simp [e, e2])]
      case measure => omega
    .
     obtain rfl : i = tp := by omega
     have q1 : decide (i < i) = false := by simp
     have q1b : decide ((i : Int) < (i : Int)) = false := by simp
     have HF : Hid (SRow w.heap.size wr (.slice (some ⟨go, 0, none⟩) S S) S (bp nn ms)) := hid (RowN.srow (HR.out.congr (h := fun u => some (bp nn ms u)) (fun u hu => by
      rw [List.take_of_length_le (by rw [HTP.out]; omega)]
      by_cases e : u ∈ kR ms nn nn
      .
       rw [if_pos e]
      .
       rw [if_neg e, iZ HV.out.2.2.2 (by have := HNN.out; omega) e])))
     go_wp2;go_ret
     exact ⟨go, rfl, HF.out, HX.out⟩
theorem oR {S : Nat} {ms : List Mt} (hV : VP S ms) : fG S (bp (3 * S) ms) 106 := by
 intro j hj;have hS8 : S <= 8 := by have := hV.2.1; omega
 by_cases hk : j ∈ kR ms (3 * S) (3 * S)
 .
  obtain ⟨i, hi⟩ := List.mem_iff_getElem?.1 hk;obtain ⟨h1, h2, h3⟩ := kw hV.2.2.2 hi;have f1 := jS (n := 3 * S) (j := 3 * S) hV.2.2.2 hV.2.2.1 (by omega) (Nat.le_refl _) h1 (Nat.le_refl _);have f2 := oJ (n := 3 * S) (j := 3 * S) hV.2.2.2 hV.2.2.1 (by omega) (Nat.le_refl _);have hz := oK (n := 3 * S) (j := 3 * S) hV.2.2.2 (Nat.le_refl _);have h0 : 0 < (lR ms (3 * S) (3 * S)).natAbs := by omega
  rw [<- h3, <- fI h0];refine fh h0 ?_ f2;split
  .
   rw [Int.natAbs_neg]; exact f1
  .
   exact f1
 .
  rw [iZ hV.2.2.2 hj hk];have h := aR (n := 0) (by omega) (by omega);exact FitR.mono (q := ((0 : Int) : Rat)) h (by omega)
theorem jX {S : Int} {ms : List Mt} (hm : ∀ m ∈ ms, VM S m) {n : Nat} (hn : n <= 24) {u : Nat -> Rat} (ht : pU n u) : FitQW (bh n u ms).2 := by
 cases h : (bh n u ms).1 with
 | none =>
  have := (iC n u ms).1 h;subst this;show FitQW 0;exact FitQW.of4 (f6 3) (by omega)
 | some a =>
  rcases ms with _ | ⟨m0, l⟩
  .
   cases h
  .
   obtain ⟨a', h1, h2, h3⟩ := ec n u (m0 :: l) l.length;show FitQW (bM n u (m0 :: l) (l.length + 1)).2;rw [h3];exact qx (hm _ (nK (by simp; omega))) hn ht
/-- What the reference's Solve returns. -/
def sB (w : World) (v : Value) (S : Nat) (ms : List Mt) : Prop := ∃ go, v = .slice (some ⟨go, 0, none⟩) S S /\ go < w.heap.size /\ ShP QZ w go 0 S (bp (3 * S) ms)
theorem jY {S n c : Nat} {A : Option Addr} {ms : List Mt} {w : World} (h : MsAt w A n ms) (hv : VP S ms) :
  Calls Try.prog 73 #[.agg #[.int .i64 (S : Int), .slice A n c]] w (fun e w' => ∃ v, e = .returned v /\ sB w' v S ms /\ Ext w w') := by
 refine (rK S A n c ms w h hv).mono ?_;rintro e w' ⟨go, rfl, hs, hX⟩;obtain ⟨g, hg, _, hl, hsh⟩ := hs.shp (by have := hv.1; omega);injection hg with hg;injection hg with hg;subst hg;exact ⟨_, rfl, ⟨go, rfl, hl, hsh⟩, hX⟩
theorem i8 (l : Nat -> Int) (a b : List Mt) : aO l (a ++ b) = aO (aO l a) b := by
 induction a generalizing l with
 | nil => rfl
 | cons m a ih => exact ih _
theorem bF {l : Nat -> Int} {ms : List Mt} {k : Nat} {m : Mt} (h : ms[k]? = some m) : aO l (ms.take (k + 1)) = cY (aO l (ms.take k)) m := by
 rw [dz h, i8];rfl
/-- What a round that has done k matches knows: nothing was changed, or something was. -/
def ChgB (l : Nat -> Int) (ms : List Mt) (k : Nat) (c : Bool) : Prop := (c = false -> aO l (ms.take k) = l) /\ (c = true -> ∃ i, aO l (ms.take k) i < l i)
theorem ChgB.zero (l : Nat -> Int) (ms : List Mt) : ChgB l ms 0 false := ⟨fun _ => rfl, fun h => (by cases h)⟩
theorem ChgB.same {l : Nat -> Int} {ms : List Mt} {k : Nat} {m : Mt} {c : Bool} (h : ChgB l ms k c) (hm : ms[k]? = some m) (e : cY (aO l (ms.take k)) m = aO l (ms.take k)) : ChgB l ms (k + 1) c := by
 unfold ChgB;rw [bF hm, e];exact h
theorem ChgB.less {l : Nat -> Int} {ms : List Mt} {k : Nat} {m : Mt} (h0 : ∀ m ∈ ms, 0 <= m.a) (hl : ∀ i, -1 <= l i) (hm : ms[k]? = some m) (e : ∃ i, cY (aO l (ms.take k)) m i < aO l (ms.take k) i) : ChgB l ms (k + 1) true := by
 refine ⟨fun h => (by cases h), fun _ => ?_⟩;obtain ⟨i, hi⟩ := e;rw [bF hm];have := (ea (ms := ms.take k) (fun m hm => h0 m (List.mem_of_mem_take hm)) hl i).1;exact ⟨i, by omega⟩
/-- Behind a round: the labels stay for good, or the rounds are not used up. -/
theorem ChgB.done {S : Nat} {ms : List Mt} (h0 : ∀ m ∈ ms, 0 <= m.a /\ m.a < S /\ m.b < S) {r : Nat} (_hr : r <= S) {k : Nat} (hk : ms.take k = ms) {c : Bool} (h : ChgB (ao ms r) ms k c) : (c = false /\ ao ms (r + 1) = ao ms S) \/ (c = true /\ r < S) := by
 unfold ChgB at h;rw [hk] at h
 cases c with
 | false =>
  have e : ao ms (r + 1) = ao ms r := h.1 rfl;have := jE e (S - r);rw [show r + (S - r) = S by omega] at this;exact .inl ⟨rfl, e.trans this.symm⟩
 | true =>
  refine .inr ⟨rfl, ?_⟩
  rcases Nat.lt_or_ge r S with h1 | h1
  .
   exact h1
  .
   obtain rfl : r = S := by omega
   obtain ⟨i, hi⟩ := h.2 rfl;have e : ao ms (r + 1) i = ao ms r i := by rw [fj h0]
   have : aO (ao ms r) ms i = ao ms r i := e;omega
theorem em (l : Nat -> Int) (an bn : Nat) (x y z d ww low : Int) (h : min (l an) (l bn) = low) : cY l ⟨(an : Int), (bn : Int), x, y, z, d, ww⟩ = fun i => if i = bn then low else if i = an then low else l i := by
 funext i
 unfold cY;simp only [Int.toNat_natCast, Int.ofNat_inj];rw [if_pos (show (0 : Int) <= (bn : Int) by omega), h]
 by_cases e : i = bn
 .
  rw [if_pos (.inr e), if_pos e]
 .
  rw [if_neg e]
  by_cases e2 : i = an
  .
   rw [if_pos (.inl e2), if_pos e2]
  .
   rw [if_neg (by omega), if_neg e2]
theorem en (l : Nat -> Int) (an : Nat) (x y z d ww : Int) : cY l ⟨(an : Int), -1, x, y, z, d, ww⟩ = fun i => if i = an then -1 else l i := by
 funext i
 unfold cY;simp only;rw [if_neg (show ¬ (0 : Int) <= -1 by omega)]
 by_cases e : i = an
 .
  rw [if_pos (.inl (by omega)), if_pos e]
 .
  rw [if_neg (by omega), if_neg e]
theorem dC {l : Nat -> Int} {an bn : Nat} {x y z d ww low : Int} (h : min (l an) (l bn) = low) (ha : l an = low) (hb : l bn = low) : cY l ⟨(an : Int), (bn : Int), x, y, z, d, ww⟩ = l := by
 rw [em l an bn x y z d ww low h]
 funext i
 by_cases e : i = bn
 .
  rw [if_pos e, e, hb]
 .
  rw [if_neg e]
  by_cases e2 : i = an
  .
   rw [if_pos e2, e2, ha]
  .
   rw [if_neg e2]
theorem dD {l : Nat -> Int} {an : Nat} {x y z d ww : Int} (ha : l an = -1) : cY l ⟨(an : Int), -1, x, y, z, d, ww⟩ = l := by
 rw [en]
 funext i
 by_cases e : i = an
 .
  rw [if_pos e, e, ha]
 .
  rw [if_neg e]
theorem fM {l : Nat -> Int} {an bn : Nat} {x y z d ww low : Int} (h : min (l an) (l bn) = low) (hd : l an ≠ low \/ l bn ≠ low) : ∃ i, cY l ⟨(an : Int), (bn : Int), x, y, z, d, ww⟩ i < l i := by
 rw [em l an bn x y z d ww low h]
 rcases hd with hd | hd
 .
  refine ⟨an, ?_⟩;simp only;split
  .
   omega
  .
   rw [if_pos trivial]; omega
 .
  exact ⟨bn, by simp only [if_true]; omega⟩
theorem fO {l : Nat -> Int} {an : Nat} {x y z d ww : Int} (_hl : -1 <= l an) (_hd : l an ≠ -1) : ∃ i, cY l ⟨(an : Int), -1, x, y, z, d, ww⟩ i < l i := by
 rw [en];exact ⟨an, by simp only [if_true]; omega⟩
theorem i9 {ms : List Mt} (h0 : ∀ m ∈ ms, 0 <= m.a) (r k i : Nat) : -1 <= aO (ao ms r) (ms.take k) i := (ea (ms := ms.take k) (fun m hm => h0 m (List.mem_of_mem_take hm)) (cZ h0 r) i).2
theorem RowI.of_list {base g n c : Nat} {w : World} {f : Nat -> Int} (h : w.ownsRow base 3 1 (.slice (some ⟨g, 0, none⟩) n c) n ((List.range n).map fun j => .int .i64 (f j))) : RowI base w g n c f :=
 ⟨_, h, by simp, fun j hj => ⟨[.int .i64 (f j)], rfl, rfl, fun i hi => by
  obtain rfl : i = 0 := by omega
  rw [Nat.mul_one, Nat.add_zero, List.getElem?_map, List.getElem?_range hj];rfl⟩⟩
theorem qO (go gm S co an bn : Nat) (la lb low : Int) (w : World) (v0 : w.cell? ⟨gm, 0, none⟩ = some (.int .i64 (an : Int))) (v1 : w.cell? ⟨gm, 1, none⟩ = some (.int .i64 (bn : Int))) (ca : w.cell? ⟨go, an, none⟩ = some (.int .i64 la)) (cb : w.cell? ⟨go, bn, none⟩ = some (.int .i64 lb)) (hlow : Hid (min la lb = low)) (_han : an < S) (_hbn : bn < S) : aF Try.prog Try.f75 15 12 51 w [40, 41, 42, 43, 44, 45, 46, 47, 48, 49, 50, 8] [.c (.slice (some ⟨go, 0, none⟩) S co), .c (.pointer (some ⟨gm, 0, none⟩)), .c (.int .i64 (an : Int)), .c (.pointer (some ⟨go, an, none⟩)), .c (.int .i64 (la)), .c (.slice (some ⟨go, 0, none⟩) S co), .c (.pointer (some ⟨gm, 1, none⟩)), .c (.int .i64 (bn : Int)), .c (.pointer (some ⟨go, bn, none⟩)), .c (.int .i64 (lb)), .c (.int .i64 low), .c (.int .i64 (low))] [(3, .slice (some ⟨go, 0, none⟩) S co), (7, .pointer (some ⟨gm, 0, none⟩))] := by
 refine aJ [[], [], [1], [0, 2], [3], [], [], [6], [5, 7], [8], [4, 9], [10]] (by kernel_rfl) (by kernel_rfl) rfl trivial ?_;simp only [ae, Try.f75, ab, Option.bind_some, Nat.reduceBEq, if_true, if_false, Bool.false_eq_true, Option.getD_some];simp only [List.take_succ_cons, List.take_zero]
 repeat' first | refine ⟨?_, ?_⟩ | fail
 all_goals first | (intro us W b hJ K hK0 hK Qz; simp only [aC, al, am, List.getD_cons_succ, List.getD_cons_zero]) | exact True.intro
 all_goals try (intros; have q0 := Ext.cell hJ v0; have q1 := Ext.cell hJ ca; have q2 := Ext.cell hJ v1; have q3 := Ext.cell hJ cb; go_simp; exact hK0 _ rfl)
 .
  intro e44 e49 e3 e7;go_simp;exact hK0 _ (congrArg (Value.int .i64) hlow.out)
theorem jc (S : Nat) (A : Option Addr) (n c : Nat) (ms : List Mt) (w : World) (h : MsAt w A n ms) (hv : VP (S : Int) ms) :
  Calls Try.prog 75 #[.agg #[.int .i64 (S : Int), .slice A n c]] w (fun e w' => ∃ go co, e = .returned (.slice (some ⟨go, 0, none⟩) S co) /\ RowI w.heap.size w' go S co (ao ms S) /\ Ext w w') := by
 have hS1 : 1 <= S := by have := hv.1; omega
 have hS8 : S <= 8 := by have := hv.2.1; omega
 have hn64 : n <= 64 := by have := hv.2.2.1; have := h.1; omega
 have H := hid h;have HL := hid h.1;have HVM := hid hv.2.2.2;have H0 : Hid (∀ m ∈ ms, 0 <= m.a /\ m.a < S /\ m.b < S) := hid (fun m hm => ⟨(hv.2.2.2 m hm).a0, (hv.2.2.2 m hm).aS, (hv.2.2.2 m hm).bS⟩);have HX := hid ((Ext.refl w).alloc (.cells #[.int .i64 (S : Int), .slice A n c] 76));have HP := hid (Blk.new w 76 #[.int .i64 (S : Int), .slice A n c]);clear h hv;go_enter Try.func75, Try.ntmps75
 go_upto_region 1 with (fail)
 generalize w.alloc _ = w1 at HX HP |-
 go_wp2_with fail
 go_loopg [3, 4] S (fun fu lv iv wr => ∃ j : Nat, fu = S - j /\ j <= S /\ iv = .int .i64 (j : Int) /\ Hid (wr.ownsRow w.heap.size 3 1 lv j ((List.range j).map fun i => .int .i64 ((i : Nat) : Int))) /\ Hid (Blk wr w.heap.size 76 #[.int .i64 (S : Int), .slice A n c]) /\ Hid (Ext w wr))
 case atStart => exact ⟨0, rfl, by omega, rfl, hid (World.ownsRow_nil _ _ _ _), HP, HX⟩
 case round =>
  clear HP HX;obtain ⟨j, rfl, hj, rfl, HO, HP, HX⟩ := hrel;obtain ⟨Ao, co, rfl⟩ := ar HO.out;have p0 := HP.out.cell 0;have p1 := HP.out.cell 1;simp only [List.getElem?_toArray, List.getElem?_cons_zero, List.getElem?_cons_succ] at p0 p1
  by_cases hlt : j < S
  .
   have q1 : decide (j < S) = true := decide_eq_true hlt;have hsz := HX.out.size
   go_wp2_with (at_builtin; refine au _ dX rfl _ _ rfl w.heap.size (.slice Ao j co) j _ rfl (HO.out.alloc _) _ 1 1 [.int .i64 (j : Int)] rfl rfl (At.new' _ [_] _ rfl) (by simp [Value.oneCell']) (by omega) (by unfold maxLen; omega) (by simp; omega) ?_; intro v8 w8 hown8 hgr8 _; have HG8 := hid hgr8; have HO8 := hid hown8; clear hgr8 hown8)
   go_roundg (S - (j + 1))
   case rel =>
    refine ⟨j + 1, rfl, by omega, by go_num, hid ?_, hid ((HP.out.alloc _).grown HG8.out (fun e => bz HO.out HP.out (by decide) e.symm)), hid ((HX.out.alloc _).grown HG8.out (fun b hb => (HO.out.lt b hb).1))⟩;rw [List.range_succ, List.map_append];exact HO8.out
   case measure => omega
  .
   obtain rfl : S = j := by omega
   have q1 : decide (S < S) = false := by simp
   obtain ⟨go, hgo⟩ : ∃ go, Ao = some ⟨go, 0, none⟩ := by
    rcases HO.out.2 with ⟨_, h0⟩ | ⟨g, cap, cur, hv, _⟩
    .
     omega
    .
     injection hv with hv;exact ⟨g, hv⟩
   subst hgo;have HQ : Hid (RowI w.heap.size wr go S co (fun u : Nat => (u : Int))) := hid (RowI.of_list HO.out);have hpl : w.heap.size ≠ go := fun e => bz HO.out HP.out (by decide) (by rw [<- e]; rfl)
   have HNE := hid hpl;clear HO hpl
   go_wp2_with fail
   clear p0 p1
   go_loopg [5] (S + 1) (fun fu rv wa => ∃ r : Nat, fu = S + 1 - r /\ r <= S + 1 /\ rv = .int .i64 (r : Int) /\ Hid (RowI w.heap.size wa go S co (ao ms r)) /\ Hid (Blk wa w.heap.size 76 #[.int .i64 (S : Int), .slice A n c]) /\ Hid (Ext w wa))
   case atStart => exact ⟨0, rfl, by omega, rfl, hid (HQ.out.congr (fun u _ => rfl)), HP, HX⟩
   case round =>
    clear HQ HP HX;obtain ⟨r, rfl, hr, rfl, HQ, HP, HX⟩ := hrel;have p0 := HP.out.cell 0;have p1 := HP.out.cell 1;simp only [List.getElem?_toArray, List.getElem?_cons_zero, List.getElem?_cons_succ] at p0 p1
    by_cases hrS : r <= S
    .
     have q2 : decide (r <= S) = true := decide_eq_true hrS;have q2b : decide ((r : Int) <= (S : Int)) = true := decide_eq_true (by omega)
     go_wp2_with fail
     clear p0 p1
     go_loopg [6] n (fun fu iv wz => ∃ k : Nat, fu = n - k /\ k <= n /\ iv = .int .i64 (k : Int) /\ Hid (RowI w.heap.size wz go S co (aO (ao ms r) (ms.take k))) /\ Hid (Blk wz w.heap.size 76 #[.int .i64 (S : Int), .slice A n c]) /\ Hid (Ext w wz))
     case atStart => exact ⟨0, by omega, by omega, rfl, hid (HQ.out.congr (fun u _ => rfl)), HP, HX⟩
     case round =>
      clear HQ HP HX;obtain ⟨k, rfl, hk, rfl, HQ, HP, HX⟩ := hrel;have p0 := HP.out.cell 0;have p1 := HP.out.cell 1;simp only [List.getElem?_toArray, List.getElem?_cons_zero, List.getElem?_cons_succ] at p0 p1
      by_cases hkn : k < n
      .
       have q3 : decide (k < n) = true := decide_eq_true hkn;have q3b : decide ((k : Int) < (n : Int)) = true := decide_eq_true (by omega);obtain ⟨gq, oq, ⟨a, b, x, y, z, d, ww⟩, rfl, hm, hmem, x0, x1, x2, x3, x4, x5, x6⟩ := (H.out.ext HX.out).get hkn;simp only at x0 x1 x2 x3 x4 x5 x6;have hVMm := HVM.out _ hmem;have hma := hVMm.a0;have hmaS := hVMm.aS;have hmb := hVMm.b0;have hmbS := hVMm.bS;have hmne := hVMm.ne;simp only at hma hmaS hmb hmbS hmne;have HTM := hid hm;clear hm hmem hVMm;obtain ⟨an, rfl⟩ : ∃ an : Nat, a = an := ⟨a.toNat, by omega⟩;have hanS : an < S := by omega
       clear hma hmaS
       by_cases hb0 : 0 <= b
       .
        obtain ⟨bn, rfl⟩ : ∃ bn : Nat, b = bn := ⟨b.toNat, by omega⟩;have hbnS : bn < S := by omega
        have habn : an ≠ bn := by omega
        clear hmb hmbS hmne;have q8 : decide ((0 : Int) <= (bn : Int)) = true := decide_eq_true hb0;clear hb0
        go_upto_region 14 with (fail)
        have hXa : Ext wr (wr.alloc (.cells #[.int .i64 (an : Int), .int .i64 (bn : Int), .int .i64 (x), .int .i64 (y), .int .i64 (z), .int .i64 (d), .int .i64 (ww)] 90)) := (Ext.refl _).alloc _;have kM := Blk.new wr 90 #[.int .i64 (an : Int), .int .i64 (bn : Int), .int .i64 (x), .int .i64 (y), .int .i64 (z), .int .i64 (d), .int .i64 (ww)];have hgl := (RowI.low HQ.out).2;replace HX := hid (HX.out.trans hXa);replace HQ := hid (RowI.ext HQ.out hXa);replace HP := hid (HP.out.ext hXa);clear hXa x0 x1 x2 x3 x4 x5 x6 p0 p1;generalize wr.heap.size = gm at kM hgl |-;generalize wr.alloc _ = w5 at kM HX HQ HP |-;have HM := hid kM;clear kM;have v0 := HM.out.cell 0;have v1 := HM.out.cell 1;simp only [List.getElem?_toArray, List.getElem?_cons_zero, List.getElem?_cons_succ] at v0 v1;obtain ⟨la, hla⟩ : ∃ la, (aO (ao ms r) (ms.take k)) an = la := ⟨_, rfl⟩;have ca := RowI.cell HQ.out hanS;rw [hla] at ca;have HLA := hid hla;have HGO := hid (RowI.low HQ.out).1;clear hla;obtain ⟨lb, hlb⟩ : ∃ lb, (aO (ao ms r) (ms.take k)) bn = lb := ⟨_, rfl⟩;have cb := RowI.cell HQ.out hbnS;rw [hlb] at cb;have HLB := hid hlb;clear hlb;obtain ⟨low, hlow⟩ : ∃ low, min la lb = low := ⟨_, rfl⟩;have hmin := hlow;have HLO := hid hlow;have HMIN : Hid (min ((aO (ao ms r) (ms.take k)) an) ((aO (ao ms r) (ms.take k)) bn) = low) := hid (by rw [HLA.out, HLB.out]; exact hmin);clear hlow hmin
        go_upto_region 15 with (fail)
        refine qO go gm S co an bn la lb low w5 v0 v1 ca cb HLO hanS hbnS _ _ (by simp) ⟨rfl, rfl, trivial⟩ ?_;rintro W hX;simp only [EndK, ae, Try.f75, ab, Option.bind_some, Nat.reduceBEq, if_true, if_false, Bool.false_eq_true, Option.getD_some, List.drop_succ_cons, List.drop_zero];simp only [Act.put, List.setIfInBounds_toArray, List.set_cons_succ, List.set_cons_zero];replace HX := hid (HX.out.trans hX);replace HQ := hid (RowI.ext HQ.out hX);replace HP := hid (HP.out.ext hX);replace HM := hid (HM.out.ext hX);clear hX v0 v1 ca cb;have v0 := HM.out.cell 0;have v1 := HM.out.cell 1;simp only [List.getElem?_toArray, List.getElem?_cons_zero, List.getElem?_cons_succ] at v0 v1;have cb := RowI.cell HQ.out hbnS;have f1 := RowI.free HQ.out bn;have HST : Hid (aO (ao ms r) (ms.take (k + 1)) = fun i => if i = bn then low else if i = an then low else (aO (ao ms r) (ms.take k)) i) := hid (by rw [bF HTM.out, em _ an bn x y z d ww low HMIN.out]);clear HMIN HLO HLA HLB;have HPUT := hid (RowI.put HQ.out hbnS low);have HM2 := hid (HM.out.far (p := ⟨go, bn, none⟩) (by simp only; omega) (.int .i64 low));have HP2 := hid (HP.out.far (p := ⟨go, bn, none⟩) (by have := HNE.out; simp only; omega) (.int .i64 low));have HX2 := hid (HX.out.setCell (p := ⟨go, bn, none⟩) (by have := HGO.out; simp only; omega) (.int .i64 low))
        go_upto_region 17 with (fail)
        clear v0 v1 cb f1 HM HP HX HQ;generalize W.setCell _ _ = wb at HPUT HM2 HP2 HX2 |-;have v0 := HM2.out.cell 0;simp only [List.getElem?_toArray, List.getElem?_cons_zero, List.getElem?_cons_succ] at v0;have ca := RowI.cell HPUT.out hanS;have f0 := RowI.free HPUT.out an;have HPUU := hid (RowI.put HPUT.out hanS low);go_wp2;go_roundg (n - (k + 1))
        case rel =>
         refine ⟨k + 1, rfl, by omega, by go_num, hid (HPUU.out.congr (fun u _ => ?_)), hid (HP2.out.far (by have := HNE.out; simp only; omega) _), hid (HX2.out.setCell (by have := HGO.out; simp only; omega) _)⟩;rw [HST.out];dsimp only
         by_cases e1 : u = an
         .
          subst e1;rw [if_pos rfl, if_neg habn, if_pos rfl]
         .
          rw [if_neg e1]
          by_cases e2 : u = bn
          .
           rw [if_pos e2, if_pos e2]
          .
           rw [if_neg e2, if_neg e2, if_neg e1]
        case measure => omega
       .
        obtain rfl : b = -1 := by omega
        clear hmb hmbS hmne hb0
        go_upto_region 14 with (fail)
        have hXa : Ext wr (wr.alloc (.cells #[.int .i64 (an : Int), .int .i64 (-1), .int .i64 (x), .int .i64 (y), .int .i64 (z), .int .i64 (d), .int .i64 (ww)] 90)) := (Ext.refl _).alloc _;have kM := Blk.new wr 90 #[.int .i64 (an : Int), .int .i64 (-1), .int .i64 (x), .int .i64 (y), .int .i64 (z), .int .i64 (d), .int .i64 (ww)];have hgl := (RowI.low HQ.out).2;replace HX := hid (HX.out.trans hXa);replace HQ := hid (RowI.ext HQ.out hXa);replace HP := hid (HP.out.ext hXa);clear hXa x0 x1 x2 x3 x4 x5 x6 p0 p1;generalize wr.heap.size = gm at kM hgl |-;generalize wr.alloc _ = w5 at kM HX HQ HP |-;have HM := hid kM;clear kM;have v0 := HM.out.cell 0;have v1 := HM.out.cell 1;simp only [List.getElem?_toArray, List.getElem?_cons_zero, List.getElem?_cons_succ] at v0 v1;obtain ⟨la, hla⟩ : ∃ la, (aO (ao ms r) (ms.take k)) an = la := ⟨_, rfl⟩;have ca := RowI.cell HQ.out hanS;rw [hla] at ca;have HLA := hid hla;have HGO := hid (RowI.low HQ.out).1;clear hla;have HST : Hid (aO (ao ms r) (ms.take (k + 1)) = fun i => if i = an then -1 else (aO (ao ms r) (ms.take k)) i) := hid (by rw [bF HTM.out, en]);have f0 := RowI.free HQ.out an;have HPUT := hid (RowI.put HQ.out hanS (-1));go_wp2;go_roundg (n - (k + 1))
        case rel => exact ⟨k + 1, rfl, by omega, by go_num, hid (HPUT.out.congr (fun u _ => by rw [HST.out])), hid (HP.out.far (by have := HNE.out; simp only; omega) _), hid (HX.out.setCell (by have := HGO.out; simp only; omega) _)⟩
        case measure => omega
      .
       obtain rfl : n = k := by omega
       have q3 : decide (n < n) = false := by simp
       have HTK : Hid (ms.take n = ms) := hid (List.take_of_length_le (by have := HL.out; omega));rw [HTK.out] at HQ;go_wp2;clear p0 p1;go_roundg (S + 1 - (r + 1))
       case rel => exact ⟨r + 1, rfl, by omega, by go_num, HQ, HP, HX⟩
       case measure => omega
    .
     obtain rfl : r = S + 1 := by omega
     have q2 : decide (S + 1 <= S) = false := decide_eq_false (by omega);have q2b : decide (((S + 1 : Nat) : Int) <= (S : Int)) = false := decide_eq_false (by omega);have q2c : decide ((S : Int) + 1 <= (S : Int)) = false := decide_eq_false (by omega);have HE : Hid (ao ms (S + 1) = ao ms S) := hid (fj H0.out);go_wp2;clear p0 p1;go_ret;exact ⟨go, co, rfl, HQ.out.congr (fun u _ => by rw [HE.out]), HX.out⟩
theorem qP (go gm S an bn : Nat) (la lb low : Int) (w : World) (v0 : w.cell? ⟨gm, 0, none⟩ = some (.int .i64 (an : Int))) (v1 : w.cell? ⟨gm, 1, none⟩ = some (.int .i64 (bn : Int))) (ca : w.cell? ⟨go, an, none⟩ = some (.int .i64 la)) (cb : w.cell? ⟨go, bn, none⟩ = some (.int .i64 lb)) (hlow : Hid (min la lb = low)) (_han : an < S) (_hbn : bn < S) : aF Try.prog Try.f72 17 11 48 w [37, 38, 39, 40, 41, 42, 43, 44, 45, 46, 47] [.c (.slice (some ⟨go, 0, none⟩) S S), .c (.pointer (some ⟨gm, 0, none⟩)), .c (.int .i64 (an : Int)), .c (.pointer (some ⟨go, an, none⟩)), .c (.int .i64 (la)), .c (.slice (some ⟨go, 0, none⟩) S S), .c (.pointer (some ⟨gm, 1, none⟩)), .c (.int .i64 (bn : Int)), .c (.pointer (some ⟨go, bn, none⟩)), .c (.int .i64 (lb)), .c (.int .i64 low)] [(4, .slice (some ⟨go, 0, none⟩) S S), (8, .pointer (some ⟨gm, 0, none⟩))] := by
 refine aJ [[], [], [1], [0, 2], [3], [], [], [6], [5, 7], [8], [4, 9]] (by kernel_rfl) (by kernel_rfl) rfl trivial ?_;simp only [ae, Try.f72, ab, Option.bind_some, Nat.reduceBEq, if_true, if_false, Bool.false_eq_true, Option.getD_some];simp only [List.take_succ_cons, List.take_zero]
 repeat' first | refine ⟨?_, ?_⟩ | fail
 all_goals first | (intro us W b hJ K hK0 hK Qz; simp only [aC, al, am, List.getD_cons_succ, List.getD_cons_zero]) | exact True.intro
 all_goals try (intros; have q0 := Ext.cell hJ v0; have q1 := Ext.cell hJ ca; have q2 := Ext.cell hJ v1; have q3 := Ext.cell hJ cb; go_simp; exact hK0 _ rfl)
 .
  intro e41 e46 e4 e8;go_simp;exact hK0 _ (congrArg (Value.int .i64) hlow.out)
theorem mA (S : Int) (A : Option Addr) (n c : Nat) (ms : List Mt) (w : World) (h : MsAt w A n ms) (hv : ¬ VP S ms) :
  Calls Try.prog 72 #[.agg #[.int .i64 S, .slice A n c]] w (fun e w' => e = .returned (.tuple #[.slice none 0 0, .int .i64 50]) /\ Ext w w') := by
 have H := hid h;have HR : Hid (jg S ms = false) := hid (aV hv);have HX := hid ((Ext.refl w).alloc (.cells #[.int .i64 S, .slice A n c] 76));have HP := hid (Blk.new w 76 #[.int .i64 S, .slice A n c]);clear h hv;go_enter Try.func72, Try.ntmps72
 go_upto_region 1 with (fail)
 generalize w.alloc _ = w1 at HX HP |-;have p0 := HP.out.cell 0;have p1 := HP.out.cell 1;simp only [List.getElem?_toArray, List.getElem?_cons_zero, List.getElem?_cons_succ] at p0 p1
 go_wp2_with fail
 refine (bR S A n c ms _ (H.out.ext HX.out)).mono ?_;rw [HR.out];rintro e w2 ⟨rfl, hX⟩;replace HX := hid (HX.out.trans hX);clear hX p0 p1;go_wp2
 go_ret2
 exact ⟨rfl, HX.out⟩
theorem mB (S : Nat) (A : Option Addr) (n c : Nat) (ms : List Mt) (w : World) (h : MsAt w A n ms) (hv : VP (S : Int) ms) :
  Calls Try.prog 72 #[.agg #[.int .i64 (S : Int), .slice A n c]] w (fun e w' => ∃ go, e = .returned (.tuple #[.slice (some ⟨go, 0, none⟩) S S, .int .i64 0]) /\ RowI w.heap.size w' go S S (ao ms S) /\ Ext w w') := by
 have hS1 : 1 <= S := by have := hv.1; omega
 have hS8 : S <= 8 := by have := hv.2.1; omega
 have hn64 : n <= 64 := by have := hv.2.2.1; have := h.1; omega
 have H := hid h;have HL := hid h.1;have HVM := hid hv.2.2.2;have H0 : Hid (∀ m ∈ ms, 0 <= m.a /\ m.a < S /\ m.b < S) := hid (fun m hm => ⟨(hv.2.2.2 m hm).a0, (hv.2.2.2 m hm).aS, (hv.2.2.2 m hm).bS⟩);have HR : Hid (jg (S : Int) ms = true) := hid (bt.2 hv);have HX := hid ((Ext.refl w).alloc (.cells #[.int .i64 (S : Int), .slice A n c] 76));have HP := hid (Blk.new w 76 #[.int .i64 (S : Int), .slice A n c]);clear h hv;go_enter Try.func72, Try.ntmps72
 go_upto_region 1 with (fail)
 generalize w.alloc _ = w1 at HX HP |-;have p0 := HP.out.cell 0;have p1 := HP.out.cell 1;simp only [List.getElem?_toArray, List.getElem?_cons_zero, List.getElem?_cons_succ] at p0 p1
 go_wp2_with fail
 refine (bR (S : Int) A n c ms _ (H.out.ext HX.out)).mono ?_;rw [HR.out];rintro e w2 ⟨rfl, hX⟩;replace HX := hid (HX.out.trans hX);replace HP := hid (HP.out.ext hX);clear hX p0 p1;have p0 := HP.out.cell 0;have p1 := HP.out.cell 1;simp only [List.getElem?_toArray, List.getElem?_cons_zero, List.getElem?_cons_succ] at p0 p1;have hs2 := HX.out.size
 go_upto_region 4 with (at_make; refine ap w2 dX rfl rfl _ _ rfl w.heap.size _ _ _ _ S S rfl rfl (by first | rfl | omega) (by first | rfl | omega) (Nat.le_refl _) (by omega) (by unfold maxLen; omega) hs2 ?_; intro w3 hown hext hsz)
 have hrow : RowI w.heap.size w3 w2.heap.size S S (fun _ => 0) := RowI.zero hown;have hpl := HP.out.lt;replace HX := hid (HX.out.trans hext);replace HP := hid (HP.out.ext hext);generalize w2.heap.size = go at hrow hpl hsz hs2 |-;have HQ := hid hrow;clear hrow hown hext p0 p1 hsz
 go_wp2_with fail
 go_loopg [18] S (fun f iv wr => ∃ j : Nat, f = S - j /\ j <= S /\ iv = .int .i64 (j : Int) /\ Hid (RowI w.heap.size wr go S S (fun u => if u < j then (u : Int) else 0)) /\ Hid (Blk wr w.heap.size 76 #[.int .i64 (S : Int), .slice A n c]) /\ Hid (Ext w wr))
 case atStart => exact ⟨0, by omega, by omega, rfl, hid (HQ.out.congr (fun u _ => by rw [if_neg (by omega)])), HP, HX⟩
 case round =>
  clear HQ HP HX;obtain ⟨j, rfl, hj, rfl, HQ, HP, HX⟩ := hrel
  by_cases hlt : j < S
  .
   have q1 : decide (j < S) = true := decide_eq_true hlt;have x0 := RowI.cell HQ.out hlt;have f0 := RowI.free HQ.out j;go_wp2;clear x0 f0;have hput := RowI.put HQ.out hlt (j : Int);go_roundg (S - (j + 1))
   case rel =>
    refine ⟨j + 1, rfl, by omega, by go_num, hid (hput.congr (fun u _ => ?_)), hid (HP.out.far (by simp only; omega) _), hid (HX.out.setCell (by simp only; omega) _)⟩
    by_cases e : u = j
    .
     rw [if_pos e, if_pos (by omega), e]
    .
     rw [if_neg e]
     by_cases h2 : u < j
     .
      rw [if_pos h2, if_pos (by omega)]
     .
      rw [if_neg h2, if_neg (by omega)]
   case measure => omega
  .
   obtain rfl : S = j := by omega
   have q1 : decide (S < S) = false := by simp
   go_wp2_with fail
   go_loopg [6] (S + 1) (fun fu cv wa => ∃ (r : Nat) (ch : Bool), r <= S /\ cv = .bool ch /\ fu = (if ch then S - r + 1 else 0) /\ Hid (RowI w.heap.size wa go S S (ao ms r)) /\ Hid (ch = false -> ao ms r = ao ms S) /\ Hid (Blk wa w.heap.size 76 #[.int .i64 (S : Int), .slice A n c]) /\ Hid (Ext w wa))
   case atStart => exact ⟨0, true, by omega, rfl, by simp, hid (HQ.out.congr (fun u hu => by rw [if_pos hu]; rfl)), hid (fun h => by cases h), HP, HX⟩
   case round =>
    clear HQ HP HX;obtain ⟨r, ch, hr, rfl, rfl, HQ, HE, HP, HX⟩ := hrel
    by_cases hch : ch = true
    .
     subst hch;clear HE;have p1 := HP.out.cell 1;simp only [List.getElem?_toArray, List.getElem?_cons_zero, List.getElem?_cons_succ] at p1
     go_wp2_with fail
     clear p1
     go_loopg [6, 30] n (fun fu cv iv wz => ∃ (k : Nat) (ch : Bool), fu = n - k /\ k <= n /\ cv = .bool ch /\ iv = .int .i64 (k : Int) /\ Hid (RowI w.heap.size wz go S S (aO (ao ms r) (ms.take k))) /\ Hid (ChgB (ao ms r) ms k ch) /\ Hid (Blk wz w.heap.size 76 #[.int .i64 (S : Int), .slice A n c]) /\ Hid (Ext w wz))
     case atStart => exact ⟨0, false, by omega, by omega, rfl, rfl, hid (HQ.out.congr (fun u _ => rfl)), hid (ChgB.zero _ _), HP, HX⟩
     case round =>
      clear HQ HP HX;obtain ⟨k, ch, rfl, hk, rfl, rfl, HQ, HC, HP, HX⟩ := hrel
      by_cases hkn : k < n
      .
       have q2 : decide (k < n) = true := decide_eq_true hkn;obtain ⟨gq, oq, ⟨a, b, x, y, z, d, ww⟩, rfl, hm, hmem, x0, x1, x2, x3, x4, x5, x6⟩ := (H.out.ext HX.out).get hkn;simp only at x0 x1 x2 x3 x4 x5 x6;have hVMm := HVM.out _ hmem;have hma := hVMm.a0;have hmaS := hVMm.aS;have hmb := hVMm.b0;have hmbS := hVMm.bS;have hmne := hVMm.ne;simp only at hma hmaS hmb hmbS hmne;have HTM := hid hm;clear hm hmem hVMm;obtain ⟨an, rfl⟩ : ∃ an : Nat, a = an := ⟨a.toNat, by omega⟩;have hanS : an < S := by omega
       clear hma hmaS
       go_upto_region 15 with (fail)
       by_cases hb0 : 0 <= b
       .
        obtain ⟨bn, rfl⟩ : ∃ bn : Nat, b = bn := ⟨b.toNat, by omega⟩;have hbnS : bn < S := by omega
        have habn : an ≠ bn := by omega
        clear hmb hmbS hmne;have q8 : decide ((0 : Int) <= (bn : Int)) = true := decide_eq_true hb0;clear hb0;have hXa : Ext wr (wr.alloc (.cells #[.int .i64 (an : Int), .int .i64 (bn : Int), .int .i64 (x), .int .i64 (y), .int .i64 (z), .int .i64 (d), .int .i64 (ww)] 90)) := (Ext.refl _).alloc _;have kM := Blk.new wr 90 #[.int .i64 (an : Int), .int .i64 (bn : Int), .int .i64 (x), .int .i64 (y), .int .i64 (z), .int .i64 (d), .int .i64 (ww)];have hgl := (RowI.low HQ.out).2;replace HX := hid (HX.out.trans hXa);replace HQ := hid (RowI.ext HQ.out hXa);replace HP := hid (HP.out.ext hXa);clear hXa x0 x1 x2 x3 x4 x5 x6;generalize wr.heap.size = gm at kM hgl |-;generalize wr.alloc _ = w5 at kM HX HQ HP |-;have HM := hid kM;clear kM;have v0 := HM.out.cell 0;have v1 := HM.out.cell 1;simp only [List.getElem?_toArray, List.getElem?_cons_zero, List.getElem?_cons_succ] at v0 v1;obtain ⟨la, hla⟩ : ∃ la, (aO (ao ms r) (ms.take k)) an = la := ⟨_, rfl⟩;have ca := RowI.cell HQ.out hanS;rw [hla] at ca;have HLA := hid hla;have hlow0 := i9 (ms := ms) (fun m hm => (H0.out m hm).1) r k an;rw [hla] at hlow0;clear hla;obtain ⟨lb, hlb⟩ : ∃ lb, (aO (ao ms r) (ms.take k)) bn = lb := ⟨_, rfl⟩;have cb := RowI.cell HQ.out hbnS;rw [hlb] at cb;have HLB := hid hlb;clear hlb;obtain ⟨low, hlow⟩ : ∃ low, min la lb = low := ⟨_, rfl⟩;have hmin := hlow;have HLO := hid hlow;have HMIN : Hid (min ((aO (ao ms r) (ms.take k)) an) ((aO (ao ms r) (ms.take k)) bn) = low) := hid (by rw [HLA.out, HLB.out]; exact hmin);clear hlow hmin
        go_upto_region 17 with (fail)
        refine qP go gm S an bn la lb low w5 v0 v1 ca cb HLO hanS hbnS _ _ (by simp) ⟨rfl, rfl, trivial⟩ ?_;rintro W hX;simp only [EndK, ae, Try.f72, ab, Option.bind_some, Nat.reduceBEq, if_true, if_false, Bool.false_eq_true, Option.getD_some, List.drop_succ_cons, List.drop_zero];simp only [Act.put, List.setIfInBounds_toArray, List.set_cons_succ, List.set_cons_zero];replace HX := hid (HX.out.trans hX);replace HQ := hid (RowI.ext HQ.out hX);replace HP := hid (HP.out.ext hX);replace HM := hid (HM.out.ext hX);clear hX v0 v1 ca cb;have v0 := HM.out.cell 0;have v1 := HM.out.cell 1;simp only [List.getElem?_toArray, List.getElem?_cons_zero, List.getElem?_cons_succ] at v0 v1;have ca := RowI.cell HQ.out hanS;rw [HLA.out] at ca;have cb := RowI.cell HQ.out hbnS;rw [HLB.out] at cb;have hea : la ≠ low \/ la = low := by omega
        have heb : lb ≠ low \/ lb = low := by omega
        have HEQ : Hid (la = low -> lb = low -> ChgB (ao ms r) ms (k + 1) ch) := hid (fun e1 e2 => HC.out.same HTM.out (dC HMIN.out (HLA.out.trans e1) (HLB.out.trans e2)));have HNE : Hid (la ≠ low \/ lb ≠ low -> ChgB (ao ms r) ms (k + 1) true) := hid (fun hd => ChgB.less (fun m hm => (H0.out m hm).1) (cZ (fun m hm => (H0.out m hm).1) r) HTM.out (fM HMIN.out (by rw [HLA.out, HLB.out]; exact hd)));have HST : Hid (aO (ao ms r) (ms.take (k + 1)) = fun i => if i = bn then low else if i = an then low else (aO (ao ms r) (ms.take k)) i) := hid (by rw [bF HTM.out, em _ an bn x y z d ww low HMIN.out]);have HSA : Hid (la = low -> lb = low -> aO (ao ms r) (ms.take (k + 1)) = (aO (ao ms r) (ms.take k))) := hid (fun e1 e2 => by rw [bF HTM.out]; exact dC HMIN.out (HLA.out.trans e1) (HLB.out.trans e2));clear HMIN HLO HLA HLB HC
        by_cases ha : la = low
        .
         by_cases hb : lb = low
         .
          have q5 : (la != low) = false := by simpa using ha
          have q6 : (lb != low) = false := by simpa using hb
          have HA := hid ha;have HB := hid hb;clear ha hb hea heb;go_wp2;go_roundg (n - (k + 1))
          case rel => exact ⟨k + 1, ch, rfl, by omega, rfl, by go_num, hid (HQ.out.congr (fun u _ => by rw [HSA.out HA.out HB.out])), hid (HEQ.out HA.out HB.out), HP, HX⟩
          case measure => omega
         .
          have q5 : (la != low) = false := by simpa using ha
          have q6 : (lb != low) = true := by simpa using hb
          have HD : Hid (la ≠ low \/ lb ≠ low) := hid (.inr hb);clear ha hb hea heb;have f0 := RowI.free HQ.out an;have HPUT := hid (RowI.put HQ.out hanS low);have HM2 := hid (HM.out.far (p := ⟨go, an, none⟩) (by simp only; omega) (.int .i64 low));have HP2 := hid (HP.out.far (p := ⟨go, an, none⟩) (by simp only; omega) (.int .i64 low));have HX2 := hid (HX.out.setCell (p := ⟨go, an, none⟩) (by simp only; omega) (.int .i64 low))
          go_upto_region 20 with (fail)
          clear v0 v1 ca cb f0 HM HP HX HQ;generalize W.setCell _ _ = wb at HPUT HM2 HP2 HX2 |-;have v1 := HM2.out.cell 1;simp only [List.getElem?_toArray, List.getElem?_cons_zero, List.getElem?_cons_succ] at v1;have cb := RowI.cell HPUT.out hbnS;have f1 := RowI.free HPUT.out bn;have HPUU := hid (RowI.put HPUT.out hbnS low);go_wp2;go_roundg (n - (k + 1))
          case rel => exact ⟨k + 1, true, rfl, by omega, rfl, by go_num, hid (HPUU.out.congr (fun u _ => by rw [HST.out])), hid (HNE.out HD.out), hid (HP2.out.far (by simp only; omega) _), hid (HX2.out.setCell (by simp only; omega) _)⟩
          case measure => omega
        .
         have q5 : (la != low) = true := by simpa using ha
         have HD : Hid (la ≠ low \/ lb ≠ low) := hid (.inl ha);clear ha hea heb;have f0 := RowI.free HQ.out an;have HPUT := hid (RowI.put HQ.out hanS low);have HM2 := hid (HM.out.far (p := ⟨go, an, none⟩) (by simp only; omega) (.int .i64 low));have HP2 := hid (HP.out.far (p := ⟨go, an, none⟩) (by simp only; omega) (.int .i64 low));have HX2 := hid (HX.out.setCell (p := ⟨go, an, none⟩) (by simp only; omega) (.int .i64 low))
         go_upto_region 20 with (fail)
         clear v0 v1 ca cb f0 HM HP HX HQ;generalize W.setCell _ _ = wb at HPUT HM2 HP2 HX2 |-;have v1 := HM2.out.cell 1;simp only [List.getElem?_toArray, List.getElem?_cons_zero, List.getElem?_cons_succ] at v1;have cb := RowI.cell HPUT.out hbnS;have f1 := RowI.free HPUT.out bn;have HPUU := hid (RowI.put HPUT.out hbnS low);go_wp2;go_roundg (n - (k + 1))
         case rel => exact ⟨k + 1, true, rfl, by omega, rfl, by go_num, hid (HPUU.out.congr (fun u _ => by rw [HST.out])), hid (HNE.out HD.out), hid (HP2.out.far (by simp only; omega) _), hid (HX2.out.setCell (by simp only; omega) _)⟩
         case measure => omega
       .
        obtain rfl : b = -1 := by omega
        clear hmb hmbS hmne hb0;have hXa : Ext wr (wr.alloc (.cells #[.int .i64 (an : Int), .int .i64 (-1), .int .i64 (x), .int .i64 (y), .int .i64 (z), .int .i64 (d), .int .i64 (ww)] 90)) := (Ext.refl _).alloc _;have kM := Blk.new wr 90 #[.int .i64 (an : Int), .int .i64 (-1), .int .i64 (x), .int .i64 (y), .int .i64 (z), .int .i64 (d), .int .i64 (ww)];have hgl := (RowI.low HQ.out).2;replace HX := hid (HX.out.trans hXa);replace HQ := hid (RowI.ext HQ.out hXa);replace HP := hid (HP.out.ext hXa);clear hXa x0 x1 x2 x3 x4 x5 x6;generalize wr.heap.size = gm at kM hgl |-;generalize wr.alloc _ = w5 at kM HX HQ HP |-;have HM := hid kM;clear kM;have v0 := HM.out.cell 0;have v1 := HM.out.cell 1;simp only [List.getElem?_toArray, List.getElem?_cons_zero, List.getElem?_cons_succ] at v0 v1;obtain ⟨la, hla⟩ : ∃ la, (aO (ao ms r) (ms.take k)) an = la := ⟨_, rfl⟩;have ca := RowI.cell HQ.out hanS;rw [hla] at ca;have HLA := hid hla;have hlow0 := i9 (ms := ms) (fun m hm => (H0.out m hm).1) r k an;rw [hla] at hlow0;clear hla;have hea : la ≠ -1 \/ la = -1 := by omega
        have HST : Hid (aO (ao ms r) (ms.take (k + 1)) = fun i => if i = an then -1 else (aO (ao ms r) (ms.take k)) i) := hid (by rw [bF HTM.out, en])
        by_cases ha : la = -1
        .
         have q5 : (la != -1) = false := by simpa using ha
         have HA := hid ha;clear ha hea;go_wp2;go_roundg (n - (k + 1))
         case rel => exact ⟨k + 1, ch, rfl, by omega, rfl, by go_num, hid (HQ.out.congr (fun u _ => by rw [bF HTM.out, dD (HLA.out.trans HA.out)])), hid (HC.out.same HTM.out (dD (HLA.out.trans HA.out))), HP, HX⟩
         case measure => omega
        .
         have q5 : (la != -1) = true := by simpa using ha
         have HD := hid ha;clear ha hea;have f0 := RowI.free HQ.out an;have hput := RowI.put HQ.out hanS (-1);have HPUT := hid hput
         have v1s : (w5.setCell ⟨go, an, none⟩ (.int .i64 (-1))).cell? ⟨gm, 1, none⟩ = some (.int .i64 (-1)) := by
          have := (HM.out.far (p := ⟨go, an, none⟩) (by simp only; omega) (.int .i64 (-1))).cell 1
          simpa using this
         clear hput;go_wp2;go_roundg (n - (k + 1))
         case rel =>
          exact ⟨k + 1, true, rfl, by omega, rfl, by go_num, hid (HPUT.out.congr (fun u _ => by rw [HST.out])), hid (ChgB.less (fun m hm => (H0.out m hm).1) (cZ (fun m hm => (H0.out m hm).1) r) HTM.out (fO (by rw [HLA.out]; exact hlow0) (by rw [HLA.out]; exact HD.out))), hid (HP.out.far (by simp only; omega) _), hid (HX.out.setCell (by simp only; omega) _)⟩
         case measure => omega
      .
       obtain rfl : n = k := by omega
       have q2 : decide (n < n) = false := by simp
       have HTK : Hid (ms.take n = ms) := hid (List.take_of_length_le (by have := HL.out; omega));have hd := HC.out.done H0.out hr HTK.out;rw [HTK.out] at HQ
       by_cases hc2 : ch = true
       .
        subst hc2;have hr2 : r < S := by rcases hd with ⟨h, _⟩ | ⟨_, h⟩; cases h; exact h
        clear hd;go_wp2;go_roundg (S - (r + 1) + 1)
        case rel => exact ⟨r + 1, true, by omega, rfl, by simp, HQ, hid (fun h => by cases h), HP, HX⟩
        case measure => simp; omega
       .
        obtain rfl : ch = false := by simpa using hc2
        have hE : ao ms (r + 1) = ao ms S := by rcases hd with ⟨_, h⟩ | ⟨h, _⟩; exact h; cases h
        have HE := hid hE;clear hd hE hc2;go_wp2;go_roundg 0
        case rel => exact ⟨S, false, by omega, rfl, by simp, hid (HQ.out.congr (fun u _ => by rw [<- HE.out]; rfl)), hid (fun _ => rfl), HP, HX⟩
        case measure => simp
    .
     obtain rfl : ch = false := by simpa using hch
     have HE2 := hid (HE.out rfl);clear hch HE;go_wp2
     go_ret2
     exact ⟨go, rfl, HQ.out.congr (fun u _ => by rw [HE2.out]), HX.out⟩
theorem oS (gt ot ct gs os cs S ss kk : Nat) (q : Rat) (sx : Bool) (Ax Bx : Option Addr) (lx cx mx kx : Nat) (sy : Bool) (Ay By : Option Addr) (ly cy my ky : Nat) (w : World) (a0 : w.cell? ⟨gt, ot + ss * 9 + kk * 3, none⟩ = some (.bool sx)) (a1 : w.cell? ⟨gt, ot + ss * 9 + kk * 3 + 1, none⟩ = some (.slice Ax lx cx)) (a2 : w.cell? ⟨gt, ot + ss * 9 + kk * 3 + 2, none⟩ = some (.slice Bx mx kx)) (b0 : w.cell? ⟨gs, os + ss * 9 + kk * 3, none⟩ = some (.bool sy)) (b1 : w.cell? ⟨gs, os + ss * 9 + kk * 3 + 1, none⟩ = some (.slice Ay ly cy)) (b2 : w.cell? ⟨gs, os + ss * 9 + kk * 3 + 2, none⟩ = some (.slice By my ky)) (_hs : ss < S) (_hs2 : (ss : Int) < (S : Int)) (_hk : kk < 3) (_hk2 : (kk : Int) < 3) (hx : RatC w (.agg #[.bool sx, .slice Ax lx cx, .slice Bx mx kx]) q) (hy : QZ w (.agg #[.bool sy, .slice Ay ly cy, .slice By my ky]) q) (hfq : FitQW q) : aF Try.prog Try.f74 9 14 36 w [22, 23, 24, 25, 26, 27, 28, 29, 30, 31, 32, 33, 34, 35] [.c (.slice (some ⟨gt, ot, none⟩) S ct), .c (.int .i64 (ss : Int)), .c (.int .i64 (kk : Int)), .c (.pointer (some ⟨gt, ot + ss * 9, none⟩)), .c (.pointer (some ⟨gt, ot + ss * 9 + kk * 3, none⟩)), .c (.agg #[.bool sx, .slice Ax lx cx, .slice Bx mx kx]), .c (.slice (some ⟨gs, os, none⟩) S cs), .c (.int .i64 (ss : Int)), .c (.int .i64 (kk : Int)), .c (.pointer (some ⟨gs, os + ss * 9, none⟩)), .c (.pointer (some ⟨gs, os + ss * 9 + kk * 3, none⟩)), .c (.agg #[.bool sy, .slice Ay ly cy, .slice By my ky]), .c (.bool true), .c (.bool false)] [(0, .slice (some ⟨gt, ot, none⟩) S ct), (1, .slice (some ⟨gs, os, none⟩) S cs), (5, .int .i64 (ss : Int)), (6, .int .i64 (kk : Int))] := by
 refine aJ [[], [], [], [0, 1], [2, 3], [4], [], [], [], [6, 7], [8, 9], [10], [5, 11], [12]] (by kernel_rfl) (by kernel_rfl) rfl trivial ?_;simp only [ae, Try.f74, ab, Option.bind_some, Nat.reduceBEq, if_true, if_false, Bool.false_eq_true, Option.getD_some];simp only [List.take_succ_cons, List.take_zero]
 repeat' first | refine ⟨?_, ?_⟩ | fail
 all_goals first | (intro us W b hJ K hK0 hK Qz; simp only [aC, al, am, List.getD_cons_succ, List.getD_cons_zero]) | exact True.intro
 all_goals try (intros; have q0 := Ext.cell hJ a0; have q1 := Ext.cell hJ a1; have q2 := Ext.cell hJ a2; have q3 := Ext.cell hJ b0; have q4 := Ext.cell hJ b1; have q5 := Ext.cell hJ b2; go_simp; exact hK0 _ rfl)
 .
  intro e27 e33 e0 e1 e5 e6;go_simp;refine (ed (RatC.ext hx hJ) (hy.ext hJ) hfq).mono ?_;rintro e w' ⟨rfl, hX⟩;exact hK _ _ rfl hX
theorem oT (gt ot ct gs os cs S : Nat) (u : Nat -> Rat) (w : World) (hT : ShP RatC w gt ot S u) (hQ : ShP QZ w gs os S u) (hf : ∀ j, j < 3 * S -> FitQW (u j)) (_hS8 : S <= 8) :
  Calls Try.prog 74 #[.slice (some ⟨gt, ot, none⟩) S ct, .slice (some ⟨gs, os, none⟩) S cs] w (fun e w' => e = .returned (.bool true) /\ Ext w w') := by
 have HT := hid hT;have HQ := hid hQ;have HF := hid hf;clear hT hQ hf;have hnn : ((S : Int) != (S : Int)) = false := by simp
 have HX := hid (Ext.refl w);go_enter Try.func74, Try.ntmps74
 go_wp2_with fail
 go_loopg [5] S (fun fu iv wr => ∃ s : Nat, fu = S - s /\ s <= S /\ iv = .int .i64 (s : Int) /\ Hid (Ext w wr))
 case atStart => exact ⟨0, rfl, by omega, rfl, HX⟩
 case round =>
  clear HX;obtain ⟨s, rfl, hs, rfl, HX⟩ := hrel
  by_cases hlt : s < S
  .
   have q1 : decide (s < S) = true := decide_eq_true hlt;have q1b : decide ((s : Int) < (S : Int)) = true := decide_eq_true (by omega)
   go_wp2_with fail
   go_loopg [6] 3 (fun fu iv wz => ∃ k : Nat, fu = 3 - k /\ k <= 3 /\ iv = .int .i64 (k : Int) /\ Hid (Ext w wz))
   case atStart => exact ⟨0, rfl, by omega, rfl, HX⟩
   case round =>
    clear HX;obtain ⟨k, rfl, hk, rfl, HX⟩ := hrel
    by_cases hk3 : k < 3
    .
     have q2 : decide ((k : Int) < 3) = true := decide_eq_true (by omega);have q2b : decide (k < 3) = true := decide_eq_true hk3;obtain ⟨s1, A1, l1, c1, B1, m1, k1, x0, x1, x2, hx⟩ := (HT.out.ext dl HX.out) s k hlt hk3;obtain ⟨s2, A2, l2, c2, B2, m2, k2, y0, y1, y2, hy⟩ := (HQ.out.ext bK HX.out) s k hlt hk3
     go_upto_region 9 with (fail)
     refine oS gt ot ct gs os cs S s k (u (3 * s + k)) s1 A1 B1 l1 c1 m1 k1 s2 A2 B2 l2 c2 m2 k2 wr x0 x1 x2 y0 y1 y2 hlt (by omega) hk3 (by omega) hx hy (HF.out _ (by omega)) _ _ (by simp) ⟨rfl, rfl, rfl, rfl, trivial⟩ ?_;rintro W hX2;simp only [EndK, ae, Try.f74, ab, Option.bind_some, Nat.reduceBEq, if_true, if_false, Bool.false_eq_true, Option.getD_some, List.drop_succ_cons, List.drop_zero];simp only [Act.put, List.setIfInBounds_toArray, List.set_cons_succ, List.set_cons_zero];replace HX := hid (HX.out.trans hX2);clear hX2 x0 x1 x2 y0 y1 y2 hx hy;go_wp2;go_roundg (3 - (k + 1))
     case rel => exact ⟨k + 1, rfl, by omega, by go_num, HX⟩
     case measure => omega
    .
     obtain rfl : k = 3 := by omega
     go_wp2;go_roundg (S - (s + 1))
     case rel => exact ⟨s + 1, rfl, by omega, by go_num, HX⟩
     case measure => omega
  .
   obtain rfl : s = S := by omega
   have q1 : decide (s < s) = false := by simp
   have q1b : decide ((s : Int) < (s : Int)) = false := by simp
   go_wp2;go_ret
   exact ⟨rfl, HX.out⟩
theorem rL {x : Int} (_h : -9223372036854775808 <= x /\ x <= 9223372036854775807) : (Lit.int .i64 x).wf = true := by
 simp [Lit.wf, IntKind.min, IntKind.max, IntKind.bits, IntKind.signed]; omega
/-- A row of integers reads as a list. -/
theorem RowI.ints {base g n c : Nat} {w : World} {f : Nat -> Int} (h : RowI base w g n c f) (hb : ∀ j, j < n -> -9223372036854775808 <= f j /\ f j <= 9223372036854775807) : Ints .i64 w (some ⟨g, 0, none⟩) n ((List.range n).map f) := by
 refine ⟨by simp, fun x hx => ?_, ?_⟩
 .
  obtain ⟨j, hj, rfl⟩ := List.mem_map.1 hx;exact rL (hb j (List.mem_range.1 hj))
 .
  have := At.of_own h.list;rw [List.map_map];exact this
theorem oU (b1 o1 c1 b2 o2 c2 n k : Nat) (x : Int) (w : World) (y1 : w.cell? ⟨b1, o1 + k, none⟩ = some (.int .i64 x)) (y2 : w.cell? ⟨b2, o2 + k, none⟩ = some (.int .i64 x)) (_hk : k < n) : aF Try.prog Try.f46 6 9 26 w [17, 18, 19, 20, 21, 22, 23, 24, 25] [.c (.slice (some ⟨b1, o1, none⟩) n c1), .c (.int .i64 (k : Int)), .c (.pointer (some ⟨b1, o1 + k, none⟩)), .c (.int .i64 x), .c (.slice (some ⟨b2, o2, none⟩) n c2), .c (.int .i64 (k : Int)), .c (.pointer (some ⟨b2, o2 + k, none⟩)), .c (.int .i64 x), .c (.bool false)] [(0, .slice (some ⟨b1, o1, none⟩) n c1), (1, .slice (some ⟨b2, o2, none⟩) n c2), (5, .int .i64 (k : Int))] := by
 refine aJ [[], [], [0, 1], [2], [], [], [4, 5], [6], [3, 7]] (by kernel_rfl) (by kernel_rfl) rfl trivial ?_;simp only [ae, Try.f46, ab, Option.bind_some, Nat.reduceBEq, if_true, if_false, Bool.false_eq_true, Option.getD_some];simp only [List.take_succ_cons, List.take_zero]
 repeat' first | refine ⟨?_, ?_⟩ | fail
 all_goals first | (intro us W b hJ K hK0 hK Qz; simp only [aC, al, am, List.getD_cons_succ, List.getD_cons_zero]) | exact True.intro
 all_goals try (intros; have q0 := Ext.cell hJ y1; have q1 := Ext.cell hJ y2; go_simp; exact hK0 _ rfl)
theorem oV (A B : Option Addr) (n c d : Nat) (xs : List Int) (w : World) (hA : Ints .i64 w A n xs) (hB : Ints .i64 w B n xs) (_hn : n <= 1000000) :
  Calls Try.prog 46 #[.slice A n c, .slice B n d] w fun e w' => e = .returned (.bool true) /\ Ext w w' := by
 have HA := hid hA;have HB := hid hB;clear hA hB;have hnn : ((n : Int) != (n : Int)) = false := by simp
 go_enter Try.func46, Try.ntmps46;go_wp2
 go_loopg [5] n (fun g i wr => ∃ k : Nat, g = n - k /\ k <= n /\ i = .int .i64 k /\ Ext w wr)
 case atStart => exact ⟨0, rfl, by omega, rfl, Ext.refl w⟩
 case round =>
  obtain ⟨k, rfl, hk, rfl, hX⟩ := hrel;have HX := hid hX;clear hX
  by_cases hlt : k < n
  .
   have q1 : decide ((k : Int) < (n : Int)) = true := decide_eq_true (by omega);obtain ⟨b, o, x, rfl, hx, _, hc1⟩ := (HA.out.ext HX.out).get hlt;obtain ⟨b', o', x', rfl, hx', _, hc2⟩ := (HB.out.ext HX.out).get hlt;obtain rfl : x' = x := by rw [hx] at hx'; exact (Option.some.inj hx').symm
   clear hx hx'
   go_upto_region 6 with (fail)
   refine oU b o c b' o' d n k x' wr hc1 hc2 hlt _ _ (by simp) ⟨rfl, rfl, rfl, trivial⟩ ?_;rintro W hXW;simp only [EndK, ae, Try.f46, ab, Option.bind_some, Nat.reduceBEq, if_true, if_false, Bool.false_eq_true, Option.getD_some, List.drop_succ_cons, List.drop_zero];simp only [Act.put, List.setIfInBounds_toArray, List.set_cons_succ, List.set_cons_zero];have HXW := hid (HX.out.trans hXW);clear hXW hc1 hc2;go_wp2;go_roundg (n - (k + 1))
   case rel => exact ⟨k + 1, rfl, by omega, by go_num, HXW.out⟩
   case measure => omega
  .
   obtain rfl : k = n := by omega
   have q1 : decide ((k : Int) < (k : Int)) = false := by simp
   go_wp2;go_ret
   exact ⟨rfl, HX.out⟩
end Go.Proofs.Ytikhlcgnlbinfaa
