/- Lemmas of the proof that follows (Operates, part 9): walks of functions by contract, and plain lemmas. Conditions: none. -/
import Derived.Test.YteoijnaljkagfaaOperatesH
namespace Go.Proofs.Yteoijnaljkagfaa
open Go.RowKit

def aggOf : Value → Array Value
  | .agg vs => vs
  | _ => #[]
theorem Blk.put2 {W : World} {g : Nat} {T : TypeId} {z0 z1 x0 x1 v : Value} (h : Blk W g T #[z0, z1]) (hu : v = .agg #[x0, x1]) : Blk ((W.setCell ⟨g, 0, none⟩ x0).setCell ⟨g, 1, none⟩ x1) g T (aggOf v) := by
  subst hu; exact (h.set 0 _).set 1 _
theorem IntZ.past {w : World} {v : Value} {z : Int} {g : Nat} (h : IntZ w v z) (hN : NoInts w g) {b : Bool} {A : Option Addr} {l c : Nat} : IntZ ((w.setCell ⟨g, 0, none⟩ (.bool b)).setCell ⟨g, 1, none⟩ (.slice A l c)) v z := by
  obtain ⟨A', l', c', h1, h2⟩ := h
  exact ⟨A', l', c', h1, h2.two hN _ _ _ _⟩
theorem Loc.revs {w W : World} {T : TypeId} {zs vs vs' : Array Value} {da dst : Prop} {v : Value} (h : Loc w W T zs vs da dst v) (hn : ¬ dst) : Loc w W T zs vs' da dst v := ⟨fun hd => by
  obtain ⟨g, h1, h2, _, h4⟩ := h.ptr hd
  exact ⟨g, h1, h2, fun h => absurd h hn, h4⟩⟩
theorem neg_mul_pos {x y : Int} (h : 0 < y) : decide (x * y < 0) = decide (x < 0) := by
  by_cases hx : x < 0
  · rw [decide_eq_true hx, decide_eq_true (Int.mul_neg_of_neg_of_pos hx h)]
  · have := Int.mul_nonneg (show 0 ≤ x by omega) (Int.le_of_lt h)
    rw [decide_eq_false hx, decide_eq_false (by omega)]
theorem q_div (q r : Rat) (hr : r ≠ 0) (s : Bool) (hs : (q.num * (r.den : Int)).natAbs ≠ 0 → s = (decide (q.num * (r.den : Int) < 0) != decide (r.num * (q.den : Int) < 0))) :
    ratV s (q.num * (r.den : Int)).natAbs (r.num * (q.den : Int)).natAbs = q / r := by
  have hq0 := q.den_pos
  have hr0 := r.den_pos
  have hrn : 0 < r.num.natAbs := by
    have : r.num ≠ 0 := fun e => hr (Rat.num_eq_zero.1 e)
    omega
  have e : q / r = ratV (decide (q.num < 0) != decide (r.num < 0)) (q.num.natAbs * r.den) (q.den * r.num.natAbs) := by
    rw [← ratV_div hq0 hrn, ratV_self, ratV_self]
  rw [neg_mul_pos (show (0 : Int) < (r.den : Int) by omega), neg_mul_pos (show (0 : Int) < (q.den : Int) by omega)] at hs
  rw [e, Int.natAbs_mul, Int.natAbs_mul, Int.natAbs_natCast, Int.natAbs_natCast, Nat.mul_comm r.num.natAbs]
  rw [Int.natAbs_mul, Int.natAbs_natCast] at hs
  by_cases h : q.num.natAbs * r.den = 0
  · have hd : 0 < q.den * r.num.natAbs := Nat.mul_pos hq0 hrn
    rw [(ratV_zero s _ _ hd).2 h, (ratV_zero _ _ _ hd).2 h]
  · rw [hs h]

set_option maxRecDepth 100000 in
set_option maxHeartbeats 2000000 in
theorem qdiv_r1 (ga gb L M : Nat) (s0 : Bool) (A0 B0 : Option Addr) (l0 c0 m0 k0 : Nat) (s1 : Bool) (A1 B1 : Option Addr) (l1 c1 m1 k1 : Nat) (q r : Rat) (w : World) (x0 : w.cell? ⟨ga, 0, none⟩ = some (.bool s0)) (x1 : w.cell? ⟨ga, 1, none⟩ = some (.slice A0 l0 c0)) (x2 : w.cell? ⟨ga, 2, none⟩ = some (.slice B0 m0 k0)) (y0 : w.cell? ⟨gb, 0, none⟩ = some (.bool s1)) (y1 : w.cell? ⟨gb, 1, none⟩ = some (.slice A1 l1 c1)) (y2 : w.cell? ⟨gb, 2, none⟩ = some (.slice B1 m1 k1)) (hx : QZ w (.agg #[.bool s0, .slice A0 l0 c0, .slice B0 m0 k0]) q) (hy : QZ w (.agg #[.bool s1, .slice A1 l1 c1, .slice B1 m1 k1]) r) (fq : FitR q L) (fr : FitR r M) (hLM : L + M + 1 ≤ 400000) (a : Act) (Q : Exit → Act → World → Prop) (hsize : 19 ≤ a.tmps.size)
    (s2 : a.tmps[2]? = some (.pointer (some ⟨ga, 0, none⟩)))
    (s3 : a.tmps[3]? = some (.pointer (some ⟨gb, 0, none⟩)))
    (hend : ∀ (xv0 xv1 xv2 xv3 xv4 xv5 xv6 xv7 xv8 xv9 xv10 xv11 xv12 xv13 xv14 xv15 : Value) (W : World), (xv0 = .pointer (some ⟨ga, 0, none⟩)) → (xv1 = .agg #[.bool s0, .slice A0 l0 c0]) → (xv2 = .pointer (some ⟨gb, 2, none⟩)) → (xv3 = .slice B1 m1 k1) → (xv4 = .agg #[.bool false, .slice B1 m1 k1]) → (xv6 = .pointer (some ⟨gb, 0, none⟩)) → (xv7 = .agg #[.bool s1, .slice A1 l1 c1]) → (xv8 = .pointer (some ⟨ga, 2, none⟩)) → (xv9 = .slice B0 m0 k0) → (xv10 = .agg #[.bool false, .slice B0 m0 k0]) → (IntZ W xv5 (q.num * (r.den : Int))) → (IntZ W xv11 (r.num * (q.den : Int))) → (∃ g, xv12 = .pointer (some ⟨g, 0, none⟩) ∧ w.heap.size ≤ g ∧ Blk W g 40 (aggOf xv5)) → (∃ g, xv13 = .pointer (some ⟨g, 0, none⟩) ∧ w.heap.size ≤ g ∧ Blk W g 40 (aggOf xv11)) → (xv12 ≠ xv13) → Ext w W → wpList Try.prog (rops Try.f26 1).toArray Q [] ((((((((((((((((a.put (some 7) xv0).put (some 8) xv1).put (some 9) xv2).put (some 10) xv3).put (some 11) xv4).put (some 12) xv5).put (some 13) xv6).put (some 14) xv7).put (some 15) xv8).put (some 16) xv9).put (some 17) xv10).put (some 18) xv11).put (some 5) xv12).put (some 6) xv13).put (none) xv14).put (none) xv15) W) :
    (Code.region 1 (rops Try.f26 1).toArray true).wp Try.prog Q a w := by
  have hsz : ∀ d, some d ∈ ([some 7, some 8, some 9, some 10, some 11, some 12, some 13, some 14, some 15, some 16, some 17, some 18, some 5, some 6, none, none] : List (Option Tmp)) → d < a.tmps.size := slots_lt (by decide) hsize
  refine wp_region_g 16 [some 7, some 8, some 9, some 10, some 11, some 12, some 13, some 14, some 15, some 16, some 17, some 18, some 5, some 6, none, none] [[], [0], [], [2], [3], [1, 4], [], [6], [], [8], [9], [7, 10], [], [], [5, 12], [11, 13]] [[], [], [], [], [], [14], [], [], [], [], [], [15], [14], [15], [], []] (fun (done : Nat → Prop) (us : Nat → Value) (W : World) => Ext w W ∧ (done 0 → us 0 = .pointer (some ⟨ga, 0, none⟩)) ∧ (done 1 → us 1 = .agg #[.bool s0, .slice A0 l0 c0]) ∧ (done 2 → us 2 = .pointer (some ⟨gb, 2, none⟩)) ∧ (done 3 → us 3 = .slice B1 m1 k1) ∧ (done 4 → us 4 = .agg #[.bool false, .slice B1 m1 k1]) ∧ (done 6 → us 6 = .pointer (some ⟨gb, 0, none⟩)) ∧ (done 7 → us 7 = .agg #[.bool s1, .slice A1 l1 c1]) ∧ (done 8 → us 8 = .pointer (some ⟨ga, 2, none⟩)) ∧ (done 9 → us 9 = .slice B0 m0 k0) ∧ (done 10 → us 10 = .agg #[.bool false, .slice B0 m0 k0]) ∧ (done 5 → IntZ W (us 5) (q.num * (r.den : Int))) ∧ (done 11 → IntZ W (us 11) (r.num * (q.den : Int))) ∧ Loc w W 40 #[.bool false, .slice none 0 0] (aggOf (us 5)) (done 12) (done 14) (us 12) ∧ Loc w W 40 #[.bool false, .slice none 0 0] (aggOf (us 11)) (done 13) (done 15) (us 13) ∧ Far (done 12) (done 13) (us 12) (us 13)) (by kernel_rfl) (by kernel_rfl) hsz (fun p q us W h => by have e : p = q := funext fun k => propext (h k); rw [e]; exact id) (fun us => ⟨(Ext.refl w).drew, fun h => h.elim, fun h => h.elim, fun h => h.elim, fun h => h.elim, fun h => h.elim, fun h => h.elim, fun h => h.elim, fun h => h.elim, fun h => h.elim, fun h => h.elim, fun h => h.elim, fun h => h.elim, Loc.unmade id, Loc.unmade id, fun h => h.elim⟩) ?_ ?_
  · clear hend
    simp only [rops, Try.f26, regOf, Option.bind_some, Nat.reduceBEq, if_true, if_false, Bool.false_eq_true, Option.getD_some]
    simp only [List.take_succ_cons, List.take_zero]
    refine ⟨?_, ?_, ?_, ?_, ?_, ?_, ?_, ?_, ?_, ?_, ?_, ?_, ?_, ?_, ?_, ?_, trivial⟩
    · intro done us W hJ hdep haft hnot b hb hb' K hK Q'
      obtain ⟨hX0, cc0, cc1, cc2, cc3, cc4, cc6, cc7, cc8, cc9, cc10, pp5, pp11, ll12, ll13, f12_13⟩ := hJ
      have e2 := (hb' 2 (by simp)).trans s2
      clear hb hb'
      have hfin := hK (.pointer (some ⟨ga, 0, none⟩)) _ ⟨hX0, fun _ => rfl, fun h => cc1 (h.resolve_right (by decide)), fun h => cc2 (h.resolve_right (by decide)), fun h => cc3 (h.resolve_right (by decide)), fun h => cc4 (h.resolve_right (by decide)), fun h => cc6 (h.resolve_right (by decide)), fun h => cc7 (h.resolve_right (by decide)), fun h => cc8 (h.resolve_right (by decide)), fun h => cc9 (h.resolve_right (by decide)), fun h => cc10 (h.resolve_right (by decide)), fun h => pp5 (h.resolve_right (by decide)), fun h => pp11 (h.resolve_right (by decide)), Loc.same ll12 ⟨fun h => h.resolve_right (by decide), .inl⟩ ⟨fun h => h.resolve_right (by decide), .inl⟩, Loc.same ll13 ⟨fun h => h.resolve_right (by decide), .inl⟩ ⟨fun h => h.resolve_right (by decide), .inl⟩, fun h h' => f12_13 (h.resolve_right (by decide)) (h'.resolve_right (by decide))⟩
      clear hK cc0 cc1 cc2 cc3 cc4 cc6 cc7 cc8 cc9 cc10 pp5 pp11 ll12 ll13 f12_13
      go_simp
      exact hfin
    · intro done us W hJ hdep haft hnot b hb hb' K hK Q'
      obtain ⟨hX0, cc0, cc1, cc2, cc3, cc4, cc6, cc7, cc8, cc9, cc10, pp5, pp11, ll12, ll13, f12_13⟩ := hJ
      simp only [List.getD_cons_succ, List.getD_cons_zero, List.mem_cons, List.not_mem_nil, or_false, forall_eq_or_imp, forall_eq] at hdep
      have e7 := hb 0 7 rfl
      rw [cc0 hdep] at e7
      clear hb hb'
      have z0 := Ext.cell hX0 x0
      have z1 := Ext.cell hX0 x1
      have hfin := hK (.agg #[.bool s0, .slice A0 l0 c0]) _ ⟨hX0, fun h => cc0 (h.resolve_right (by decide)), fun _ => rfl, fun h => cc2 (h.resolve_right (by decide)), fun h => cc3 (h.resolve_right (by decide)), fun h => cc4 (h.resolve_right (by decide)), fun h => cc6 (h.resolve_right (by decide)), fun h => cc7 (h.resolve_right (by decide)), fun h => cc8 (h.resolve_right (by decide)), fun h => cc9 (h.resolve_right (by decide)), fun h => cc10 (h.resolve_right (by decide)), fun h => pp5 (h.resolve_right (by decide)), fun h => pp11 (h.resolve_right (by decide)), Loc.same ll12 ⟨fun h => h.resolve_right (by decide), .inl⟩ ⟨fun h => h.resolve_right (by decide), .inl⟩, Loc.same ll13 ⟨fun h => h.resolve_right (by decide), .inl⟩ ⟨fun h => h.resolve_right (by decide), .inl⟩, fun h h' => f12_13 (h.resolve_right (by decide)) (h'.resolve_right (by decide))⟩
      clear hK cc0 cc1 cc2 cc3 cc4 cc6 cc7 cc8 cc9 cc10 pp5 pp11 ll12 ll13 f12_13
      go_simp
      exact hfin
    · intro done us W hJ hdep haft hnot b hb hb' K hK Q'
      obtain ⟨hX0, cc0, cc1, cc2, cc3, cc4, cc6, cc7, cc8, cc9, cc10, pp5, pp11, ll12, ll13, f12_13⟩ := hJ
      have e3 := (hb' 3 (by simp)).trans s3
      clear hb hb'
      have hfin := hK (.pointer (some ⟨gb, 2, none⟩)) _ ⟨hX0, fun h => cc0 (h.resolve_right (by decide)), fun h => cc1 (h.resolve_right (by decide)), fun _ => rfl, fun h => cc3 (h.resolve_right (by decide)), fun h => cc4 (h.resolve_right (by decide)), fun h => cc6 (h.resolve_right (by decide)), fun h => cc7 (h.resolve_right (by decide)), fun h => cc8 (h.resolve_right (by decide)), fun h => cc9 (h.resolve_right (by decide)), fun h => cc10 (h.resolve_right (by decide)), fun h => pp5 (h.resolve_right (by decide)), fun h => pp11 (h.resolve_right (by decide)), Loc.same ll12 ⟨fun h => h.resolve_right (by decide), .inl⟩ ⟨fun h => h.resolve_right (by decide), .inl⟩, Loc.same ll13 ⟨fun h => h.resolve_right (by decide), .inl⟩ ⟨fun h => h.resolve_right (by decide), .inl⟩, fun h h' => f12_13 (h.resolve_right (by decide)) (h'.resolve_right (by decide))⟩
      clear hK cc0 cc1 cc2 cc3 cc4 cc6 cc7 cc8 cc9 cc10 pp5 pp11 ll12 ll13 f12_13
      go_simp
      exact hfin
    · intro done us W hJ hdep haft hnot b hb hb' K hK Q'
      obtain ⟨hX0, cc0, cc1, cc2, cc3, cc4, cc6, cc7, cc8, cc9, cc10, pp5, pp11, ll12, ll13, f12_13⟩ := hJ
      simp only [List.getD_cons_succ, List.getD_cons_zero, List.mem_cons, List.not_mem_nil, or_false, forall_eq_or_imp, forall_eq] at hdep
      have e9 := hb 2 9 rfl
      rw [cc2 hdep] at e9
      clear hb hb'
      have z2 := Ext.cell hX0 y2
      have hfin := hK (.slice B1 m1 k1) _ ⟨hX0, fun h => cc0 (h.resolve_right (by decide)), fun h => cc1 (h.resolve_right (by decide)), fun h => cc2 (h.resolve_right (by decide)), fun _ => rfl, fun h => cc4 (h.resolve_right (by decide)), fun h => cc6 (h.resolve_right (by decide)), fun h => cc7 (h.resolve_right (by decide)), fun h => cc8 (h.resolve_right (by decide)), fun h => cc9 (h.resolve_right (by decide)), fun h => cc10 (h.resolve_right (by decide)), fun h => pp5 (h.resolve_right (by decide)), fun h => pp11 (h.resolve_right (by decide)), Loc.same ll12 ⟨fun h => h.resolve_right (by decide), .inl⟩ ⟨fun h => h.resolve_right (by decide), .inl⟩, Loc.same ll13 ⟨fun h => h.resolve_right (by decide), .inl⟩ ⟨fun h => h.resolve_right (by decide), .inl⟩, fun h h' => f12_13 (h.resolve_right (by decide)) (h'.resolve_right (by decide))⟩
      clear hK cc0 cc1 cc2 cc3 cc4 cc6 cc7 cc8 cc9 cc10 pp5 pp11 ll12 ll13 f12_13
      go_simp
      exact hfin
    · intro done us W hJ hdep haft hnot b hb hb' K hK Q'
      obtain ⟨hX0, cc0, cc1, cc2, cc3, cc4, cc6, cc7, cc8, cc9, cc10, pp5, pp11, ll12, ll13, f12_13⟩ := hJ
      simp only [List.getD_cons_succ, List.getD_cons_zero, List.mem_cons, List.not_mem_nil, or_false, forall_eq_or_imp, forall_eq] at hdep
      have e10 := hb 3 10 rfl
      rw [cc3 hdep] at e10
      clear hb hb'
      have hfin := hK (.agg #[.bool false, .slice B1 m1 k1]) _ ⟨hX0, fun h => cc0 (h.resolve_right (by decide)), fun h => cc1 (h.resolve_right (by decide)), fun h => cc2 (h.resolve_right (by decide)), fun h => cc3 (h.resolve_right (by decide)), fun _ => rfl, fun h => cc6 (h.resolve_right (by decide)), fun h => cc7 (h.resolve_right (by decide)), fun h => cc8 (h.resolve_right (by decide)), fun h => cc9 (h.resolve_right (by decide)), fun h => cc10 (h.resolve_right (by decide)), fun h => pp5 (h.resolve_right (by decide)), fun h => pp11 (h.resolve_right (by decide)), Loc.same ll12 ⟨fun h => h.resolve_right (by decide), .inl⟩ ⟨fun h => h.resolve_right (by decide), .inl⟩, Loc.same ll13 ⟨fun h => h.resolve_right (by decide), .inl⟩ ⟨fun h => h.resolve_right (by decide), .inl⟩, fun h h' => f12_13 (h.resolve_right (by decide)) (h'.resolve_right (by decide))⟩
      clear hK cc0 cc1 cc2 cc3 cc4 cc6 cc7 cc8 cc9 cc10 pp5 pp11 ll12 ll13 f12_13
      go_simp
      exact hfin
    · intro done us W hJ hdep haft hnot b hb hb' K hK Q'
      obtain ⟨hX0, cc0, cc1, cc2, cc3, cc4, cc6, cc7, cc8, cc9, cc10, pp5, pp11, ll12, ll13, f12_13⟩ := hJ
      simp only [List.getD_cons_succ, List.getD_cons_zero, List.mem_cons, List.not_mem_nil, or_false, forall_eq_or_imp, forall_eq] at hdep
      simp only [List.getD_cons_succ, List.getD_cons_zero, List.mem_cons, List.not_mem_nil, or_false, forall_eq_or_imp, forall_eq] at haft
      have e8 := hb 1 8 rfl
      rw [cc1 hdep.1] at e8
      have e11 := hb 4 11 rfl
      rw [cc4 hdep.2] at e11
      clear hb hb'
      go_simp
      refine (zmul_any _ _ q.num (r.den : Int) L M _ (IntZ.ext (QZ.num hx) hX0) (IntZ.ext (QZ.den hy).pos hX0) fq.1 (by simpa using fr.2) (by omega) (by omega)).mono ?_
      rintro e w' ⟨v, rfl, hv, hX⟩
      exact hK _ _ ⟨Ext.trans hX0 hX, fun h => cc0 (h.resolve_right (by decide)), fun h => cc1 (h.resolve_right (by decide)), fun h => cc2 (h.resolve_right (by decide)), fun h => cc3 (h.resolve_right (by decide)), fun h => cc4 (h.resolve_right (by decide)), fun h => cc6 (h.resolve_right (by decide)), fun h => cc7 (h.resolve_right (by decide)), fun h => cc8 (h.resolve_right (by decide)), fun h => cc9 (h.resolve_right (by decide)), fun h => cc10 (h.resolve_right (by decide)), fun _ => hv, fun h => IntZ.ext (pp11 (h.resolve_right (by decide))) hX, Loc.same (Loc.revs (ll12.ext hX) haft) ⟨fun h => h.resolve_right (by decide), .inl⟩ ⟨fun h => h.resolve_right (by decide), .inl⟩, Loc.same (ll13.ext hX) ⟨fun h => h.resolve_right (by decide), .inl⟩ ⟨fun h => h.resolve_right (by decide), .inl⟩, fun h h' => f12_13 (h.resolve_right (by decide)) (h'.resolve_right (by decide))⟩
    · intro done us W hJ hdep haft hnot b hb hb' K hK Q'
      obtain ⟨hX0, cc0, cc1, cc2, cc3, cc4, cc6, cc7, cc8, cc9, cc10, pp5, pp11, ll12, ll13, f12_13⟩ := hJ
      have e3 := (hb' 3 (by simp)).trans s3
      clear hb hb'
      have hfin := hK (.pointer (some ⟨gb, 0, none⟩)) _ ⟨hX0, fun h => cc0 (h.resolve_right (by decide)), fun h => cc1 (h.resolve_right (by decide)), fun h => cc2 (h.resolve_right (by decide)), fun h => cc3 (h.resolve_right (by decide)), fun h => cc4 (h.resolve_right (by decide)), fun _ => rfl, fun h => cc7 (h.resolve_right (by decide)), fun h => cc8 (h.resolve_right (by decide)), fun h => cc9 (h.resolve_right (by decide)), fun h => cc10 (h.resolve_right (by decide)), fun h => pp5 (h.resolve_right (by decide)), fun h => pp11 (h.resolve_right (by decide)), Loc.same ll12 ⟨fun h => h.resolve_right (by decide), .inl⟩ ⟨fun h => h.resolve_right (by decide), .inl⟩, Loc.same ll13 ⟨fun h => h.resolve_right (by decide), .inl⟩ ⟨fun h => h.resolve_right (by decide), .inl⟩, fun h h' => f12_13 (h.resolve_right (by decide)) (h'.resolve_right (by decide))⟩
      clear hK cc0 cc1 cc2 cc3 cc4 cc6 cc7 cc8 cc9 cc10 pp5 pp11 ll12 ll13 f12_13
      go_simp
      exact hfin
    · intro done us W hJ hdep haft hnot b hb hb' K hK Q'
      obtain ⟨hX0, cc0, cc1, cc2, cc3, cc4, cc6, cc7, cc8, cc9, cc10, pp5, pp11, ll12, ll13, f12_13⟩ := hJ
      simp only [List.getD_cons_succ, List.getD_cons_zero, List.mem_cons, List.not_mem_nil, or_false, forall_eq_or_imp, forall_eq] at hdep
      have e13 := hb 6 13 rfl
      rw [cc6 hdep] at e13
      clear hb hb'
      have z0 := Ext.cell hX0 y0
      have z1 := Ext.cell hX0 y1
      have hfin := hK (.agg #[.bool s1, .slice A1 l1 c1]) _ ⟨hX0, fun h => cc0 (h.resolve_right (by decide)), fun h => cc1 (h.resolve_right (by decide)), fun h => cc2 (h.resolve_right (by decide)), fun h => cc3 (h.resolve_right (by decide)), fun h => cc4 (h.resolve_right (by decide)), fun h => cc6 (h.resolve_right (by decide)), fun _ => rfl, fun h => cc8 (h.resolve_right (by decide)), fun h => cc9 (h.resolve_right (by decide)), fun h => cc10 (h.resolve_right (by decide)), fun h => pp5 (h.resolve_right (by decide)), fun h => pp11 (h.resolve_right (by decide)), Loc.same ll12 ⟨fun h => h.resolve_right (by decide), .inl⟩ ⟨fun h => h.resolve_right (by decide), .inl⟩, Loc.same ll13 ⟨fun h => h.resolve_right (by decide), .inl⟩ ⟨fun h => h.resolve_right (by decide), .inl⟩, fun h h' => f12_13 (h.resolve_right (by decide)) (h'.resolve_right (by decide))⟩
      clear hK cc0 cc1 cc2 cc3 cc4 cc6 cc7 cc8 cc9 cc10 pp5 pp11 ll12 ll13 f12_13
      go_simp
      exact hfin
    · intro done us W hJ hdep haft hnot b hb hb' K hK Q'
      obtain ⟨hX0, cc0, cc1, cc2, cc3, cc4, cc6, cc7, cc8, cc9, cc10, pp5, pp11, ll12, ll13, f12_13⟩ := hJ
      have e2 := (hb' 2 (by simp)).trans s2
      clear hb hb'
      have hfin := hK (.pointer (some ⟨ga, 2, none⟩)) _ ⟨hX0, fun h => cc0 (h.resolve_right (by decide)), fun h => cc1 (h.resolve_right (by decide)), fun h => cc2 (h.resolve_right (by decide)), fun h => cc3 (h.resolve_right (by decide)), fun h => cc4 (h.resolve_right (by decide)), fun h => cc6 (h.resolve_right (by decide)), fun h => cc7 (h.resolve_right (by decide)), fun _ => rfl, fun h => cc9 (h.resolve_right (by decide)), fun h => cc10 (h.resolve_right (by decide)), fun h => pp5 (h.resolve_right (by decide)), fun h => pp11 (h.resolve_right (by decide)), Loc.same ll12 ⟨fun h => h.resolve_right (by decide), .inl⟩ ⟨fun h => h.resolve_right (by decide), .inl⟩, Loc.same ll13 ⟨fun h => h.resolve_right (by decide), .inl⟩ ⟨fun h => h.resolve_right (by decide), .inl⟩, fun h h' => f12_13 (h.resolve_right (by decide)) (h'.resolve_right (by decide))⟩
      clear hK cc0 cc1 cc2 cc3 cc4 cc6 cc7 cc8 cc9 cc10 pp5 pp11 ll12 ll13 f12_13
      go_simp
      exact hfin
    · intro done us W hJ hdep haft hnot b hb hb' K hK Q'
      obtain ⟨hX0, cc0, cc1, cc2, cc3, cc4, cc6, cc7, cc8, cc9, cc10, pp5, pp11, ll12, ll13, f12_13⟩ := hJ
      simp only [List.getD_cons_succ, List.getD_cons_zero, List.mem_cons, List.not_mem_nil, or_false, forall_eq_or_imp, forall_eq] at hdep
      have e15 := hb 8 15 rfl
      rw [cc8 hdep] at e15
      clear hb hb'
      have z2 := Ext.cell hX0 x2
      have hfin := hK (.slice B0 m0 k0) _ ⟨hX0, fun h => cc0 (h.resolve_right (by decide)), fun h => cc1 (h.resolve_right (by decide)), fun h => cc2 (h.resolve_right (by decide)), fun h => cc3 (h.resolve_right (by decide)), fun h => cc4 (h.resolve_right (by decide)), fun h => cc6 (h.resolve_right (by decide)), fun h => cc7 (h.resolve_right (by decide)), fun h => cc8 (h.resolve_right (by decide)), fun _ => rfl, fun h => cc10 (h.resolve_right (by decide)), fun h => pp5 (h.resolve_right (by decide)), fun h => pp11 (h.resolve_right (by decide)), Loc.same ll12 ⟨fun h => h.resolve_right (by decide), .inl⟩ ⟨fun h => h.resolve_right (by decide), .inl⟩, Loc.same ll13 ⟨fun h => h.resolve_right (by decide), .inl⟩ ⟨fun h => h.resolve_right (by decide), .inl⟩, fun h h' => f12_13 (h.resolve_right (by decide)) (h'.resolve_right (by decide))⟩
      clear hK cc0 cc1 cc2 cc3 cc4 cc6 cc7 cc8 cc9 cc10 pp5 pp11 ll12 ll13 f12_13
      go_simp
      exact hfin
    · intro done us W hJ hdep haft hnot b hb hb' K hK Q'
      obtain ⟨hX0, cc0, cc1, cc2, cc3, cc4, cc6, cc7, cc8, cc9, cc10, pp5, pp11, ll12, ll13, f12_13⟩ := hJ
      simp only [List.getD_cons_succ, List.getD_cons_zero, List.mem_cons, List.not_mem_nil, or_false, forall_eq_or_imp, forall_eq] at hdep
      have e16 := hb 9 16 rfl
      rw [cc9 hdep] at e16
      clear hb hb'
      have hfin := hK (.agg #[.bool false, .slice B0 m0 k0]) _ ⟨hX0, fun h => cc0 (h.resolve_right (by decide)), fun h => cc1 (h.resolve_right (by decide)), fun h => cc2 (h.resolve_right (by decide)), fun h => cc3 (h.resolve_right (by decide)), fun h => cc4 (h.resolve_right (by decide)), fun h => cc6 (h.resolve_right (by decide)), fun h => cc7 (h.resolve_right (by decide)), fun h => cc8 (h.resolve_right (by decide)), fun h => cc9 (h.resolve_right (by decide)), fun _ => rfl, fun h => pp5 (h.resolve_right (by decide)), fun h => pp11 (h.resolve_right (by decide)), Loc.same ll12 ⟨fun h => h.resolve_right (by decide), .inl⟩ ⟨fun h => h.resolve_right (by decide), .inl⟩, Loc.same ll13 ⟨fun h => h.resolve_right (by decide), .inl⟩ ⟨fun h => h.resolve_right (by decide), .inl⟩, fun h h' => f12_13 (h.resolve_right (by decide)) (h'.resolve_right (by decide))⟩
      clear hK cc0 cc1 cc2 cc3 cc4 cc6 cc7 cc8 cc9 cc10 pp5 pp11 ll12 ll13 f12_13
      go_simp
      exact hfin
    · intro done us W hJ hdep haft hnot b hb hb' K hK Q'
      obtain ⟨hX0, cc0, cc1, cc2, cc3, cc4, cc6, cc7, cc8, cc9, cc10, pp5, pp11, ll12, ll13, f12_13⟩ := hJ
      simp only [List.getD_cons_succ, List.getD_cons_zero, List.mem_cons, List.not_mem_nil, or_false, forall_eq_or_imp, forall_eq] at hdep
      simp only [List.getD_cons_succ, List.getD_cons_zero, List.mem_cons, List.not_mem_nil, or_false, forall_eq_or_imp, forall_eq] at haft
      have e14 := hb 7 14 rfl
      rw [cc7 hdep.1] at e14
      have e17 := hb 10 17 rfl
      rw [cc10 hdep.2] at e17
      clear hb hb'
      go_simp
      refine (zmul_any _ _ r.num (q.den : Int) M L _ (IntZ.ext (QZ.num hy) hX0) (IntZ.ext (QZ.den hx).pos hX0) fr.1 (by simpa using fq.2) (by omega) (by omega)).mono ?_
      rintro e w' ⟨v, rfl, hv, hX⟩
      exact hK _ _ ⟨Ext.trans hX0 hX, fun h => cc0 (h.resolve_right (by decide)), fun h => cc1 (h.resolve_right (by decide)), fun h => cc2 (h.resolve_right (by decide)), fun h => cc3 (h.resolve_right (by decide)), fun h => cc4 (h.resolve_right (by decide)), fun h => cc6 (h.resolve_right (by decide)), fun h => cc7 (h.resolve_right (by decide)), fun h => cc8 (h.resolve_right (by decide)), fun h => cc9 (h.resolve_right (by decide)), fun h => cc10 (h.resolve_right (by decide)), fun h => IntZ.ext (pp5 (h.resolve_right (by decide))) hX, fun _ => hv, Loc.same (ll12.ext hX) ⟨fun h => h.resolve_right (by decide), .inl⟩ ⟨fun h => h.resolve_right (by decide), .inl⟩, Loc.same (Loc.revs (ll13.ext hX) haft) ⟨fun h => h.resolve_right (by decide), .inl⟩ ⟨fun h => h.resolve_right (by decide), .inl⟩, fun h h' => f12_13 (h.resolve_right (by decide)) (h'.resolve_right (by decide))⟩
    · intro done us W hJ hdep haft hnot b hb hb' K hK Q'
      obtain ⟨hX0, cc0, cc1, cc2, cc3, cc4, cc6, cc7, cc8, cc9, cc10, pp5, pp11, ll12, ll13, f12_13⟩ := hJ
      simp only [List.getD_cons_succ, List.getD_cons_zero, List.mem_cons, List.not_mem_nil, or_false, forall_eq_or_imp, forall_eq] at haft
      clear hb hb'
      have hfin := hK _ _ ⟨hX0.alloc _, fun h => cc0 (h.resolve_right (by decide)), fun h => cc1 (h.resolve_right (by decide)), fun h => cc2 (h.resolve_right (by decide)), fun h => cc3 (h.resolve_right (by decide)), fun h => cc4 (h.resolve_right (by decide)), fun h => cc6 (h.resolve_right (by decide)), fun h => cc7 (h.resolve_right (by decide)), fun h => cc8 (h.resolve_right (by decide)), fun h => cc9 (h.resolve_right (by decide)), fun h => cc10 (h.resolve_right (by decide)), fun h => IntZ.ext (pp5 (h.resolve_right (by decide))) ((Ext.refl _).alloc _), fun h => IntZ.ext (pp11 (h.resolve_right (by decide))) ((Ext.refl _).alloc _), Loc.new w W hX0 (fun h => h.elim haft (by decide)) (Ext.refl _), Loc.same (ll13.ext ((Ext.refl _).alloc _)) ⟨fun h => h.resolve_right (by decide), .inl⟩ ⟨fun h => h.resolve_right (by decide), .inl⟩, fun _ h => Ne.symm (ll13.far_new (h.resolve_right (by decide)))⟩
      clear hK hX0 cc0 cc1 cc2 cc3 cc4 cc6 cc7 cc8 cc9 cc10 pp5 pp11 ll12 ll13 f12_13
      go_simp
      exact hfin
    · intro done us W hJ hdep haft hnot b hb hb' K hK Q'
      obtain ⟨hX0, cc0, cc1, cc2, cc3, cc4, cc6, cc7, cc8, cc9, cc10, pp5, pp11, ll12, ll13, f12_13⟩ := hJ
      simp only [List.getD_cons_succ, List.getD_cons_zero, List.mem_cons, List.not_mem_nil, or_false, forall_eq_or_imp, forall_eq] at haft
      clear hb hb'
      have hfin := hK _ _ ⟨hX0.alloc _, fun h => cc0 (h.resolve_right (by decide)), fun h => cc1 (h.resolve_right (by decide)), fun h => cc2 (h.resolve_right (by decide)), fun h => cc3 (h.resolve_right (by decide)), fun h => cc4 (h.resolve_right (by decide)), fun h => cc6 (h.resolve_right (by decide)), fun h => cc7 (h.resolve_right (by decide)), fun h => cc8 (h.resolve_right (by decide)), fun h => cc9 (h.resolve_right (by decide)), fun h => cc10 (h.resolve_right (by decide)), fun h => IntZ.ext (pp5 (h.resolve_right (by decide))) ((Ext.refl _).alloc _), fun h => IntZ.ext (pp11 (h.resolve_right (by decide))) ((Ext.refl _).alloc _), Loc.same (ll12.ext ((Ext.refl _).alloc _)) ⟨fun h => h.resolve_right (by decide), .inl⟩ ⟨fun h => h.resolve_right (by decide), .inl⟩, Loc.new w W hX0 (fun h => h.elim haft (by decide)) (Ext.refl _), fun h _ => ll12.far_new (h.resolve_right (by decide))⟩
      clear hK hX0 cc0 cc1 cc2 cc3 cc4 cc6 cc7 cc8 cc9 cc10 pp5 pp11 ll12 ll13 f12_13
      go_simp
      exact hfin
    · intro done us W hJ hdep haft hnot b hb hb' K hK Q'
      obtain ⟨hX0, cc0, cc1, cc2, cc3, cc4, cc6, cc7, cc8, cc9, cc10, pp5, pp11, ll12, ll13, f12_13⟩ := hJ
      simp only [List.getD_cons_succ, List.getD_cons_zero, List.mem_cons, List.not_mem_nil, or_false, forall_eq_or_imp, forall_eq] at hdep
      have e5 := hb 12 5 rfl
      have e12 := hb 5 12 rfl
      obtain ⟨g, eg, hg, hB⟩ := ll12.stored hdep.2 hnot
      rw [eg] at e5
      have q0 : W.cell? ⟨g, 0, none⟩ = some (.bool false) := hB.cell 0
      have z0 : W.frozen? ⟨g, 0, none⟩ = false := hB.free 0
      have q1 : W.cell? ⟨g, 1, none⟩ = some (.slice none 0 0) := hB.cell 1
      have z1 : W.frozen? ⟨g, 1, none⟩ = false := hB.free 1
      clear hb hb'
      obtain ⟨A9, l9, c9, hu, hz9⟩ := IntZ.open (pp5 hdep.1)
      rw [hu] at e12
      have hN := NoInts.two hB
      have hfin := hK undef _ ⟨((hX0.setCell hg _).setCell hg _), fun h => cc0 (h.resolve_right (by decide)), fun h => cc1 (h.resolve_right (by decide)), fun h => cc2 (h.resolve_right (by decide)), fun h => cc3 (h.resolve_right (by decide)), fun h => cc4 (h.resolve_right (by decide)), fun h => cc6 (h.resolve_right (by decide)), fun h => cc7 (h.resolve_right (by decide)), fun h => cc8 (h.resolve_right (by decide)), fun h => cc9 (h.resolve_right (by decide)), fun h => cc10 (h.resolve_right (by decide)), fun h => IntZ.past (pp5 (h.resolve_right (by decide))) hN, fun h => IntZ.past (pp11 (h.resolve_right (by decide))) hN, ⟨fun _ => ⟨g, eg, hg, fun _ => (Blk.put2 hB hu), fun h => absurd (.inr rfl) h⟩⟩, Loc.same (Loc.keep (Loc.keep ll13 (f := (fun h k => Ne.symm (f12_13 k h))) hdep.2 eg) (f := (fun h k => Ne.symm (f12_13 k h))) hdep.2 eg) ⟨fun h => h.resolve_right (by decide), .inl⟩ ⟨fun h => h.resolve_right (by decide), .inl⟩, fun h h' => f12_13 (h.resolve_right (by decide)) (h'.resolve_right (by decide))⟩
      clear hK hX0 cc0 cc1 cc2 cc3 cc4 cc6 cc7 cc8 cc9 cc10 pp5 pp11 ll12 ll13 f12_13
      go_simp
      exact hfin
    · intro done us W hJ hdep haft hnot b hb hb' K hK Q'
      obtain ⟨hX0, cc0, cc1, cc2, cc3, cc4, cc6, cc7, cc8, cc9, cc10, pp5, pp11, ll12, ll13, f12_13⟩ := hJ
      simp only [List.getD_cons_succ, List.getD_cons_zero, List.mem_cons, List.not_mem_nil, or_false, forall_eq_or_imp, forall_eq] at hdep
      have e6 := hb 13 6 rfl
      have e18 := hb 11 18 rfl
      obtain ⟨g, eg, hg, hB⟩ := ll13.stored hdep.2 hnot
      rw [eg] at e6
      have q0 : W.cell? ⟨g, 0, none⟩ = some (.bool false) := hB.cell 0
      have z0 : W.frozen? ⟨g, 0, none⟩ = false := hB.free 0
      have q1 : W.cell? ⟨g, 1, none⟩ = some (.slice none 0 0) := hB.cell 1
      have z1 : W.frozen? ⟨g, 1, none⟩ = false := hB.free 1
      clear hb hb'
      obtain ⟨A9, l9, c9, hu, hz9⟩ := IntZ.open (pp11 hdep.1)
      rw [hu] at e18
      have hN := NoInts.two hB
      have hfin := hK undef _ ⟨((hX0.setCell hg _).setCell hg _), fun h => cc0 (h.resolve_right (by decide)), fun h => cc1 (h.resolve_right (by decide)), fun h => cc2 (h.resolve_right (by decide)), fun h => cc3 (h.resolve_right (by decide)), fun h => cc4 (h.resolve_right (by decide)), fun h => cc6 (h.resolve_right (by decide)), fun h => cc7 (h.resolve_right (by decide)), fun h => cc8 (h.resolve_right (by decide)), fun h => cc9 (h.resolve_right (by decide)), fun h => cc10 (h.resolve_right (by decide)), fun h => IntZ.past (pp5 (h.resolve_right (by decide))) hN, fun h => IntZ.past (pp11 (h.resolve_right (by decide))) hN, Loc.same (Loc.keep (Loc.keep ll12 (f := f12_13) hdep.2 eg) (f := f12_13) hdep.2 eg) ⟨fun h => h.resolve_right (by decide), .inl⟩ ⟨fun h => h.resolve_right (by decide), .inl⟩, ⟨fun _ => ⟨g, eg, hg, fun _ => (Blk.put2 hB hu), fun h => absurd (.inr rfl) h⟩⟩, fun h h' => f12_13 (h.resolve_right (by decide)) (h'.resolve_right (by decide))⟩
      clear hK hX0 cc0 cc1 cc2 cc3 cc4 cc6 cc7 cc8 cc9 cc10 pp5 pp11 ll12 ll13 f12_13
      go_simp
      exact hfin
  · intro us W hJ
    obtain ⟨hX0, cc0, cc1, cc2, cc3, cc4, cc6, cc7, cc8, cc9, cc10, pp5, pp11, ll12, ll13, f12_13⟩ := hJ
    rw [show (rops Try.f26 1).drop 16 = [] by kernel_rfl]
    exact hend (us 0) (us 1) (us 2) (us 3) (us 4) (us 5) (us 6) (us 7) (us 8) (us 9) (us 10) (us 11) (us 12) (us 13) (us 14) (us 15) W (cc0 (show 0 < 16 by decide)) (cc1 (show 1 < 16 by decide)) (cc2 (show 2 < 16 by decide)) (cc3 (show 3 < 16 by decide)) (cc4 (show 4 < 16 by decide)) (cc6 (show 6 < 16 by decide)) (cc7 (show 7 < 16 by decide)) (cc8 (show 8 < 16 by decide)) (cc9 (show 9 < 16 by decide)) (cc10 (show 10 < 16 by decide)) (pp5 (show 5 < 16 by decide)) (pp11 (show 11 < 16 by decide)) (ll12.done (show 12 < 16 by decide) (show 14 < 16 by decide)) (ll13.done (show 13 < 16 by decide) (show 15 < 16 by decide)) (f12_13 (show 12 < 16 by decide) (show 13 < 16 by decide)) hX0
set_option maxRecDepth 100000 in
set_option maxHeartbeats 2000000 in
theorem qdiv_ss (s0 : Bool) (A0 B0 : Option Addr) (l0 c0 m0 k0 : Nat) (s1 : Bool) (A1 B1 : Option Addr) (l1 c1 m1 k1 : Nat) (q r : Rat) (L M : Nat) (w : World) (hx : QZ w (.agg #[.bool s0, .slice A0 l0 c0, .slice B0 m0 k0]) q) (hy : QZ w (.agg #[.bool s1, .slice A1 l1 c1, .slice B1 m1 k1]) r) (fq : FitR q L) (fr : FitR r M) (hLM : L + M + 1 ≤ 400000) (hr : r ≠ 0) (hs : decide (q.num * (r.den : Int) < 0) = decide (r.num * (q.den : Int) < 0)) :
    Calls Try.prog 26 #[.agg #[.bool s0, .slice A0 l0 c0, .slice B0 m0 k0], .agg #[.bool s1, .slice A1 l1 c1, .slice B1 m1 k1]] w (RetQz w (q / r)) := by
  have HXX := Lib.hid hx
  have HYY := Lib.hid hy
  have HFQ := Lib.hid fq
  have HFR := Lib.hid fr
  have hE := q_div q r hr false (fun _ => by rw [hs]; simp)
  rw [← hE]
  have HD : Hid (0 < (r.num * (q.den : Int)).natAbs) := by
    show 0 < _
    rw [Int.natAbs_mul, Int.natAbs_natCast]
    have : r.num ≠ 0 := fun e => hr (Rat.num_eq_zero.1 e)
    exact Nat.mul_pos (by omega) q.den_pos
  have HF1 : Hid (Fit 65536 (q.num * (r.den : Int)).natAbs (L + M)) := fit_mulI fq.1 (by simpa using fr.2) (Nat.le_refl _)
  have HF2 : Hid (Fit 65536 (r.num * (q.den : Int)).natAbs (L + M)) := fit_mulI fr.1 (by simpa using fq.2) (by omega)
  obtain ⟨s7, hs7⟩ : ∃ b, decide (q.num * (r.den : Int) < 0) = b := ⟨_, rfl⟩
  obtain ⟨s8, hs8⟩ : ∃ b, decide (r.num * (q.den : Int) < 0) = b := ⟨_, rfl⟩
  obtain ⟨x7, hx7⟩ : ∃ x, q.num * (r.den : Int) = x := ⟨_, rfl⟩
  obtain ⟨x8, hx8⟩ : ∃ x, r.num * (q.den : Int) = x := ⟨_, rfl⟩
  rw [hs7, hs8] at hs
  rw [hx7] at hs7 HF1
  rw [hx8] at hs8 HD HF2
  rw [hx7, hx8]
  have HS7 := Lib.hid hs7
  have HS8 := Lib.hid hs8
  have HX7 := Lib.hid hx7
  have HX8 := Lib.hid hx8
  have hb : (s7 != s8) = false := by simp [hs]
  have hb2 : (s7 == s8) = true := by simp [hs]
  have hb3 : decide (s7 = s8) = true := by simp [hs]
  clear hx hy fq fr hr hs hE hs7 hs8 hx7 hx8
  have hXe : Ext w (((w.alloc (.cells #[.bool s0, .slice A0 l0 c0, .slice B0 m0 k0] 42)).alloc (.cells #[.bool s1, .slice A1 l1 c1, .slice B1 m1 k1] 42)).alloc (.cells #[.bool false, .slice none 0 0, .slice none 0 0] 42)) := ((((Ext.refl w).alloc _).alloc _).alloc _)
  have kA : Blk (((w.alloc (.cells #[.bool s0, .slice A0 l0 c0, .slice B0 m0 k0] 42)).alloc (.cells #[.bool s1, .slice A1 l1 c1, .slice B1 m1 k1] 42)).alloc (.cells #[.bool false, .slice none 0 0, .slice none 0 0] 42)) w.heap.size 42 #[.bool s0, .slice A0 l0 c0, .slice B0 m0 k0] := Blk.alloc (Blk.alloc (Blk.at_ (by simp)) _) _
  have kB : Blk (((w.alloc (.cells #[.bool s0, .slice A0 l0 c0, .slice B0 m0 k0] 42)).alloc (.cells #[.bool s1, .slice A1 l1 c1, .slice B1 m1 k1] 42)).alloc (.cells #[.bool false, .slice none 0 0, .slice none 0 0] 42)) (w.heap.size + 1) 42 #[.bool s1, .slice A1 l1 c1, .slice B1 m1 k1] := Blk.alloc (Blk.at_ (by simp)) _
  have kR : Blk (((w.alloc (.cells #[.bool s0, .slice A0 l0 c0, .slice B0 m0 k0] 42)).alloc (.cells #[.bool s1, .slice A1 l1 c1, .slice B1 m1 k1] 42)).alloc (.cells #[.bool false, .slice none 0 0, .slice none 0 0] 42)) (w.heap.size + 2) 42 #[.bool false, .slice none 0 0, .slice none 0 0] := Blk.at_ (by simp)
  go_enter Try.func26, Try.ntmps26
  go_wp2_with fail
  generalize (((w.alloc (.cells #[.bool s0, .slice A0 l0 c0, .slice B0 m0 k0] 42)).alloc (.cells #[.bool s1, .slice A1 l1 c1, .slice B1 m1 k1] 42)).alloc (.cells #[.bool false, .slice none 0 0, .slice none 0 0] 42)) = w1 at hXe kA kB kR ⊢
  have HX := Lib.hid hXe
  clear hXe
  have KA := Lib.hid kA
  clear kA
  have KB := Lib.hid kB
  clear kB
  have KR := Lib.hid kR
  clear kR
  replace HXX := Lib.hid (HXX.out.ext HX.out)
  replace HYY := Lib.hid (HYY.out.ext HX.out)
  have lR := KR.out.lt
  go_upto_region 1 with (fail)
  refine qdiv_r1 w.heap.size (w.heap.size + 1) L M s0 A0 B0 l0 c0 m0 k0 s1 A1 B1 l1 c1 m1 k1 q r w1 (KA.out.cell 0) (KA.out.cell 1) (KA.out.cell 2) (KB.out.cell 0) (KB.out.cell 1) (KB.out.cell 2) HXX.out HYY.out HFQ.out HFR.out hLM _ _ (by simp) rfl rfl ?_
  rintro xv0 xv1 xv2 xv3 xv4 xv5 xv6 xv7 xv8 xv9 xv10 xv11 xv12 xv13 xv14 xv15 w2 rfl rfl rfl rfl rfl rfl rfl rfl rfl rfl h7 h8 ⟨gn, rfl, hgn, hBn⟩ ⟨gd, rfl, hgd, hBd⟩ hne hXW
  simp only [rops, Try.f26, regOf, Option.bind_some, Nat.reduceBEq, if_true, if_false, Bool.false_eq_true, Option.getD_some, List.drop_succ_cons, List.drop_zero]
  simp only [Act.put, List.setIfInBounds_toArray, List.set_cons_succ, List.set_cons_zero]
  replace HX := Lib.hid (HX.out.trans hXW)
  replace HXX := Lib.hid (HXX.out.ext hXW)
  replace HYY := Lib.hid (HYY.out.ext hXW)
  replace KA := Lib.hid (KA.out.ext hXW)
  replace KB := Lib.hid (KB.out.ext hXW)
  replace KR := Lib.hid (KR.out.ext hXW)
  clear hXW
  have HU7 := Lib.hid h7
  have HU8 := Lib.hid h8
  rw [HX7.out] at HU7
  rw [HX8.out] at HU8
  obtain ⟨A7, l7, c7, rfl, hv7⟩ := HU7.out.open
  obtain ⟨A8, l8, c8, rfl, hv8⟩ := HU8.out.open
  rw [HS7.out] at hBn ⊢
  rw [HS8.out] at hBd ⊢
  have KN : Hid (Blk w2 gn 40 #[.bool s7, .slice A7 l7 c7]) := hBn
  have KD : Hid (Blk w2 gd 40 #[.bool s8, .slice A8 l8 c8]) := hBd
  have hz7 : l7 = 0 ↔ x7.natAbs = 0 := by
    obtain ⟨_, _, _, e, _, h⟩ := Z16.open hv7
    injection e with e1 e2 e3
    rw [e2]; exact h
  have HV7 := Lib.hid hv7
  have HV8 := Lib.hid hv8
  clear h7 h8 HU7 HU8 hv7 hv8 hBn hBd hz7 hne hgn hgd
  have cN0 : w2.cell? ⟨gn, 0, none⟩ = some (.bool s7) := KN.out.cell 0
  have cN1 : w2.cell? ⟨gn, 1, none⟩ = some (.slice A7 l7 c7) := KN.out.cell 1
  have cD0 : w2.cell? ⟨gd, 0, none⟩ = some (.bool s8) := KD.out.cell 0
  have cD1 : w2.cell? ⟨gd, 1, none⟩ = some (.slice A8 l8 c8) := KD.out.cell 1
  go_wp2_with fail
  clear cN0 cN1 cD0 cD1
  refine (frac_any false false A7 A8 l7 c7 l8 c8 _ _ (L + M) _ HV7.out HV8.out HF1.out HF2.out (by omega) HD.out).mono ?_
  rintro e w3 ⟨v9, rfl, hv, hX⟩
  replace hX : Ext w2 w3 := by with_reducible exact hX
  replace HX := Lib.hid (HX.out.trans hX)
  replace HXX := Lib.hid (HXX.out.ext hX)
  replace HYY := Lib.hid (HYY.out.ext hX)
  replace HV7 := Lib.hid (HV7.out.ext hX)
  replace HV8 := Lib.hid (HV8.out.ext hX)
  replace KA := Lib.hid (KA.out.ext hX)
  replace KB := Lib.hid (KB.out.ext hX)
  replace KR := Lib.hid (KR.out.ext hX)
  replace KN := Lib.hid (KN.out.ext hX)
  replace KD := Lib.hid (KD.out.ext hX)
  clear hX
  obtain ⟨s9, A9, l9, c9, B9, m9, k9, rfl⟩ := QZ.open hv
  have HV := Lib.hid (QZ.past hv (NoInts.three KR.out))
  clear hv
  have cR0 : w3.cell? ⟨(w.heap.size + 2), 0, none⟩ = some (.bool false) := KR.out.cell 0
  have fR0 : w3.frozen? ⟨(w.heap.size + 2), 0, none⟩ = false := KR.out.free 0
  have cR1 : w3.cell? ⟨(w.heap.size + 2), 1, none⟩ = some (.slice none 0 0) := KR.out.cell 1
  have fR1 : w3.frozen? ⟨(w.heap.size + 2), 1, none⟩ = false := KR.out.free 1
  have cR2 : w3.cell? ⟨(w.heap.size + 2), 2, none⟩ = some (.slice none 0 0) := KR.out.cell 2
  have fR2 : w3.frozen? ⟨(w.heap.size + 2), 2, none⟩ = false := KR.out.free 2
  go_wp2
  refine bodyPost_ret (v := .agg #[.bool s9, .slice A9 l9 c9, .slice B9 m9 k9]) (by simp [results, Try.results26, go_sem, *]) rfl ?_
  exact ⟨_, rfl, HV.out, Ext.boxed HX.out (by omega) _ _ _⟩

set_option maxRecDepth 100000 in
set_option maxHeartbeats 2000000 in
theorem qdiv_nz (s0 : Bool) (A0 B0 : Option Addr) (l0 c0 m0 k0 : Nat) (s1 : Bool) (A1 B1 : Option Addr) (l1 c1 m1 k1 : Nat) (q r : Rat) (L M : Nat) (w : World) (hx : QZ w (.agg #[.bool s0, .slice A0 l0 c0, .slice B0 m0 k0]) q) (hy : QZ w (.agg #[.bool s1, .slice A1 l1 c1, .slice B1 m1 k1]) r) (fq : FitR q L) (fr : FitR r M) (hLM : L + M + 1 ≤ 400000) (hr : r ≠ 0) (hs : decide (q.num * (r.den : Int) < 0) ≠ decide (r.num * (q.den : Int) < 0)) (hz : (q.num * (r.den : Int)).natAbs ≠ 0) :
    Calls Try.prog 26 #[.agg #[.bool s0, .slice A0 l0 c0, .slice B0 m0 k0], .agg #[.bool s1, .slice A1 l1 c1, .slice B1 m1 k1]] w (RetQz w (q / r)) := by
  have HXX := Lib.hid hx
  have HYY := Lib.hid hy
  have HFQ := Lib.hid fq
  have HFR := Lib.hid fr
  have hE := q_div q r hr true (fun _ => by revert hs; generalize decide (q.num * (r.den : Int) < 0) = b1; generalize decide (r.num * (q.den : Int) < 0) = b2; cases b1 <;> cases b2 <;> simp)
  rw [← hE]
  have HD : Hid (0 < (r.num * (q.den : Int)).natAbs) := by
    show 0 < _
    rw [Int.natAbs_mul, Int.natAbs_natCast]
    have : r.num ≠ 0 := fun e => hr (Rat.num_eq_zero.1 e)
    exact Nat.mul_pos (by omega) q.den_pos
  have HF1 : Hid (Fit 65536 (q.num * (r.den : Int)).natAbs (L + M)) := fit_mulI fq.1 (by simpa using fr.2) (Nat.le_refl _)
  have HF2 : Hid (Fit 65536 (r.num * (q.den : Int)).natAbs (L + M)) := fit_mulI fr.1 (by simpa using fq.2) (by omega)
  obtain ⟨s7, hs7⟩ : ∃ b, decide (q.num * (r.den : Int) < 0) = b := ⟨_, rfl⟩
  obtain ⟨s8, hs8⟩ : ∃ b, decide (r.num * (q.den : Int) < 0) = b := ⟨_, rfl⟩
  obtain ⟨x7, hx7⟩ : ∃ x, q.num * (r.den : Int) = x := ⟨_, rfl⟩
  obtain ⟨x8, hx8⟩ : ∃ x, r.num * (q.den : Int) = x := ⟨_, rfl⟩
  rw [hs7, hs8] at hs
  rw [hx7] at hs7 HF1 hz
  rw [hx8] at hs8 HD HF2
  rw [hx7, hx8]
  have HS7 := Lib.hid hs7
  have HS8 := Lib.hid hs8
  have HX7 := Lib.hid hx7
  have HX8 := Lib.hid hx8
  have hb : (s7 != s8) = true := by simp [hs]
  have hb2 : (s7 == s8) = false := by simp [hs]
  have hb3 : decide (s7 = s8) = false := by simp [hs]
  clear hx hy fq fr hr hs hE hs7 hs8 hx7 hx8
  have hXe : Ext w (((w.alloc (.cells #[.bool s0, .slice A0 l0 c0, .slice B0 m0 k0] 42)).alloc (.cells #[.bool s1, .slice A1 l1 c1, .slice B1 m1 k1] 42)).alloc (.cells #[.bool false, .slice none 0 0, .slice none 0 0] 42)) := ((((Ext.refl w).alloc _).alloc _).alloc _)
  have kA : Blk (((w.alloc (.cells #[.bool s0, .slice A0 l0 c0, .slice B0 m0 k0] 42)).alloc (.cells #[.bool s1, .slice A1 l1 c1, .slice B1 m1 k1] 42)).alloc (.cells #[.bool false, .slice none 0 0, .slice none 0 0] 42)) w.heap.size 42 #[.bool s0, .slice A0 l0 c0, .slice B0 m0 k0] := Blk.alloc (Blk.alloc (Blk.at_ (by simp)) _) _
  have kB : Blk (((w.alloc (.cells #[.bool s0, .slice A0 l0 c0, .slice B0 m0 k0] 42)).alloc (.cells #[.bool s1, .slice A1 l1 c1, .slice B1 m1 k1] 42)).alloc (.cells #[.bool false, .slice none 0 0, .slice none 0 0] 42)) (w.heap.size + 1) 42 #[.bool s1, .slice A1 l1 c1, .slice B1 m1 k1] := Blk.alloc (Blk.at_ (by simp)) _
  have kR : Blk (((w.alloc (.cells #[.bool s0, .slice A0 l0 c0, .slice B0 m0 k0] 42)).alloc (.cells #[.bool s1, .slice A1 l1 c1, .slice B1 m1 k1] 42)).alloc (.cells #[.bool false, .slice none 0 0, .slice none 0 0] 42)) (w.heap.size + 2) 42 #[.bool false, .slice none 0 0, .slice none 0 0] := Blk.at_ (by simp)
  go_enter Try.func26, Try.ntmps26
  go_wp2_with fail
  generalize (((w.alloc (.cells #[.bool s0, .slice A0 l0 c0, .slice B0 m0 k0] 42)).alloc (.cells #[.bool s1, .slice A1 l1 c1, .slice B1 m1 k1] 42)).alloc (.cells #[.bool false, .slice none 0 0, .slice none 0 0] 42)) = w1 at hXe kA kB kR ⊢
  have HX := Lib.hid hXe
  clear hXe
  have KA := Lib.hid kA
  clear kA
  have KB := Lib.hid kB
  clear kB
  have KR := Lib.hid kR
  clear kR
  replace HXX := Lib.hid (HXX.out.ext HX.out)
  replace HYY := Lib.hid (HYY.out.ext HX.out)
  have lR := KR.out.lt
  go_upto_region 1 with (fail)
  refine qdiv_r1 w.heap.size (w.heap.size + 1) L M s0 A0 B0 l0 c0 m0 k0 s1 A1 B1 l1 c1 m1 k1 q r w1 (KA.out.cell 0) (KA.out.cell 1) (KA.out.cell 2) (KB.out.cell 0) (KB.out.cell 1) (KB.out.cell 2) HXX.out HYY.out HFQ.out HFR.out hLM _ _ (by simp) rfl rfl ?_
  rintro xv0 xv1 xv2 xv3 xv4 xv5 xv6 xv7 xv8 xv9 xv10 xv11 xv12 xv13 xv14 xv15 w2 rfl rfl rfl rfl rfl rfl rfl rfl rfl rfl h7 h8 ⟨gn, rfl, hgn, hBn⟩ ⟨gd, rfl, hgd, hBd⟩ hne hXW
  simp only [rops, Try.f26, regOf, Option.bind_some, Nat.reduceBEq, if_true, if_false, Bool.false_eq_true, Option.getD_some, List.drop_succ_cons, List.drop_zero]
  simp only [Act.put, List.setIfInBounds_toArray, List.set_cons_succ, List.set_cons_zero]
  replace HX := Lib.hid (HX.out.trans hXW)
  replace HXX := Lib.hid (HXX.out.ext hXW)
  replace HYY := Lib.hid (HYY.out.ext hXW)
  replace KA := Lib.hid (KA.out.ext hXW)
  replace KB := Lib.hid (KB.out.ext hXW)
  replace KR := Lib.hid (KR.out.ext hXW)
  clear hXW
  have HU7 := Lib.hid h7
  have HU8 := Lib.hid h8
  rw [HX7.out] at HU7
  rw [HX8.out] at HU8
  obtain ⟨A7, l7, c7, rfl, hv7⟩ := HU7.out.open
  obtain ⟨A8, l8, c8, rfl, hv8⟩ := HU8.out.open
  rw [HS7.out] at hBn ⊢
  rw [HS8.out] at hBd ⊢
  have KN : Hid (Blk w2 gn 40 #[.bool s7, .slice A7 l7 c7]) := hBn
  have KD : Hid (Blk w2 gd 40 #[.bool s8, .slice A8 l8 c8]) := hBd
  have hz7 : l7 = 0 ↔ x7.natAbs = 0 := by
    obtain ⟨_, _, _, e, _, h⟩ := Z16.open hv7
    injection e with e1 e2 e3
    rw [e2]; exact h
  have HV7 := Lib.hid hv7
  have HV8 := Lib.hid hv8
  have hl7 : (0 : Int) < (l7 : Int) := by
    rcases Nat.eq_zero_or_pos l7 with h | h
    · exact absurd (hz7.1 h) hz
    · omega
  have hl7' : 0 < l7 := by omega
  clear h7 h8 HU7 HU8 hv7 hv8 hBn hBd hz7 hne hgn hgd hz
  have cN0 : w2.cell? ⟨gn, 0, none⟩ = some (.bool s7) := KN.out.cell 0
  have cN1 : w2.cell? ⟨gn, 1, none⟩ = some (.slice A7 l7 c7) := KN.out.cell 1
  have cD0 : w2.cell? ⟨gd, 0, none⟩ = some (.bool s8) := KD.out.cell 0
  have cD1 : w2.cell? ⟨gd, 1, none⟩ = some (.slice A8 l8 c8) := KD.out.cell 1
  go_wp2_with fail
  clear cN0 cN1 cD0 cD1
  refine (frac_any true false A7 A8 l7 c7 l8 c8 _ _ (L + M) _ HV7.out HV8.out HF1.out HF2.out (by omega) HD.out).mono ?_
  rintro e w3 ⟨v9, rfl, hv, hX⟩
  replace hX : Ext w2 w3 := by with_reducible exact hX
  replace HX := Lib.hid (HX.out.trans hX)
  replace HXX := Lib.hid (HXX.out.ext hX)
  replace HYY := Lib.hid (HYY.out.ext hX)
  replace HV7 := Lib.hid (HV7.out.ext hX)
  replace HV8 := Lib.hid (HV8.out.ext hX)
  replace KA := Lib.hid (KA.out.ext hX)
  replace KB := Lib.hid (KB.out.ext hX)
  replace KR := Lib.hid (KR.out.ext hX)
  replace KN := Lib.hid (KN.out.ext hX)
  replace KD := Lib.hid (KD.out.ext hX)
  clear hX
  obtain ⟨s9, A9, l9, c9, B9, m9, k9, rfl⟩ := QZ.open hv
  have HV := Lib.hid (QZ.past hv (NoInts.three KR.out))
  clear hv
  have cR0 : w3.cell? ⟨(w.heap.size + 2), 0, none⟩ = some (.bool false) := KR.out.cell 0
  have fR0 : w3.frozen? ⟨(w.heap.size + 2), 0, none⟩ = false := KR.out.free 0
  have cR1 : w3.cell? ⟨(w.heap.size + 2), 1, none⟩ = some (.slice none 0 0) := KR.out.cell 1
  have fR1 : w3.frozen? ⟨(w.heap.size + 2), 1, none⟩ = false := KR.out.free 1
  have cR2 : w3.cell? ⟨(w.heap.size + 2), 2, none⟩ = some (.slice none 0 0) := KR.out.cell 2
  have fR2 : w3.frozen? ⟨(w.heap.size + 2), 2, none⟩ = false := KR.out.free 2
  go_wp2
  refine bodyPost_ret (v := .agg #[.bool s9, .slice A9 l9 c9, .slice B9 m9 k9]) (by simp [results, Try.results26, go_sem, *]) rfl ?_
  exact ⟨_, rfl, HV.out, Ext.boxed HX.out (by omega) _ _ _⟩

set_option maxRecDepth 100000 in
set_option maxHeartbeats 2000000 in
theorem qdiv_zz (s0 : Bool) (A0 B0 : Option Addr) (l0 c0 m0 k0 : Nat) (s1 : Bool) (A1 B1 : Option Addr) (l1 c1 m1 k1 : Nat) (q r : Rat) (L M : Nat) (w : World) (hx : QZ w (.agg #[.bool s0, .slice A0 l0 c0, .slice B0 m0 k0]) q) (hy : QZ w (.agg #[.bool s1, .slice A1 l1 c1, .slice B1 m1 k1]) r) (fq : FitR q L) (fr : FitR r M) (hLM : L + M + 1 ≤ 400000) (hr : r ≠ 0) (hs : decide (q.num * (r.den : Int) < 0) ≠ decide (r.num * (q.den : Int) < 0)) (hz : (q.num * (r.den : Int)).natAbs = 0) :
    Calls Try.prog 26 #[.agg #[.bool s0, .slice A0 l0 c0, .slice B0 m0 k0], .agg #[.bool s1, .slice A1 l1 c1, .slice B1 m1 k1]] w (RetQz w (q / r)) := by
  have HXX := Lib.hid hx
  have HYY := Lib.hid hy
  have HFQ := Lib.hid fq
  have HFR := Lib.hid fr
  have hE := q_div q r hr false (fun h => absurd hz h)
  rw [← hE]
  have HD : Hid (0 < (r.num * (q.den : Int)).natAbs) := by
    show 0 < _
    rw [Int.natAbs_mul, Int.natAbs_natCast]
    have : r.num ≠ 0 := fun e => hr (Rat.num_eq_zero.1 e)
    exact Nat.mul_pos (by omega) q.den_pos
  have HF1 : Hid (Fit 65536 (q.num * (r.den : Int)).natAbs (L + M)) := fit_mulI fq.1 (by simpa using fr.2) (Nat.le_refl _)
  have HF2 : Hid (Fit 65536 (r.num * (q.den : Int)).natAbs (L + M)) := fit_mulI fr.1 (by simpa using fq.2) (by omega)
  obtain ⟨s7, hs7⟩ : ∃ b, decide (q.num * (r.den : Int) < 0) = b := ⟨_, rfl⟩
  obtain ⟨s8, hs8⟩ : ∃ b, decide (r.num * (q.den : Int) < 0) = b := ⟨_, rfl⟩
  obtain ⟨x7, hx7⟩ : ∃ x, q.num * (r.den : Int) = x := ⟨_, rfl⟩
  obtain ⟨x8, hx8⟩ : ∃ x, r.num * (q.den : Int) = x := ⟨_, rfl⟩
  rw [hs7, hs8] at hs
  rw [hx7] at hs7 HF1 hz
  rw [hx8] at hs8 HD HF2
  rw [hx7, hx8]
  have HS7 := Lib.hid hs7
  have HS8 := Lib.hid hs8
  have HX7 := Lib.hid hx7
  have HX8 := Lib.hid hx8
  have hb : (s7 != s8) = true := by simp [hs]
  have hb2 : (s7 == s8) = false := by simp [hs]
  have hb3 : decide (s7 = s8) = false := by simp [hs]
  clear hx hy fq fr hr hs hE hs7 hs8 hx7 hx8
  have hXe : Ext w (((w.alloc (.cells #[.bool s0, .slice A0 l0 c0, .slice B0 m0 k0] 42)).alloc (.cells #[.bool s1, .slice A1 l1 c1, .slice B1 m1 k1] 42)).alloc (.cells #[.bool false, .slice none 0 0, .slice none 0 0] 42)) := ((((Ext.refl w).alloc _).alloc _).alloc _)
  have kA : Blk (((w.alloc (.cells #[.bool s0, .slice A0 l0 c0, .slice B0 m0 k0] 42)).alloc (.cells #[.bool s1, .slice A1 l1 c1, .slice B1 m1 k1] 42)).alloc (.cells #[.bool false, .slice none 0 0, .slice none 0 0] 42)) w.heap.size 42 #[.bool s0, .slice A0 l0 c0, .slice B0 m0 k0] := Blk.alloc (Blk.alloc (Blk.at_ (by simp)) _) _
  have kB : Blk (((w.alloc (.cells #[.bool s0, .slice A0 l0 c0, .slice B0 m0 k0] 42)).alloc (.cells #[.bool s1, .slice A1 l1 c1, .slice B1 m1 k1] 42)).alloc (.cells #[.bool false, .slice none 0 0, .slice none 0 0] 42)) (w.heap.size + 1) 42 #[.bool s1, .slice A1 l1 c1, .slice B1 m1 k1] := Blk.alloc (Blk.at_ (by simp)) _
  have kR : Blk (((w.alloc (.cells #[.bool s0, .slice A0 l0 c0, .slice B0 m0 k0] 42)).alloc (.cells #[.bool s1, .slice A1 l1 c1, .slice B1 m1 k1] 42)).alloc (.cells #[.bool false, .slice none 0 0, .slice none 0 0] 42)) (w.heap.size + 2) 42 #[.bool false, .slice none 0 0, .slice none 0 0] := Blk.at_ (by simp)
  go_enter Try.func26, Try.ntmps26
  go_wp2_with fail
  generalize (((w.alloc (.cells #[.bool s0, .slice A0 l0 c0, .slice B0 m0 k0] 42)).alloc (.cells #[.bool s1, .slice A1 l1 c1, .slice B1 m1 k1] 42)).alloc (.cells #[.bool false, .slice none 0 0, .slice none 0 0] 42)) = w1 at hXe kA kB kR ⊢
  have HX := Lib.hid hXe
  clear hXe
  have KA := Lib.hid kA
  clear kA
  have KB := Lib.hid kB
  clear kB
  have KR := Lib.hid kR
  clear kR
  replace HXX := Lib.hid (HXX.out.ext HX.out)
  replace HYY := Lib.hid (HYY.out.ext HX.out)
  have lR := KR.out.lt
  go_upto_region 1 with (fail)
  refine qdiv_r1 w.heap.size (w.heap.size + 1) L M s0 A0 B0 l0 c0 m0 k0 s1 A1 B1 l1 c1 m1 k1 q r w1 (KA.out.cell 0) (KA.out.cell 1) (KA.out.cell 2) (KB.out.cell 0) (KB.out.cell 1) (KB.out.cell 2) HXX.out HYY.out HFQ.out HFR.out hLM _ _ (by simp) rfl rfl ?_
  rintro xv0 xv1 xv2 xv3 xv4 xv5 xv6 xv7 xv8 xv9 xv10 xv11 xv12 xv13 xv14 xv15 w2 rfl rfl rfl rfl rfl rfl rfl rfl rfl rfl h7 h8 ⟨gn, rfl, hgn, hBn⟩ ⟨gd, rfl, hgd, hBd⟩ hne hXW
  simp only [rops, Try.f26, regOf, Option.bind_some, Nat.reduceBEq, if_true, if_false, Bool.false_eq_true, Option.getD_some, List.drop_succ_cons, List.drop_zero]
  simp only [Act.put, List.setIfInBounds_toArray, List.set_cons_succ, List.set_cons_zero]
  replace HX := Lib.hid (HX.out.trans hXW)
  replace HXX := Lib.hid (HXX.out.ext hXW)
  replace HYY := Lib.hid (HYY.out.ext hXW)
  replace KA := Lib.hid (KA.out.ext hXW)
  replace KB := Lib.hid (KB.out.ext hXW)
  replace KR := Lib.hid (KR.out.ext hXW)
  clear hXW
  have HU7 := Lib.hid h7
  have HU8 := Lib.hid h8
  rw [HX7.out] at HU7
  rw [HX8.out] at HU8
  obtain ⟨A7, l7, c7, rfl, hv7⟩ := HU7.out.open
  obtain ⟨A8, l8, c8, rfl, hv8⟩ := HU8.out.open
  rw [HS7.out] at hBn ⊢
  rw [HS8.out] at hBd ⊢
  have KN : Hid (Blk w2 gn 40 #[.bool s7, .slice A7 l7 c7]) := hBn
  have KD : Hid (Blk w2 gd 40 #[.bool s8, .slice A8 l8 c8]) := hBd
  have hz7 : l7 = 0 ↔ x7.natAbs = 0 := by
    obtain ⟨_, _, _, e, _, h⟩ := Z16.open hv7
    injection e with e1 e2 e3
    rw [e2]; exact h
  have HV7 := Lib.hid hv7
  have HV8 := Lib.hid hv8
  obtain rfl : l7 = 0 := hz7.2 hz
  clear h7 h8 HU7 HU8 hv7 hv8 hBn hBd hz7 hne hgn hgd hz
  have cN0 : w2.cell? ⟨gn, 0, none⟩ = some (.bool s7) := KN.out.cell 0
  have cN1 : w2.cell? ⟨gn, 1, none⟩ = some (.slice A7 0 c7) := KN.out.cell 1
  have cD0 : w2.cell? ⟨gd, 0, none⟩ = some (.bool s8) := KD.out.cell 0
  have cD1 : w2.cell? ⟨gd, 1, none⟩ = some (.slice A8 l8 c8) := KD.out.cell 1
  go_wp2_with fail
  clear cN0 cN1 cD0 cD1
  refine (frac_any false false A7 A8 0 c7 l8 c8 _ _ (L + M) _ HV7.out HV8.out HF1.out HF2.out (by omega) HD.out).mono ?_
  rintro e w3 ⟨v9, rfl, hv, hX⟩
  replace hX : Ext w2 w3 := by with_reducible exact hX
  replace HX := Lib.hid (HX.out.trans hX)
  replace HXX := Lib.hid (HXX.out.ext hX)
  replace HYY := Lib.hid (HYY.out.ext hX)
  replace HV7 := Lib.hid (HV7.out.ext hX)
  replace HV8 := Lib.hid (HV8.out.ext hX)
  replace KA := Lib.hid (KA.out.ext hX)
  replace KB := Lib.hid (KB.out.ext hX)
  replace KR := Lib.hid (KR.out.ext hX)
  replace KN := Lib.hid (KN.out.ext hX)
  replace KD := Lib.hid (KD.out.ext hX)
  clear hX
  obtain ⟨s9, A9, l9, c9, B9, m9, k9, rfl⟩ := QZ.open hv
  have HV := Lib.hid (QZ.past hv (NoInts.three KR.out))
  clear hv
  have cR0 : w3.cell? ⟨(w.heap.size + 2), 0, none⟩ = some (.bool false) := KR.out.cell 0
  have fR0 : w3.frozen? ⟨(w.heap.size + 2), 0, none⟩ = false := KR.out.free 0
  have cR1 : w3.cell? ⟨(w.heap.size + 2), 1, none⟩ = some (.slice none 0 0) := KR.out.cell 1
  have fR1 : w3.frozen? ⟨(w.heap.size + 2), 1, none⟩ = false := KR.out.free 1
  have cR2 : w3.cell? ⟨(w.heap.size + 2), 2, none⟩ = some (.slice none 0 0) := KR.out.cell 2
  have fR2 : w3.frozen? ⟨(w.heap.size + 2), 2, none⟩ = false := KR.out.free 2
  go_wp2
  refine bodyPost_ret (v := .agg #[.bool s9, .slice A9 l9 c9, .slice B9 m9 k9]) (by simp [results, Try.results26, go_sem, *]) rfl ?_
  exact ⟨_, rfl, HV.out, Ext.boxed HX.out (by omega) _ _ _⟩

theorem qdiv_any (va vb : Value) (q r : Rat) (L M : Nat) (w : World) (hx : QZ w va q) (hy : QZ w vb r) (fq : FitR q L) (fr : FitR r M) (hLM : L + M + 1 ≤ 400000) (hr : r ≠ 0) : Calls Try.prog 26 #[va, vb] w (RetQz w (q / r)) := by
  obtain ⟨s0, A0, l0, c0, B0, m0, k0, rfl⟩ := hx.open
  obtain ⟨s1, A1, l1, c1, B1, m1, k1, rfl⟩ := hy.open
  by_cases hs : decide (q.num * (r.den : Int) < 0) = decide (r.num * (q.den : Int) < 0)
  · exact qdiv_ss s0 A0 B0 l0 c0 m0 k0 s1 A1 B1 l1 c1 m1 k1 q r L M w hx hy fq fr hLM hr hs
  · by_cases hz : (q.num * (r.den : Int)).natAbs = 0
    · exact qdiv_zz s0 A0 B0 l0 c0 m0 k0 s1 A1 B1 l1 c1 m1 k1 q r L M w hx hy fq fr hLM hr hs hz
    · exact qdiv_nz s0 A0 B0 l0 c0 m0 k0 s1 A1 B1 l1 c1 m1 k1 q r L M w hx hy fq fr hLM hr hs hz

end Go.Proofs.Yteoijnaljkagfaa
namespace Go.Proofs.Yteoijnaljkagfaa
open Go.RowKit

/-- A place is valid. -/
def okP (p : Int × Int) : Bool := decide (-268435456 ≤ p.1 ∧ p.1 ≤ 268435456 ∧ -268435456 ≤ p.2 ∧ p.2 ≤ 268435456)
def okPs (ps : List (Int × Int)) : Bool := ps.all okP
/-- The block g holds the places. -/
def Pts (w : World) (g : Nat) (ps : List (Int × Int)) : Prop := ∀ j p, ps[j]? = some p → w.cell? ⟨g, j * 2, none⟩ = some (.int .i64 p.1) ∧ w.cell? ⟨g, j * 2 + 1, none⟩ = some (.int .i64 p.2)
theorem Pts.ext {w w' : World} {g : Nat} {ps : List (Int × Int)} (h : Pts w g ps) (he : Ext w w') : Pts w' g ps := fun j p hp => ⟨he.cell (h j p hp).1, he.cell (h j p hp).2⟩

set_option maxHeartbeats 1000000 in
theorem inside_any (g l : Nat) (ps : List (Int × Int)) (w : World) (hl : ps.length = l) (hm : l ≤ 1000000) (h : Pts w g ps) :
    Calls Try.prog 72 #[.slice (some ⟨g, 0, none⟩) l l] w fun e w' => e = .returned (.bool (okPs ps)) ∧ Ext w w' := by
  have HP := Lib.hid h
  have HL := Lib.hid hl
  clear h hl
  go_enter Try.func72, Try.ntmps72
  go_wp2
  go_loopg [7] l (fun g' i wr => ∃ k : Nat, g' = l - k ∧ k ≤ l ∧ i = .int .i64 (k : Int) ∧ Hid (okPs (ps.take k) = true) ∧ Hid (Ext w wr))
  case atStart => exact ⟨0, rfl, by omega, rfl, rfl, Ext.refl _⟩
  case round =>
    obtain ⟨k, rfl, hk, rfl, hok, HX⟩ := hrel
    by_cases hkl : k < l
    · have hkI : (k : Int) < (l : Int) := by omega
      have hk0 : (0 : Int) ≤ (k : Int) := by omega
      obtain ⟨x, y, hp⟩ : ∃ x y, ps[k]? = some (x, y) := ⟨_, _, List.getElem?_eq_getElem (by rw [HL.out]; exact hkl)⟩
      obtain ⟨c1, c2⟩ := HP.out.ext HX.out k _ hp
      simp only at c1 c2
      by_cases hb : okP (x, y) = true
      · have hb' := hb
        simp only [okP, decide_eq_true_eq] at hb'
        obtain ⟨b1, b2, b3, b4⟩ := hb'
        have HOK : Hid (okPs (ps.take (k + 1)) = true) := by
          show _ = _
          rw [List.take_add_one, hp]
          have := hok.out
          simp only [okPs] at this ⊢
          simp [this, hb]
        clear hb hok hp
        go_wp2
        go_roundg (l - (k + 1))
        case rel => exact ⟨k + 1, rfl, by omega, by go_num, HOK, HX.out.alloc _⟩
        case measure => omega
      · have HF : Hid (okPs ps = false) := by
          show _ = _
          simp only [okPs, List.all_eq_false]
          exact ⟨_, List.mem_of_getElem? hp, hb⟩
        have hb' : x < -268435456 ∨ (-268435456 ≤ x ∧ 268435456 < x) ∨ (-268435456 ≤ x ∧ x ≤ 268435456 ∧ y < -268435456) ∨ (-268435456 ≤ x ∧ x ≤ 268435456 ∧ -268435456 ≤ y ∧ 268435456 < y) := by
          simp only [okP, decide_eq_true_eq] at hb; omega
        clear hb hok hp
        rcases hb' with b1 | ⟨b1, b2⟩ | ⟨b1, b2, b3⟩ | ⟨b1, b2, b3, b4⟩
        all_goals
          go_wp2
          go_ret
          exact ⟨by rw [HF.out]; rfl, HX.out.alloc _⟩
    · obtain rfl : k = l := by omega
      have HF : Hid (okPs ps = true) := by
        have := hok.out
        rw [List.take_of_length_le (by rw [HL.out]; exact Nat.le_refl _)] at this
        exact this
      clear hok
      go_wp2
      go_ret
      exact ⟨by rw [HF.out]; rfl, HX.out⟩
end Go.Proofs.Yteoijnaljkagfaa
namespace Go.Proofs.Yteoijnaljkagfaa
open Go.RowKit

/-- Twice the directed area of a triangle. -/
def crossI (a b c : Int × Int) : Int := (b.1 - a.1) * (c.2 - a.2) - (b.2 - a.2) * (c.1 - a.1)
theorem mul_in {x y B C : Int} (hx : -B ≤ x ∧ x ≤ B) (hy : -C ≤ y ∧ y ≤ C) : -(B * C) ≤ x * y ∧ x * y ≤ B * C := by
  have hB : 0 ≤ B := by omega
  have h1 : (x * y).natAbs ≤ (B * C).natAbs := by
    rw [Int.natAbs_mul, Int.natAbs_mul]
    exact Nat.mul_le_mul (by omega) (by omega)
  have h2 : 0 ≤ B * C := Int.mul_nonneg hB (by omega)
  omega
theorem diff_in {x y : Int} (hx : -268435456 ≤ x ∧ x ≤ 268435456) (hy : -268435456 ≤ y ∧ y ≤ 268435456) : -536870912 ≤ x - y ∧ x - y ≤ 536870912 := by omega
theorem okP_in {x y : Int} (h : okP (x, y) = true) : (-268435456 ≤ x ∧ x ≤ 268435456) ∧ (-268435456 ≤ y ∧ y ≤ 268435456) := by
  simp only [okP, decide_eq_true_eq] at h; omega

set_option maxHeartbeats 1000000 in
theorem cross_any (a1 a2 b1 b2 c1 c2 : Int) (w : World) (ha : okP (a1, a2) = true) (hb : okP (b1, b2) = true) (hc : okP (c1, c2) = true) :
    Calls Try.prog 74 #[.agg #[.int .i64 a1, .int .i64 a2], .agg #[.int .i64 b1, .int .i64 b2], .agg #[.int .i64 c1, .int .i64 c2]] w fun e w' => e = .returned (.int .i64 (crossI (a1, a2) (b1, b2) (c1, c2))) ∧ Ext w w' := by
  obtain ⟨ha1, ha2⟩ := okP_in ha
  obtain ⟨hb1, hb2⟩ := okP_in hb
  obtain ⟨hc1, hc2⟩ := okP_in hc
  obtain ⟨p1, p2⟩ := mul_in (diff_in hb1 ha1) (diff_in hc2 ha2)
  obtain ⟨q1, q2⟩ := mul_in (diff_in hb2 ha2) (diff_in hc1 ha1)
  obtain ⟨d1, d1'⟩ := diff_in hb1 ha1
  obtain ⟨d2, d2'⟩ := diff_in hc2 ha2
  obtain ⟨d3, d3'⟩ := diff_in hb2 ha2
  obtain ⟨d4, d4'⟩ := diff_in hc1 ha1
  rw [show (536870912 : Int) * 536870912 = 288230376151711744 by decide] at p1 p2 q1 q2
  clear ha hb hc ha1 ha2 hb1 hb2 hc1 hc2
  go_enter Try.func74, Try.ntmps74
  go_wp2
  go_ret
  exact ⟨rfl, (((Ext.refl w).alloc _).alloc _).alloc _⟩
end Go.Proofs.Yteoijnaljkagfaa
namespace Go.Proofs.Yteoijnaljkagfaa
open Go.RowKit

theorem okPs3 (a b c : Int × Int) : okPs [a, b, c] = true ↔ okP a = true ∧ okP b = true ∧ okP c = true := by simp [okPs]
theorem pts3 {w : World} {g : Nat} {t : TypeId} {a1 a2 b1 b2 c1 c2 : Int} (h : Blk w g t #[.int .i64 a1, .int .i64 a2, .int .i64 b1, .int .i64 b2, .int .i64 c1, .int .i64 c2]) : Pts w g [(a1, a2), (b1, b2), (c1, c2)] := by
  intro j p hp
  rcases j with _ | _ | _ | j
  · obtain rfl : (a1, a2) = p := by simpa using hp
    exact ⟨h.cell 0, h.cell 1⟩
  · obtain rfl : (b1, b2) = p := by simpa using hp
    exact ⟨h.cell 2, h.cell 3⟩
  · obtain rfl : (c1, c2) = p := by simpa using hp
    exact ⟨h.cell 4, h.cell 5⟩
  · simp at hp

/-- What Turn returns. -/
def turnI (a b c : Int × Int) : Int := bif okPs [a, b, c] then sgI (crossI a b c) else 0
def turnE (a b c : Int × Int) : Int := bif okPs [a, b, c] then 0 else 11

set_option maxHeartbeats 1000000 in
theorem turn_any (a1 a2 b1 b2 c1 c2 : Int) (w : World) :
    Calls Try.prog 18 #[.agg #[.int .i64 a1, .int .i64 a2], .agg #[.int .i64 b1, .int .i64 b2], .agg #[.int .i64 c1, .int .i64 c2]] w fun e w' => e = .returned (.tuple #[.int .i64 (turnI (a1, a2) (b1, b2) (c1, c2)), .int .i64 (turnE (a1, a2) (b1, b2) (c1, c2))]) ∧ Ext w w' := by
  obtain ⟨r, hr⟩ : ∃ r, turnI (a1, a2) (b1, b2) (c1, c2) = r := ⟨_, rfl⟩
  obtain ⟨er, her⟩ : ∃ r, turnE (a1, a2) (b1, b2) (c1, c2) = r := ⟨_, rfl⟩
  rw [hr, her]
  have HR := Lib.hid hr
  have HE := Lib.hid her
  clear hr her
  go_enter Try.func18, Try.ntmps18
  go_wp2_with fail
  have hXw : Ext w ((((w.alloc (.cells #[.int .i64 a1, .int .i64 a2] 23)).alloc (.cells #[.int .i64 b1, .int .i64 b2] 23)).alloc (.cells #[.int .i64 c1, .int .i64 c2] 23)).alloc (.cells #[.int .i64 a1, .int .i64 a2, .int .i64 b1, .int .i64 b2, .int .i64 c1, .int .i64 c2] 23)) := ((((Ext.refl w).alloc _).alloc _).alloc _).alloc _
  have k1 := (((Blk.new w 23 #[.int .i64 a1, .int .i64 a2]).alloc (.cells #[.int .i64 b1, .int .i64 b2] 23)).alloc (.cells #[.int .i64 c1, .int .i64 c2] 23)).alloc (.cells #[.int .i64 a1, .int .i64 a2, .int .i64 b1, .int .i64 b2, .int .i64 c1, .int .i64 c2] 23)
  have k2 := ((Blk.new (w.alloc (.cells #[.int .i64 a1, .int .i64 a2] 23)) 23 #[.int .i64 b1, .int .i64 b2]).alloc (.cells #[.int .i64 c1, .int .i64 c2] 23)).alloc (.cells #[.int .i64 a1, .int .i64 a2, .int .i64 b1, .int .i64 b2, .int .i64 c1, .int .i64 c2] 23)
  have k3 := (Blk.new ((w.alloc (.cells #[.int .i64 a1, .int .i64 a2] 23)).alloc (.cells #[.int .i64 b1, .int .i64 b2] 23)) 23 #[.int .i64 c1, .int .i64 c2]).alloc (.cells #[.int .i64 a1, .int .i64 a2, .int .i64 b1, .int .i64 b2, .int .i64 c1, .int .i64 c2] 23)
  have k4 := Blk.new (((w.alloc (.cells #[.int .i64 a1, .int .i64 a2] 23)).alloc (.cells #[.int .i64 b1, .int .i64 b2] 23)).alloc (.cells #[.int .i64 c1, .int .i64 c2] 23)) 23 #[.int .i64 a1, .int .i64 a2, .int .i64 b1, .int .i64 b2, .int .i64 c1, .int .i64 c2]
  have es : ∀ (W : World) (o : Obj), (W.alloc o).heap.size = W.heap.size + 1 := fun W o => by simp
  simp only [es] at k2 k3 k4
  clear es
  generalize ((((w.alloc (.cells #[.int .i64 a1, .int .i64 a2] 23)).alloc (.cells #[.int .i64 b1, .int .i64 b2] 23)).alloc (.cells #[.int .i64 c1, .int .i64 c2] 23)).alloc (.cells #[.int .i64 a1, .int .i64 a2, .int .i64 b1, .int .i64 b2, .int .i64 c1, .int .i64 c2] 23)) = w1 at hXw k1 k2 k3 k4 ⊢
  have HXw := Lib.hid hXw
  have HP := Lib.hid (pts3 k4)
  have K1 := Lib.hid k1
  have K2 := Lib.hid k2
  have K3 := Lib.hid k3
  clear k1 k2 k3 k4 hXw
  refine (inside_any _ 3 _ _ rfl (by omega) HP.out).mono ?_
  rintro e w2 ⟨rfl, hX2⟩
  have x1 := (K1.out.ext hX2).cell 0
  have x2 := (K1.out.ext hX2).cell 1
  have x3 := (K2.out.ext hX2).cell 0
  have x4 := (K2.out.ext hX2).cell 1
  have x5 := (K3.out.ext hX2).cell 0
  have x6 := (K3.out.ext hX2).cell 1
  simp only [List.getElem?_toArray, List.getElem?_cons_zero, List.getElem?_cons_succ] at x1 x2 x3 x4 x5 x6
  have HX2 := Lib.hid (HXw.out.trans hX2)
  clear hX2
  rcases hb : okPs [(a1, a2), (b1, b2), (c1, c2)] with _ | _
  · have hr := HR.out
    have he := HE.out
    simp only [turnI, turnE, hb, cond_false] at hr he
    have H1 := Lib.hid hr
    have H2 := Lib.hid he
    clear hr he hb
    go_wp2
    go_ret2
    exact ⟨by rw [← H1.out, ← H2.out]; rfl, HX2.out⟩
  · have hr := HR.out
    have he := HE.out
    simp only [turnI, turnE, hb, cond_true] at hr he
    have H1 := Lib.hid hr
    have H2 := Lib.hid he
    obtain ⟨o1, o2, o3⟩ := (okPs3 _ _ _).1 hb
    have O1 := Lib.hid o1
    have O2 := Lib.hid o2
    have O3 := Lib.hid o3
    clear hr he hb o1 o2 o3
    go_wp2_with fail
    refine (cross_any a1 a2 b1 b2 c1 c2 _ O1.out O2.out O3.out).mono ?_
    rintro e w3 ⟨rfl, hX3⟩
    have HX3 := Lib.hid (HX2.out.trans hX3)
    clear hX3
    go_wp2_with fail
    refine (isign_any _ _).mono ?_
    rintro e w4 ⟨rfl, rfl⟩
    rw [H1.out]
    go_wp2
    go_ret2
    exact ⟨by rw [← H2.out]; rfl, HX3.out⟩
end Go.Proofs.Yteoijnaljkagfaa
namespace Go.Proofs.Yteoijnaljkagfaa
open Go.RowKit

theorem SmallR.fit {neg : Bool} {xs ys : List Int} (h : SmallR xs ys) : FitQ (ratOf neg xs ys) 256 := fit_red (wD_pos ys) h.1.fit h.den.fit
theorem FitQW.of {q : Rat} (h : FitQ q 256) : FitQW q := ⟨⟨h.1⟩, ⟨h.2⟩⟩
/-- The zero value, as a result with an error. -/
def zeroR : Value := .agg #[.bool false, .slice none 0 0, .slice none 0 0]
/-- A pair of a value and an error. -/
def RetE (w : World) (v : Value) (n : Int) (e : Ending) (w' : World) : Prop := e = .returned (.tuple #[v, .int .i64 n]) ∧ Ext w w'

set_option maxRecDepth 100000 in
set_option maxHeartbeats 2000000 in
theorem etext_ok (v : Value) (neg : Bool) (xs ys : List Int) (w : World) (h : RatV w v neg xs ys) (hs : SmallR xs ys) :
    Calls Try.prog 37 #[v] w (fun e w' => ∃ b, e = .returned (.tuple #[.string b, .int .i64 0]) ∧ TextB (decide ((ratOf neg xs ys).num < 0)) (ratOf neg xs ys).num.natAbs (ratOf neg xs ys).den b ∧ Ext w w') := by
  have HR := Lib.hid h
  have HS := Lib.hid hs
  clear hs
  obtain ⟨A, l, c, B, m, k, rfl, _⟩ := h
  have hXw : Ext w ((w.alloc (.cells #[.bool neg, .slice A l c, .slice B m k] 33)).alloc (.cells #[.bool neg, .slice A l c, .slice B m k] 33)) := (((Ext.refl w).alloc _).alloc _)
  have hB1 : Blk ((w.alloc (.cells #[.bool neg, .slice A l c, .slice B m k] 33)).alloc (.cells #[.bool neg, .slice A l c, .slice B m k] 33)) w.heap.size 33 #[.bool neg, .slice A l c, .slice B m k] := (Blk.new w _ _).alloc _
  have hB2 : Blk ((w.alloc (.cells #[.bool neg, .slice A l c, .slice B m k] 33)).alloc (.cells #[.bool neg, .slice A l c, .slice B m k] 33)) (w.heap.size + 1) 33 #[.bool neg, .slice A l c, .slice B m k] := by
    have := Blk.new (w.alloc (.cells #[.bool neg, .slice A l c, .slice B m k] 33)) 33 #[.bool neg, .slice A l c, .slice B m k]
    simpa using this
  go_enter Try.func37, Try.ntmps37
  go_wp2_with fail
  generalize ((w.alloc (.cells #[.bool neg, .slice A l c, .slice B m k] 33)).alloc (.cells #[.bool neg, .slice A l c, .slice B m k] 33)) = w1 at hXw hB1 hB2 ⊢
  refine (anyLarge_one false _ _ neg A B l c m k xs ys _ hB2 (HR.out.ext hXw) (by simp [HS.out])).mono ?_
  rintro e w2 ⟨rfl, hX2⟩
  obtain ⟨x0, x1, x2, _, _, _⟩ := (hB1.ext hX2).three
  have HX2 := Lib.hid (hXw.trans hX2)
  have HX12 := Lib.hid hX2
  clear hXw hB1 hB2 hX2
  go_wp2_with fail
  refine (of_any _ neg xs ys 256 _ (HR.out.ext HX2.out) HS.out.1.fit HS.out.den.fit (by omega)).mono ?_
  rintro e w3 ⟨v3, rfl, hv3, hX3⟩
  obtain ⟨A3, l3, c3, B3, m3, k3, rfl, _⟩ := NumV.open hv3
  have HV3 := Lib.hid (NumQ.numx hv3 HS.out.fit)
  have HQ3 := Lib.hid hv3
  have HX3 := Lib.hid (HX2.out.trans hX3)
  clear hX3 hv3 x0 x1 x2
  go_wp2_with fail
  refine (rtext_any _ _ _ _ 256 _ HQ3.out (ratOf neg xs ys).den_pos HS.out.fit.1 HS.out.fit.2 (by omega)).mono ?_
  rintro e w4 ⟨b, rfl, hb, hX4⟩
  have HX4 := Lib.hid (HX3.out.trans hX4)
  have HB := Lib.hid hb
  clear hX4 hb
  go_wp2
  go_ret2
  exact ⟨_, rfl, HB.out, HX4.out⟩

set_option maxRecDepth 100000 in
set_option maxHeartbeats 2000000 in
theorem eceil_ok (v : Value) (neg : Bool) (xs ys : List Int) (w : World) (h : RatV w v neg xs ys) (hs : SmallR xs ys) (h0 : -1152921504606846976 ≤ (-(ratOf neg xs ys)).floor) (h1 : (-(ratOf neg xs ys)).floor ≤ 1152921504606846976) :
    Calls Try.prog 29 #[v] w (RetE w (.int .i64 (-(-(ratOf neg xs ys)).floor)) 0) := by
  have HR := Lib.hid h
  have HS := Lib.hid hs
  clear hs
  obtain ⟨A, l, c, B, m, k, rfl, _⟩ := h
  have hXw : Ext w ((w.alloc (.cells #[.bool neg, .slice A l c, .slice B m k] 33)).alloc (.cells #[.bool neg, .slice A l c, .slice B m k] 33)) := (((Ext.refl w).alloc _).alloc _)
  have hB1 : Blk ((w.alloc (.cells #[.bool neg, .slice A l c, .slice B m k] 33)).alloc (.cells #[.bool neg, .slice A l c, .slice B m k] 33)) w.heap.size 33 #[.bool neg, .slice A l c, .slice B m k] := (Blk.new w _ _).alloc _
  have hB2 : Blk ((w.alloc (.cells #[.bool neg, .slice A l c, .slice B m k] 33)).alloc (.cells #[.bool neg, .slice A l c, .slice B m k] 33)) (w.heap.size + 1) 33 #[.bool neg, .slice A l c, .slice B m k] := by
    have := Blk.new (w.alloc (.cells #[.bool neg, .slice A l c, .slice B m k] 33)) 33 #[.bool neg, .slice A l c, .slice B m k]
    simpa using this
  go_enter Try.func29, Try.ntmps29
  go_wp2_with fail
  generalize ((w.alloc (.cells #[.bool neg, .slice A l c, .slice B m k] 33)).alloc (.cells #[.bool neg, .slice A l c, .slice B m k] 33)) = w1 at hXw hB1 hB2 ⊢
  refine (anyLarge_one false _ _ neg A B l c m k xs ys _ hB2 (HR.out.ext hXw) (by simp [HS.out])).mono ?_
  rintro e w2 ⟨rfl, hX2⟩
  obtain ⟨x0, x1, x2, _, _, _⟩ := (hB1.ext hX2).three
  have HX2 := Lib.hid (hXw.trans hX2)
  have HX12 := Lib.hid hX2
  clear hXw hB1 hB2 hX2
  go_wp2_with fail
  refine (of_any _ neg xs ys 256 _ (HR.out.ext HX2.out) HS.out.1.fit HS.out.den.fit (by omega)).mono ?_
  rintro e w3 ⟨v3, rfl, hv3, hX3⟩
  obtain ⟨A3, l3, c3, B3, m3, k3, rfl, _⟩ := NumV.open hv3
  have HV3 := Lib.hid (NumQ.numx hv3 HS.out.fit)
  have HQ3 := Lib.hid hv3
  have HX3 := Lib.hid (HX2.out.trans hX3)
  clear hX3 hv3 x0 x1 x2
  go_wp2_with fail
  refine (negX HV3.out).mono ?_
  rintro e w4 ⟨v4, rfl, hv4, hX4⟩
  obtain ⟨s4, A4, l4, c4, B4, m4, k4, rfl⟩ := hv4.open
  have HV4 := Lib.hid hv4
  have HX4 := Lib.hid (HX3.out.trans hX4)
  clear hX4 hv4
  go_wp2_with fail
  refine (xfloor_ok _ _ 256 _ HV4.out (by omega) h0 h1).mono ?_
  rintro e w5 ⟨rfl, hX5⟩
  have HX5 := Lib.hid (HX4.out.trans hX5)
  clear hX5
  generalize hf : (-(ratOf neg xs ys)).floor = f at h0 h1 ⊢
  have HF := Lib.hid hf
  clear hf
  go_wp2
  go_ret2
  exact ⟨by rw [HF.out]; rfl, HX5.out⟩

end Go.Proofs.Yteoijnaljkagfaa
namespace Go.Proofs.Yteoijnaljkagfaa
open Go.RowKit

theorem RatC.past {w : World} {v : Value} {q : Rat} {g : Nat} (h : RatC w v q) (hN : NoInts w g) (b : Bool) (A1 A2 : Option Addr) (l1 c1 l2 c2 : Nat) :
    RatC (((w.setCell ⟨g, 0, none⟩ (.bool b)).setCell ⟨g, 1, none⟩ (.slice A1 l1 c1)).setCell ⟨g, 2, none⟩ (.slice A2 l2 c2)) v q := by
  obtain ⟨xs, ys, ⟨A, l, c, B, m, k, rfl, h1, h2, h3, h4, h5, h6⟩, hx, hy⟩ := h
  refine ⟨xs, ys, ⟨A, l, c, B, m, k, rfl, ?_, h2, h3, ?_, h5, h6⟩, hx, hy⟩
  · exact ((h1.past hN.cell 0 _).past (hN.set 0 (noInt_bool _)).cell 1 _).past ((hN.set 0 (noInt_bool _)).set 1 (noInt_slice _ _ _)).cell 2 _
  · exact ((h4.past hN.cell 0 _).past (hN.set 0 (noInt_bool _)).cell 1 _).past ((hN.set 0 (noInt_bool _)).set 1 (noInt_slice _ _ _)).cell 2 _
theorem RatC.open {w : World} {v : Value} {q : Rat} (h : RatC w v q) : ∃ s A l c B m k, v = .agg #[.bool s, .slice A l c, .slice B m k] := by
  obtain ⟨xs, ys, ⟨A, l, c, B, m, k, rfl, _⟩, _⟩ := h
  exact ⟨_, _, _, _, _, _, _, rfl⟩
theorem FitQW.of4 {q : Rat} {L : Nat} (h : FitQ q L) (hl : L ≤ 256) : FitQW q := FitQW.of (h.mono hl)
set_option maxRecDepth 100000 in
set_option maxHeartbeats 2000000 in
theorem eratio_ok (a b : Int) (w : World) (h0 : -9223372036854775808 ≤ a) (h1 : a ≤ 9223372036854775807) (h2 : -9223372036854775808 ≤ b) (h3 : b ≤ 9223372036854775807) (hb : b ≠ 0) :
    Calls Try.prog 22 #[.int .i64 a, .int .i64 b] w (RetC w ((a : Rat) / (b : Rat))) := by
  have hXw : Ext w (w.alloc (.cells #[.bool false, .slice none 0 0, .slice none 0 0] 33)) := (Ext.refl w).alloc _
  have hBR : Blk (w.alloc (.cells #[.bool false, .slice none 0 0, .slice none 0 0] 33)) w.heap.size 33 #[.bool false, .slice none 0 0, .slice none 0 0] := Blk.new w _ _
  have hbq : ((b : Int) : Rat) ≠ 0 := by simpa using hb
  have HBQ := Lib.hid hbq
  have hb' : (b == 0) = false := by simpa using hb
  go_enter Try.func22, Try.ntmps22
  go_wp2_with fail
  generalize (w.alloc (.cells #[.bool false, .slice none 0 0, .slice none 0 0] 33)) = w1 at hXw hBR ⊢
  refine (intX a _ h0 h1).mono ?_
  rintro e w2 ⟨v2, rfl, hv2, hX2⟩
  obtain ⟨s2, A2, l2, c2, B2, m2, k2, rfl⟩ := hv2.open
  have HV2 := Lib.hid hv2
  have HX2 := Lib.hid (hXw.trans hX2)
  have HB2 := Lib.hid (hBR.ext hX2)
  clear hXw hBR hX2 hv2 hb' hbq hb
  go_wp2_with fail
  refine (intX b _ h2 h3).mono ?_
  rintro e w3 ⟨v3, rfl, hv3, hX3⟩
  obtain ⟨s3, A3, l3, c3, B3, m3, k3, rfl⟩ := hv3.open
  have HV3 := Lib.hid hv3
  have HV2' := Lib.hid (HV2.out.ext hX3)
  have HX3 := Lib.hid (HX2.out.trans hX3)
  have HB3 := Lib.hid (HB2.out.ext hX3)
  clear hX3 hv3
  go_wp2_with fail
  refine (divX HV2'.out HV3.out HBQ.out (by omega) (by omega)).mono ?_
  rintro e w4 ⟨v4, rfl, hv4, hX4⟩
  obtain ⟨s4, A4, l4, c4, B4, m4, k4, rfl⟩ := hv4.open
  have HV4 := Lib.hid hv4
  have HX4 := Lib.hid (HX3.out.trans hX4)
  have HB4 := Lib.hid (HB3.out.ext hX4)
  clear hX4 hv4
  go_wp2_with fail
  refine (done_ok _ _ 4 _ HV4.out (by omega) (FitQW.of4 HV4.out.fit (by omega))).mono ?_
  rintro e w5 ⟨v5, rfl, hv5, hX5⟩
  obtain ⟨s5, A5, l5, c5, B5, m5, k5, rfl⟩ := hv5.open
  have HX5 := Lib.hid (HX4.out.trans hX5)
  have hB5 := HB4.out.ext hX5
  obtain ⟨r0, r1, r2, g0, g1, g2⟩ := hB5.three
  have HV6 := Lib.hid (hv5.past (NoInts.three hB5) s5 A5 B5 l5 c5 m5 k5)
  clear hX5 hv5 hB5
  go_wp2
  refine bodyPost_ret (v := .tuple #[.agg #[.bool s5, .slice A5 l5 c5, .slice B5 m5 k5], .int .i64 0]) (by simp [results, Try.results22, go_sem, *]) rfl ?_
  exact ⟨_, rfl, HV6.out, Ext.boxed HX5.out (Nat.le_refl _) _ _ _⟩

end Go.Proofs.Yteoijnaljkagfaa
namespace Go.Proofs.Yteoijnaljkagfaa
open Go.RowKit

/-- A value that denotes a number and is not large. -/
def RatG (w : World) (v : Value) (q : Rat) : Prop := ∃ neg xs ys, RatV w v neg xs ys ∧ SmallR xs ys ∧ ratOf neg xs ys = q
theorem RatG.ext {w w' : World} {v : Value} {q : Rat} (h : RatG w v q) (he : Ext w w') : RatG w' v q := by
  obtain ⟨neg, xs, ys, h1, h2, h3⟩ := h
  exact ⟨neg, xs, ys, h1.ext he, h2, h3⟩
theorem RatG.fit {w : World} {v : Value} {q : Rat} (h : RatG w v q) : FitQ q 256 := by
  obtain ⟨neg, xs, ys, h1, h2, rfl⟩ := h
  exact h2.fit
theorem Rep.wN {xs : List Int} {n : Nat} (h : Rep 4294967296 xs n) : wN xs = n := by
  have := h.2.2
  unfold Go.Proofs.Yteoijnaljkagfaa.wN; omega
theorem RatC.good {w : World} {v : Value} {q : Rat} (h : RatC w v q) (hf : FitQW q) : RatG w v q := by
  obtain ⟨xs, ys, h1, h2, h3⟩ := h
  have e1 := h2.wN
  have e2 : wD ys = q.den ∧ FitW (wN ys) := by
    rcases h3 with ⟨hd, rfl⟩ | ⟨hd, hr⟩
    · have : wN [] = 0 := by simp [wN, val]
      refine ⟨by unfold wD; rw [this, hd]; rfl, ?_⟩
      rw [this]; exact ⟨Fit.zero (by omega)⟩
    · have e := hr.wN
      have := q.den_pos
      refine ⟨by unfold wD; rw [e, if_neg (by omega)], ?_⟩
      rw [e]; exact hf.den
  refine ⟨_, xs, ys, h1, ⟨by rw [e1]; exact hf.num, e2.2⟩, ?_⟩
  unfold ratOf
  rw [e1, e2.1, ratV_self]
theorem RatG.open {w : World} {v : Value} {q : Rat} (h : RatG w v q) : ∃ s A l c B m k, v = .agg #[.bool s, .slice A l c, .slice B m k] := by
  obtain ⟨neg, xs, ys, ⟨A, l, c, B, m, k, rfl, _⟩, _⟩ := h
  exact ⟨_, _, _, _, _, _, _, rfl⟩

section
variable {w : World} {v : Value} {q : Rat}
theorem textG (h : RatG w v q) : Calls Try.prog 37 #[v] w (fun e w' => ∃ b, e = .returned (.tuple #[.string b, .int .i64 0]) ∧ TextB (decide (q.num < 0)) q.num.natAbs q.den b ∧ Ext w w') := by
  obtain ⟨neg, xs, ys, h1, h2, rfl⟩ := h
  exact etext_ok v neg xs ys w h1 h2
theorem ceilG (h : RatG w v q) (h0 : -1152921504606846976 ≤ (-q).floor) (h1 : (-q).floor ≤ 1152921504606846976) : Calls Try.prog 29 #[v] w (RetE w (.int .i64 (-(-q).floor)) 0) := by
  obtain ⟨neg, xs, ys, k1, k2, rfl⟩ := h
  exact eceil_ok v neg xs ys w k1 k2 h0 h1
end

theorem q46 : (((4 : Int) : Rat) / ((6 : Int) : Rat)).num = 2 ∧ (((4 : Int) : Rat) / ((6 : Int) : Rat)).den = 3 := by decide +kernel
theorem q46_fl : (-(((4 : Int) : Rat) / ((6 : Int) : Rat))).floor = -1 := by decide +kernel
theorem q46_fit : FitQW (((4 : Int) : Rat) / ((6 : Int) : Rat)) := by
  refine ⟨⟨?_⟩, ⟨?_⟩⟩
  · rw [q46.1]; exact (show Fit 4294967296 2 1 by unfold Fit; omega).mono (by omega) (by omega)
  · rw [q46.2]; exact (show Fit 4294967296 3 1 by unfold Fit; omega).mono (by omega) (by omega)
theorem dec_digit (n : Nat) (h0 : 0 < n) (h1 : n < 10) : Dec n [48 + (n : Int)] := .inr ⟨by omega, [(n : Int)], Rep.small (B := 10) (x := (n : Int)) (by omega) (by omega), rfl⟩
theorem q46_text {b : ByteArray} (h : TextB false 2 3 b) : b = ⟨#[50, 47, 51]⟩ :=
  h.unique ⟨[50], [51], dec_digit 2 (by omega) (by omega), dec_digit 3 (by omega) (by omega), by decide +kernel⟩

set_option maxRecDepth 100000 in
set_option maxHeartbeats 2000000 in
theorem first_any (w : World) : Calls Try.prog 20 #[] w fun e w' => e = .returned (.bool true) ∧ Ext w w' := by
  go_enter Try.func20, Try.ntmps20
  go_wp2_with fail
  refine (eratio_ok 4 6 _ (by omega) (by omega) (by omega) (by omega) (by omega)).mono ?_
  rintro e w1 ⟨v1, rfl, hv1, hX1⟩
  have hg := hv1.good q46_fit
  obtain ⟨s, A, l, c, B, m, k, rfl⟩ := hg.open
  have hXa : Ext w1 (w1.alloc (.cells #[.bool s, .slice A l c, .slice B m k] 33)) := (Ext.refl w1).alloc _
  have HX2 := Lib.hid (hX1.trans hXa)
  have HG := Lib.hid (hg.ext hXa)
  have HB := Lib.hid (Blk.new w1 33 #[.bool s, .slice A l c, .slice B m k])
  clear hX1 hv1 hg hXa
  go_upto_region 2 with (fail)
  generalize w1.alloc (.cells #[.bool s, .slice A l c, .slice B m k] 33) = w2 at HX2 HB HG ⊢
  obtain ⟨x0, x1, x2, _, _, _⟩ := HB.out.three
  go_wp2_with fail
  refine (textG HG.out).mono ?_
  rintro e w3 ⟨b, rfl, hb, hX3⟩
  rw [q46.1, q46.2] at hb
  obtain rfl := q46_text hb
  have HX3 := Lib.hid (HX2.out.trans hX3)
  have HG3 := Lib.hid (HG.out.ext hX3)
  have HB3 := Lib.hid (HB.out.ext hX3)
  clear hX3 hb x0 x1 x2
  obtain ⟨x0, x1, x2, _, _, _⟩ := HB3.out.three
  go_wp2_with fail
  refine (ceilG HG3.out (by rw [q46_fl]; omega) (by rw [q46_fl]; omega)).mono ?_
  rw [q46_fl]
  rintro e w4 ⟨rfl, hX4⟩
  have HX4 := Lib.hid (HX3.out.trans hX4)
  clear hX4
  go_wp2_with fail
  refine (turn_any 0 0 1 0 0 1 _).mono ?_
  rw [show turnI (0, 0) (1, 0) (0, 1) = 1 by decide, show turnE (0, 0) (1, 0) (0, 1) = 0 by decide]
  rintro e w5 ⟨rfl, hX5⟩
  have HX5 := Lib.hid (HX4.out.trans hX5)
  clear hX5
  go_wp2
  go_ret
  exact ⟨rfl, HX5.out⟩
end Go.Proofs.Yteoijnaljkagfaa
