/- Lemmas of the proof that follows (Scales, part 12): walks of functions by contract, and plain lemmas. Conditions: none. -/
import Derived.Test.YtikhlcgnlbinfaaScalesK
namespace Go.Proofs.Ytikhlcgnlbinfaa
open Go.RowKit

def aggOf : Value → Array Value
  | .agg vs => vs
  | _ => #[]
theorem Blk.put3 {W : World} {g : Nat} {T : TypeId} {z0 z1 z2 x0 x1 x2 v : Value} (h : Blk W g T #[z0, z1, z2]) (hu : v = .agg #[x0, x1, x2]) : Blk (((W.setCell ⟨g, 0, none⟩ x0).setCell ⟨g, 1, none⟩ x1).setCell ⟨g, 2, none⟩ x2) g T (aggOf v) := by
  subst hu; exact ((h.set 0 _).set 1 _).set 2 _
theorem Loc.revs {w W : World} {T : TypeId} {zs vs vs' : Array Value} {da dst : Prop} {v : Value} (h : Loc w W T zs vs da dst v) (hn : ¬ dst) : Loc w W T zs vs' da dst v := ⟨fun hd => by
  obtain ⟨g, h1, h2, _, h4⟩ := h.ptr hd
  exact ⟨g, h1, h2, fun h => absurd h hn, h4⟩⟩
/-- A number and no error. -/
def TupG (w : World) (v : Value) (q : Rat) : Prop := ∃ x, v = .tuple #[x, .int .i64 0] ∧ RatG w x q
theorem TupG.ext {w w' : World} {v : Value} {q : Rat} (h : TupG w v q) (he : Ext w w') : TupG w' v q := by
  obtain ⟨x, rfl, h⟩ := h
  exact ⟨x, rfl, h.ext he⟩
theorem RatG.keepsNI {w w' : World} {v : Value} {q : Rat} {L : List Nat} (h : RatG w v q) (hk : Keeps L w w') (hN : ∀ g ∈ L, NoInts w g) : RatG w' v q := by
  obtain ⟨neg, xs, ys, ⟨A, l, c, B, m, k, h1, h2, h3, h4, h5, h6⟩, h7, h8⟩ := h
  exact ⟨neg, xs, ys, ⟨A, l, c, B, m, k, h1, h2.keepsNI hk hN, h3, h4, h5.keepsNI hk hN, h6⟩, h7, h8⟩
theorem RatG.past {w : World} {v : Value} {q : Rat} {g : Nat} (h : RatG w v q) (hN : NoInts w g) {b : Bool} {A1 A2 : Option Addr} {l1 c1 l2 c2 : Nat} : RatG (((w.setCell ⟨g, 0, none⟩ (.bool b)).setCell ⟨g, 1, none⟩ (.slice A1 l1 c1)).setCell ⟨g, 2, none⟩ (.slice A2 l2 c2)) v q :=
  h.keepsNI ((((Keeps.refl [g] w).setCell (.inl (by simp)) _).setCell (.inl (by simp)) _).setCell (.inl (by simp)) _) (fun k hk => by simp at hk; subst hk; exact hN)
theorem TupG.past {w : World} {v : Value} {q : Rat} {g : Nat} (h : TupG w v q) (hN : NoInts w g) {b : Bool} {A1 A2 : Option Addr} {l1 c1 l2 c2 : Nat} : TupG (((w.setCell ⟨g, 0, none⟩ (.bool b)).setCell ⟨g, 1, none⟩ (.slice A1 l1 c1)).setCell ⟨g, 2, none⟩ (.slice A2 l2 c2)) v q := by
  obtain ⟨x, rfl, h⟩ := h
  exact ⟨x, rfl, h.past hN⟩

set_option maxRecDepth 100000 in
set_option maxHeartbeats 2000000 in
theorem times_r1 (ga : Nat) (n : Int) (q : Rat) (su : Bool) (Au Bu : Option Addr) (lu cu mu ku : Nat) (w : World) (x0 : w.cell? ⟨ga, 0, none⟩ = some (.bool su)) (x1 : w.cell? ⟨ga, 1, none⟩ = some (.slice Au lu cu)) (x2 : w.cell? ⟨ga, 2, none⟩ = some (.slice Bu mu ku)) (hx : RatG w (.agg #[.bool su, .slice Au lu cu, .slice Bu mu ku]) q) (hn : 1 ≤ n ∧ n ≤ 9) (hf : FitQW ((n : Int) * q)) (a : Act) (Q : Exit → Act → World → Prop) (hsize : 15 ≤ a.tmps.size)
    (s0 : a.tmps[0]? = some (.int .i64 (n)))
    (s3 : a.tmps[3]? = some (.pointer (some ⟨ga, 0, none⟩)))
    (hend : ∀ (xv0 xv1 xv2 xv3 xv4 xv5 xv6 xv7 xv8 xv9 : Value) (W : World), (xv0 = .int .i64 (n)) → (xv2 = .agg #[.bool su, .slice Au lu cu, .slice Bu mu ku]) → (xv9 = .int .i64 (0)) → (RatG W xv1 ((n : Int) : Rat)) → (TupG W xv3 ((n : Int) * q)) → (TupG W xv4 ((n : Int) * q)) → (RatG W xv5 ((n : Int) * q)) → (xv6 = .int .i64 0) → (∃ g, xv7 = .pointer (some ⟨g, 0, none⟩) ∧ w.heap.size ≤ g ∧ Blk W g 97 (aggOf xv5)) → Ext w W → wpList Try.prog (rops Try.f54 1).toArray Q [] ((((((((((a.put (some 9) xv0).put (some 10) xv1).put (some 11) xv2).put (some 12) xv3).put (some 8) xv4).put (some 13) xv5).put (some 14) xv6).put (some 6) xv7).put (none) xv8).put (some 7) xv9) W) :
    (Code.region 1 (rops Try.f54 1).toArray true).wp Try.prog Q a w := by
  have hsz : ∀ d, some d ∈ ([some 9, some 10, some 11, some 12, some 8, some 13, some 14, some 6, none, some 7] : List (Option Tmp)) → d < a.tmps.size := slots_lt (by decide) hsize
  refine wp_region_g 10 [some 9, some 10, some 11, some 12, some 8, some 13, some 14, some 6, none, some 7] [[], [0], [], [1, 2], [3], [4], [4], [], [5, 7], [6]] [[], [], [], [], [], [8], [], [8], [], []] (fun (done : Nat → Prop) (us : Nat → Value) (W : World) => Ext w W ∧ (done 0 → us 0 = .int .i64 (n)) ∧ (done 2 → us 2 = .agg #[.bool su, .slice Au lu cu, .slice Bu mu ku]) ∧ (done 9 → us 9 = .int .i64 (0)) ∧ (done 1 → RatG W (us 1) ((n : Int) : Rat)) ∧ (done 3 → TupG W (us 3) ((n : Int) * q)) ∧ (done 4 → TupG W (us 4) ((n : Int) * q)) ∧ (done 5 → RatG W (us 5) ((n : Int) * q)) ∧ (done 6 → (us 6) = .int .i64 0) ∧ Loc w W 97 #[.bool false, .slice none 0 0, .slice none 0 0] (aggOf (us 5)) (done 7) (done 8) (us 7)) (by kernel_rfl) (by kernel_rfl) hsz (fun p q us W h => by have e : p = q := funext fun k => propext (h k); rw [e]; exact id) (fun us => ⟨(Ext.refl w).drew, fun h => h.elim, fun h => h.elim, fun h => h.elim, fun h => h.elim, fun h => h.elim, fun h => h.elim, fun h => h.elim, fun h => h.elim, Loc.unmade id⟩) ?_ ?_
  · clear hend
    simp only [rops, Try.f54, regOf, Option.bind_some, Nat.reduceBEq, if_true, if_false, Bool.false_eq_true, Option.getD_some]
    simp only [List.take_succ_cons, List.take_zero]
    refine ⟨?_, ?_, ?_, ?_, ?_, ?_, ?_, ?_, ?_, ?_, trivial⟩
    · intro done us W hJ hdep haft hnot b hb hb' K hK Q'
      obtain ⟨hX0, cc0, cc2, cc9, pp1, pp3, pp4, pp5, pp6, ll7⟩ := hJ
      have e0 := (hb' 0 (by simp)).trans s0
      clear hb hb'
      have hfin := hK (.int .i64 (n)) _ ⟨hX0, fun _ => rfl, fun h => cc2 (h.resolve_right (by decide)), fun h => cc9 (h.resolve_right (by decide)), fun h => pp1 (h.resolve_right (by decide)), fun h => pp3 (h.resolve_right (by decide)), fun h => pp4 (h.resolve_right (by decide)), fun h => pp5 (h.resolve_right (by decide)), fun h => pp6 (h.resolve_right (by decide)), Loc.same ll7 ⟨fun h => h.resolve_right (by decide), .inl⟩ ⟨fun h => h.resolve_right (by decide), .inl⟩⟩
      clear hK cc0 cc2 cc9 pp1 pp3 pp4 pp5 pp6 ll7
      go_simp
      exact hfin
    · intro done us W hJ hdep haft hnot b hb hb' K hK Q'
      obtain ⟨hX0, cc0, cc2, cc9, pp1, pp3, pp4, pp5, pp6, ll7⟩ := hJ
      simp only [List.getD_cons_succ, List.getD_cons_zero, List.mem_cons, List.not_mem_nil, or_false, forall_eq] at hdep
      have e9 := hb 0 9 rfl
      rw [cc0 hdep] at e9
      clear hb hb'
      go_simp
      refine (fromIntG n W (by omega) (by omega)).mono ?_
      rintro e w' ⟨v, rfl, hv, hX⟩
      exact hK _ _ ⟨Ext.trans hX0 hX, fun h => cc0 (h.resolve_right (by decide)), fun h => cc2 (h.resolve_right (by decide)), fun h => cc9 (h.resolve_right (by decide)), fun _ => hv, fun h => TupG.ext (pp3 (h.resolve_right (by decide))) hX, fun h => TupG.ext (pp4 (h.resolve_right (by decide))) hX, fun h => RatG.ext (pp5 (h.resolve_right (by decide))) hX, fun h => (pp6 (h.resolve_right (by decide))), Loc.same (ll7.ext hX) ⟨fun h => h.resolve_right (by decide), .inl⟩ ⟨fun h => h.resolve_right (by decide), .inl⟩⟩
    · intro done us W hJ hdep haft hnot b hb hb' K hK Q'
      obtain ⟨hX0, cc0, cc2, cc9, pp1, pp3, pp4, pp5, pp6, ll7⟩ := hJ
      have e3 := (hb' 3 (by simp)).trans s3
      clear hb hb'
      have z0 := Ext.cell hX0 x0
      have z1 := Ext.cell hX0 x1
      have z2 := Ext.cell hX0 x2
      have hfin := hK (.agg #[.bool su, .slice Au lu cu, .slice Bu mu ku]) _ ⟨hX0, fun h => cc0 (h.resolve_right (by decide)), fun _ => rfl, fun h => cc9 (h.resolve_right (by decide)), fun h => pp1 (h.resolve_right (by decide)), fun h => pp3 (h.resolve_right (by decide)), fun h => pp4 (h.resolve_right (by decide)), fun h => pp5 (h.resolve_right (by decide)), fun h => pp6 (h.resolve_right (by decide)), Loc.same ll7 ⟨fun h => h.resolve_right (by decide), .inl⟩ ⟨fun h => h.resolve_right (by decide), .inl⟩⟩
      clear hK cc0 cc2 cc9 pp1 pp3 pp4 pp5 pp6 ll7
      go_simp
      exact hfin
    · intro done us W hJ hdep haft hnot b hb hb' K hK Q'
      obtain ⟨hX0, cc0, cc2, cc9, pp1, pp3, pp4, pp5, pp6, ll7⟩ := hJ
      simp only [List.getD_cons_succ, List.getD_cons_zero, List.mem_cons, List.not_mem_nil, or_false, forall_eq_or_imp, forall_eq] at hdep
      have e10 := hb 1 10 rfl
      have e11 := hb 2 11 rfl
      rw [cc2 hdep.2] at e11
      clear hb hb'
      go_simp
      refine (mulG (pp1 hdep.1) (RatG.ext hx hX0) hf).mono ?_
      rintro e w' ⟨v, rfl, hc, hX⟩
      have hv : TupG w' (.tuple #[v, .int .i64 0]) ((n : Int) * q) := ⟨v, rfl, hc.good hf⟩
      exact hK _ _ ⟨Ext.trans hX0 hX, fun h => cc0 (h.resolve_right (by decide)), fun h => cc2 (h.resolve_right (by decide)), fun h => cc9 (h.resolve_right (by decide)), fun h => RatG.ext (pp1 (h.resolve_right (by decide))) hX, fun _ => hv, fun h => TupG.ext (pp4 (h.resolve_right (by decide))) hX, fun h => RatG.ext (pp5 (h.resolve_right (by decide))) hX, fun h => (pp6 (h.resolve_right (by decide))), Loc.same (ll7.ext hX) ⟨fun h => h.resolve_right (by decide), .inl⟩ ⟨fun h => h.resolve_right (by decide), .inl⟩⟩
    · intro done us W hJ hdep haft hnot b hb hb' K hK Q'
      obtain ⟨hX0, cc0, cc2, cc9, pp1, pp3, pp4, pp5, pp6, ll7⟩ := hJ
      simp only [List.getD_cons_succ, List.getD_cons_zero, List.mem_cons, List.not_mem_nil, or_false, forall_eq] at hdep
      have e12 := hb 3 12 rfl
      clear hb hb'
      have hv := (pp3 hdep)
      go_simp
      exact hK _ _ ⟨hX0, fun h => cc0 (h.resolve_right (by decide)), fun h => cc2 (h.resolve_right (by decide)), fun h => cc9 (h.resolve_right (by decide)), fun h => pp1 (h.resolve_right (by decide)), fun h => pp3 (h.resolve_right (by decide)), fun _ => hv, fun h => pp5 (h.resolve_right (by decide)), fun h => pp6 (h.resolve_right (by decide)), Loc.same ll7 ⟨fun h => h.resolve_right (by decide), .inl⟩ ⟨fun h => h.resolve_right (by decide), .inl⟩⟩
    · intro done us W hJ hdep haft hnot b hb hb' K hK Q'
      obtain ⟨hX0, cc0, cc2, cc9, pp1, pp3, pp4, pp5, pp6, ll7⟩ := hJ
      simp only [List.getD_cons_succ, List.getD_cons_zero, List.mem_cons, List.not_mem_nil, or_false, forall_eq] at hdep
      simp only [List.getD_cons_succ, List.getD_cons_zero, List.mem_cons, List.not_mem_nil, or_false, forall_eq] at haft
      have e8 := hb 4 8 rfl
      clear hb hb'
      obtain ⟨x9, hu, hv⟩ := (pp4 hdep)
      rw [hu] at e8
      go_simp
      exact hK _ _ ⟨hX0, fun h => cc0 (h.resolve_right (by decide)), fun h => cc2 (h.resolve_right (by decide)), fun h => cc9 (h.resolve_right (by decide)), fun h => pp1 (h.resolve_right (by decide)), fun h => pp3 (h.resolve_right (by decide)), fun h => pp4 (h.resolve_right (by decide)), fun _ => hv, fun h => pp6 (h.resolve_right (by decide)), Loc.same (Loc.revs ll7 haft) ⟨fun h => h.resolve_right (by decide), .inl⟩ ⟨fun h => h.resolve_right (by decide), .inl⟩⟩
    · intro done us W hJ hdep haft hnot b hb hb' K hK Q'
      obtain ⟨hX0, cc0, cc2, cc9, pp1, pp3, pp4, pp5, pp6, ll7⟩ := hJ
      simp only [List.getD_cons_succ, List.getD_cons_zero, List.mem_cons, List.not_mem_nil, or_false, forall_eq] at hdep
      have e8 := hb 4 8 rfl
      clear hb hb'
      obtain ⟨x9, hu, hv9⟩ := (pp4 hdep)
      rw [hu] at e8
      clear hv9
      have hv : Value.int .i64 0 = .int .i64 0 := rfl
      go_simp
      exact hK _ _ ⟨hX0, fun h => cc0 (h.resolve_right (by decide)), fun h => cc2 (h.resolve_right (by decide)), fun h => cc9 (h.resolve_right (by decide)), fun h => pp1 (h.resolve_right (by decide)), fun h => pp3 (h.resolve_right (by decide)), fun h => pp4 (h.resolve_right (by decide)), fun h => pp5 (h.resolve_right (by decide)), fun _ => hv, Loc.same ll7 ⟨fun h => h.resolve_right (by decide), .inl⟩ ⟨fun h => h.resolve_right (by decide), .inl⟩⟩
    · intro done us W hJ hdep haft hnot b hb hb' K hK Q'
      obtain ⟨hX0, cc0, cc2, cc9, pp1, pp3, pp4, pp5, pp6, ll7⟩ := hJ
      simp only [List.getD_cons_succ, List.getD_cons_zero, List.mem_cons, List.not_mem_nil, or_false, forall_eq] at haft
      clear hb hb'
      have hfin := hK _ _ ⟨hX0.alloc _, fun h => cc0 (h.resolve_right (by decide)), fun h => cc2 (h.resolve_right (by decide)), fun h => cc9 (h.resolve_right (by decide)), fun h => RatG.ext (pp1 (h.resolve_right (by decide))) ((Ext.refl _).alloc _), fun h => TupG.ext (pp3 (h.resolve_right (by decide))) ((Ext.refl _).alloc _), fun h => TupG.ext (pp4 (h.resolve_right (by decide))) ((Ext.refl _).alloc _), fun h => RatG.ext (pp5 (h.resolve_right (by decide))) ((Ext.refl _).alloc _), fun h => (pp6 (h.resolve_right (by decide))), Loc.new w W hX0 (fun h => h.elim haft (by decide)) (Ext.refl _)⟩
      clear hK hX0 cc0 cc2 cc9 pp1 pp3 pp4 pp5 pp6 ll7
      go_simp
      exact hfin
    · intro done us W hJ hdep haft hnot b hb hb' K hK Q'
      obtain ⟨hX0, cc0, cc2, cc9, pp1, pp3, pp4, pp5, pp6, ll7⟩ := hJ
      simp only [List.getD_cons_succ, List.getD_cons_zero, List.mem_cons, List.not_mem_nil, or_false, forall_eq_or_imp, forall_eq] at hdep
      have e6 := hb 7 6 rfl
      have e13 := hb 5 13 rfl
      obtain ⟨g, eg, hg, hB⟩ := ll7.stored hdep.2 hnot
      rw [eg] at e6
      have q0 : W.cell? ⟨g, 0, none⟩ = some (.bool false) := hB.cell 0
      have z0 : W.frozen? ⟨g, 0, none⟩ = false := hB.free 0
      have q1 : W.cell? ⟨g, 1, none⟩ = some (.slice none 0 0) := hB.cell 1
      have z1 : W.frozen? ⟨g, 1, none⟩ = false := hB.free 1
      have q2 : W.cell? ⟨g, 2, none⟩ = some (.slice none 0 0) := hB.cell 2
      have z2 : W.frozen? ⟨g, 2, none⟩ = false := hB.free 2
      clear hb hb'
      obtain ⟨s9, A9, l9, c9, B9, m9, k9, hu⟩ := RatG.open (pp5 hdep.1)
      rw [hu] at e13
      have hN := NoInts.three hB
      have hfin := hK undef _ ⟨(((hX0.setCell hg _).setCell hg _).setCell hg _), fun h => cc0 (h.resolve_right (by decide)), fun h => cc2 (h.resolve_right (by decide)), fun h => cc9 (h.resolve_right (by decide)), fun h => RatG.past (pp1 (h.resolve_right (by decide))) hN, fun h => TupG.past (pp3 (h.resolve_right (by decide))) hN, fun h => TupG.past (pp4 (h.resolve_right (by decide))) hN, fun h => RatG.past (pp5 (h.resolve_right (by decide))) hN, fun h => (pp6 (h.resolve_right (by decide))), ⟨fun _ => ⟨g, eg, hg, fun _ => (Blk.put3 hB hu), fun h => absurd (.inr rfl) h⟩⟩⟩
      clear hK hX0 cc0 cc2 cc9 pp1 pp3 pp4 pp5 pp6 ll7
      go_simp
      exact hfin
    · intro done us W hJ hdep haft hnot b hb hb' K hK Q'
      obtain ⟨hX0, cc0, cc2, cc9, pp1, pp3, pp4, pp5, pp6, ll7⟩ := hJ
      simp only [List.getD_cons_succ, List.getD_cons_zero, List.mem_cons, List.not_mem_nil, or_false, forall_eq] at hdep
      have e14 := hb 6 14 rfl
      clear hb hb'
      rw [pp6 hdep] at e14
      have hfin := hK (.int .i64 (0)) _ ⟨hX0, fun h => cc0 (h.resolve_right (by decide)), fun h => cc2 (h.resolve_right (by decide)), fun _ => rfl, fun h => pp1 (h.resolve_right (by decide)), fun h => pp3 (h.resolve_right (by decide)), fun h => pp4 (h.resolve_right (by decide)), fun h => pp5 (h.resolve_right (by decide)), fun h => pp6 (h.resolve_right (by decide)), Loc.same ll7 ⟨fun h => h.resolve_right (by decide), .inl⟩ ⟨fun h => h.resolve_right (by decide), .inl⟩⟩
      clear hK cc0 cc2 cc9 pp1 pp3 pp4 pp5 pp6 ll7
      go_simp
      exact hfin
  · intro us W hJ
    obtain ⟨hX0, cc0, cc2, cc9, pp1, pp3, pp4, pp5, pp6, ll7⟩ := hJ
    rw [show (rops Try.f54 1).drop 10 = [] by kernel_rfl]
    exact hend (us 0) (us 1) (us 2) (us 3) (us 4) (us 5) (us 6) (us 7) (us 8) (us 9) W (cc0 (show 0 < 10 by decide)) (cc2 (show 2 < 10 by decide)) (cc9 (show 9 < 10 by decide)) (pp1 (show 1 < 10 by decide)) (pp3 (show 3 < 10 by decide)) (pp4 (show 4 < 10 by decide)) (pp5 (show 5 < 10 by decide)) (pp6 (show 6 < 10 by decide)) (ll7.done (show 7 < 10 by decide) (show 8 < 10 by decide)) hX0
set_option maxRecDepth 100000 in
set_option maxHeartbeats 4000000 in
theorem times_v (n : Int) (q : Rat) (su : Bool) (Au Bu : Option Addr) (lu cu mu ku : Nat) (w : World) (hx : RatG w (.agg #[.bool su, .slice Au lu cu, .slice Bu mu ku]) q) (hn : 1 ≤ n ∧ n ≤ 9) (hf : FitQW ((n : Int) * q)) :
    Calls Try.prog 54 #[.int .i64 n, .agg #[.bool su, .slice Au lu cu, .slice Bu mu ku]] w (fun e w' => ∃ v, e = .returned (.tuple #[v, .bool true]) ∧ RatG w' v ((n : Int) * q) ∧ Ext w w') := by
  have hXa : Ext w ((w.alloc (.cells #[.bool su, .slice Au lu cu, .slice Bu mu ku] 97)).alloc (.cells #[.bool false, .slice none 0 0, .slice none 0 0] 97)) := ((Ext.refl w).alloc _).alloc _
  have kA := (Blk.new w 97 #[.bool su, .slice Au lu cu, .slice Bu mu ku]).ext ((Ext.refl _).alloc (.cells #[.bool false, .slice none 0 0, .slice none 0 0] 97))
  have kR := Blk.new (w.alloc (.cells #[.bool su, .slice Au lu cu, .slice Bu mu ku] 97)) 97 #[.bool false, .slice none 0 0, .slice none 0 0]
  have hsz : (w.alloc (.cells #[.bool su, .slice Au lu cu, .slice Bu mu ku] 97)).heap.size = w.heap.size + 1 := by simp only [World.alloc, Array.size_push]
  rw [hsz] at kR
  have HRX := Lib.hid (hx.ext hXa)
  have KA := Lib.hid kA
  have KR := Lib.hid kR
  have HX := Lib.hid hXa
  clear hx kA kR hXa hsz
  have HF := Lib.hid hf
  go_enter Try.func54, Try.ntmps54
  go_upto_region 1 with (fail)
  generalize (w.alloc (.cells #[.bool su, .slice Au lu cu, .slice Bu mu ku] 97)).alloc (.cells #[.bool false, .slice none 0 0, .slice none 0 0] 97) = w1 at HX KA KR HRX ⊢
  have y0 := KA.out.cell 0
  have y1 := KA.out.cell 1
  have y2 := KA.out.cell 2
  simp only [List.getElem?_toArray, List.getElem?_cons_zero, List.getElem?_cons_succ] at y0 y1 y2
  refine times_r1 w.heap.size n q su Au Bu lu cu mu ku w1 y0 y1 y2 HRX.out hn HF.out _ _ (by simp) rfl rfl ?_
  rintro xv0 xv1 xv2 xv3 xv4 xv5 xv6 xv7 xv8 xv9 W rfl rfl rfl _ _ _ hv rfl ⟨gx, rfl, hgx, hbx⟩ hX
  simp only [rops, Try.f54, regOf, Option.bind_some, Nat.reduceBEq, if_true, if_false, Bool.false_eq_true, Option.getD_some]
  simp only [Act.put, List.setIfInBounds_toArray, List.set_cons_succ, List.set_cons_zero]
  obtain ⟨st, At, lt, ct, Bt, mt, kt, rfl⟩ := RatG.open hv
  have HV := Lib.hid hv
  replace HX := Lib.hid (HX.out.trans hX)
  replace KR := Lib.hid (KR.out.ext hX)
  have KB := Lib.hid hbx
  clear hv hX hbx y0 y1 y2 hn
  simp only [aggOf] at KB
  have z0 := KB.out.cell 0
  have z1 := KB.out.cell 1
  have z2 := KB.out.cell 2
  simp only [List.getElem?_toArray, List.getElem?_cons_zero, List.getElem?_cons_succ] at z0 z1 z2
  obtain ⟨r0, r1, r2, f0, f1, f2⟩ := KR.out.three
  have HNI := Lib.hid (NoInts.three KR.out)
  go_wp2
  refine bodyPost_ret (v := .tuple #[.agg #[.bool st, .slice At lt ct, .slice Bt mt kt], .bool true]) (by simp [results, Try.results54, go_sem, *]) rfl ?_
  exact ⟨_, rfl, HV.out.past HNI.out, Ext.boxed HX.out (by omega) _ _ _⟩
theorem times_any {n : Int} {q : Rat} {w : World} {v : Value} (hx : RatG w v q) (hn : 1 ≤ n ∧ n ≤ 9) (hf : FitQW ((n : Int) * q)) :
    Calls Try.prog 54 #[.int .i64 n, v] w (fun e w' => ∃ v, e = .returned (.tuple #[v, .bool true]) ∧ RatG w' v ((n : Int) * q) ∧ Ext w w') := by
  obtain ⟨s, A, l, c, B, m, k, rfl⟩ := hx.open
  exact times_v n q s A B l c m k w hx hn hf

end Go.Proofs.Ytikhlcgnlbinfaa
namespace Go.Proofs.Ytikhlcgnlbinfaa
open Go.RowKit

theorem elMt : Elem Try.prog 74 90 7 56 (.agg #[.int .i64 0, .int .i64 0, .int .i64 0, .int .i64 0, .int .i64 0, .int .i64 0, .int .i64 0]) := Elem.mk' (by kernel_rfl) (by kernel_rfl) rfl (by decide)
end Go.Proofs.Ytikhlcgnlbinfaa
namespace Go.Proofs.Ytikhlcgnlbinfaa
open Go.RowKit

/-- A list of bools in memory. -/
def BoolR (base : Nat) (w : World) (v : Value) (n : Nat) (f : Nat → Bool) : Prop := w.ownsRow base 4 1 v n ((List.range n).map fun j => .bool (f j))
theorem BoolR.ext {base n : Nat} {w w' : World} {v : Value} {f : Nat → Bool} (h : BoolR base w v n f) (he : Ext w w') : BoolR base w' v n f := World.ownsRow.ext' h he
def TabI (base nn : Nat) (ms : List Mt) (v : Value) (w : World) : Prop := ∃ go ct vs, v = .agg #[.slice (some ⟨go, 0, none⟩) nn ct] ∧ TabG 3 (Tri fun w v q => NumX w v q 53) 217 226 base w go ct nn (nn + 1) vs (tabM ms nn)
theorem TabI.ext {base nn : Nat} {ms : List Mt} {v : Value} {w w' : World} (h : TabI base nn ms v w) (he : Ext w w') : TabI base nn ms v w' := by
  obtain ⟨go, ct, vs, h1, h2⟩ := h
  exact ⟨go, ct, vs, h1, h2.ext (kindNum 53) he⟩
def PivR (base nn : Nat) (ms : List Mt) (v : Value) (w : World) : Prop := ∃ gp, v = .slice (some ⟨gp, 0, none⟩) nn nn ∧ RowI base w gp nn nn (fun j => pivI ((redG nn (tabM ms nn) nn).piv[j]?))
theorem PivR.ext {base nn : Nat} {ms : List Mt} {v : Value} {w w' : World} (h : PivR base nn ms v w) (he : Ext w w') : PivR base nn ms v w' := by
  obtain ⟨gp, h1, h2⟩ := h
  exact ⟨gp, h1, h2.ext he⟩

end Go.Proofs.Ytikhlcgnlbinfaa
namespace Go.Proofs.Ytikhlcgnlbinfaa
open Go.RowKit

/-- The state within the region: what is done, and the two lists. -/
structure TwoJ (base k : Nat) (va vb : Value) (xs ys cx cy : List Value) (w : World) (done : Nat → Prop) (us : Nat → Value) (W : World) : Prop where
  keep : Keeps (va.ownBlock.toList ++ vb.ownBlock.toList) w W
  low : w.heap.size ≤ W.heap.size
  x0 : done 0 → us 0 = va
  x1 : done 1 → us 1 = .agg cx.toArray
  x2 : done 2 → ¬ done 3 → ∃ g, us 2 = .slice (some ⟨g, 0, none⟩) 1 1 ∧ w.heap.size ≤ g ∧ Blk W g 90 cx.toArray
  x4 : done 4 → us 4 = vb
  x5 : done 5 → us 5 = .agg cy.toArray
  x6 : done 6 → ¬ done 7 → ∃ g, us 6 = .slice (some ⟨g, 0, none⟩) 1 1 ∧ w.heap.size ≤ g ∧ Blk W g 90 cy.toArray
  a0 : ¬ done 3 → W.ownsRow base 90 7 va k xs
  a1 : done 3 → W.ownsRow base 90 7 (us 3) (k + 1) (xs ++ cx) ∧ ((us 3).ownBlock = va.ownBlock ∨ ∃ g, (us 3).ownBlock = some g ∧ w.heap.size ≤ g)
  b0 : ¬ done 7 → W.ownsRow base 90 7 vb k ys
  b1 : done 7 → W.ownsRow base 90 7 (us 7) (k + 1) (ys ++ cy) ∧ ((us 7).ownBlock = vb.ownBlock ∨ ∃ g, (us 7).ownBlock = some g ∧ w.heap.size ≤ g)
  ap : done 3 → done 7 → ∀ g, (us 3).ownBlock = some g → (us 7).ownBlock ≠ some g

section
variable {base k : Nat} {va vb : Value} {xs ys cx cy : List Value} {w W W' : World} {done : Nat → Prop} {us : Nat → Value} {i : Nat} {v : Value}
theorem updO_at (us : Nat → Value) (i : Nat) (v : Value) : updO us i v i = v := by simp [updO]
theorem updO_ne (us : Nat → Value) {i j : Nat} (v : Value) (h : j ≠ i) : updO us i v j = us j := by simp [updO, h]
theorem own_ext {e : TypeId} {size n : Nat} {vs : List Value} (h : W.ownsRow base e size v n vs) (hX : Ext W W') : W'.ownsRow base e size v n vs := World.ownsRow.ext' h hX
theorem TwoJ.start (ha : w.ownsRow base 90 7 va k xs) (hb : w.ownsRow base 90 7 vb k ys) (hX : Ext w W) : TwoJ base k va vb xs ys cx cy w (fun _ => False) us W :=
  ⟨Keeps.of_ext hX _, hX.size, fun h => h.elim, fun h => h.elim, fun h => h.elim, fun h => h.elim, fun h => h.elim, fun h => h.elim, fun _ => own_ext ha hX, fun h => h.elim, fun _ => own_ext hb hX, fun h => h.elim, fun h => h.elim⟩
theorem TwoJ.mark (h : TwoJ base k va vb xs ys cx cy w done us W) (h3 : i ≠ 3) (h7 : i ≠ 7) (hX : Ext W W') (e0 : i = 0 → v = va) (e1 : i = 1 → v = .agg cx.toArray)
    (e2 : i = 2 → ∃ g, v = .slice (some ⟨g, 0, none⟩) 1 1 ∧ w.heap.size ≤ g ∧ Blk W' g 90 cx.toArray) (e4 : i = 4 → v = vb) (e5 : i = 5 → v = .agg cy.toArray)
    (e6 : i = 6 → ∃ g, v = .slice (some ⟨g, 0, none⟩) 1 1 ∧ w.heap.size ≤ g ∧ Blk W' g 90 cy.toArray) : TwoJ base k va vb xs ys cx cy w (fun k => done k ∨ k = i) (updO us i v) W' := by
  refine ⟨h.keep.trans (.of_ext hX _), Nat.le_trans h.low hX.size, fun hd => ?_, fun hd => ?_, fun hd hn => ?_, fun hd => ?_, fun hd => ?_, fun hd hn => ?_, fun hn => own_ext (h.a0 fun d => hn (.inl d)) hX, fun hd => ?_, fun hn => own_ext (h.b0 fun d => hn (.inl d)) hX, fun hd => ?_, fun h1 h2 => ?_⟩
  · by_cases e : 0 = i
    · subst e; rw [updO_at]; exact e0 rfl
    · rw [updO_ne _ _ e]; exact h.x0 (hd.resolve_right e)
  · by_cases e : 1 = i
    · subst e; rw [updO_at]; exact e1 rfl
    · rw [updO_ne _ _ e]; exact h.x1 (hd.resolve_right e)
  · by_cases e : 2 = i
    · subst e; rw [updO_at]; exact e2 rfl
    · rw [updO_ne _ _ e]
      obtain ⟨g, p1, p2, p3⟩ := h.x2 (hd.resolve_right e) fun d => hn (.inl d)
      exact ⟨g, p1, p2, p3.ext hX⟩
  · by_cases e : 4 = i
    · subst e; rw [updO_at]; exact e4 rfl
    · rw [updO_ne _ _ e]; exact h.x4 (hd.resolve_right e)
  · by_cases e : 5 = i
    · subst e; rw [updO_at]; exact e5 rfl
    · rw [updO_ne _ _ e]; exact h.x5 (hd.resolve_right e)
  · by_cases e : 6 = i
    · subst e; rw [updO_at]; exact e6 rfl
    · rw [updO_ne _ _ e]
      obtain ⟨g, p1, p2, p3⟩ := h.x6 (hd.resolve_right e) fun d => hn (.inl d)
      exact ⟨g, p1, p2, p3.ext hX⟩
  · rw [updO_ne _ _ (Ne.symm h3)]
    exact ⟨own_ext (h.a1 (hd.resolve_right (Ne.symm h3))).1 hX, (h.a1 (hd.resolve_right (Ne.symm h3))).2⟩
  · rw [updO_ne _ _ (Ne.symm h7)]
    exact ⟨own_ext (h.b1 (hd.resolve_right (Ne.symm h7))).1 hX, (h.b1 (hd.resolve_right (Ne.symm h7))).2⟩
  · rw [updO_ne _ _ (Ne.symm h3), updO_ne _ _ (Ne.symm h7)]
    exact h.ap (h1.resolve_right (Ne.symm h3)) (h2.resolve_right (Ne.symm h7))
theorem TwoJ.put3 (h : TwoJ base k va vb xs ys cx cy w done us W) (_hd : ¬ done 3) (hla : ∀ g, va.ownBlock = some g → g < w.heap.size) (_hlb : ∀ g, vb.ownBlock = some g → g < w.heap.size) (hab : ∀ g, va.ownBlock = some g → vb.ownBlock ≠ some g)
    (hg : W.grownBy W' va.ownBlock) (ho : W'.ownsRow base 90 7 v (k + 1) (xs ++ cx)) (hb : v.ownBlock = va.ownBlock ∨ v.ownBlock = some W.heap.size) : TwoJ base k va vb xs ys cx cy w (fun k => done k ∨ k = 3) (updO us 3 v) W' := by
  have hk := keeps_own hg
  have hne : ∀ g, vb.ownBlock = some g → g ∉ va.ownBlock.toList := fun g e1 e2 => by
    simp at e2
    exact hab g (by assumption) (by assumption)
  have hnew : ∀ g, w.heap.size ≤ g → g ∉ va.ownBlock.toList := fun g e1 e2 => by
    simp at e2
    have := hla g e2
    omega
  have hoth : done 7 → ∀ g, (us 7).ownBlock = some g → g ∉ va.ownBlock.toList := fun d g e => by
    rcases (h.b1 d).2 with q | ⟨g', q, hq⟩
    · exact hne g (q ▸ e)
    · rw [q] at e
      injection e with e
      subst e
      exact hnew _ hq
  have hot2 : done 7 → ∀ g, (us 7).ownBlock = some g → g < W.heap.size := fun d g e => ((h.b1 d).1.lt g e).2
  have hv : ∀ g, v.ownBlock = some g → (va.ownBlock = some g ∨ g = W.heap.size) := fun g e => by
    rcases hb with q | q
    · exact .inl (q ▸ e)
    · rw [q] at e
      injection e with e
      exact .inr e.symm
  refine ⟨h.keep.grown hg fun g e => .inl (by simp [e]), Nat.le_trans h.low hk.size, fun d => ?_, fun d => ?_, fun d hn => ?_, fun d => ?_, fun d => ?_, fun d hn => ?_, ?_, ?_, ?_, ?_, ?_⟩
  · rw [updO_ne _ _ (by decide)]; exact h.x0 (d.resolve_right (by decide))
  · rw [updO_ne _ _ (by decide)]; exact h.x1 (d.resolve_right (by decide))
  · exact absurd (.inr rfl) hn
  · rw [updO_ne _ _ (by decide)]; exact h.x4 (d.resolve_right (by decide))
  · rw [updO_ne _ _ (by decide)]; exact h.x5 (d.resolve_right (by decide))
  · rw [updO_ne _ _ (by decide)]
    obtain ⟨g, p1, p2, p3⟩ := h.x6 (d.resolve_right (by decide)) fun q => hn (.inl q)
    exact ⟨g, p1, p2, p3.keeps hk (hnew g p2)⟩
  · exact fun hn => absurd (.inr rfl) hn
  · intro d
    rw [updO_at]
    exact ⟨ho, hb.imp_right fun q => ⟨_, q, h.low⟩⟩
  · exact fun hn => ownsRow_keeps (h.b0 fun q => hn (.inl q)) hk hne
  · intro d
    rw [updO_ne _ _ (by decide)]
    have d' := d.resolve_right (by decide)
    exact ⟨ownsRow_keeps (h.b1 d').1 hk (hoth d'), (h.b1 d').2⟩
  · intro d1 d2 g e1 e2
    rw [updO_at] at e1
    rw [updO_ne _ _ (by decide)] at e2
    have d' := d2.resolve_right (by decide)
    rcases hv g e1 with q | q
    · exact hoth d' g e2 (by simp [q])
    · have := hot2 d' g e2
      omega
theorem TwoJ.put7 (h : TwoJ base k va vb xs ys cx cy w done us W) (_hd : ¬ done 7) (_hla : ∀ g, va.ownBlock = some g → g < w.heap.size) (hlb : ∀ g, vb.ownBlock = some g → g < w.heap.size) (hab : ∀ g, va.ownBlock = some g → vb.ownBlock ≠ some g)
    (hg : W.grownBy W' vb.ownBlock) (ho : W'.ownsRow base 90 7 v (k + 1) (ys ++ cy)) (hb : v.ownBlock = vb.ownBlock ∨ v.ownBlock = some W.heap.size) : TwoJ base k va vb xs ys cx cy w (fun k => done k ∨ k = 7) (updO us 7 v) W' := by
  have hk := keeps_own hg
  have hne : ∀ g, va.ownBlock = some g → g ∉ vb.ownBlock.toList := fun g e1 e2 => by
    simp at e2
    exact hab g (by assumption) (by assumption)
  have hnew : ∀ g, w.heap.size ≤ g → g ∉ vb.ownBlock.toList := fun g e1 e2 => by
    simp at e2
    have := hlb g e2
    omega
  have hoth : done 3 → ∀ g, (us 3).ownBlock = some g → g ∉ vb.ownBlock.toList := fun d g e => by
    rcases (h.a1 d).2 with q | ⟨g', q, hq⟩
    · exact hne g (q ▸ e)
    · rw [q] at e
      injection e with e
      subst e
      exact hnew _ hq
  have hot2 : done 3 → ∀ g, (us 3).ownBlock = some g → g < W.heap.size := fun d g e => ((h.a1 d).1.lt g e).2
  have hv : ∀ g, v.ownBlock = some g → (vb.ownBlock = some g ∨ g = W.heap.size) := fun g e => by
    rcases hb with q | q
    · exact .inl (q ▸ e)
    · rw [q] at e
      injection e with e
      exact .inr e.symm
  refine ⟨h.keep.grown hg fun g e => .inl (by simp [e]), Nat.le_trans h.low hk.size, fun d => ?_, fun d => ?_, fun d hn => ?_, fun d => ?_, fun d => ?_, fun d hn => ?_, ?_, ?_, ?_, ?_, ?_⟩
  · rw [updO_ne _ _ (by decide)]; exact h.x0 (d.resolve_right (by decide))
  · rw [updO_ne _ _ (by decide)]; exact h.x1 (d.resolve_right (by decide))
  · rw [updO_ne _ _ (by decide)]
    obtain ⟨g, p1, p2, p3⟩ := h.x2 (d.resolve_right (by decide)) fun q => hn (.inl q)
    exact ⟨g, p1, p2, p3.keeps hk (hnew g p2)⟩
  · rw [updO_ne _ _ (by decide)]; exact h.x4 (d.resolve_right (by decide))
  · rw [updO_ne _ _ (by decide)]; exact h.x5 (d.resolve_right (by decide))
  · exact absurd (.inr rfl) hn
  · exact fun hn => ownsRow_keeps (h.a0 fun q => hn (.inl q)) hk hne
  · intro d
    rw [updO_ne _ _ (by decide)]
    have d' := d.resolve_right (by decide)
    exact ⟨ownsRow_keeps (h.a1 d').1 hk (hoth d'), (h.a1 d').2⟩
  · exact fun hn => absurd (.inr rfl) hn
  · intro d
    rw [updO_at]
    exact ⟨ho, hb.imp_right fun q => ⟨_, q, h.low⟩⟩
  · intro d1 d2 g e2 e1
    rw [updO_at] at e1
    rw [updO_ne _ _ (by decide)] at e2
    have d' := d1.resolve_right (by decide)
    rcases hv g e1 with q | q
    · exact hoth d' g e2 (by simp [q])
    · have := hot2 d' g e2
      omega
end

end Go.Proofs.Ytikhlcgnlbinfaa
namespace Go.Proofs.Ytikhlcgnlbinfaa
open Go.RowKit

section
variable {P : Program}
/-- An operation that is always done, whose value is known. -/
theorem jop_run {ops : Array Oper} {o : Oper} {b : Act} {W W' : World} {K : Act → World → Prop} {Q' : Exit → Act → World → Prop} {v' : Value} (hg : o.guard = none) (hrun : (execOp b.eval o).run P W = .ok (.value v') W') (hK : K (b.put o.dst v') W') :
    if Region.wanted o (yielded ops b.tmps) then o.wp P b W K Q' else K (b.put o.dst undef) W := by
  simp only [Region.wanted, hg, if_true, Oper.wp, hrun]
  exact hK
/-- 'append(s, x...)' in a region that draws its order. -/
theorem jop_app {ops : Array Oper} {o : Oper} {b : Act} {W W' : World} {K : Act → World → Prop} {Q' : Exit → Act → World → Prop} {t : TypeId} {i j : Tmp} {v u v' : Value} (hg : o.guard = none)
    (ho : o.op = .call { callee := .builtin .append, args := #[.tmp i, .tmp j], argTypes := #[t, t] }) (hi : b.tmps[i]? = some v) (hj : b.tmps[j]? = some u)
    (hrun : (Builtin.append_ #[t, t] o.type #[v, u]).run P W = .ok v' W') (hK : K (b.put o.dst v') W') :
    if Region.wanted o (yielded ops b.tmps) then o.wp P b W K Q' else K (b.put o.dst undef) W := by
  refine jop_run hg ?_ hK
  have e1 : b.eval (.tmp i) = v := by simp [Act.eval, hi]
  have e2 : b.eval (.tmp j) = u := by simp [Act.eval, hj]
  unfold execOp
  simp only [ho, resolve, invoke, builtin, Sem.run_bind, Sem.run_pure, Result.andThen_ok, List.map_toArray, List.map_cons, List.map_nil, e1, e2, hrun]
end
end Go.Proofs.Ytikhlcgnlbinfaa
namespace Go.Proofs.Ytikhlcgnlbinfaa
open Go.RowKit

set_option maxRecDepth 100000 in
set_option maxHeartbeats 4000000 in
theorem scales_r17 (base k gx gy : Nat) (va vb : Value) (xs ys : List Value) (p0 p1 p2 p3 p4 p5 p6 q0 q1 q2 q3 q4 q5 q6 : Int) (w : World) (HA : w.ownsRow base 90 7 va k xs) (HB : w.ownsRow base 90 7 vb k ys) (hab : ∀ g, va.ownBlock = some g → vb.ownBlock ≠ some g) (bx : Blk w gx 90 #[.int .i64 (p0), .int .i64 (p1), .int .i64 (p2), .int .i64 (p3), .int .i64 (p4), .int .i64 (p5), .int .i64 (p6)]) (byy : Blk w gy 90 #[.int .i64 (q0), .int .i64 (q1), .int .i64 (q2), .int .i64 (q3), .int .i64 (q4), .int .i64 (q5), .int .i64 (q6)]) (hgx : gx ∉ va.ownBlock.toList ++ vb.ownBlock.toList) (hgy : gy ∉ va.ownBlock.toList ++ vb.ownBlock.toList) (hk : k ≤ 100) (hbase : base ≤ w.heap.size) (a : Act) (Q : Exit → Act → World → Prop) (hsize : 98 ≤ a.tmps.size)
    (s8 : a.tmps[8]? = some (va))
    (s9 : a.tmps[9]? = some (vb))
    (s11 : a.tmps[11]? = some (.pointer (some ⟨gx, 0, none⟩)))
    (s12 : a.tmps[12]? = some (.pointer (some ⟨gy, 0, none⟩)))
    (hend : ∀ (xv0 xv1 xv2 xv3 xv4 xv5 xv6 xv7 : Value) (W : World), W.ownsRow base 90 7 xv3 (k + 1) (xs ++ [.int .i64 (p0), .int .i64 (p1), .int .i64 (p2), .int .i64 (p3), .int .i64 (p4), .int .i64 (p5), .int .i64 (p6)]) → W.ownsRow base 90 7 xv7 (k + 1) (ys ++ [.int .i64 (q0), .int .i64 (q1), .int .i64 (q2), .int .i64 (q3), .int .i64 (q4), .int .i64 (q5), .int .i64 (q6)]) → (∀ g, xv3.ownBlock = some g → xv7.ownBlock ≠ some g) → Keeps (va.ownBlock.toList ++ vb.ownBlock.toList) w W → wpList Try.prog (rops Try.f8 17).toArray Q ((rops Try.f8 17).drop 8) ((((((((a.put (some 90) xv0).put (some 91) xv1).put (some 92) xv2).put (some 93) xv3).put (some 94) xv4).put (some 95) xv5).put (some 96) xv6).put (some 97) xv7) W) :
    (Code.region 17 (rops Try.f8 17).toArray true).wp Try.prog Q a w := by
  have hla : ∀ g, va.ownBlock = some g → g < w.heap.size := fun g hg => (HA.lt g hg).2
  have hlb : ∀ g, vb.ownBlock = some g → g < w.heap.size := fun g hg => (HB.lt g hg).2
  have hsz : ∀ d, some d ∈ ([some 90, some 91, some 92, some 93, some 94, some 95, some 96, some 97] : List (Option Tmp)) → d < a.tmps.size := slots_lt (by decide) hsize
  refine wp_region_g 8 [some 90, some 91, some 92, some 93, some 94, some 95, some 96, some 97] [[], [], [1], [0, 2], [], [], [5], [4, 6]] [[], [], [], [], [], [], [], []] (TwoJ base k va vb xs ys [.int .i64 (p0), .int .i64 (p1), .int .i64 (p2), .int .i64 (p3), .int .i64 (p4), .int .i64 (p5), .int .i64 (p6)] [.int .i64 (q0), .int .i64 (q1), .int .i64 (q2), .int .i64 (q3), .int .i64 (q4), .int .i64 (q5), .int .i64 (q6)] w) (by kernel_rfl) (by kernel_rfl) hsz (fun p q us W h => by have e : p = q := funext fun k => propext (h k); rw [e]; exact id) (fun us => TwoJ.start HA HB (Ext.refl w).drew) ?_ ?_
  · clear hend
    simp only [rops, Try.f8, regOf, Option.bind_some, Nat.reduceBEq, if_true, if_false, Bool.false_eq_true, Option.getD_some]
    simp only [List.take_succ_cons, List.take_zero]
    refine ⟨?_, ?_, ?_, ?_, ?_, ?_, ?_, ?_, trivial⟩
    · intro done us W hJ hdep haft hnot b hb hb' K hK Q'
      have e8 := (hb' 8 (by simp)).trans s8
      clear hb hb'
      have hf := hK va W (hJ.mark (by decide) (by decide) (Ext.refl _) (fun _ => rfl) (fun h => absurd h (by decide)) (fun h => absurd h (by decide)) (fun h => absurd h (by decide)) (fun h => absurd h (by decide)) (fun h => absurd h (by decide)))
      clear hK
      go_simp
      exact hf
    · intro done us W hJ hdep haft hnot b hb hb' K hK Q'
      have e11 := (hb' 11 (by simp)).trans s11
      clear hb hb'
      have hB := bx.keeps hJ.keep hgx
      have z0 := hB.cell 0
      have z1 := hB.cell 1
      have z2 := hB.cell 2
      have z3 := hB.cell 3
      have z4 := hB.cell 4
      have z5 := hB.cell 5
      have z6 := hB.cell 6
      simp only [List.getElem?_toArray, List.getElem?_cons_zero, List.getElem?_cons_succ] at z0 z1 z2 z3 z4 z5 z6
      have hf := hK (.agg #[.int .i64 (p0), .int .i64 (p1), .int .i64 (p2), .int .i64 (p3), .int .i64 (p4), .int .i64 (p5), .int .i64 (p6)]) W (hJ.mark (by decide) (by decide) (Ext.refl _) (fun h => absurd h (by decide)) (fun _ => rfl) (fun h => absurd h (by decide)) (fun h => absurd h (by decide)) (fun h => absurd h (by decide)) (fun h => absurd h (by decide)))
      clear hK
      go_simp
      exact hf
    · intro done us W hJ hdep haft hnot b hb hb' K hK Q'
      simp only [List.getD_cons_succ, List.getD_cons_zero, List.mem_cons, List.not_mem_nil, or_false, forall_eq] at hdep
      have e91 := hb 1 91 rfl
      clear hb hb'
      rw [hJ.x1 hdep] at e91
      have hX := (Ext.refl W).alloc (.cells #[.int .i64 (p0), .int .i64 (p1), .int .i64 (p2), .int .i64 (p3), .int .i64 (p4), .int .i64 (p5), .int .i64 (p6)] 90)
      have hn := Blk.new W 90 #[.int .i64 (p0), .int .i64 (p1), .int .i64 (p2), .int .i64 (p3), .int .i64 (p4), .int .i64 (p5), .int .i64 (p6)]
      have hf := hK (.slice (some ⟨W.heap.size, 0, none⟩) 1 1) _ (hJ.mark (by decide) (by decide) hX (fun h => absurd h (by decide)) (fun h => absurd h (by decide)) (fun _ => ⟨_, rfl, hJ.low, hn⟩) (fun h => absurd h (by decide)) (fun h => absurd h (by decide)) (fun h => absurd h (by decide)))
      clear hK
      go_simp
      exact hf
    · intro done us W hJ hdep haft hnot b hb hb' K hK Q'
      simp only [List.getD_cons_succ, List.getD_cons_zero, List.mem_cons, List.not_mem_nil, or_false, forall_eq_or_imp, forall_eq] at hdep
      have e90 := hb 0 90 rfl
      have e92 := hb 2 92 rfl
      clear hb hb'
      rw [hJ.x0 hdep.1] at e90
      obtain ⟨g', e', hg', hb1⟩ := hJ.x2 hdep.2 hnot
      rw [e'] at e92
      have hlow := hJ.low
      obtain ⟨v', W', q, ho, hG, hv⟩ := run_app (P := Try.prog) W elMt 74 base va k _ (hJ.a0 hnot) (some ⟨g', 0, none⟩) 1 1 [.int .i64 (p0), .int .i64 (p1), .int .i64 (p2), .int .i64 (p3), .int .i64 (p4), .int .i64 (p5), .int .i64 (p6)] rfl (fun _ => ⟨g', 0, rfl, fun j y hy => by rw [Nat.zero_add]; exact (hb1.cell j).trans (by rw [List.getElem?_toArray]; exact hy)⟩) (by simp [Value.oneCell']) (by omega) (by unfold maxLen; omega) (by omega)
      exact jop_app rfl rfl e90 e92 q (hK _ _ (hJ.put3 hnot hla hlb hab hG ho hv))
    · intro done us W hJ hdep haft hnot b hb hb' K hK Q'
      have e9 := (hb' 9 (by simp)).trans s9
      clear hb hb'
      have hf := hK vb W (hJ.mark (by decide) (by decide) (Ext.refl _) (fun h => absurd h (by decide)) (fun h => absurd h (by decide)) (fun h => absurd h (by decide)) (fun _ => rfl) (fun h => absurd h (by decide)) (fun h => absurd h (by decide)))
      clear hK
      go_simp
      exact hf
    · intro done us W hJ hdep haft hnot b hb hb' K hK Q'
      have e12 := (hb' 12 (by simp)).trans s12
      clear hb hb'
      have hB := byy.keeps hJ.keep hgy
      have z0 := hB.cell 0
      have z1 := hB.cell 1
      have z2 := hB.cell 2
      have z3 := hB.cell 3
      have z4 := hB.cell 4
      have z5 := hB.cell 5
      have z6 := hB.cell 6
      simp only [List.getElem?_toArray, List.getElem?_cons_zero, List.getElem?_cons_succ] at z0 z1 z2 z3 z4 z5 z6
      have hf := hK (.agg #[.int .i64 (q0), .int .i64 (q1), .int .i64 (q2), .int .i64 (q3), .int .i64 (q4), .int .i64 (q5), .int .i64 (q6)]) W (hJ.mark (by decide) (by decide) (Ext.refl _) (fun h => absurd h (by decide)) (fun h => absurd h (by decide)) (fun h => absurd h (by decide)) (fun h => absurd h (by decide)) (fun _ => rfl) (fun h => absurd h (by decide)))
      clear hK
      go_simp
      exact hf
    · intro done us W hJ hdep haft hnot b hb hb' K hK Q'
      simp only [List.getD_cons_succ, List.getD_cons_zero, List.mem_cons, List.not_mem_nil, or_false, forall_eq] at hdep
      have e95 := hb 5 95 rfl
      clear hb hb'
      rw [hJ.x5 hdep] at e95
      have hX := (Ext.refl W).alloc (.cells #[.int .i64 (q0), .int .i64 (q1), .int .i64 (q2), .int .i64 (q3), .int .i64 (q4), .int .i64 (q5), .int .i64 (q6)] 90)
      have hn := Blk.new W 90 #[.int .i64 (q0), .int .i64 (q1), .int .i64 (q2), .int .i64 (q3), .int .i64 (q4), .int .i64 (q5), .int .i64 (q6)]
      have hf := hK (.slice (some ⟨W.heap.size, 0, none⟩) 1 1) _ (hJ.mark (by decide) (by decide) hX (fun h => absurd h (by decide)) (fun h => absurd h (by decide)) (fun h => absurd h (by decide)) (fun h => absurd h (by decide)) (fun h => absurd h (by decide)) (fun _ => ⟨_, rfl, hJ.low, hn⟩))
      clear hK
      go_simp
      exact hf
    · intro done us W hJ hdep haft hnot b hb hb' K hK Q'
      simp only [List.getD_cons_succ, List.getD_cons_zero, List.mem_cons, List.not_mem_nil, or_false, forall_eq_or_imp, forall_eq] at hdep
      have e94 := hb 4 94 rfl
      have e96 := hb 6 96 rfl
      clear hb hb'
      rw [hJ.x4 hdep.1] at e94
      obtain ⟨g', e', hg', hb1⟩ := hJ.x6 hdep.2 hnot
      rw [e'] at e96
      have hlow := hJ.low
      obtain ⟨v', W', q, ho, hG, hv⟩ := run_app (P := Try.prog) W elMt 74 base vb k _ (hJ.b0 hnot) (some ⟨g', 0, none⟩) 1 1 [.int .i64 (q0), .int .i64 (q1), .int .i64 (q2), .int .i64 (q3), .int .i64 (q4), .int .i64 (q5), .int .i64 (q6)] rfl (fun _ => ⟨g', 0, rfl, fun j y hy => by rw [Nat.zero_add]; exact (hb1.cell j).trans (by rw [List.getElem?_toArray]; exact hy)⟩) (by simp [Value.oneCell']) (by omega) (by unfold maxLen; omega) (by omega)
      exact jop_app rfl rfl e94 e96 q (hK _ _ (hJ.put7 hnot hla hlb hab hG ho hv))
  · intro us W hJ
    exact hend (us 0) (us 1) (us 2) (us 3) (us 4) (us 5) (us 6) (us 7) W (hJ.a1 (show 3 < 8 by decide)).1 (hJ.b1 (show 7 < 8 by decide)).1 (hJ.ap (show 3 < 8 by decide) (show 7 < 8 by decide)) hJ.keep
end Go.Proofs.Ytikhlcgnlbinfaa
