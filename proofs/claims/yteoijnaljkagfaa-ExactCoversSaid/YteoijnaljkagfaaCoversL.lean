/- Lemmas of the proof that follows (Covers, part 12): walks of functions by contract, and plain lemmas. Conditions: none. -/
import Derived.Test.YteoijnaljkagfaaCoversK
namespace Go.Proofs.Yteoijnaljkagfaa
open Go.RowKit

/-- The span of two integers, if both are within the limits. -/
def spA (lo hi : Int) : Int := if endE lo = 0 ∧ endE hi = 0 then lo else 0
def spB (lo hi : Int) : Int := if endE lo = 0 ∧ endE hi = 0 then hi else 0
def spC (lo hi : Int) : Int := if endE lo = 0 ∧ endE hi = 0 then 0 else 3
def RetSp (w : World) (lo hi : Int) (e : Ending) (w' : World) : Prop := e = .returned (.tuple #[.agg #[.int .i64 (spA lo hi), .int .i64 (spB lo hi)], .int .i64 (spC lo hi)]) ∧ Ext w w'
theorem sp_yes {lo hi : Int} (h0 : endE lo = 0) (h1 : endE hi = 0) : spA lo hi = lo ∧ spB lo hi = hi ∧ spC lo hi = 0 := ⟨if_pos ⟨h0, h1⟩, if_pos ⟨h0, h1⟩, if_pos ⟨h0, h1⟩⟩
theorem sp_no {lo hi : Int} (h : ¬ (endE lo = 0 ∧ endE hi = 0)) : spA lo hi = 0 ∧ spB lo hi = 0 ∧ spC lo hi = 3 := ⟨if_neg h, if_neg h, if_neg h⟩
theorem endE_or (z : Int) : endE z = 0 ∨ endE z = 3 := by unfold endE; split <;> simp
theorem endE_neg (z : Int) : endE (-z) = endE z := by
  unfold endE
  by_cases h : -1152921504606846976 ≤ z ∧ z ≤ 1152921504606846976
  · rw [if_pos h, if_pos (by omega)]
  · rw [if_neg h, if_neg (by omega)]
theorem endE_zero {z : Int} (h : endE z = 0) : -1152921504606846976 ≤ z ∧ z ≤ 1152921504606846976 := by
  unfold endE at h
  split at h
  · assumption
  · omega
theorem endE_three {z : Int} (h : endE z = 3) : z < -1152921504606846976 ∨ 1152921504606846976 < z := by
  unfold endE at h
  split at h
  · omega
  · omega
theorem retSp_yes {w : World} {lo hi : Int} (h0 : endE lo = 0) (h1 : endE hi = 0) : ∀ e w', RetE w (.agg #[.int .i64 lo, .int .i64 hi]) 0 e w' → RetSp w lo hi e w' := by
  rintro e w' ⟨rfl, hX⟩
  obtain ⟨e1, e2, e3⟩ := sp_yes h0 h1
  exact ⟨by rw [e1, e2, e3], hX⟩
theorem retSp_no {w : World} {lo hi : Int} (h : ¬ (endE lo = 0 ∧ endE hi = 0)) : ∀ e w', RetE w (.agg #[.int .i64 0, .int .i64 0]) 3 e w' → RetSp w lo hi e w' := by
  rintro e w' ⟨rfl, hX⟩
  obtain ⟨e1, e2, e3⟩ := sp_no h
  exact ⟨by rw [e1, e2, e3], hX⟩
theorem around_any (A : Option Addr) (p cq L : Nat) (qs : List Rat) (w : World) (hq : QsAt w A (p + 1) qs) (hp : p ≤ 1000) (hf : ∀ q ∈ qs, FitR q L) (hL : L + L + 1 ≤ 400000) : Calls Try.prog 109 #[.slice A (p + 1) cq] w (RetSp w (lowN qs p).floor (-(-(highN qs p)).floor)) := by
  rcases endE_or (lowN qs p).floor with h0 | h0
  · rcases endE_or (-(-(highN qs p)).floor) with h1 | h1
    · exact (around_ok A p cq L qs w hq hp hf hL h0 h1).mono (retSp_yes h0 h1)
    · exact (around_hi A p cq L qs w hq hp hf hL h0 h1).mono (retSp_no (fun h => by omega))
  · exact (around_lo A p cq L qs w hq hp hf hL h0).mono (retSp_no (fun h => by omega))
theorem qsAt_two {w : World} {g : Nat} {T : TypeId} {s0 s1 : Bool} {A0 B0 A1 B1 : Option Addr} {l0 c0 m0 k0 l1 c1 m1 k1 : Nat} {q r : Rat} (hB : Blk w g T #[.bool s0, .slice A0 l0 c0, .slice B0 m0 k0, .bool s1, .slice A1 l1 c1, .slice B1 m1 k1])
    (h : QZ w (.agg #[.bool s0, .slice A0 l0 c0, .slice B0 m0 k0]) q) (k : QZ w (.agg #[.bool s1, .slice A1 l1 c1, .slice B1 m1 k1]) r) : QsAt w (some ⟨g, 0, none⟩) 2 [q, r] := by
  refine ⟨rfl, fun j x hx => ?_⟩
  match j, hx with
  | 0, hx =>
    obtain rfl : q = x := by simpa using hx
    exact ⟨g, 0, _, _, _, _, _, _, _, rfl, hB.cell 0, hB.cell 1, hB.cell 2, h⟩
  | 1, hx =>
    obtain rfl : r = x := by simpa using hx
    exact ⟨g, 0, _, _, _, _, _, _, _, rfl, hB.cell 3, hB.cell 4, hB.cell 5, k⟩
  | j + 2, hx => simp at hx
def mnQ (q r : Rat) : Rat := if 0 < sgnQ (q - r) then r else q
def mxQ (q r : Rat) : Rat := if 0 < sgnQ (q - r) then q else r
theorem low_two (q r : Rat) : lowN [q, r] 1 = mnQ q r := by
  have h := sgnQ_flip q r
  have e := low_next (qs := [q, r]) (k := 0) (q := r) (a := q) rfl rfl
  rw [e, mnQ]
  by_cases h1 : 0 < sgnQ (q - r)
  · rw [if_pos (by omega), if_pos h1]
  · rw [if_neg (by omega), if_neg h1]
theorem high_two (q r : Rat) : highN [q, r] 1 = mxQ q r := by
  have h := sgnQ_flip q r
  have e := high_next (qs := [q, r]) (k := 0) (q := r) (a := q) rfl rfl
  rw [e, mxQ]
  by_cases h1 : 0 < sgnQ (q - r)
  · rw [if_neg (by omega), if_pos h1]
  · rw [if_neg h1]
    rcases sgnQ_cases (q - r) with ⟨h2, e2⟩ | ⟨h2, e2⟩ | ⟨h2, e2⟩
    · rw [if_pos (by omega)]
    · rw [if_neg (by omega)]
      have : q = r := by grind
      exact this
    · omega
theorem xfloorN {w : World} {v : Value} {q : Rat} {L : Nat} (h : NumX w v q L) (hL : L ≤ 1099511627775) : Calls Try.prog 84 #[v] w fun e w' => e = .returned (.tuple #[.int .i64 (endV q.floor), .bool (decide (endE q.floor = 0))]) ∧ Ext w w' := by
  rcases endE_or q.floor with h0 | h0
  · rw [endV_of h0, decide_eq_true h0]
    exact xfloor_ok v q L w h hL (endE_zero h0).1 (endE_zero h0).2
  · have h1 := endE_three h0
    rw [(end_out (by omega)).1, decide_eq_false (by omega)]
    exact xfloor_no v q L w h hL h1

set_option maxRecDepth 100000 in
set_option maxHeartbeats 2000000 in
theorem cover_r3 (ga gb : Nat) (s11 : Bool) (A11 B11 : Option Addr) (l11 c11 m11 k11 : Nat) (s12 : Bool) (A12 B12 : Option Addr) (l12 c12 m12 k12 : Nat) (q r : Rat) (w : World) (x0 : w.cell? ⟨ga, 0, none⟩ = some (.bool s11)) (x1 : w.cell? ⟨ga, 1, none⟩ = some (.slice A11 l11 c11)) (x2 : w.cell? ⟨ga, 2, none⟩ = some (.slice B11 m11 k11)) (y0 : w.cell? ⟨gb, 0, none⟩ = some (.bool s12)) (y1 : w.cell? ⟨gb, 1, none⟩ = some (.slice A12 l12 c12)) (y2 : w.cell? ⟨gb, 2, none⟩ = some (.slice B12 m12 k12)) (hx : RatG w (.agg #[.bool s11, .slice A11 l11 c11, .slice B11 m11 k11]) q) (hy : RatG w (.agg #[.bool s12, .slice A12 l12 c12, .slice B12 m12 k12]) r) (a : Act) (Q : Exit → Act → World → Prop) (hsize : 21 ≤ a.tmps.size)
    (s2 : a.tmps[2]? = some (.pointer (some ⟨ga, 0, none⟩)))
    (s3 : a.tmps[3]? = some (.pointer (some ⟨gb, 0, none⟩)))
    (hend : ∀ (xv0 xv1 xv2 xv3 xv4 xv5 xv6 xv7 : Value) (W : World), (xv0 = .agg #[.bool s11, .slice A11 l11 c11, .slice B11 m11 k11]) → (xv2 = .agg #[.bool s12, .slice A12 l12 c12, .slice B12 m12 k12]) → (NumX W xv1 q 256) → (NumX W xv3 r 256) → (∃ g, xv4 = .pointer (some ⟨g, 0, none⟩) ∧ w.heap.size ≤ g ∧ Blk W g 96 (aggOf xv1)) → (∃ g, xv5 = .pointer (some ⟨g, 0, none⟩) ∧ w.heap.size ≤ g ∧ Blk W g 96 (aggOf xv3)) → (xv4 ≠ xv5) → Ext w W → wpList Try.prog (rops Try.f64 3).toArray Q [] ((((((((a.put (some 17) xv0).put (some 18) xv1).put (some 19) xv2).put (some 20) xv3).put (some 6) xv4).put (some 7) xv5).put (none) xv6).put (none) xv7) W) :
    (Code.region 3 (rops Try.f64 3).toArray true).wp Try.prog Q a w := by
  have hsz : ∀ d, some d ∈ ([some 17, some 18, some 19, some 20, some 6, some 7, none, none] : List (Option Tmp)) → d < a.tmps.size := slots_lt (by decide) hsize
  refine wp_region_g 8 [some 17, some 18, some 19, some 20, some 6, some 7, none, none] [[], [0], [], [2], [], [], [1, 4], [3, 5]] [[], [6], [], [7], [6], [7], [], []] (fun (done : Nat → Prop) (us : Nat → Value) (W : World) => Ext w W ∧ (done 0 → us 0 = .agg #[.bool s11, .slice A11 l11 c11, .slice B11 m11 k11]) ∧ (done 2 → us 2 = .agg #[.bool s12, .slice A12 l12 c12, .slice B12 m12 k12]) ∧ (done 1 → NumX W (us 1) q 256) ∧ (done 3 → NumX W (us 3) r 256) ∧ Loc w W 96 #[.bool false, .slice none 0 0, .slice none 0 0] (aggOf (us 1)) (done 4) (done 6) (us 4) ∧ Loc w W 96 #[.bool false, .slice none 0 0, .slice none 0 0] (aggOf (us 3)) (done 5) (done 7) (us 5) ∧ Far (done 4) (done 5) (us 4) (us 5)) (by kernel_rfl) (by kernel_rfl) hsz (fun p q us W h => by have e : p = q := funext fun k => propext (h k); rw [e]; exact id) (fun us => ⟨(Ext.refl w).drew, fun h => h.elim, fun h => h.elim, fun h => h.elim, fun h => h.elim, Loc.unmade id, Loc.unmade id, fun h => h.elim⟩) ?_ ?_
  · clear hend
    simp only [rops, Try.f64, regOf, Option.bind_some, Nat.reduceBEq, if_true, if_false, Bool.false_eq_true, Option.getD_some]
    simp only [List.take_succ_cons, List.take_zero]
    refine ⟨?_, ?_, ?_, ?_, ?_, ?_, ?_, ?_, trivial⟩
    · intro done us W hJ hdep haft hnot b hb hb' K hK Q'
      obtain ⟨hX0, cc0, cc2, pp1, pp3, ll4, ll5, f4_5⟩ := hJ
      have e2 := (hb' 2 (by simp)).trans s2
      clear hb hb'
      have z0 := Ext.cell hX0 x0
      have z1 := Ext.cell hX0 x1
      have z2 := Ext.cell hX0 x2
      have hfin := hK (.agg #[.bool s11, .slice A11 l11 c11, .slice B11 m11 k11]) _ ⟨hX0, fun _ => rfl, fun h => cc2 (h.resolve_right (by decide)), fun h => pp1 (h.resolve_right (by decide)), fun h => pp3 (h.resolve_right (by decide)), Loc.same ll4 ⟨fun h => h.resolve_right (by decide), .inl⟩ ⟨fun h => h.resolve_right (by decide), .inl⟩, Loc.same ll5 ⟨fun h => h.resolve_right (by decide), .inl⟩ ⟨fun h => h.resolve_right (by decide), .inl⟩, fun h h' => f4_5 (h.resolve_right (by decide)) (h'.resolve_right (by decide))⟩
      clear hK cc0 cc2 pp1 pp3 ll4 ll5 f4_5
      go_simp
      exact hfin
    · intro done us W hJ hdep haft hnot b hb hb' K hK Q'
      obtain ⟨hX0, cc0, cc2, pp1, pp3, ll4, ll5, f4_5⟩ := hJ
      simp only [List.getD_cons_succ, List.getD_cons_zero, List.mem_cons, List.not_mem_nil, or_false, forall_eq_or_imp, forall_eq] at hdep
      simp only [List.getD_cons_succ, List.getD_cons_zero, List.mem_cons, List.not_mem_nil, or_false, forall_eq_or_imp, forall_eq] at haft
      have e17 := hb 0 17 rfl
      rw [cc0 hdep] at e17
      clear hb hb'
      go_simp
      refine (ofG (RatG.ext hx hX0)).mono ?_
      rintro e w' ⟨v, rfl, hv, hX⟩
      exact hK _ _ ⟨Ext.trans hX0 hX, fun h => cc0 (h.resolve_right (by decide)), fun h => cc2 (h.resolve_right (by decide)), fun _ => hv, fun h => NumX.ext (pp3 (h.resolve_right (by decide))) hX, Loc.same (Loc.revs (ll4.ext hX) haft) ⟨fun h => h.resolve_right (by decide), .inl⟩ ⟨fun h => h.resolve_right (by decide), .inl⟩, Loc.same (ll5.ext hX) ⟨fun h => h.resolve_right (by decide), .inl⟩ ⟨fun h => h.resolve_right (by decide), .inl⟩, fun h h' => f4_5 (h.resolve_right (by decide)) (h'.resolve_right (by decide))⟩
    · intro done us W hJ hdep haft hnot b hb hb' K hK Q'
      obtain ⟨hX0, cc0, cc2, pp1, pp3, ll4, ll5, f4_5⟩ := hJ
      have e3 := (hb' 3 (by simp)).trans s3
      clear hb hb'
      have z0 := Ext.cell hX0 y0
      have z1 := Ext.cell hX0 y1
      have z2 := Ext.cell hX0 y2
      have hfin := hK (.agg #[.bool s12, .slice A12 l12 c12, .slice B12 m12 k12]) _ ⟨hX0, fun h => cc0 (h.resolve_right (by decide)), fun _ => rfl, fun h => pp1 (h.resolve_right (by decide)), fun h => pp3 (h.resolve_right (by decide)), Loc.same ll4 ⟨fun h => h.resolve_right (by decide), .inl⟩ ⟨fun h => h.resolve_right (by decide), .inl⟩, Loc.same ll5 ⟨fun h => h.resolve_right (by decide), .inl⟩ ⟨fun h => h.resolve_right (by decide), .inl⟩, fun h h' => f4_5 (h.resolve_right (by decide)) (h'.resolve_right (by decide))⟩
      clear hK cc0 cc2 pp1 pp3 ll4 ll5 f4_5
      go_simp
      exact hfin
    · intro done us W hJ hdep haft hnot b hb hb' K hK Q'
      obtain ⟨hX0, cc0, cc2, pp1, pp3, ll4, ll5, f4_5⟩ := hJ
      simp only [List.getD_cons_succ, List.getD_cons_zero, List.mem_cons, List.not_mem_nil, or_false, forall_eq_or_imp, forall_eq] at hdep
      simp only [List.getD_cons_succ, List.getD_cons_zero, List.mem_cons, List.not_mem_nil, or_false, forall_eq_or_imp, forall_eq] at haft
      have e19 := hb 2 19 rfl
      rw [cc2 hdep] at e19
      clear hb hb'
      go_simp
      refine (ofG (RatG.ext hy hX0)).mono ?_
      rintro e w' ⟨v, rfl, hv, hX⟩
      exact hK _ _ ⟨Ext.trans hX0 hX, fun h => cc0 (h.resolve_right (by decide)), fun h => cc2 (h.resolve_right (by decide)), fun h => NumX.ext (pp1 (h.resolve_right (by decide))) hX, fun _ => hv, Loc.same (ll4.ext hX) ⟨fun h => h.resolve_right (by decide), .inl⟩ ⟨fun h => h.resolve_right (by decide), .inl⟩, Loc.same (Loc.revs (ll5.ext hX) haft) ⟨fun h => h.resolve_right (by decide), .inl⟩ ⟨fun h => h.resolve_right (by decide), .inl⟩, fun h h' => f4_5 (h.resolve_right (by decide)) (h'.resolve_right (by decide))⟩
    · intro done us W hJ hdep haft hnot b hb hb' K hK Q'
      obtain ⟨hX0, cc0, cc2, pp1, pp3, ll4, ll5, f4_5⟩ := hJ
      simp only [List.getD_cons_succ, List.getD_cons_zero, List.mem_cons, List.not_mem_nil, or_false, forall_eq_or_imp, forall_eq] at haft
      clear hb hb'
      have hfin := hK _ _ ⟨hX0.alloc _, fun h => cc0 (h.resolve_right (by decide)), fun h => cc2 (h.resolve_right (by decide)), fun h => NumX.ext (pp1 (h.resolve_right (by decide))) ((Ext.refl _).alloc _), fun h => NumX.ext (pp3 (h.resolve_right (by decide))) ((Ext.refl _).alloc _), Loc.new w W hX0 (fun h => h.elim haft (by decide)) (Ext.refl _), Loc.same (ll5.ext ((Ext.refl _).alloc _)) ⟨fun h => h.resolve_right (by decide), .inl⟩ ⟨fun h => h.resolve_right (by decide), .inl⟩, fun _ h => Ne.symm (ll5.far_new (h.resolve_right (by decide)))⟩
      clear hK hX0 cc0 cc2 pp1 pp3 ll4 ll5 f4_5
      go_simp
      exact hfin
    · intro done us W hJ hdep haft hnot b hb hb' K hK Q'
      obtain ⟨hX0, cc0, cc2, pp1, pp3, ll4, ll5, f4_5⟩ := hJ
      simp only [List.getD_cons_succ, List.getD_cons_zero, List.mem_cons, List.not_mem_nil, or_false, forall_eq_or_imp, forall_eq] at haft
      clear hb hb'
      have hfin := hK _ _ ⟨hX0.alloc _, fun h => cc0 (h.resolve_right (by decide)), fun h => cc2 (h.resolve_right (by decide)), fun h => NumX.ext (pp1 (h.resolve_right (by decide))) ((Ext.refl _).alloc _), fun h => NumX.ext (pp3 (h.resolve_right (by decide))) ((Ext.refl _).alloc _), Loc.same (ll4.ext ((Ext.refl _).alloc _)) ⟨fun h => h.resolve_right (by decide), .inl⟩ ⟨fun h => h.resolve_right (by decide), .inl⟩, Loc.new w W hX0 (fun h => h.elim haft (by decide)) (Ext.refl _), fun h _ => ll4.far_new (h.resolve_right (by decide))⟩
      clear hK hX0 cc0 cc2 pp1 pp3 ll4 ll5 f4_5
      go_simp
      exact hfin
    · intro done us W hJ hdep haft hnot b hb hb' K hK Q'
      obtain ⟨hX0, cc0, cc2, pp1, pp3, ll4, ll5, f4_5⟩ := hJ
      simp only [List.getD_cons_succ, List.getD_cons_zero, List.mem_cons, List.not_mem_nil, or_false, forall_eq_or_imp, forall_eq] at hdep
      have e6 := hb 4 6 rfl
      have e18 := hb 1 18 rfl
      obtain ⟨g, eg, hg, hB⟩ := ll4.stored hdep.2 hnot
      rw [eg] at e6
      have q0 : W.cell? ⟨g, 0, none⟩ = some (.bool false) := hB.cell 0
      have z0 : W.frozen? ⟨g, 0, none⟩ = false := hB.free 0
      have q1 : W.cell? ⟨g, 1, none⟩ = some (.slice none 0 0) := hB.cell 1
      have z1 : W.frozen? ⟨g, 1, none⟩ = false := hB.free 1
      have q2 : W.cell? ⟨g, 2, none⟩ = some (.slice none 0 0) := hB.cell 2
      have z2 : W.frozen? ⟨g, 2, none⟩ = false := hB.free 2
      clear hb hb'
      obtain ⟨s9, A9, l9, c9, B9, m9, k9, hu⟩ := NumX.open (pp1 hdep.1)
      rw [hu] at e18
      have hN := NoInts.three hB
      have hfin := hK undef _ ⟨(((hX0.setCell hg _).setCell hg _).setCell hg _), fun h => cc0 (h.resolve_right (by decide)), fun h => cc2 (h.resolve_right (by decide)), fun h => NumX.boxed (pp1 (h.resolve_right (by decide))) hN _ _ _ _ _ _ _, fun h => NumX.boxed (pp3 (h.resolve_right (by decide))) hN _ _ _ _ _ _ _, ⟨fun _ => ⟨g, eg, hg, fun _ => (Blk.put3 hB hu), fun h => absurd (.inr rfl) h⟩⟩, Loc.same (Loc.keep (Loc.keep (Loc.keep ll5 (f := (fun h k => Ne.symm (f4_5 k h))) hdep.2 eg) (f := (fun h k => Ne.symm (f4_5 k h))) hdep.2 eg) (f := (fun h k => Ne.symm (f4_5 k h))) hdep.2 eg) ⟨fun h => h.resolve_right (by decide), .inl⟩ ⟨fun h => h.resolve_right (by decide), .inl⟩, fun h h' => f4_5 (h.resolve_right (by decide)) (h'.resolve_right (by decide))⟩
      clear hK hX0 cc0 cc2 pp1 pp3 ll4 ll5 f4_5
      go_simp
      exact hfin
    · intro done us W hJ hdep haft hnot b hb hb' K hK Q'
      obtain ⟨hX0, cc0, cc2, pp1, pp3, ll4, ll5, f4_5⟩ := hJ
      simp only [List.getD_cons_succ, List.getD_cons_zero, List.mem_cons, List.not_mem_nil, or_false, forall_eq_or_imp, forall_eq] at hdep
      have e7 := hb 5 7 rfl
      have e20 := hb 3 20 rfl
      obtain ⟨g, eg, hg, hB⟩ := ll5.stored hdep.2 hnot
      rw [eg] at e7
      have q0 : W.cell? ⟨g, 0, none⟩ = some (.bool false) := hB.cell 0
      have z0 : W.frozen? ⟨g, 0, none⟩ = false := hB.free 0
      have q1 : W.cell? ⟨g, 1, none⟩ = some (.slice none 0 0) := hB.cell 1
      have z1 : W.frozen? ⟨g, 1, none⟩ = false := hB.free 1
      have q2 : W.cell? ⟨g, 2, none⟩ = some (.slice none 0 0) := hB.cell 2
      have z2 : W.frozen? ⟨g, 2, none⟩ = false := hB.free 2
      clear hb hb'
      obtain ⟨s9, A9, l9, c9, B9, m9, k9, hu⟩ := NumX.open (pp3 hdep.1)
      rw [hu] at e20
      have hN := NoInts.three hB
      have hfin := hK undef _ ⟨(((hX0.setCell hg _).setCell hg _).setCell hg _), fun h => cc0 (h.resolve_right (by decide)), fun h => cc2 (h.resolve_right (by decide)), fun h => NumX.boxed (pp1 (h.resolve_right (by decide))) hN _ _ _ _ _ _ _, fun h => NumX.boxed (pp3 (h.resolve_right (by decide))) hN _ _ _ _ _ _ _, Loc.same (Loc.keep (Loc.keep (Loc.keep ll4 (f := f4_5) hdep.2 eg) (f := f4_5) hdep.2 eg) (f := f4_5) hdep.2 eg) ⟨fun h => h.resolve_right (by decide), .inl⟩ ⟨fun h => h.resolve_right (by decide), .inl⟩, ⟨fun _ => ⟨g, eg, hg, fun _ => (Blk.put3 hB hu), fun h => absurd (.inr rfl) h⟩⟩, fun h h' => f4_5 (h.resolve_right (by decide)) (h'.resolve_right (by decide))⟩
      clear hK hX0 cc0 cc2 pp1 pp3 ll4 ll5 f4_5
      go_simp
      exact hfin
  · intro us W hJ
    obtain ⟨hX0, cc0, cc2, pp1, pp3, ll4, ll5, f4_5⟩ := hJ
    rw [show (rops Try.f64 3).drop 8 = [] by kernel_rfl]
    exact hend (us 0) (us 1) (us 2) (us 3) (us 4) (us 5) (us 6) (us 7) W (cc0 (show 0 < 8 by decide)) (cc2 (show 2 < 8 by decide)) (pp1 (show 1 < 8 by decide)) (pp3 (show 3 < 8 by decide)) (ll4.done (show 4 < 8 by decide) (show 6 < 8 by decide)) (ll5.done (show 5 < 8 by decide) (show 7 < 8 by decide)) (f4_5 (show 4 < 8 by decide) (show 5 < 8 by decide)) hX0
set_option maxRecDepth 100000 in
set_option maxHeartbeats 2000000 in
theorem ecover_s_ok (s0 s1 : Bool) (A0 B0 A1 B1 : Option Addr) (l0 c0 m0 k0 l1 c1 m1 k1 : Nat) (q r : Rat) (sg : Int) (w : World) (hx : RatG w (.agg #[.bool s0, .slice A0 l0 c0, .slice B0 m0 k0]) q) (hy : RatG w (.agg #[.bool s1, .slice A1 l1 c1, .slice B1 m1 k1]) r) (hsg : sgnQ (q - r) = sg) (hs : 0 < sg) (hlo : endE r.floor = 0) (hhi : endE (-q).floor = 0) :
    Calls Try.prog 64 #[.agg #[.bool s0, .slice A0 l0 c0, .slice B0 m0 k0], .agg #[.bool s1, .slice A1 l1 c1, .slice B1 m1 k1]] w (RetE w (.agg #[.int .i64 r.floor, .int .i64 (-(-q).floor)]) 0) := by
  have HXX := Lib.hid hx
  have HYY := Lib.hid hy
  have HSG := Lib.hid hsg
  clear hx hy hsg
  obtain ⟨nl, hnl⟩ : ∃ z, endV r.floor = z := ⟨_, rfl⟩
  obtain ⟨nh, hnh⟩ : ∃ z, endV (-q).floor = z := ⟨_, rfl⟩
  obtain ⟨bl, hbl⟩ : ∃ z, decide (endE r.floor = 0) = z := ⟨_, rfl⟩
  obtain ⟨bh, hbh⟩ : ∃ z, decide (endE (-q).floor = 0) = z := ⟨_, rfl⟩
  have HNL := Lib.hid hnl
  have HNH := Lib.hid hnh
  have HBL := Lib.hid hbl
  have HBH := Lib.hid hbh
  have e1 : r.floor = nl := by rw [← hnl]; exact (endV_of hlo).symm
  have e2 : (-q).floor = nh := by rw [← hnh]; exact (endV_of hhi).symm
  obtain ⟨z1, z2⟩ := endE_zero hlo
  obtain ⟨z3, z4⟩ := endE_zero hhi
  rw [e1] at z1 z2
  rw [e2] at z3 z4
  rw [e1, e2]
  clear e1 e2
  obtain rfl : bl = true := by rw [← hbl]; exact decide_eq_true hlo
  obtain rfl : bh = true := by rw [← hbh]; exact decide_eq_true hhi
  clear hnl hnh hbl hbh hlo hhi
  have hXe : Ext w ((((w.alloc (.cells #[.bool s0, .slice A0 l0 c0, .slice B0 m0 k0] 33)).alloc (.cells #[.bool s1, .slice A1 l1 c1, .slice B1 m1 k1] 33)).alloc (.cells #[.int .i64 0, .int .i64 0] 62)).alloc (.cells #[.bool s0, .slice A0 l0 c0, .slice B0 m0 k0, .bool s1, .slice A1 l1 c1, .slice B1 m1 k1] 33)) := (((((Ext.refl w).alloc _).alloc _).alloc _).alloc _)
  have kA : Blk ((((w.alloc (.cells #[.bool s0, .slice A0 l0 c0, .slice B0 m0 k0] 33)).alloc (.cells #[.bool s1, .slice A1 l1 c1, .slice B1 m1 k1] 33)).alloc (.cells #[.int .i64 0, .int .i64 0] 62)).alloc (.cells #[.bool s0, .slice A0 l0 c0, .slice B0 m0 k0, .bool s1, .slice A1 l1 c1, .slice B1 m1 k1] 33)) w.heap.size 33 #[.bool s0, .slice A0 l0 c0, .slice B0 m0 k0] := Blk.alloc (Blk.alloc (Blk.alloc (Blk.at_ (by simp)) _) _) _
  have kB : Blk ((((w.alloc (.cells #[.bool s0, .slice A0 l0 c0, .slice B0 m0 k0] 33)).alloc (.cells #[.bool s1, .slice A1 l1 c1, .slice B1 m1 k1] 33)).alloc (.cells #[.int .i64 0, .int .i64 0] 62)).alloc (.cells #[.bool s0, .slice A0 l0 c0, .slice B0 m0 k0, .bool s1, .slice A1 l1 c1, .slice B1 m1 k1] 33)) (w.heap.size + 1) 33 #[.bool s1, .slice A1 l1 c1, .slice B1 m1 k1] := Blk.alloc (Blk.alloc (Blk.at_ (by simp)) _) _
  have kR : Blk ((((w.alloc (.cells #[.bool s0, .slice A0 l0 c0, .slice B0 m0 k0] 33)).alloc (.cells #[.bool s1, .slice A1 l1 c1, .slice B1 m1 k1] 33)).alloc (.cells #[.int .i64 0, .int .i64 0] 62)).alloc (.cells #[.bool s0, .slice A0 l0 c0, .slice B0 m0 k0, .bool s1, .slice A1 l1 c1, .slice B1 m1 k1] 33)) (w.heap.size + 2) 62 #[.int .i64 0, .int .i64 0] := Blk.alloc (Blk.at_ (by simp)) _
  have kP : Blk ((((w.alloc (.cells #[.bool s0, .slice A0 l0 c0, .slice B0 m0 k0] 33)).alloc (.cells #[.bool s1, .slice A1 l1 c1, .slice B1 m1 k1] 33)).alloc (.cells #[.int .i64 0, .int .i64 0] 62)).alloc (.cells #[.bool s0, .slice A0 l0 c0, .slice B0 m0 k0, .bool s1, .slice A1 l1 c1, .slice B1 m1 k1] 33)) (w.heap.size + 3) 33 #[.bool s0, .slice A0 l0 c0, .slice B0 m0 k0, .bool s1, .slice A1 l1 c1, .slice B1 m1 k1] := Blk.at_ (by simp)
  go_enter Try.func64, Try.ntmps64
  go_wp2_with fail
  generalize ((((w.alloc (.cells #[.bool s0, .slice A0 l0 c0, .slice B0 m0 k0] 33)).alloc (.cells #[.bool s1, .slice A1 l1 c1, .slice B1 m1 k1] 33)).alloc (.cells #[.int .i64 0, .int .i64 0] 62)).alloc (.cells #[.bool s0, .slice A0 l0 c0, .slice B0 m0 k0, .bool s1, .slice A1 l1 c1, .slice B1 m1 k1] 33)) = w1 at hXe kA kB kR kP ⊢
  have HX := Lib.hid hXe
  clear hXe
  have KA := Lib.hid kA
  clear kA
  have KB := Lib.hid kB
  clear kB
  have KR := Lib.hid kR
  clear kR
  have KP := Lib.hid kP
  clear kP
  refine (anyLarge_two s0 s1 A0 B0 A1 B1 l0 c0 m0 k0 l1 c1 m1 k1 false false _ _ KP.out ((HXX.out.small).ext HX.out) ((HYY.out.small).ext HX.out)).mono ?_
  rintro e w2 ⟨rfl, hX⟩
  replace hX : Ext w1 w2 := by with_reducible exact hX
  replace HX := Lib.hid (HX.out.trans hX)
  replace KA := Lib.hid (KA.out.ext hX)
  replace KB := Lib.hid (KB.out.ext hX)
  replace KR := Lib.hid (KR.out.ext hX)
  replace KP := Lib.hid (KP.out.ext hX)
  clear hX
  clear KP
  replace HXX := Lib.hid (HXX.out.ext HX.out)
  replace HYY := Lib.hid (HYY.out.ext HX.out)
  have zR := KR.out.lt
  go_upto_region 3 with (fail)
  refine cover_r3 w.heap.size (w.heap.size + 1) s0 A0 B0 l0 c0 m0 k0 s1 A1 B1 l1 c1 m1 k1 q r w2 (KA.out.cell 0) (KA.out.cell 1) (KA.out.cell 2) (KB.out.cell 0) (KB.out.cell 1) (KB.out.cell 2) HXX.out HYY.out _ _ (by simp) rfl rfl ?_
  rintro xv0 xv1 xv2 xv3 xv4 xv5 xv6 xv7 w3 rfl rfl h1 h3 ⟨gx, rfl, hgx, hBx⟩ ⟨gy, rfl, hgy, hBy⟩ hne hXW
  simp only [rops, Try.f64, regOf, Option.bind_some, Nat.reduceBEq, if_true, if_false, Bool.false_eq_true, Option.getD_some, List.drop_succ_cons, List.drop_zero]
  simp only [Act.put, List.setIfInBounds_toArray, List.set_cons_succ, List.set_cons_zero]
  replace HX := Lib.hid (HX.out.trans hXW)
  replace HXX := Lib.hid (HXX.out.ext hXW)
  replace HYY := Lib.hid (HYY.out.ext hXW)
  replace KA := Lib.hid (KA.out.ext hXW)
  replace KB := Lib.hid (KB.out.ext hXW)
  replace KR := Lib.hid (KR.out.ext hXW)
  clear hXW
  clear HXX
  clear HYY
  clear KA
  clear KB
  obtain ⟨s2, A2, l2, c2, B2, m2, k2, rfl⟩ := NumX.open h1
  obtain ⟨s3, A3, l3, c3, B3, m3, k3, rfl⟩ := NumX.open h3
  have KX : Hid (Blk w3 gx 96 #[.bool s2, .slice A2 l2 c2, .slice B2 m2 k2]) := hBx
  have KY : Hid (Blk w3 gy 96 #[.bool s3, .slice A3 l3 c3, .slice B3 m3 k3]) := hBy
  have HN2 := Lib.hid h1
  have HN3 := Lib.hid h3
  have hxy : gx ≠ gy := by
    rintro rfl
    exact hne rfl
  have hrx : w.heap.size + 2 ≠ gx ∧ w.heap.size + 2 ≠ gy ∧ w.heap.size ≤ gx ∧ w.heap.size ≤ gy := by have := HX.out.size; omega
  obtain ⟨hr1, hr2, hr3, hr4⟩ := hrx
  clear h1 h3 hBx hBy hne hgx hgy
  have cX0 : w3.cell? ⟨gx, 0, none⟩ = some (.bool s2) := KX.out.cell 0
  have cX1 : w3.cell? ⟨gx, 1, none⟩ = some (.slice A2 l2 c2) := KX.out.cell 1
  have cX2 : w3.cell? ⟨gx, 2, none⟩ = some (.slice B2 m2 k2) := KX.out.cell 2
  have cY0 : w3.cell? ⟨gy, 0, none⟩ = some (.bool s3) := KY.out.cell 0
  have cY1 : w3.cell? ⟨gy, 1, none⟩ = some (.slice A3 l3 c3) := KY.out.cell 1
  have cY2 : w3.cell? ⟨gy, 2, none⟩ = some (.slice B3 m3 k3) := KY.out.cell 2
  go_wp2_with fail
  clear cX0 cX1 cX2 cY0 cY1 cY2
  refine (cmpX HN2.out HN3.out (by omega)).mono ?_
  rw [HSG.out]
  rintro e w4 ⟨rfl, hX⟩
  replace hX : Ext w3 w4 := by with_reducible exact hX
  replace HX := Lib.hid (HX.out.trans hX)
  replace HN2 := Lib.hid (HN2.out.ext hX)
  replace HN3 := Lib.hid (HN3.out.ext hX)
  replace KR := Lib.hid (KR.out.ext hX)
  replace KX := Lib.hid (KX.out.ext hX)
  replace KY := Lib.hid (KY.out.ext hX)
  clear hX
  have cX0 : w4.cell? ⟨gx, 0, none⟩ = some (.bool s2) := KX.out.cell 0
  have fX0 : w4.frozen? ⟨gx, 0, none⟩ = false := KX.out.free 0
  have cX1 : w4.cell? ⟨gx, 1, none⟩ = some (.slice A2 l2 c2) := KX.out.cell 1
  have fX1 : w4.frozen? ⟨gx, 1, none⟩ = false := KX.out.free 1
  have cX2 : w4.cell? ⟨gx, 2, none⟩ = some (.slice B2 m2 k2) := KX.out.cell 2
  have fX2 : w4.frozen? ⟨gx, 2, none⟩ = false := KX.out.free 2
  have cY0 : w4.cell? ⟨gy, 0, none⟩ = some (.bool s3) := KY.out.cell 0
  have fY0 : w4.frozen? ⟨gy, 0, none⟩ = false := KY.out.free 0
  have cY1 : w4.cell? ⟨gy, 1, none⟩ = some (.slice A3 l3 c3) := KY.out.cell 1
  have fY1 : w4.frozen? ⟨gy, 1, none⟩ = false := KY.out.free 1
  have cY2 : w4.cell? ⟨gy, 2, none⟩ = some (.slice B3 m3 k3) := KY.out.cell 2
  have fY2 : w4.frozen? ⟨gy, 2, none⟩ = false := KY.out.free 2
  go_upto_region 6 with (fail)
  clear cX0 fX0 cX1 fX1 cX2 fX2 cY0 fY0 cY1 fY1 cY2 fY2
  have hXs : Ext w ((((((w4.setCell ⟨gx, 0, none⟩ (.bool s3)).setCell ⟨gx, 1, none⟩ (.slice A3 l3 c3)).setCell ⟨gx, 2, none⟩ (.slice B3 m3 k3)).setCell ⟨gy, 0, none⟩ (.bool s2)).setCell ⟨gy, 1, none⟩ (.slice A2 l2 c2)).setCell ⟨gy, 2, none⟩ (.slice B2 m2 k2)) := (((((HX.out.setCell hr3 _).setCell hr3 _).setCell hr3 _).setCell hr4 _).setCell hr4 _).setCell hr4 _
  have q1 : Blk (((w4.setCell ⟨gx, 0, none⟩ (.bool s3)).setCell ⟨gx, 1, none⟩ (.slice A3 l3 c3)).setCell ⟨gx, 2, none⟩ (.slice B3 m3 k3)) gx 96 #[.bool s3, .slice A3 l3 c3, .slice B3 m3 k3] := ((KX.out.set 0 _).set 1 _).set 2 _
  have q2 : Blk (((w4.setCell ⟨gx, 0, none⟩ (.bool s3)).setCell ⟨gx, 1, none⟩ (.slice A3 l3 c3)).setCell ⟨gx, 2, none⟩ (.slice B3 m3 k3)) gy 96 #[.bool s3, .slice A3 l3 c3, .slice B3 m3 k3] := ((KY.out.far (Ne.symm hxy) _).far (Ne.symm hxy) _).far (Ne.symm hxy) _
  have kX : Blk ((((((w4.setCell ⟨gx, 0, none⟩ (.bool s3)).setCell ⟨gx, 1, none⟩ (.slice A3 l3 c3)).setCell ⟨gx, 2, none⟩ (.slice B3 m3 k3)).setCell ⟨gy, 0, none⟩ (.bool s2)).setCell ⟨gy, 1, none⟩ (.slice A2 l2 c2)).setCell ⟨gy, 2, none⟩ (.slice B2 m2 k2)) gx 96 #[.bool s3, .slice A3 l3 c3, .slice B3 m3 k3] := ((q1.far hxy _).far hxy _).far hxy _
  have kY : Blk ((((((w4.setCell ⟨gx, 0, none⟩ (.bool s3)).setCell ⟨gx, 1, none⟩ (.slice A3 l3 c3)).setCell ⟨gx, 2, none⟩ (.slice B3 m3 k3)).setCell ⟨gy, 0, none⟩ (.bool s2)).setCell ⟨gy, 1, none⟩ (.slice A2 l2 c2)).setCell ⟨gy, 2, none⟩ (.slice B2 m2 k2)) gy 96 #[.bool s2, .slice A2 l2 c2, .slice B2 m2 k2] := ((q2.set 0 _).set 1 _).set 2 _
  have kR : Blk ((((((w4.setCell ⟨gx, 0, none⟩ (.bool s3)).setCell ⟨gx, 1, none⟩ (.slice A3 l3 c3)).setCell ⟨gx, 2, none⟩ (.slice B3 m3 k3)).setCell ⟨gy, 0, none⟩ (.bool s2)).setCell ⟨gy, 1, none⟩ (.slice A2 l2 c2)).setCell ⟨gy, 2, none⟩ (.slice B2 m2 k2)) (w.heap.size + 2) 62 #[.int .i64 0, .int .i64 0] := (((((KR.out.far hr1 _).far hr1 _).far hr1 _).far hr2 _).far hr2 _).far hr2 _
  have hN2 := NumX.boxed (NumX.boxed HN2.out (NoInts.three KX.out) s3 A3 B3 l3 c3 m3 k3) (NoInts.three q2) s2 A2 B2 l2 c2 m2 k2
  have hN3 := NumX.boxed (NumX.boxed HN3.out (NoInts.three KX.out) s3 A3 B3 l3 c3 m3 k3) (NoInts.three q2) s2 A2 B2 l2 c2 m2 k2
  generalize ((((((w4.setCell ⟨gx, 0, none⟩ (.bool s3)).setCell ⟨gx, 1, none⟩ (.slice A3 l3 c3)).setCell ⟨gx, 2, none⟩ (.slice B3 m3 k3)).setCell ⟨gy, 0, none⟩ (.bool s2)).setCell ⟨gy, 1, none⟩ (.slice A2 l2 c2)).setCell ⟨gy, 2, none⟩ (.slice B2 m2 k2)) = w5 at hXs kX kY kR hN2 hN3 ⊢
  clear HX KX KY KR HN2 HN3 q1 q2
  have HX := Lib.hid hXs
  have KX := Lib.hid kX
  have KY := Lib.hid kY
  have KR := Lib.hid kR
  have HN2 := Lib.hid hN2
  have HN3 := Lib.hid hN3
  clear hXs kX kY kR hN2 hN3
  have cX0 : w5.cell? ⟨gx, 0, none⟩ = some (.bool s3) := KX.out.cell 0
  have cX1 : w5.cell? ⟨gx, 1, none⟩ = some (.slice A3 l3 c3) := KX.out.cell 1
  have cX2 : w5.cell? ⟨gx, 2, none⟩ = some (.slice B3 m3 k3) := KX.out.cell 2
  go_wp2_with fail
  clear cX0 cX1 cX2
  refine (xfloorN HN3.out (by omega)).mono ?_
  rw [HNL.out, HBL.out]
  rintro e w6 ⟨rfl, hX⟩
  replace hX : Ext w5 w6 := by with_reducible exact hX
  replace HX := Lib.hid (HX.out.trans hX)
  replace HN2 := Lib.hid (HN2.out.ext hX)
  replace HN3 := Lib.hid (HN3.out.ext hX)
  replace KR := Lib.hid (KR.out.ext hX)
  replace KX := Lib.hid (KX.out.ext hX)
  replace KY := Lib.hid (KY.out.ext hX)
  clear hX
  have cY0 : w6.cell? ⟨gy, 0, none⟩ = some (.bool s2) := KY.out.cell 0
  have cY1 : w6.cell? ⟨gy, 1, none⟩ = some (.slice A2 l2 c2) := KY.out.cell 1
  have cY2 : w6.cell? ⟨gy, 2, none⟩ = some (.slice B2 m2 k2) := KY.out.cell 2
  go_wp2_with fail
  clear cY0 cY1 cY2
  refine (negX HN2.out).mono ?_
  rintro e w7 ⟨v6, rfl, hv, hX⟩
  replace hX : Ext w6 w7 := by with_reducible exact hX
  replace HX := Lib.hid (HX.out.trans hX)
  replace HN2 := Lib.hid (HN2.out.ext hX)
  replace HN3 := Lib.hid (HN3.out.ext hX)
  replace KR := Lib.hid (KR.out.ext hX)
  replace KX := Lib.hid (KX.out.ext hX)
  replace KY := Lib.hid (KY.out.ext hX)
  clear hX
  have HN6 := Lib.hid hv
  clear hv
  go_wp2_with fail
  refine (xfloorN HN6.out (by omega)).mono ?_
  rw [HNH.out, HBH.out]
  rintro e w8 ⟨rfl, hX⟩
  replace hX : Ext w7 w8 := by with_reducible exact hX
  replace HX := Lib.hid (HX.out.trans hX)
  replace HN2 := Lib.hid (HN2.out.ext hX)
  replace HN3 := Lib.hid (HN3.out.ext hX)
  replace HN6 := Lib.hid (HN6.out.ext hX)
  replace KR := Lib.hid (KR.out.ext hX)
  replace KX := Lib.hid (KX.out.ext hX)
  replace KY := Lib.hid (KY.out.ext hX)
  clear hX
  go_wp2_with fail
  refine (span_ok nl (-nh) _ z1 (by omega)).mono ?_
  unfold RetE
  rintro e w9 ⟨rfl, hX⟩
  replace hX : Ext w8 w9 := by with_reducible exact hX
  replace HX := Lib.hid (HX.out.trans hX)
  replace HN2 := Lib.hid (HN2.out.ext hX)
  replace HN3 := Lib.hid (HN3.out.ext hX)
  replace HN6 := Lib.hid (HN6.out.ext hX)
  replace KR := Lib.hid (KR.out.ext hX)
  replace KX := Lib.hid (KX.out.ext hX)
  replace KY := Lib.hid (KY.out.ext hX)
  clear hX
  have cR0 : w9.cell? ⟨(w.heap.size + 2), 0, none⟩ = some (.int .i64 0) := KR.out.cell 0
  have fR0 : w9.frozen? ⟨(w.heap.size + 2), 0, none⟩ = false := KR.out.free 0
  have cR1 : w9.cell? ⟨(w.heap.size + 2), 1, none⟩ = some (.int .i64 0) := KR.out.cell 1
  have fR1 : w9.frozen? ⟨(w.heap.size + 2), 1, none⟩ = false := KR.out.free 1
  go_wp2
  refine bodyPost_ret (v := .tuple #[.agg #[.int .i64 nl, .int .i64 (-nh)], .int .i64 0]) (by simp [results, Try.results64, go_sem, *]) rfl ?_
  exact ⟨rfl, HX.out.two (by omega) _ _⟩

set_option maxRecDepth 100000 in
set_option maxHeartbeats 2000000 in
theorem ecover_s_lo (s0 s1 : Bool) (A0 B0 A1 B1 : Option Addr) (l0 c0 m0 k0 l1 c1 m1 k1 : Nat) (q r : Rat) (sg : Int) (w : World) (hx : RatG w (.agg #[.bool s0, .slice A0 l0 c0, .slice B0 m0 k0]) q) (hy : RatG w (.agg #[.bool s1, .slice A1 l1 c1, .slice B1 m1 k1]) r) (hsg : sgnQ (q - r) = sg) (hs : 0 < sg) (hlo : endE r.floor = 3) :
    Calls Try.prog 64 #[.agg #[.bool s0, .slice A0 l0 c0, .slice B0 m0 k0], .agg #[.bool s1, .slice A1 l1 c1, .slice B1 m1 k1]] w (RetE w (.agg #[.int .i64 0, .int .i64 0]) 3) := by
  have HXX := Lib.hid hx
  have HYY := Lib.hid hy
  have HSG := Lib.hid hsg
  clear hx hy hsg
  obtain ⟨nl, hnl⟩ : ∃ z, endV r.floor = z := ⟨_, rfl⟩
  obtain ⟨nh, hnh⟩ : ∃ z, endV (-q).floor = z := ⟨_, rfl⟩
  obtain ⟨bl, hbl⟩ : ∃ z, decide (endE r.floor = 0) = z := ⟨_, rfl⟩
  obtain ⟨bh, hbh⟩ : ∃ z, decide (endE (-q).floor = 0) = z := ⟨_, rfl⟩
  have HNL := Lib.hid hnl
  have HNH := Lib.hid hnh
  have HBL := Lib.hid hbl
  have HBH := Lib.hid hbh
  obtain rfl : bl = false := by rw [← hbl]; exact decide_eq_false (by omega)
  clear hnl hnh hbl hbh hlo
  have hXe : Ext w ((((w.alloc (.cells #[.bool s0, .slice A0 l0 c0, .slice B0 m0 k0] 33)).alloc (.cells #[.bool s1, .slice A1 l1 c1, .slice B1 m1 k1] 33)).alloc (.cells #[.int .i64 0, .int .i64 0] 62)).alloc (.cells #[.bool s0, .slice A0 l0 c0, .slice B0 m0 k0, .bool s1, .slice A1 l1 c1, .slice B1 m1 k1] 33)) := (((((Ext.refl w).alloc _).alloc _).alloc _).alloc _)
  have kA : Blk ((((w.alloc (.cells #[.bool s0, .slice A0 l0 c0, .slice B0 m0 k0] 33)).alloc (.cells #[.bool s1, .slice A1 l1 c1, .slice B1 m1 k1] 33)).alloc (.cells #[.int .i64 0, .int .i64 0] 62)).alloc (.cells #[.bool s0, .slice A0 l0 c0, .slice B0 m0 k0, .bool s1, .slice A1 l1 c1, .slice B1 m1 k1] 33)) w.heap.size 33 #[.bool s0, .slice A0 l0 c0, .slice B0 m0 k0] := Blk.alloc (Blk.alloc (Blk.alloc (Blk.at_ (by simp)) _) _) _
  have kB : Blk ((((w.alloc (.cells #[.bool s0, .slice A0 l0 c0, .slice B0 m0 k0] 33)).alloc (.cells #[.bool s1, .slice A1 l1 c1, .slice B1 m1 k1] 33)).alloc (.cells #[.int .i64 0, .int .i64 0] 62)).alloc (.cells #[.bool s0, .slice A0 l0 c0, .slice B0 m0 k0, .bool s1, .slice A1 l1 c1, .slice B1 m1 k1] 33)) (w.heap.size + 1) 33 #[.bool s1, .slice A1 l1 c1, .slice B1 m1 k1] := Blk.alloc (Blk.alloc (Blk.at_ (by simp)) _) _
  have kR : Blk ((((w.alloc (.cells #[.bool s0, .slice A0 l0 c0, .slice B0 m0 k0] 33)).alloc (.cells #[.bool s1, .slice A1 l1 c1, .slice B1 m1 k1] 33)).alloc (.cells #[.int .i64 0, .int .i64 0] 62)).alloc (.cells #[.bool s0, .slice A0 l0 c0, .slice B0 m0 k0, .bool s1, .slice A1 l1 c1, .slice B1 m1 k1] 33)) (w.heap.size + 2) 62 #[.int .i64 0, .int .i64 0] := Blk.alloc (Blk.at_ (by simp)) _
  have kP : Blk ((((w.alloc (.cells #[.bool s0, .slice A0 l0 c0, .slice B0 m0 k0] 33)).alloc (.cells #[.bool s1, .slice A1 l1 c1, .slice B1 m1 k1] 33)).alloc (.cells #[.int .i64 0, .int .i64 0] 62)).alloc (.cells #[.bool s0, .slice A0 l0 c0, .slice B0 m0 k0, .bool s1, .slice A1 l1 c1, .slice B1 m1 k1] 33)) (w.heap.size + 3) 33 #[.bool s0, .slice A0 l0 c0, .slice B0 m0 k0, .bool s1, .slice A1 l1 c1, .slice B1 m1 k1] := Blk.at_ (by simp)
  go_enter Try.func64, Try.ntmps64
  go_wp2_with fail
  generalize ((((w.alloc (.cells #[.bool s0, .slice A0 l0 c0, .slice B0 m0 k0] 33)).alloc (.cells #[.bool s1, .slice A1 l1 c1, .slice B1 m1 k1] 33)).alloc (.cells #[.int .i64 0, .int .i64 0] 62)).alloc (.cells #[.bool s0, .slice A0 l0 c0, .slice B0 m0 k0, .bool s1, .slice A1 l1 c1, .slice B1 m1 k1] 33)) = w1 at hXe kA kB kR kP ⊢
  have HX := Lib.hid hXe
  clear hXe
  have KA := Lib.hid kA
  clear kA
  have KB := Lib.hid kB
  clear kB
  have KR := Lib.hid kR
  clear kR
  have KP := Lib.hid kP
  clear kP
  refine (anyLarge_two s0 s1 A0 B0 A1 B1 l0 c0 m0 k0 l1 c1 m1 k1 false false _ _ KP.out ((HXX.out.small).ext HX.out) ((HYY.out.small).ext HX.out)).mono ?_
  rintro e w2 ⟨rfl, hX⟩
  replace hX : Ext w1 w2 := by with_reducible exact hX
  replace HX := Lib.hid (HX.out.trans hX)
  replace KA := Lib.hid (KA.out.ext hX)
  replace KB := Lib.hid (KB.out.ext hX)
  replace KR := Lib.hid (KR.out.ext hX)
  replace KP := Lib.hid (KP.out.ext hX)
  clear hX
  clear KP
  replace HXX := Lib.hid (HXX.out.ext HX.out)
  replace HYY := Lib.hid (HYY.out.ext HX.out)
  have zR := KR.out.lt
  go_upto_region 3 with (fail)
  refine cover_r3 w.heap.size (w.heap.size + 1) s0 A0 B0 l0 c0 m0 k0 s1 A1 B1 l1 c1 m1 k1 q r w2 (KA.out.cell 0) (KA.out.cell 1) (KA.out.cell 2) (KB.out.cell 0) (KB.out.cell 1) (KB.out.cell 2) HXX.out HYY.out _ _ (by simp) rfl rfl ?_
  rintro xv0 xv1 xv2 xv3 xv4 xv5 xv6 xv7 w3 rfl rfl h1 h3 ⟨gx, rfl, hgx, hBx⟩ ⟨gy, rfl, hgy, hBy⟩ hne hXW
  simp only [rops, Try.f64, regOf, Option.bind_some, Nat.reduceBEq, if_true, if_false, Bool.false_eq_true, Option.getD_some, List.drop_succ_cons, List.drop_zero]
  simp only [Act.put, List.setIfInBounds_toArray, List.set_cons_succ, List.set_cons_zero]
  replace HX := Lib.hid (HX.out.trans hXW)
  replace HXX := Lib.hid (HXX.out.ext hXW)
  replace HYY := Lib.hid (HYY.out.ext hXW)
  replace KA := Lib.hid (KA.out.ext hXW)
  replace KB := Lib.hid (KB.out.ext hXW)
  replace KR := Lib.hid (KR.out.ext hXW)
  clear hXW
  clear HXX
  clear HYY
  clear KA
  clear KB
  obtain ⟨s2, A2, l2, c2, B2, m2, k2, rfl⟩ := NumX.open h1
  obtain ⟨s3, A3, l3, c3, B3, m3, k3, rfl⟩ := NumX.open h3
  have KX : Hid (Blk w3 gx 96 #[.bool s2, .slice A2 l2 c2, .slice B2 m2 k2]) := hBx
  have KY : Hid (Blk w3 gy 96 #[.bool s3, .slice A3 l3 c3, .slice B3 m3 k3]) := hBy
  have HN2 := Lib.hid h1
  have HN3 := Lib.hid h3
  have hxy : gx ≠ gy := by
    rintro rfl
    exact hne rfl
  have hrx : w.heap.size + 2 ≠ gx ∧ w.heap.size + 2 ≠ gy ∧ w.heap.size ≤ gx ∧ w.heap.size ≤ gy := by have := HX.out.size; omega
  obtain ⟨hr1, hr2, hr3, hr4⟩ := hrx
  clear h1 h3 hBx hBy hne hgx hgy
  have cX0 : w3.cell? ⟨gx, 0, none⟩ = some (.bool s2) := KX.out.cell 0
  have cX1 : w3.cell? ⟨gx, 1, none⟩ = some (.slice A2 l2 c2) := KX.out.cell 1
  have cX2 : w3.cell? ⟨gx, 2, none⟩ = some (.slice B2 m2 k2) := KX.out.cell 2
  have cY0 : w3.cell? ⟨gy, 0, none⟩ = some (.bool s3) := KY.out.cell 0
  have cY1 : w3.cell? ⟨gy, 1, none⟩ = some (.slice A3 l3 c3) := KY.out.cell 1
  have cY2 : w3.cell? ⟨gy, 2, none⟩ = some (.slice B3 m3 k3) := KY.out.cell 2
  go_wp2_with fail
  clear cX0 cX1 cX2 cY0 cY1 cY2
  refine (cmpX HN2.out HN3.out (by omega)).mono ?_
  rw [HSG.out]
  rintro e w4 ⟨rfl, hX⟩
  replace hX : Ext w3 w4 := by with_reducible exact hX
  replace HX := Lib.hid (HX.out.trans hX)
  replace HN2 := Lib.hid (HN2.out.ext hX)
  replace HN3 := Lib.hid (HN3.out.ext hX)
  replace KR := Lib.hid (KR.out.ext hX)
  replace KX := Lib.hid (KX.out.ext hX)
  replace KY := Lib.hid (KY.out.ext hX)
  clear hX
  have cX0 : w4.cell? ⟨gx, 0, none⟩ = some (.bool s2) := KX.out.cell 0
  have fX0 : w4.frozen? ⟨gx, 0, none⟩ = false := KX.out.free 0
  have cX1 : w4.cell? ⟨gx, 1, none⟩ = some (.slice A2 l2 c2) := KX.out.cell 1
  have fX1 : w4.frozen? ⟨gx, 1, none⟩ = false := KX.out.free 1
  have cX2 : w4.cell? ⟨gx, 2, none⟩ = some (.slice B2 m2 k2) := KX.out.cell 2
  have fX2 : w4.frozen? ⟨gx, 2, none⟩ = false := KX.out.free 2
  have cY0 : w4.cell? ⟨gy, 0, none⟩ = some (.bool s3) := KY.out.cell 0
  have fY0 : w4.frozen? ⟨gy, 0, none⟩ = false := KY.out.free 0
  have cY1 : w4.cell? ⟨gy, 1, none⟩ = some (.slice A3 l3 c3) := KY.out.cell 1
  have fY1 : w4.frozen? ⟨gy, 1, none⟩ = false := KY.out.free 1
  have cY2 : w4.cell? ⟨gy, 2, none⟩ = some (.slice B3 m3 k3) := KY.out.cell 2
  have fY2 : w4.frozen? ⟨gy, 2, none⟩ = false := KY.out.free 2
  go_upto_region 6 with (fail)
  clear cX0 fX0 cX1 fX1 cX2 fX2 cY0 fY0 cY1 fY1 cY2 fY2
  have hXs : Ext w ((((((w4.setCell ⟨gx, 0, none⟩ (.bool s3)).setCell ⟨gx, 1, none⟩ (.slice A3 l3 c3)).setCell ⟨gx, 2, none⟩ (.slice B3 m3 k3)).setCell ⟨gy, 0, none⟩ (.bool s2)).setCell ⟨gy, 1, none⟩ (.slice A2 l2 c2)).setCell ⟨gy, 2, none⟩ (.slice B2 m2 k2)) := (((((HX.out.setCell hr3 _).setCell hr3 _).setCell hr3 _).setCell hr4 _).setCell hr4 _).setCell hr4 _
  have q1 : Blk (((w4.setCell ⟨gx, 0, none⟩ (.bool s3)).setCell ⟨gx, 1, none⟩ (.slice A3 l3 c3)).setCell ⟨gx, 2, none⟩ (.slice B3 m3 k3)) gx 96 #[.bool s3, .slice A3 l3 c3, .slice B3 m3 k3] := ((KX.out.set 0 _).set 1 _).set 2 _
  have q2 : Blk (((w4.setCell ⟨gx, 0, none⟩ (.bool s3)).setCell ⟨gx, 1, none⟩ (.slice A3 l3 c3)).setCell ⟨gx, 2, none⟩ (.slice B3 m3 k3)) gy 96 #[.bool s3, .slice A3 l3 c3, .slice B3 m3 k3] := ((KY.out.far (Ne.symm hxy) _).far (Ne.symm hxy) _).far (Ne.symm hxy) _
  have kX : Blk ((((((w4.setCell ⟨gx, 0, none⟩ (.bool s3)).setCell ⟨gx, 1, none⟩ (.slice A3 l3 c3)).setCell ⟨gx, 2, none⟩ (.slice B3 m3 k3)).setCell ⟨gy, 0, none⟩ (.bool s2)).setCell ⟨gy, 1, none⟩ (.slice A2 l2 c2)).setCell ⟨gy, 2, none⟩ (.slice B2 m2 k2)) gx 96 #[.bool s3, .slice A3 l3 c3, .slice B3 m3 k3] := ((q1.far hxy _).far hxy _).far hxy _
  have kY : Blk ((((((w4.setCell ⟨gx, 0, none⟩ (.bool s3)).setCell ⟨gx, 1, none⟩ (.slice A3 l3 c3)).setCell ⟨gx, 2, none⟩ (.slice B3 m3 k3)).setCell ⟨gy, 0, none⟩ (.bool s2)).setCell ⟨gy, 1, none⟩ (.slice A2 l2 c2)).setCell ⟨gy, 2, none⟩ (.slice B2 m2 k2)) gy 96 #[.bool s2, .slice A2 l2 c2, .slice B2 m2 k2] := ((q2.set 0 _).set 1 _).set 2 _
  have kR : Blk ((((((w4.setCell ⟨gx, 0, none⟩ (.bool s3)).setCell ⟨gx, 1, none⟩ (.slice A3 l3 c3)).setCell ⟨gx, 2, none⟩ (.slice B3 m3 k3)).setCell ⟨gy, 0, none⟩ (.bool s2)).setCell ⟨gy, 1, none⟩ (.slice A2 l2 c2)).setCell ⟨gy, 2, none⟩ (.slice B2 m2 k2)) (w.heap.size + 2) 62 #[.int .i64 0, .int .i64 0] := (((((KR.out.far hr1 _).far hr1 _).far hr1 _).far hr2 _).far hr2 _).far hr2 _
  have hN2 := NumX.boxed (NumX.boxed HN2.out (NoInts.three KX.out) s3 A3 B3 l3 c3 m3 k3) (NoInts.three q2) s2 A2 B2 l2 c2 m2 k2
  have hN3 := NumX.boxed (NumX.boxed HN3.out (NoInts.three KX.out) s3 A3 B3 l3 c3 m3 k3) (NoInts.three q2) s2 A2 B2 l2 c2 m2 k2
  generalize ((((((w4.setCell ⟨gx, 0, none⟩ (.bool s3)).setCell ⟨gx, 1, none⟩ (.slice A3 l3 c3)).setCell ⟨gx, 2, none⟩ (.slice B3 m3 k3)).setCell ⟨gy, 0, none⟩ (.bool s2)).setCell ⟨gy, 1, none⟩ (.slice A2 l2 c2)).setCell ⟨gy, 2, none⟩ (.slice B2 m2 k2)) = w5 at hXs kX kY kR hN2 hN3 ⊢
  clear HX KX KY KR HN2 HN3 q1 q2
  have HX := Lib.hid hXs
  have KX := Lib.hid kX
  have KY := Lib.hid kY
  have KR := Lib.hid kR
  have HN2 := Lib.hid hN2
  have HN3 := Lib.hid hN3
  clear hXs kX kY kR hN2 hN3
  have cX0 : w5.cell? ⟨gx, 0, none⟩ = some (.bool s3) := KX.out.cell 0
  have cX1 : w5.cell? ⟨gx, 1, none⟩ = some (.slice A3 l3 c3) := KX.out.cell 1
  have cX2 : w5.cell? ⟨gx, 2, none⟩ = some (.slice B3 m3 k3) := KX.out.cell 2
  go_wp2_with fail
  clear cX0 cX1 cX2
  refine (xfloorN HN3.out (by omega)).mono ?_
  rw [HNL.out, HBL.out]
  rintro e w6 ⟨rfl, hX⟩
  replace hX : Ext w5 w6 := by with_reducible exact hX
  replace HX := Lib.hid (HX.out.trans hX)
  replace HN2 := Lib.hid (HN2.out.ext hX)
  replace HN3 := Lib.hid (HN3.out.ext hX)
  replace KR := Lib.hid (KR.out.ext hX)
  replace KX := Lib.hid (KX.out.ext hX)
  replace KY := Lib.hid (KY.out.ext hX)
  clear hX
  have cY0 : w6.cell? ⟨gy, 0, none⟩ = some (.bool s2) := KY.out.cell 0
  have cY1 : w6.cell? ⟨gy, 1, none⟩ = some (.slice A2 l2 c2) := KY.out.cell 1
  have cY2 : w6.cell? ⟨gy, 2, none⟩ = some (.slice B2 m2 k2) := KY.out.cell 2
  go_wp2_with fail
  clear cY0 cY1 cY2
  refine (negX HN2.out).mono ?_
  rintro e w7 ⟨v6, rfl, hv, hX⟩
  replace hX : Ext w6 w7 := by with_reducible exact hX
  replace HX := Lib.hid (HX.out.trans hX)
  replace HN2 := Lib.hid (HN2.out.ext hX)
  replace HN3 := Lib.hid (HN3.out.ext hX)
  replace KR := Lib.hid (KR.out.ext hX)
  replace KX := Lib.hid (KX.out.ext hX)
  replace KY := Lib.hid (KY.out.ext hX)
  clear hX
  have HN6 := Lib.hid hv
  clear hv
  go_wp2_with fail
  refine (xfloorN HN6.out (by omega)).mono ?_
  rw [HNH.out, HBH.out]
  rintro e w8 ⟨rfl, hX⟩
  replace hX : Ext w7 w8 := by with_reducible exact hX
  replace HX := Lib.hid (HX.out.trans hX)
  replace HN2 := Lib.hid (HN2.out.ext hX)
  replace HN3 := Lib.hid (HN3.out.ext hX)
  replace HN6 := Lib.hid (HN6.out.ext hX)
  replace KR := Lib.hid (KR.out.ext hX)
  replace KX := Lib.hid (KX.out.ext hX)
  replace KY := Lib.hid (KY.out.ext hX)
  clear hX
  have cR0 : w8.cell? ⟨(w.heap.size + 2), 0, none⟩ = some (.int .i64 0) := KR.out.cell 0
  have fR0 : w8.frozen? ⟨(w.heap.size + 2), 0, none⟩ = false := KR.out.free 0
  have cR1 : w8.cell? ⟨(w.heap.size + 2), 1, none⟩ = some (.int .i64 0) := KR.out.cell 1
  have fR1 : w8.frozen? ⟨(w.heap.size + 2), 1, none⟩ = false := KR.out.free 1
  go_wp2
  refine bodyPost_ret (v := .tuple #[.agg #[.int .i64 0, .int .i64 0], .int .i64 3]) (by simp [results, Try.results64, go_sem, *]) rfl ?_
  exact ⟨rfl, HX.out.two (by omega) _ _⟩

set_option maxRecDepth 100000 in
set_option maxHeartbeats 2000000 in
theorem ecover_s_hi (s0 s1 : Bool) (A0 B0 A1 B1 : Option Addr) (l0 c0 m0 k0 l1 c1 m1 k1 : Nat) (q r : Rat) (sg : Int) (w : World) (hx : RatG w (.agg #[.bool s0, .slice A0 l0 c0, .slice B0 m0 k0]) q) (hy : RatG w (.agg #[.bool s1, .slice A1 l1 c1, .slice B1 m1 k1]) r) (hsg : sgnQ (q - r) = sg) (hs : 0 < sg) (hlo : endE r.floor = 0) (hhi : endE (-q).floor = 3) :
    Calls Try.prog 64 #[.agg #[.bool s0, .slice A0 l0 c0, .slice B0 m0 k0], .agg #[.bool s1, .slice A1 l1 c1, .slice B1 m1 k1]] w (RetE w (.agg #[.int .i64 0, .int .i64 0]) 3) := by
  have HXX := Lib.hid hx
  have HYY := Lib.hid hy
  have HSG := Lib.hid hsg
  clear hx hy hsg
  obtain ⟨nl, hnl⟩ : ∃ z, endV r.floor = z := ⟨_, rfl⟩
  obtain ⟨nh, hnh⟩ : ∃ z, endV (-q).floor = z := ⟨_, rfl⟩
  obtain ⟨bl, hbl⟩ : ∃ z, decide (endE r.floor = 0) = z := ⟨_, rfl⟩
  obtain ⟨bh, hbh⟩ : ∃ z, decide (endE (-q).floor = 0) = z := ⟨_, rfl⟩
  have HNL := Lib.hid hnl
  have HNH := Lib.hid hnh
  have HBL := Lib.hid hbl
  have HBH := Lib.hid hbh
  obtain rfl : bl = true := by rw [← hbl]; exact decide_eq_true hlo
  obtain rfl : bh = false := by rw [← hbh]; exact decide_eq_false (by omega)
  clear hnl hnh hbl hbh hlo hhi
  have hXe : Ext w ((((w.alloc (.cells #[.bool s0, .slice A0 l0 c0, .slice B0 m0 k0] 33)).alloc (.cells #[.bool s1, .slice A1 l1 c1, .slice B1 m1 k1] 33)).alloc (.cells #[.int .i64 0, .int .i64 0] 62)).alloc (.cells #[.bool s0, .slice A0 l0 c0, .slice B0 m0 k0, .bool s1, .slice A1 l1 c1, .slice B1 m1 k1] 33)) := (((((Ext.refl w).alloc _).alloc _).alloc _).alloc _)
  have kA : Blk ((((w.alloc (.cells #[.bool s0, .slice A0 l0 c0, .slice B0 m0 k0] 33)).alloc (.cells #[.bool s1, .slice A1 l1 c1, .slice B1 m1 k1] 33)).alloc (.cells #[.int .i64 0, .int .i64 0] 62)).alloc (.cells #[.bool s0, .slice A0 l0 c0, .slice B0 m0 k0, .bool s1, .slice A1 l1 c1, .slice B1 m1 k1] 33)) w.heap.size 33 #[.bool s0, .slice A0 l0 c0, .slice B0 m0 k0] := Blk.alloc (Blk.alloc (Blk.alloc (Blk.at_ (by simp)) _) _) _
  have kB : Blk ((((w.alloc (.cells #[.bool s0, .slice A0 l0 c0, .slice B0 m0 k0] 33)).alloc (.cells #[.bool s1, .slice A1 l1 c1, .slice B1 m1 k1] 33)).alloc (.cells #[.int .i64 0, .int .i64 0] 62)).alloc (.cells #[.bool s0, .slice A0 l0 c0, .slice B0 m0 k0, .bool s1, .slice A1 l1 c1, .slice B1 m1 k1] 33)) (w.heap.size + 1) 33 #[.bool s1, .slice A1 l1 c1, .slice B1 m1 k1] := Blk.alloc (Blk.alloc (Blk.at_ (by simp)) _) _
  have kR : Blk ((((w.alloc (.cells #[.bool s0, .slice A0 l0 c0, .slice B0 m0 k0] 33)).alloc (.cells #[.bool s1, .slice A1 l1 c1, .slice B1 m1 k1] 33)).alloc (.cells #[.int .i64 0, .int .i64 0] 62)).alloc (.cells #[.bool s0, .slice A0 l0 c0, .slice B0 m0 k0, .bool s1, .slice A1 l1 c1, .slice B1 m1 k1] 33)) (w.heap.size + 2) 62 #[.int .i64 0, .int .i64 0] := Blk.alloc (Blk.at_ (by simp)) _
  have kP : Blk ((((w.alloc (.cells #[.bool s0, .slice A0 l0 c0, .slice B0 m0 k0] 33)).alloc (.cells #[.bool s1, .slice A1 l1 c1, .slice B1 m1 k1] 33)).alloc (.cells #[.int .i64 0, .int .i64 0] 62)).alloc (.cells #[.bool s0, .slice A0 l0 c0, .slice B0 m0 k0, .bool s1, .slice A1 l1 c1, .slice B1 m1 k1] 33)) (w.heap.size + 3) 33 #[.bool s0, .slice A0 l0 c0, .slice B0 m0 k0, .bool s1, .slice A1 l1 c1, .slice B1 m1 k1] := Blk.at_ (by simp)
  go_enter Try.func64, Try.ntmps64
  go_wp2_with fail
  generalize ((((w.alloc (.cells #[.bool s0, .slice A0 l0 c0, .slice B0 m0 k0] 33)).alloc (.cells #[.bool s1, .slice A1 l1 c1, .slice B1 m1 k1] 33)).alloc (.cells #[.int .i64 0, .int .i64 0] 62)).alloc (.cells #[.bool s0, .slice A0 l0 c0, .slice B0 m0 k0, .bool s1, .slice A1 l1 c1, .slice B1 m1 k1] 33)) = w1 at hXe kA kB kR kP ⊢
  have HX := Lib.hid hXe
  clear hXe
  have KA := Lib.hid kA
  clear kA
  have KB := Lib.hid kB
  clear kB
  have KR := Lib.hid kR
  clear kR
  have KP := Lib.hid kP
  clear kP
  refine (anyLarge_two s0 s1 A0 B0 A1 B1 l0 c0 m0 k0 l1 c1 m1 k1 false false _ _ KP.out ((HXX.out.small).ext HX.out) ((HYY.out.small).ext HX.out)).mono ?_
  rintro e w2 ⟨rfl, hX⟩
  replace hX : Ext w1 w2 := by with_reducible exact hX
  replace HX := Lib.hid (HX.out.trans hX)
  replace KA := Lib.hid (KA.out.ext hX)
  replace KB := Lib.hid (KB.out.ext hX)
  replace KR := Lib.hid (KR.out.ext hX)
  replace KP := Lib.hid (KP.out.ext hX)
  clear hX
  clear KP
  replace HXX := Lib.hid (HXX.out.ext HX.out)
  replace HYY := Lib.hid (HYY.out.ext HX.out)
  have zR := KR.out.lt
  go_upto_region 3 with (fail)
  refine cover_r3 w.heap.size (w.heap.size + 1) s0 A0 B0 l0 c0 m0 k0 s1 A1 B1 l1 c1 m1 k1 q r w2 (KA.out.cell 0) (KA.out.cell 1) (KA.out.cell 2) (KB.out.cell 0) (KB.out.cell 1) (KB.out.cell 2) HXX.out HYY.out _ _ (by simp) rfl rfl ?_
  rintro xv0 xv1 xv2 xv3 xv4 xv5 xv6 xv7 w3 rfl rfl h1 h3 ⟨gx, rfl, hgx, hBx⟩ ⟨gy, rfl, hgy, hBy⟩ hne hXW
  simp only [rops, Try.f64, regOf, Option.bind_some, Nat.reduceBEq, if_true, if_false, Bool.false_eq_true, Option.getD_some, List.drop_succ_cons, List.drop_zero]
  simp only [Act.put, List.setIfInBounds_toArray, List.set_cons_succ, List.set_cons_zero]
  replace HX := Lib.hid (HX.out.trans hXW)
  replace HXX := Lib.hid (HXX.out.ext hXW)
  replace HYY := Lib.hid (HYY.out.ext hXW)
  replace KA := Lib.hid (KA.out.ext hXW)
  replace KB := Lib.hid (KB.out.ext hXW)
  replace KR := Lib.hid (KR.out.ext hXW)
  clear hXW
  clear HXX
  clear HYY
  clear KA
  clear KB
  obtain ⟨s2, A2, l2, c2, B2, m2, k2, rfl⟩ := NumX.open h1
  obtain ⟨s3, A3, l3, c3, B3, m3, k3, rfl⟩ := NumX.open h3
  have KX : Hid (Blk w3 gx 96 #[.bool s2, .slice A2 l2 c2, .slice B2 m2 k2]) := hBx
  have KY : Hid (Blk w3 gy 96 #[.bool s3, .slice A3 l3 c3, .slice B3 m3 k3]) := hBy
  have HN2 := Lib.hid h1
  have HN3 := Lib.hid h3
  have hxy : gx ≠ gy := by
    rintro rfl
    exact hne rfl
  have hrx : w.heap.size + 2 ≠ gx ∧ w.heap.size + 2 ≠ gy ∧ w.heap.size ≤ gx ∧ w.heap.size ≤ gy := by have := HX.out.size; omega
  obtain ⟨hr1, hr2, hr3, hr4⟩ := hrx
  clear h1 h3 hBx hBy hne hgx hgy
  have cX0 : w3.cell? ⟨gx, 0, none⟩ = some (.bool s2) := KX.out.cell 0
  have cX1 : w3.cell? ⟨gx, 1, none⟩ = some (.slice A2 l2 c2) := KX.out.cell 1
  have cX2 : w3.cell? ⟨gx, 2, none⟩ = some (.slice B2 m2 k2) := KX.out.cell 2
  have cY0 : w3.cell? ⟨gy, 0, none⟩ = some (.bool s3) := KY.out.cell 0
  have cY1 : w3.cell? ⟨gy, 1, none⟩ = some (.slice A3 l3 c3) := KY.out.cell 1
  have cY2 : w3.cell? ⟨gy, 2, none⟩ = some (.slice B3 m3 k3) := KY.out.cell 2
  go_wp2_with fail
  clear cX0 cX1 cX2 cY0 cY1 cY2
  refine (cmpX HN2.out HN3.out (by omega)).mono ?_
  rw [HSG.out]
  rintro e w4 ⟨rfl, hX⟩
  replace hX : Ext w3 w4 := by with_reducible exact hX
  replace HX := Lib.hid (HX.out.trans hX)
  replace HN2 := Lib.hid (HN2.out.ext hX)
  replace HN3 := Lib.hid (HN3.out.ext hX)
  replace KR := Lib.hid (KR.out.ext hX)
  replace KX := Lib.hid (KX.out.ext hX)
  replace KY := Lib.hid (KY.out.ext hX)
  clear hX
  have cX0 : w4.cell? ⟨gx, 0, none⟩ = some (.bool s2) := KX.out.cell 0
  have fX0 : w4.frozen? ⟨gx, 0, none⟩ = false := KX.out.free 0
  have cX1 : w4.cell? ⟨gx, 1, none⟩ = some (.slice A2 l2 c2) := KX.out.cell 1
  have fX1 : w4.frozen? ⟨gx, 1, none⟩ = false := KX.out.free 1
  have cX2 : w4.cell? ⟨gx, 2, none⟩ = some (.slice B2 m2 k2) := KX.out.cell 2
  have fX2 : w4.frozen? ⟨gx, 2, none⟩ = false := KX.out.free 2
  have cY0 : w4.cell? ⟨gy, 0, none⟩ = some (.bool s3) := KY.out.cell 0
  have fY0 : w4.frozen? ⟨gy, 0, none⟩ = false := KY.out.free 0
  have cY1 : w4.cell? ⟨gy, 1, none⟩ = some (.slice A3 l3 c3) := KY.out.cell 1
  have fY1 : w4.frozen? ⟨gy, 1, none⟩ = false := KY.out.free 1
  have cY2 : w4.cell? ⟨gy, 2, none⟩ = some (.slice B3 m3 k3) := KY.out.cell 2
  have fY2 : w4.frozen? ⟨gy, 2, none⟩ = false := KY.out.free 2
  go_upto_region 6 with (fail)
  clear cX0 fX0 cX1 fX1 cX2 fX2 cY0 fY0 cY1 fY1 cY2 fY2
  have hXs : Ext w ((((((w4.setCell ⟨gx, 0, none⟩ (.bool s3)).setCell ⟨gx, 1, none⟩ (.slice A3 l3 c3)).setCell ⟨gx, 2, none⟩ (.slice B3 m3 k3)).setCell ⟨gy, 0, none⟩ (.bool s2)).setCell ⟨gy, 1, none⟩ (.slice A2 l2 c2)).setCell ⟨gy, 2, none⟩ (.slice B2 m2 k2)) := (((((HX.out.setCell hr3 _).setCell hr3 _).setCell hr3 _).setCell hr4 _).setCell hr4 _).setCell hr4 _
  have q1 : Blk (((w4.setCell ⟨gx, 0, none⟩ (.bool s3)).setCell ⟨gx, 1, none⟩ (.slice A3 l3 c3)).setCell ⟨gx, 2, none⟩ (.slice B3 m3 k3)) gx 96 #[.bool s3, .slice A3 l3 c3, .slice B3 m3 k3] := ((KX.out.set 0 _).set 1 _).set 2 _
  have q2 : Blk (((w4.setCell ⟨gx, 0, none⟩ (.bool s3)).setCell ⟨gx, 1, none⟩ (.slice A3 l3 c3)).setCell ⟨gx, 2, none⟩ (.slice B3 m3 k3)) gy 96 #[.bool s3, .slice A3 l3 c3, .slice B3 m3 k3] := ((KY.out.far (Ne.symm hxy) _).far (Ne.symm hxy) _).far (Ne.symm hxy) _
  have kX : Blk ((((((w4.setCell ⟨gx, 0, none⟩ (.bool s3)).setCell ⟨gx, 1, none⟩ (.slice A3 l3 c3)).setCell ⟨gx, 2, none⟩ (.slice B3 m3 k3)).setCell ⟨gy, 0, none⟩ (.bool s2)).setCell ⟨gy, 1, none⟩ (.slice A2 l2 c2)).setCell ⟨gy, 2, none⟩ (.slice B2 m2 k2)) gx 96 #[.bool s3, .slice A3 l3 c3, .slice B3 m3 k3] := ((q1.far hxy _).far hxy _).far hxy _
  have kY : Blk ((((((w4.setCell ⟨gx, 0, none⟩ (.bool s3)).setCell ⟨gx, 1, none⟩ (.slice A3 l3 c3)).setCell ⟨gx, 2, none⟩ (.slice B3 m3 k3)).setCell ⟨gy, 0, none⟩ (.bool s2)).setCell ⟨gy, 1, none⟩ (.slice A2 l2 c2)).setCell ⟨gy, 2, none⟩ (.slice B2 m2 k2)) gy 96 #[.bool s2, .slice A2 l2 c2, .slice B2 m2 k2] := ((q2.set 0 _).set 1 _).set 2 _
  have kR : Blk ((((((w4.setCell ⟨gx, 0, none⟩ (.bool s3)).setCell ⟨gx, 1, none⟩ (.slice A3 l3 c3)).setCell ⟨gx, 2, none⟩ (.slice B3 m3 k3)).setCell ⟨gy, 0, none⟩ (.bool s2)).setCell ⟨gy, 1, none⟩ (.slice A2 l2 c2)).setCell ⟨gy, 2, none⟩ (.slice B2 m2 k2)) (w.heap.size + 2) 62 #[.int .i64 0, .int .i64 0] := (((((KR.out.far hr1 _).far hr1 _).far hr1 _).far hr2 _).far hr2 _).far hr2 _
  have hN2 := NumX.boxed (NumX.boxed HN2.out (NoInts.three KX.out) s3 A3 B3 l3 c3 m3 k3) (NoInts.three q2) s2 A2 B2 l2 c2 m2 k2
  have hN3 := NumX.boxed (NumX.boxed HN3.out (NoInts.three KX.out) s3 A3 B3 l3 c3 m3 k3) (NoInts.three q2) s2 A2 B2 l2 c2 m2 k2
  generalize ((((((w4.setCell ⟨gx, 0, none⟩ (.bool s3)).setCell ⟨gx, 1, none⟩ (.slice A3 l3 c3)).setCell ⟨gx, 2, none⟩ (.slice B3 m3 k3)).setCell ⟨gy, 0, none⟩ (.bool s2)).setCell ⟨gy, 1, none⟩ (.slice A2 l2 c2)).setCell ⟨gy, 2, none⟩ (.slice B2 m2 k2)) = w5 at hXs kX kY kR hN2 hN3 ⊢
  clear HX KX KY KR HN2 HN3 q1 q2
  have HX := Lib.hid hXs
  have KX := Lib.hid kX
  have KY := Lib.hid kY
  have KR := Lib.hid kR
  have HN2 := Lib.hid hN2
  have HN3 := Lib.hid hN3
  clear hXs kX kY kR hN2 hN3
  have cX0 : w5.cell? ⟨gx, 0, none⟩ = some (.bool s3) := KX.out.cell 0
  have cX1 : w5.cell? ⟨gx, 1, none⟩ = some (.slice A3 l3 c3) := KX.out.cell 1
  have cX2 : w5.cell? ⟨gx, 2, none⟩ = some (.slice B3 m3 k3) := KX.out.cell 2
  go_wp2_with fail
  clear cX0 cX1 cX2
  refine (xfloorN HN3.out (by omega)).mono ?_
  rw [HNL.out, HBL.out]
  rintro e w6 ⟨rfl, hX⟩
  replace hX : Ext w5 w6 := by with_reducible exact hX
  replace HX := Lib.hid (HX.out.trans hX)
  replace HN2 := Lib.hid (HN2.out.ext hX)
  replace HN3 := Lib.hid (HN3.out.ext hX)
  replace KR := Lib.hid (KR.out.ext hX)
  replace KX := Lib.hid (KX.out.ext hX)
  replace KY := Lib.hid (KY.out.ext hX)
  clear hX
  have cY0 : w6.cell? ⟨gy, 0, none⟩ = some (.bool s2) := KY.out.cell 0
  have cY1 : w6.cell? ⟨gy, 1, none⟩ = some (.slice A2 l2 c2) := KY.out.cell 1
  have cY2 : w6.cell? ⟨gy, 2, none⟩ = some (.slice B2 m2 k2) := KY.out.cell 2
  go_wp2_with fail
  clear cY0 cY1 cY2
  refine (negX HN2.out).mono ?_
  rintro e w7 ⟨v6, rfl, hv, hX⟩
  replace hX : Ext w6 w7 := by with_reducible exact hX
  replace HX := Lib.hid (HX.out.trans hX)
  replace HN2 := Lib.hid (HN2.out.ext hX)
  replace HN3 := Lib.hid (HN3.out.ext hX)
  replace KR := Lib.hid (KR.out.ext hX)
  replace KX := Lib.hid (KX.out.ext hX)
  replace KY := Lib.hid (KY.out.ext hX)
  clear hX
  have HN6 := Lib.hid hv
  clear hv
  go_wp2_with fail
  refine (xfloorN HN6.out (by omega)).mono ?_
  rw [HNH.out, HBH.out]
  rintro e w8 ⟨rfl, hX⟩
  replace hX : Ext w7 w8 := by with_reducible exact hX
  replace HX := Lib.hid (HX.out.trans hX)
  replace HN2 := Lib.hid (HN2.out.ext hX)
  replace HN3 := Lib.hid (HN3.out.ext hX)
  replace HN6 := Lib.hid (HN6.out.ext hX)
  replace KR := Lib.hid (KR.out.ext hX)
  replace KX := Lib.hid (KX.out.ext hX)
  replace KY := Lib.hid (KY.out.ext hX)
  clear hX
  have cR0 : w8.cell? ⟨(w.heap.size + 2), 0, none⟩ = some (.int .i64 0) := KR.out.cell 0
  have fR0 : w8.frozen? ⟨(w.heap.size + 2), 0, none⟩ = false := KR.out.free 0
  have cR1 : w8.cell? ⟨(w.heap.size + 2), 1, none⟩ = some (.int .i64 0) := KR.out.cell 1
  have fR1 : w8.frozen? ⟨(w.heap.size + 2), 1, none⟩ = false := KR.out.free 1
  go_wp2
  refine bodyPost_ret (v := .tuple #[.agg #[.int .i64 0, .int .i64 0], .int .i64 3]) (by simp [results, Try.results64, go_sem, *]) rfl ?_
  exact ⟨rfl, HX.out.two (by omega) _ _⟩

set_option maxRecDepth 100000 in
set_option maxHeartbeats 2000000 in
theorem ecover_n_ok (s0 s1 : Bool) (A0 B0 A1 B1 : Option Addr) (l0 c0 m0 k0 l1 c1 m1 k1 : Nat) (q r : Rat) (sg : Int) (w : World) (hx : RatG w (.agg #[.bool s0, .slice A0 l0 c0, .slice B0 m0 k0]) q) (hy : RatG w (.agg #[.bool s1, .slice A1 l1 c1, .slice B1 m1 k1]) r) (hsg : sgnQ (q - r) = sg) (hs : ¬ 0 < sg) (hlo : endE q.floor = 0) (hhi : endE (-r).floor = 0) :
    Calls Try.prog 64 #[.agg #[.bool s0, .slice A0 l0 c0, .slice B0 m0 k0], .agg #[.bool s1, .slice A1 l1 c1, .slice B1 m1 k1]] w (RetE w (.agg #[.int .i64 q.floor, .int .i64 (-(-r).floor)]) 0) := by
  have HXX := Lib.hid hx
  have HYY := Lib.hid hy
  have HSG := Lib.hid hsg
  clear hx hy hsg
  obtain ⟨nl, hnl⟩ : ∃ z, endV q.floor = z := ⟨_, rfl⟩
  obtain ⟨nh, hnh⟩ : ∃ z, endV (-r).floor = z := ⟨_, rfl⟩
  obtain ⟨bl, hbl⟩ : ∃ z, decide (endE q.floor = 0) = z := ⟨_, rfl⟩
  obtain ⟨bh, hbh⟩ : ∃ z, decide (endE (-r).floor = 0) = z := ⟨_, rfl⟩
  have HNL := Lib.hid hnl
  have HNH := Lib.hid hnh
  have HBL := Lib.hid hbl
  have HBH := Lib.hid hbh
  have e1 : q.floor = nl := by rw [← hnl]; exact (endV_of hlo).symm
  have e2 : (-r).floor = nh := by rw [← hnh]; exact (endV_of hhi).symm
  obtain ⟨z1, z2⟩ := endE_zero hlo
  obtain ⟨z3, z4⟩ := endE_zero hhi
  rw [e1] at z1 z2
  rw [e2] at z3 z4
  rw [e1, e2]
  clear e1 e2
  obtain rfl : bl = true := by rw [← hbl]; exact decide_eq_true hlo
  obtain rfl : bh = true := by rw [← hbh]; exact decide_eq_true hhi
  clear hnl hnh hbl hbh hlo hhi
  have hXe : Ext w ((((w.alloc (.cells #[.bool s0, .slice A0 l0 c0, .slice B0 m0 k0] 33)).alloc (.cells #[.bool s1, .slice A1 l1 c1, .slice B1 m1 k1] 33)).alloc (.cells #[.int .i64 0, .int .i64 0] 62)).alloc (.cells #[.bool s0, .slice A0 l0 c0, .slice B0 m0 k0, .bool s1, .slice A1 l1 c1, .slice B1 m1 k1] 33)) := (((((Ext.refl w).alloc _).alloc _).alloc _).alloc _)
  have kA : Blk ((((w.alloc (.cells #[.bool s0, .slice A0 l0 c0, .slice B0 m0 k0] 33)).alloc (.cells #[.bool s1, .slice A1 l1 c1, .slice B1 m1 k1] 33)).alloc (.cells #[.int .i64 0, .int .i64 0] 62)).alloc (.cells #[.bool s0, .slice A0 l0 c0, .slice B0 m0 k0, .bool s1, .slice A1 l1 c1, .slice B1 m1 k1] 33)) w.heap.size 33 #[.bool s0, .slice A0 l0 c0, .slice B0 m0 k0] := Blk.alloc (Blk.alloc (Blk.alloc (Blk.at_ (by simp)) _) _) _
  have kB : Blk ((((w.alloc (.cells #[.bool s0, .slice A0 l0 c0, .slice B0 m0 k0] 33)).alloc (.cells #[.bool s1, .slice A1 l1 c1, .slice B1 m1 k1] 33)).alloc (.cells #[.int .i64 0, .int .i64 0] 62)).alloc (.cells #[.bool s0, .slice A0 l0 c0, .slice B0 m0 k0, .bool s1, .slice A1 l1 c1, .slice B1 m1 k1] 33)) (w.heap.size + 1) 33 #[.bool s1, .slice A1 l1 c1, .slice B1 m1 k1] := Blk.alloc (Blk.alloc (Blk.at_ (by simp)) _) _
  have kR : Blk ((((w.alloc (.cells #[.bool s0, .slice A0 l0 c0, .slice B0 m0 k0] 33)).alloc (.cells #[.bool s1, .slice A1 l1 c1, .slice B1 m1 k1] 33)).alloc (.cells #[.int .i64 0, .int .i64 0] 62)).alloc (.cells #[.bool s0, .slice A0 l0 c0, .slice B0 m0 k0, .bool s1, .slice A1 l1 c1, .slice B1 m1 k1] 33)) (w.heap.size + 2) 62 #[.int .i64 0, .int .i64 0] := Blk.alloc (Blk.at_ (by simp)) _
  have kP : Blk ((((w.alloc (.cells #[.bool s0, .slice A0 l0 c0, .slice B0 m0 k0] 33)).alloc (.cells #[.bool s1, .slice A1 l1 c1, .slice B1 m1 k1] 33)).alloc (.cells #[.int .i64 0, .int .i64 0] 62)).alloc (.cells #[.bool s0, .slice A0 l0 c0, .slice B0 m0 k0, .bool s1, .slice A1 l1 c1, .slice B1 m1 k1] 33)) (w.heap.size + 3) 33 #[.bool s0, .slice A0 l0 c0, .slice B0 m0 k0, .bool s1, .slice A1 l1 c1, .slice B1 m1 k1] := Blk.at_ (by simp)
  go_enter Try.func64, Try.ntmps64
  go_wp2_with fail
  generalize ((((w.alloc (.cells #[.bool s0, .slice A0 l0 c0, .slice B0 m0 k0] 33)).alloc (.cells #[.bool s1, .slice A1 l1 c1, .slice B1 m1 k1] 33)).alloc (.cells #[.int .i64 0, .int .i64 0] 62)).alloc (.cells #[.bool s0, .slice A0 l0 c0, .slice B0 m0 k0, .bool s1, .slice A1 l1 c1, .slice B1 m1 k1] 33)) = w1 at hXe kA kB kR kP ⊢
  have HX := Lib.hid hXe
  clear hXe
  have KA := Lib.hid kA
  clear kA
  have KB := Lib.hid kB
  clear kB
  have KR := Lib.hid kR
  clear kR
  have KP := Lib.hid kP
  clear kP
  refine (anyLarge_two s0 s1 A0 B0 A1 B1 l0 c0 m0 k0 l1 c1 m1 k1 false false _ _ KP.out ((HXX.out.small).ext HX.out) ((HYY.out.small).ext HX.out)).mono ?_
  rintro e w2 ⟨rfl, hX⟩
  replace hX : Ext w1 w2 := by with_reducible exact hX
  replace HX := Lib.hid (HX.out.trans hX)
  replace KA := Lib.hid (KA.out.ext hX)
  replace KB := Lib.hid (KB.out.ext hX)
  replace KR := Lib.hid (KR.out.ext hX)
  replace KP := Lib.hid (KP.out.ext hX)
  clear hX
  clear KP
  replace HXX := Lib.hid (HXX.out.ext HX.out)
  replace HYY := Lib.hid (HYY.out.ext HX.out)
  have zR := KR.out.lt
  go_upto_region 3 with (fail)
  refine cover_r3 w.heap.size (w.heap.size + 1) s0 A0 B0 l0 c0 m0 k0 s1 A1 B1 l1 c1 m1 k1 q r w2 (KA.out.cell 0) (KA.out.cell 1) (KA.out.cell 2) (KB.out.cell 0) (KB.out.cell 1) (KB.out.cell 2) HXX.out HYY.out _ _ (by simp) rfl rfl ?_
  rintro xv0 xv1 xv2 xv3 xv4 xv5 xv6 xv7 w3 rfl rfl h1 h3 ⟨gx, rfl, hgx, hBx⟩ ⟨gy, rfl, hgy, hBy⟩ hne hXW
  simp only [rops, Try.f64, regOf, Option.bind_some, Nat.reduceBEq, if_true, if_false, Bool.false_eq_true, Option.getD_some, List.drop_succ_cons, List.drop_zero]
  simp only [Act.put, List.setIfInBounds_toArray, List.set_cons_succ, List.set_cons_zero]
  replace HX := Lib.hid (HX.out.trans hXW)
  replace HXX := Lib.hid (HXX.out.ext hXW)
  replace HYY := Lib.hid (HYY.out.ext hXW)
  replace KA := Lib.hid (KA.out.ext hXW)
  replace KB := Lib.hid (KB.out.ext hXW)
  replace KR := Lib.hid (KR.out.ext hXW)
  clear hXW
  clear HXX
  clear HYY
  clear KA
  clear KB
  obtain ⟨s2, A2, l2, c2, B2, m2, k2, rfl⟩ := NumX.open h1
  obtain ⟨s3, A3, l3, c3, B3, m3, k3, rfl⟩ := NumX.open h3
  have KX : Hid (Blk w3 gx 96 #[.bool s2, .slice A2 l2 c2, .slice B2 m2 k2]) := hBx
  have KY : Hid (Blk w3 gy 96 #[.bool s3, .slice A3 l3 c3, .slice B3 m3 k3]) := hBy
  have HN2 := Lib.hid h1
  have HN3 := Lib.hid h3
  have hxy : gx ≠ gy := by
    rintro rfl
    exact hne rfl
  have hrx : w.heap.size + 2 ≠ gx ∧ w.heap.size + 2 ≠ gy ∧ w.heap.size ≤ gx ∧ w.heap.size ≤ gy := by have := HX.out.size; omega
  obtain ⟨hr1, hr2, hr3, hr4⟩ := hrx
  clear h1 h3 hBx hBy hne hgx hgy
  have cX0 : w3.cell? ⟨gx, 0, none⟩ = some (.bool s2) := KX.out.cell 0
  have cX1 : w3.cell? ⟨gx, 1, none⟩ = some (.slice A2 l2 c2) := KX.out.cell 1
  have cX2 : w3.cell? ⟨gx, 2, none⟩ = some (.slice B2 m2 k2) := KX.out.cell 2
  have cY0 : w3.cell? ⟨gy, 0, none⟩ = some (.bool s3) := KY.out.cell 0
  have cY1 : w3.cell? ⟨gy, 1, none⟩ = some (.slice A3 l3 c3) := KY.out.cell 1
  have cY2 : w3.cell? ⟨gy, 2, none⟩ = some (.slice B3 m3 k3) := KY.out.cell 2
  go_wp2_with fail
  clear cX0 cX1 cX2 cY0 cY1 cY2
  refine (cmpX HN2.out HN3.out (by omega)).mono ?_
  rw [HSG.out]
  rintro e w4 ⟨rfl, hX⟩
  replace hX : Ext w3 w4 := by with_reducible exact hX
  replace HX := Lib.hid (HX.out.trans hX)
  replace HN2 := Lib.hid (HN2.out.ext hX)
  replace HN3 := Lib.hid (HN3.out.ext hX)
  replace KR := Lib.hid (KR.out.ext hX)
  replace KX := Lib.hid (KX.out.ext hX)
  replace KY := Lib.hid (KY.out.ext hX)
  clear hX
  have cX0 : w4.cell? ⟨gx, 0, none⟩ = some (.bool s2) := KX.out.cell 0
  have cX1 : w4.cell? ⟨gx, 1, none⟩ = some (.slice A2 l2 c2) := KX.out.cell 1
  have cX2 : w4.cell? ⟨gx, 2, none⟩ = some (.slice B2 m2 k2) := KX.out.cell 2
  go_wp2_with fail
  clear cX0 cX1 cX2
  refine (xfloorN HN2.out (by omega)).mono ?_
  rw [HNL.out, HBL.out]
  rintro e w5 ⟨rfl, hX⟩
  replace hX : Ext w4 w5 := by with_reducible exact hX
  replace HX := Lib.hid (HX.out.trans hX)
  replace HN2 := Lib.hid (HN2.out.ext hX)
  replace HN3 := Lib.hid (HN3.out.ext hX)
  replace KR := Lib.hid (KR.out.ext hX)
  replace KX := Lib.hid (KX.out.ext hX)
  replace KY := Lib.hid (KY.out.ext hX)
  clear hX
  have cY0 : w5.cell? ⟨gy, 0, none⟩ = some (.bool s3) := KY.out.cell 0
  have cY1 : w5.cell? ⟨gy, 1, none⟩ = some (.slice A3 l3 c3) := KY.out.cell 1
  have cY2 : w5.cell? ⟨gy, 2, none⟩ = some (.slice B3 m3 k3) := KY.out.cell 2
  go_wp2_with fail
  clear cY0 cY1 cY2
  refine (negX HN3.out).mono ?_
  rintro e w6 ⟨v6, rfl, hv, hX⟩
  replace hX : Ext w5 w6 := by with_reducible exact hX
  replace HX := Lib.hid (HX.out.trans hX)
  replace HN2 := Lib.hid (HN2.out.ext hX)
  replace HN3 := Lib.hid (HN3.out.ext hX)
  replace KR := Lib.hid (KR.out.ext hX)
  replace KX := Lib.hid (KX.out.ext hX)
  replace KY := Lib.hid (KY.out.ext hX)
  clear hX
  have HN6 := Lib.hid hv
  clear hv
  go_wp2_with fail
  refine (xfloorN HN6.out (by omega)).mono ?_
  rw [HNH.out, HBH.out]
  rintro e w7 ⟨rfl, hX⟩
  replace hX : Ext w6 w7 := by with_reducible exact hX
  replace HX := Lib.hid (HX.out.trans hX)
  replace HN2 := Lib.hid (HN2.out.ext hX)
  replace HN3 := Lib.hid (HN3.out.ext hX)
  replace HN6 := Lib.hid (HN6.out.ext hX)
  replace KR := Lib.hid (KR.out.ext hX)
  replace KX := Lib.hid (KX.out.ext hX)
  replace KY := Lib.hid (KY.out.ext hX)
  clear hX
  go_wp2_with fail
  refine (span_ok nl (-nh) _ z1 (by omega)).mono ?_
  unfold RetE
  rintro e w8 ⟨rfl, hX⟩
  replace hX : Ext w7 w8 := by with_reducible exact hX
  replace HX := Lib.hid (HX.out.trans hX)
  replace HN2 := Lib.hid (HN2.out.ext hX)
  replace HN3 := Lib.hid (HN3.out.ext hX)
  replace HN6 := Lib.hid (HN6.out.ext hX)
  replace KR := Lib.hid (KR.out.ext hX)
  replace KX := Lib.hid (KX.out.ext hX)
  replace KY := Lib.hid (KY.out.ext hX)
  clear hX
  have cR0 : w8.cell? ⟨(w.heap.size + 2), 0, none⟩ = some (.int .i64 0) := KR.out.cell 0
  have fR0 : w8.frozen? ⟨(w.heap.size + 2), 0, none⟩ = false := KR.out.free 0
  have cR1 : w8.cell? ⟨(w.heap.size + 2), 1, none⟩ = some (.int .i64 0) := KR.out.cell 1
  have fR1 : w8.frozen? ⟨(w.heap.size + 2), 1, none⟩ = false := KR.out.free 1
  go_wp2
  refine bodyPost_ret (v := .tuple #[.agg #[.int .i64 nl, .int .i64 (-nh)], .int .i64 0]) (by simp [results, Try.results64, go_sem, *]) rfl ?_
  exact ⟨rfl, HX.out.two (by omega) _ _⟩

set_option maxRecDepth 100000 in
set_option maxHeartbeats 2000000 in
theorem ecover_n_lo (s0 s1 : Bool) (A0 B0 A1 B1 : Option Addr) (l0 c0 m0 k0 l1 c1 m1 k1 : Nat) (q r : Rat) (sg : Int) (w : World) (hx : RatG w (.agg #[.bool s0, .slice A0 l0 c0, .slice B0 m0 k0]) q) (hy : RatG w (.agg #[.bool s1, .slice A1 l1 c1, .slice B1 m1 k1]) r) (hsg : sgnQ (q - r) = sg) (hs : ¬ 0 < sg) (hlo : endE q.floor = 3) :
    Calls Try.prog 64 #[.agg #[.bool s0, .slice A0 l0 c0, .slice B0 m0 k0], .agg #[.bool s1, .slice A1 l1 c1, .slice B1 m1 k1]] w (RetE w (.agg #[.int .i64 0, .int .i64 0]) 3) := by
  have HXX := Lib.hid hx
  have HYY := Lib.hid hy
  have HSG := Lib.hid hsg
  clear hx hy hsg
  obtain ⟨nl, hnl⟩ : ∃ z, endV q.floor = z := ⟨_, rfl⟩
  obtain ⟨nh, hnh⟩ : ∃ z, endV (-r).floor = z := ⟨_, rfl⟩
  obtain ⟨bl, hbl⟩ : ∃ z, decide (endE q.floor = 0) = z := ⟨_, rfl⟩
  obtain ⟨bh, hbh⟩ : ∃ z, decide (endE (-r).floor = 0) = z := ⟨_, rfl⟩
  have HNL := Lib.hid hnl
  have HNH := Lib.hid hnh
  have HBL := Lib.hid hbl
  have HBH := Lib.hid hbh
  obtain rfl : bl = false := by rw [← hbl]; exact decide_eq_false (by omega)
  clear hnl hnh hbl hbh hlo
  have hXe : Ext w ((((w.alloc (.cells #[.bool s0, .slice A0 l0 c0, .slice B0 m0 k0] 33)).alloc (.cells #[.bool s1, .slice A1 l1 c1, .slice B1 m1 k1] 33)).alloc (.cells #[.int .i64 0, .int .i64 0] 62)).alloc (.cells #[.bool s0, .slice A0 l0 c0, .slice B0 m0 k0, .bool s1, .slice A1 l1 c1, .slice B1 m1 k1] 33)) := (((((Ext.refl w).alloc _).alloc _).alloc _).alloc _)
  have kA : Blk ((((w.alloc (.cells #[.bool s0, .slice A0 l0 c0, .slice B0 m0 k0] 33)).alloc (.cells #[.bool s1, .slice A1 l1 c1, .slice B1 m1 k1] 33)).alloc (.cells #[.int .i64 0, .int .i64 0] 62)).alloc (.cells #[.bool s0, .slice A0 l0 c0, .slice B0 m0 k0, .bool s1, .slice A1 l1 c1, .slice B1 m1 k1] 33)) w.heap.size 33 #[.bool s0, .slice A0 l0 c0, .slice B0 m0 k0] := Blk.alloc (Blk.alloc (Blk.alloc (Blk.at_ (by simp)) _) _) _
  have kB : Blk ((((w.alloc (.cells #[.bool s0, .slice A0 l0 c0, .slice B0 m0 k0] 33)).alloc (.cells #[.bool s1, .slice A1 l1 c1, .slice B1 m1 k1] 33)).alloc (.cells #[.int .i64 0, .int .i64 0] 62)).alloc (.cells #[.bool s0, .slice A0 l0 c0, .slice B0 m0 k0, .bool s1, .slice A1 l1 c1, .slice B1 m1 k1] 33)) (w.heap.size + 1) 33 #[.bool s1, .slice A1 l1 c1, .slice B1 m1 k1] := Blk.alloc (Blk.alloc (Blk.at_ (by simp)) _) _
  have kR : Blk ((((w.alloc (.cells #[.bool s0, .slice A0 l0 c0, .slice B0 m0 k0] 33)).alloc (.cells #[.bool s1, .slice A1 l1 c1, .slice B1 m1 k1] 33)).alloc (.cells #[.int .i64 0, .int .i64 0] 62)).alloc (.cells #[.bool s0, .slice A0 l0 c0, .slice B0 m0 k0, .bool s1, .slice A1 l1 c1, .slice B1 m1 k1] 33)) (w.heap.size + 2) 62 #[.int .i64 0, .int .i64 0] := Blk.alloc (Blk.at_ (by simp)) _
  have kP : Blk ((((w.alloc (.cells #[.bool s0, .slice A0 l0 c0, .slice B0 m0 k0] 33)).alloc (.cells #[.bool s1, .slice A1 l1 c1, .slice B1 m1 k1] 33)).alloc (.cells #[.int .i64 0, .int .i64 0] 62)).alloc (.cells #[.bool s0, .slice A0 l0 c0, .slice B0 m0 k0, .bool s1, .slice A1 l1 c1, .slice B1 m1 k1] 33)) (w.heap.size + 3) 33 #[.bool s0, .slice A0 l0 c0, .slice B0 m0 k0, .bool s1, .slice A1 l1 c1, .slice B1 m1 k1] := Blk.at_ (by simp)
  go_enter Try.func64, Try.ntmps64
  go_wp2_with fail
  generalize ((((w.alloc (.cells #[.bool s0, .slice A0 l0 c0, .slice B0 m0 k0] 33)).alloc (.cells #[.bool s1, .slice A1 l1 c1, .slice B1 m1 k1] 33)).alloc (.cells #[.int .i64 0, .int .i64 0] 62)).alloc (.cells #[.bool s0, .slice A0 l0 c0, .slice B0 m0 k0, .bool s1, .slice A1 l1 c1, .slice B1 m1 k1] 33)) = w1 at hXe kA kB kR kP ⊢
  have HX := Lib.hid hXe
  clear hXe
  have KA := Lib.hid kA
  clear kA
  have KB := Lib.hid kB
  clear kB
  have KR := Lib.hid kR
  clear kR
  have KP := Lib.hid kP
  clear kP
  refine (anyLarge_two s0 s1 A0 B0 A1 B1 l0 c0 m0 k0 l1 c1 m1 k1 false false _ _ KP.out ((HXX.out.small).ext HX.out) ((HYY.out.small).ext HX.out)).mono ?_
  rintro e w2 ⟨rfl, hX⟩
  replace hX : Ext w1 w2 := by with_reducible exact hX
  replace HX := Lib.hid (HX.out.trans hX)
  replace KA := Lib.hid (KA.out.ext hX)
  replace KB := Lib.hid (KB.out.ext hX)
  replace KR := Lib.hid (KR.out.ext hX)
  replace KP := Lib.hid (KP.out.ext hX)
  clear hX
  clear KP
  replace HXX := Lib.hid (HXX.out.ext HX.out)
  replace HYY := Lib.hid (HYY.out.ext HX.out)
  have zR := KR.out.lt
  go_upto_region 3 with (fail)
  refine cover_r3 w.heap.size (w.heap.size + 1) s0 A0 B0 l0 c0 m0 k0 s1 A1 B1 l1 c1 m1 k1 q r w2 (KA.out.cell 0) (KA.out.cell 1) (KA.out.cell 2) (KB.out.cell 0) (KB.out.cell 1) (KB.out.cell 2) HXX.out HYY.out _ _ (by simp) rfl rfl ?_
  rintro xv0 xv1 xv2 xv3 xv4 xv5 xv6 xv7 w3 rfl rfl h1 h3 ⟨gx, rfl, hgx, hBx⟩ ⟨gy, rfl, hgy, hBy⟩ hne hXW
  simp only [rops, Try.f64, regOf, Option.bind_some, Nat.reduceBEq, if_true, if_false, Bool.false_eq_true, Option.getD_some, List.drop_succ_cons, List.drop_zero]
  simp only [Act.put, List.setIfInBounds_toArray, List.set_cons_succ, List.set_cons_zero]
  replace HX := Lib.hid (HX.out.trans hXW)
  replace HXX := Lib.hid (HXX.out.ext hXW)
  replace HYY := Lib.hid (HYY.out.ext hXW)
  replace KA := Lib.hid (KA.out.ext hXW)
  replace KB := Lib.hid (KB.out.ext hXW)
  replace KR := Lib.hid (KR.out.ext hXW)
  clear hXW
  clear HXX
  clear HYY
  clear KA
  clear KB
  obtain ⟨s2, A2, l2, c2, B2, m2, k2, rfl⟩ := NumX.open h1
  obtain ⟨s3, A3, l3, c3, B3, m3, k3, rfl⟩ := NumX.open h3
  have KX : Hid (Blk w3 gx 96 #[.bool s2, .slice A2 l2 c2, .slice B2 m2 k2]) := hBx
  have KY : Hid (Blk w3 gy 96 #[.bool s3, .slice A3 l3 c3, .slice B3 m3 k3]) := hBy
  have HN2 := Lib.hid h1
  have HN3 := Lib.hid h3
  have hxy : gx ≠ gy := by
    rintro rfl
    exact hne rfl
  have hrx : w.heap.size + 2 ≠ gx ∧ w.heap.size + 2 ≠ gy ∧ w.heap.size ≤ gx ∧ w.heap.size ≤ gy := by have := HX.out.size; omega
  obtain ⟨hr1, hr2, hr3, hr4⟩ := hrx
  clear h1 h3 hBx hBy hne hgx hgy
  have cX0 : w3.cell? ⟨gx, 0, none⟩ = some (.bool s2) := KX.out.cell 0
  have cX1 : w3.cell? ⟨gx, 1, none⟩ = some (.slice A2 l2 c2) := KX.out.cell 1
  have cX2 : w3.cell? ⟨gx, 2, none⟩ = some (.slice B2 m2 k2) := KX.out.cell 2
  have cY0 : w3.cell? ⟨gy, 0, none⟩ = some (.bool s3) := KY.out.cell 0
  have cY1 : w3.cell? ⟨gy, 1, none⟩ = some (.slice A3 l3 c3) := KY.out.cell 1
  have cY2 : w3.cell? ⟨gy, 2, none⟩ = some (.slice B3 m3 k3) := KY.out.cell 2
  go_wp2_with fail
  clear cX0 cX1 cX2 cY0 cY1 cY2
  refine (cmpX HN2.out HN3.out (by omega)).mono ?_
  rw [HSG.out]
  rintro e w4 ⟨rfl, hX⟩
  replace hX : Ext w3 w4 := by with_reducible exact hX
  replace HX := Lib.hid (HX.out.trans hX)
  replace HN2 := Lib.hid (HN2.out.ext hX)
  replace HN3 := Lib.hid (HN3.out.ext hX)
  replace KR := Lib.hid (KR.out.ext hX)
  replace KX := Lib.hid (KX.out.ext hX)
  replace KY := Lib.hid (KY.out.ext hX)
  clear hX
  have cX0 : w4.cell? ⟨gx, 0, none⟩ = some (.bool s2) := KX.out.cell 0
  have cX1 : w4.cell? ⟨gx, 1, none⟩ = some (.slice A2 l2 c2) := KX.out.cell 1
  have cX2 : w4.cell? ⟨gx, 2, none⟩ = some (.slice B2 m2 k2) := KX.out.cell 2
  go_wp2_with fail
  clear cX0 cX1 cX2
  refine (xfloorN HN2.out (by omega)).mono ?_
  rw [HNL.out, HBL.out]
  rintro e w5 ⟨rfl, hX⟩
  replace hX : Ext w4 w5 := by with_reducible exact hX
  replace HX := Lib.hid (HX.out.trans hX)
  replace HN2 := Lib.hid (HN2.out.ext hX)
  replace HN3 := Lib.hid (HN3.out.ext hX)
  replace KR := Lib.hid (KR.out.ext hX)
  replace KX := Lib.hid (KX.out.ext hX)
  replace KY := Lib.hid (KY.out.ext hX)
  clear hX
  have cY0 : w5.cell? ⟨gy, 0, none⟩ = some (.bool s3) := KY.out.cell 0
  have cY1 : w5.cell? ⟨gy, 1, none⟩ = some (.slice A3 l3 c3) := KY.out.cell 1
  have cY2 : w5.cell? ⟨gy, 2, none⟩ = some (.slice B3 m3 k3) := KY.out.cell 2
  go_wp2_with fail
  clear cY0 cY1 cY2
  refine (negX HN3.out).mono ?_
  rintro e w6 ⟨v6, rfl, hv, hX⟩
  replace hX : Ext w5 w6 := by with_reducible exact hX
  replace HX := Lib.hid (HX.out.trans hX)
  replace HN2 := Lib.hid (HN2.out.ext hX)
  replace HN3 := Lib.hid (HN3.out.ext hX)
  replace KR := Lib.hid (KR.out.ext hX)
  replace KX := Lib.hid (KX.out.ext hX)
  replace KY := Lib.hid (KY.out.ext hX)
  clear hX
  have HN6 := Lib.hid hv
  clear hv
  go_wp2_with fail
  refine (xfloorN HN6.out (by omega)).mono ?_
  rw [HNH.out, HBH.out]
  rintro e w7 ⟨rfl, hX⟩
  replace hX : Ext w6 w7 := by with_reducible exact hX
  replace HX := Lib.hid (HX.out.trans hX)
  replace HN2 := Lib.hid (HN2.out.ext hX)
  replace HN3 := Lib.hid (HN3.out.ext hX)
  replace HN6 := Lib.hid (HN6.out.ext hX)
  replace KR := Lib.hid (KR.out.ext hX)
  replace KX := Lib.hid (KX.out.ext hX)
  replace KY := Lib.hid (KY.out.ext hX)
  clear hX
  have cR0 : w7.cell? ⟨(w.heap.size + 2), 0, none⟩ = some (.int .i64 0) := KR.out.cell 0
  have fR0 : w7.frozen? ⟨(w.heap.size + 2), 0, none⟩ = false := KR.out.free 0
  have cR1 : w7.cell? ⟨(w.heap.size + 2), 1, none⟩ = some (.int .i64 0) := KR.out.cell 1
  have fR1 : w7.frozen? ⟨(w.heap.size + 2), 1, none⟩ = false := KR.out.free 1
  go_wp2
  refine bodyPost_ret (v := .tuple #[.agg #[.int .i64 0, .int .i64 0], .int .i64 3]) (by simp [results, Try.results64, go_sem, *]) rfl ?_
  exact ⟨rfl, HX.out.two (by omega) _ _⟩

set_option maxRecDepth 100000 in
set_option maxHeartbeats 2000000 in
theorem ecover_n_hi (s0 s1 : Bool) (A0 B0 A1 B1 : Option Addr) (l0 c0 m0 k0 l1 c1 m1 k1 : Nat) (q r : Rat) (sg : Int) (w : World) (hx : RatG w (.agg #[.bool s0, .slice A0 l0 c0, .slice B0 m0 k0]) q) (hy : RatG w (.agg #[.bool s1, .slice A1 l1 c1, .slice B1 m1 k1]) r) (hsg : sgnQ (q - r) = sg) (hs : ¬ 0 < sg) (hlo : endE q.floor = 0) (hhi : endE (-r).floor = 3) :
    Calls Try.prog 64 #[.agg #[.bool s0, .slice A0 l0 c0, .slice B0 m0 k0], .agg #[.bool s1, .slice A1 l1 c1, .slice B1 m1 k1]] w (RetE w (.agg #[.int .i64 0, .int .i64 0]) 3) := by
  have HXX := Lib.hid hx
  have HYY := Lib.hid hy
  have HSG := Lib.hid hsg
  clear hx hy hsg
  obtain ⟨nl, hnl⟩ : ∃ z, endV q.floor = z := ⟨_, rfl⟩
  obtain ⟨nh, hnh⟩ : ∃ z, endV (-r).floor = z := ⟨_, rfl⟩
  obtain ⟨bl, hbl⟩ : ∃ z, decide (endE q.floor = 0) = z := ⟨_, rfl⟩
  obtain ⟨bh, hbh⟩ : ∃ z, decide (endE (-r).floor = 0) = z := ⟨_, rfl⟩
  have HNL := Lib.hid hnl
  have HNH := Lib.hid hnh
  have HBL := Lib.hid hbl
  have HBH := Lib.hid hbh
  obtain rfl : bl = true := by rw [← hbl]; exact decide_eq_true hlo
  obtain rfl : bh = false := by rw [← hbh]; exact decide_eq_false (by omega)
  clear hnl hnh hbl hbh hlo hhi
  have hXe : Ext w ((((w.alloc (.cells #[.bool s0, .slice A0 l0 c0, .slice B0 m0 k0] 33)).alloc (.cells #[.bool s1, .slice A1 l1 c1, .slice B1 m1 k1] 33)).alloc (.cells #[.int .i64 0, .int .i64 0] 62)).alloc (.cells #[.bool s0, .slice A0 l0 c0, .slice B0 m0 k0, .bool s1, .slice A1 l1 c1, .slice B1 m1 k1] 33)) := (((((Ext.refl w).alloc _).alloc _).alloc _).alloc _)
  have kA : Blk ((((w.alloc (.cells #[.bool s0, .slice A0 l0 c0, .slice B0 m0 k0] 33)).alloc (.cells #[.bool s1, .slice A1 l1 c1, .slice B1 m1 k1] 33)).alloc (.cells #[.int .i64 0, .int .i64 0] 62)).alloc (.cells #[.bool s0, .slice A0 l0 c0, .slice B0 m0 k0, .bool s1, .slice A1 l1 c1, .slice B1 m1 k1] 33)) w.heap.size 33 #[.bool s0, .slice A0 l0 c0, .slice B0 m0 k0] := Blk.alloc (Blk.alloc (Blk.alloc (Blk.at_ (by simp)) _) _) _
  have kB : Blk ((((w.alloc (.cells #[.bool s0, .slice A0 l0 c0, .slice B0 m0 k0] 33)).alloc (.cells #[.bool s1, .slice A1 l1 c1, .slice B1 m1 k1] 33)).alloc (.cells #[.int .i64 0, .int .i64 0] 62)).alloc (.cells #[.bool s0, .slice A0 l0 c0, .slice B0 m0 k0, .bool s1, .slice A1 l1 c1, .slice B1 m1 k1] 33)) (w.heap.size + 1) 33 #[.bool s1, .slice A1 l1 c1, .slice B1 m1 k1] := Blk.alloc (Blk.alloc (Blk.at_ (by simp)) _) _
  have kR : Blk ((((w.alloc (.cells #[.bool s0, .slice A0 l0 c0, .slice B0 m0 k0] 33)).alloc (.cells #[.bool s1, .slice A1 l1 c1, .slice B1 m1 k1] 33)).alloc (.cells #[.int .i64 0, .int .i64 0] 62)).alloc (.cells #[.bool s0, .slice A0 l0 c0, .slice B0 m0 k0, .bool s1, .slice A1 l1 c1, .slice B1 m1 k1] 33)) (w.heap.size + 2) 62 #[.int .i64 0, .int .i64 0] := Blk.alloc (Blk.at_ (by simp)) _
  have kP : Blk ((((w.alloc (.cells #[.bool s0, .slice A0 l0 c0, .slice B0 m0 k0] 33)).alloc (.cells #[.bool s1, .slice A1 l1 c1, .slice B1 m1 k1] 33)).alloc (.cells #[.int .i64 0, .int .i64 0] 62)).alloc (.cells #[.bool s0, .slice A0 l0 c0, .slice B0 m0 k0, .bool s1, .slice A1 l1 c1, .slice B1 m1 k1] 33)) (w.heap.size + 3) 33 #[.bool s0, .slice A0 l0 c0, .slice B0 m0 k0, .bool s1, .slice A1 l1 c1, .slice B1 m1 k1] := Blk.at_ (by simp)
  go_enter Try.func64, Try.ntmps64
  go_wp2_with fail
  generalize ((((w.alloc (.cells #[.bool s0, .slice A0 l0 c0, .slice B0 m0 k0] 33)).alloc (.cells #[.bool s1, .slice A1 l1 c1, .slice B1 m1 k1] 33)).alloc (.cells #[.int .i64 0, .int .i64 0] 62)).alloc (.cells #[.bool s0, .slice A0 l0 c0, .slice B0 m0 k0, .bool s1, .slice A1 l1 c1, .slice B1 m1 k1] 33)) = w1 at hXe kA kB kR kP ⊢
  have HX := Lib.hid hXe
  clear hXe
  have KA := Lib.hid kA
  clear kA
  have KB := Lib.hid kB
  clear kB
  have KR := Lib.hid kR
  clear kR
  have KP := Lib.hid kP
  clear kP
  refine (anyLarge_two s0 s1 A0 B0 A1 B1 l0 c0 m0 k0 l1 c1 m1 k1 false false _ _ KP.out ((HXX.out.small).ext HX.out) ((HYY.out.small).ext HX.out)).mono ?_
  rintro e w2 ⟨rfl, hX⟩
  replace hX : Ext w1 w2 := by with_reducible exact hX
  replace HX := Lib.hid (HX.out.trans hX)
  replace KA := Lib.hid (KA.out.ext hX)
  replace KB := Lib.hid (KB.out.ext hX)
  replace KR := Lib.hid (KR.out.ext hX)
  replace KP := Lib.hid (KP.out.ext hX)
  clear hX
  clear KP
  replace HXX := Lib.hid (HXX.out.ext HX.out)
  replace HYY := Lib.hid (HYY.out.ext HX.out)
  have zR := KR.out.lt
  go_upto_region 3 with (fail)
  refine cover_r3 w.heap.size (w.heap.size + 1) s0 A0 B0 l0 c0 m0 k0 s1 A1 B1 l1 c1 m1 k1 q r w2 (KA.out.cell 0) (KA.out.cell 1) (KA.out.cell 2) (KB.out.cell 0) (KB.out.cell 1) (KB.out.cell 2) HXX.out HYY.out _ _ (by simp) rfl rfl ?_
  rintro xv0 xv1 xv2 xv3 xv4 xv5 xv6 xv7 w3 rfl rfl h1 h3 ⟨gx, rfl, hgx, hBx⟩ ⟨gy, rfl, hgy, hBy⟩ hne hXW
  simp only [rops, Try.f64, regOf, Option.bind_some, Nat.reduceBEq, if_true, if_false, Bool.false_eq_true, Option.getD_some, List.drop_succ_cons, List.drop_zero]
  simp only [Act.put, List.setIfInBounds_toArray, List.set_cons_succ, List.set_cons_zero]
  replace HX := Lib.hid (HX.out.trans hXW)
  replace HXX := Lib.hid (HXX.out.ext hXW)
  replace HYY := Lib.hid (HYY.out.ext hXW)
  replace KA := Lib.hid (KA.out.ext hXW)
  replace KB := Lib.hid (KB.out.ext hXW)
  replace KR := Lib.hid (KR.out.ext hXW)
  clear hXW
  clear HXX
  clear HYY
  clear KA
  clear KB
  obtain ⟨s2, A2, l2, c2, B2, m2, k2, rfl⟩ := NumX.open h1
  obtain ⟨s3, A3, l3, c3, B3, m3, k3, rfl⟩ := NumX.open h3
  have KX : Hid (Blk w3 gx 96 #[.bool s2, .slice A2 l2 c2, .slice B2 m2 k2]) := hBx
  have KY : Hid (Blk w3 gy 96 #[.bool s3, .slice A3 l3 c3, .slice B3 m3 k3]) := hBy
  have HN2 := Lib.hid h1
  have HN3 := Lib.hid h3
  have hxy : gx ≠ gy := by
    rintro rfl
    exact hne rfl
  have hrx : w.heap.size + 2 ≠ gx ∧ w.heap.size + 2 ≠ gy ∧ w.heap.size ≤ gx ∧ w.heap.size ≤ gy := by have := HX.out.size; omega
  obtain ⟨hr1, hr2, hr3, hr4⟩ := hrx
  clear h1 h3 hBx hBy hne hgx hgy
  have cX0 : w3.cell? ⟨gx, 0, none⟩ = some (.bool s2) := KX.out.cell 0
  have cX1 : w3.cell? ⟨gx, 1, none⟩ = some (.slice A2 l2 c2) := KX.out.cell 1
  have cX2 : w3.cell? ⟨gx, 2, none⟩ = some (.slice B2 m2 k2) := KX.out.cell 2
  have cY0 : w3.cell? ⟨gy, 0, none⟩ = some (.bool s3) := KY.out.cell 0
  have cY1 : w3.cell? ⟨gy, 1, none⟩ = some (.slice A3 l3 c3) := KY.out.cell 1
  have cY2 : w3.cell? ⟨gy, 2, none⟩ = some (.slice B3 m3 k3) := KY.out.cell 2
  go_wp2_with fail
  clear cX0 cX1 cX2 cY0 cY1 cY2
  refine (cmpX HN2.out HN3.out (by omega)).mono ?_
  rw [HSG.out]
  rintro e w4 ⟨rfl, hX⟩
  replace hX : Ext w3 w4 := by with_reducible exact hX
  replace HX := Lib.hid (HX.out.trans hX)
  replace HN2 := Lib.hid (HN2.out.ext hX)
  replace HN3 := Lib.hid (HN3.out.ext hX)
  replace KR := Lib.hid (KR.out.ext hX)
  replace KX := Lib.hid (KX.out.ext hX)
  replace KY := Lib.hid (KY.out.ext hX)
  clear hX
  have cX0 : w4.cell? ⟨gx, 0, none⟩ = some (.bool s2) := KX.out.cell 0
  have cX1 : w4.cell? ⟨gx, 1, none⟩ = some (.slice A2 l2 c2) := KX.out.cell 1
  have cX2 : w4.cell? ⟨gx, 2, none⟩ = some (.slice B2 m2 k2) := KX.out.cell 2
  go_wp2_with fail
  clear cX0 cX1 cX2
  refine (xfloorN HN2.out (by omega)).mono ?_
  rw [HNL.out, HBL.out]
  rintro e w5 ⟨rfl, hX⟩
  replace hX : Ext w4 w5 := by with_reducible exact hX
  replace HX := Lib.hid (HX.out.trans hX)
  replace HN2 := Lib.hid (HN2.out.ext hX)
  replace HN3 := Lib.hid (HN3.out.ext hX)
  replace KR := Lib.hid (KR.out.ext hX)
  replace KX := Lib.hid (KX.out.ext hX)
  replace KY := Lib.hid (KY.out.ext hX)
  clear hX
  have cY0 : w5.cell? ⟨gy, 0, none⟩ = some (.bool s3) := KY.out.cell 0
  have cY1 : w5.cell? ⟨gy, 1, none⟩ = some (.slice A3 l3 c3) := KY.out.cell 1
  have cY2 : w5.cell? ⟨gy, 2, none⟩ = some (.slice B3 m3 k3) := KY.out.cell 2
  go_wp2_with fail
  clear cY0 cY1 cY2
  refine (negX HN3.out).mono ?_
  rintro e w6 ⟨v6, rfl, hv, hX⟩
  replace hX : Ext w5 w6 := by with_reducible exact hX
  replace HX := Lib.hid (HX.out.trans hX)
  replace HN2 := Lib.hid (HN2.out.ext hX)
  replace HN3 := Lib.hid (HN3.out.ext hX)
  replace KR := Lib.hid (KR.out.ext hX)
  replace KX := Lib.hid (KX.out.ext hX)
  replace KY := Lib.hid (KY.out.ext hX)
  clear hX
  have HN6 := Lib.hid hv
  clear hv
  go_wp2_with fail
  refine (xfloorN HN6.out (by omega)).mono ?_
  rw [HNH.out, HBH.out]
  rintro e w7 ⟨rfl, hX⟩
  replace hX : Ext w6 w7 := by with_reducible exact hX
  replace HX := Lib.hid (HX.out.trans hX)
  replace HN2 := Lib.hid (HN2.out.ext hX)
  replace HN3 := Lib.hid (HN3.out.ext hX)
  replace HN6 := Lib.hid (HN6.out.ext hX)
  replace KR := Lib.hid (KR.out.ext hX)
  replace KX := Lib.hid (KX.out.ext hX)
  replace KY := Lib.hid (KY.out.ext hX)
  clear hX
  have cR0 : w7.cell? ⟨(w.heap.size + 2), 0, none⟩ = some (.int .i64 0) := KR.out.cell 0
  have fR0 : w7.frozen? ⟨(w.heap.size + 2), 0, none⟩ = false := KR.out.free 0
  have cR1 : w7.cell? ⟨(w.heap.size + 2), 1, none⟩ = some (.int .i64 0) := KR.out.cell 1
  have fR1 : w7.frozen? ⟨(w.heap.size + 2), 1, none⟩ = false := KR.out.free 1
  go_wp2
  refine bodyPost_ret (v := .tuple #[.agg #[.int .i64 0, .int .i64 0], .int .i64 3]) (by simp [results, Try.results64, go_sem, *]) rfl ?_
  exact ⟨rfl, HX.out.two (by omega) _ _⟩

theorem ecover_any {w : World} {va vb : Value} {q r : Rat} (h : RatG w va q) (k : RatG w vb r) : Calls Try.prog 64 #[va, vb] w (RetSp w (mnQ q r).floor (-(-(mxQ q r)).floor)) := by
  obtain ⟨s0, A0, l0, c0, B0, m0, k0, rfl⟩ := h.open
  obtain ⟨s1, A1, l1, c1, B1, m1, k1, rfl⟩ := k.open
  by_cases hs : 0 < sgnQ (q - r)
  · rw [mnQ, mxQ, if_pos hs, if_pos hs]
    rcases endE_or r.floor with h0 | h0
    · rcases endE_or (-q).floor with h1 | h1
      · exact (ecover_s_ok s0 s1 A0 B0 A1 B1 l0 c0 m0 k0 l1 c1 m1 k1 q r _ w h k rfl hs h0 h1).mono (retSp_yes h0 (by rw [endE_neg]; exact h1))
      · exact (ecover_s_hi s0 s1 A0 B0 A1 B1 l0 c0 m0 k0 l1 c1 m1 k1 q r _ w h k rfl hs h0 h1).mono (retSp_no (fun h => by rw [endE_neg] at h; omega))
    · exact (ecover_s_lo s0 s1 A0 B0 A1 B1 l0 c0 m0 k0 l1 c1 m1 k1 q r _ w h k rfl hs h0).mono (retSp_no (fun h => by omega))
  · rw [mnQ, mxQ, if_neg hs, if_neg hs]
    rcases endE_or q.floor with h0 | h0
    · rcases endE_or (-r).floor with h1 | h1
      · exact (ecover_n_ok s0 s1 A0 B0 A1 B1 l0 c0 m0 k0 l1 c1 m1 k1 q r _ w h k rfl hs h0 h1).mono (retSp_yes h0 (by rw [endE_neg]; exact h1))
      · exact (ecover_n_hi s0 s1 A0 B0 A1 B1 l0 c0 m0 k0 l1 c1 m1 k1 q r _ w h k rfl hs h0 h1).mono (retSp_no (fun h => by rw [endE_neg] at h; omega))
    · exact (ecover_n_lo s0 s1 A0 B0 A1 B1 l0 c0 m0 k0 l1 c1 m1 k1 q r _ w h k rfl hs h0).mono (retSp_no (fun h => by omega))

set_option maxRecDepth 100000 in
set_option maxHeartbeats 2000000 in
theorem ecover_large (s0 s1 : Bool) (A0 B0 A1 B1 : Option Addr) (l0 c0 m0 k0 l1 c1 m1 k1 : Nat) (b0 b1 : Bool) (w : World) (hx : RatL w (.agg #[.bool s0, .slice A0 l0 c0, .slice B0 m0 k0]) b0) (hy : RatL w (.agg #[.bool s1, .slice A1 l1 c1, .slice B1 m1 k1]) b1) (hb : (b0 || b1) = true) :
    Calls Try.prog 64 #[.agg #[.bool s0, .slice A0 l0 c0, .slice B0 m0 k0], .agg #[.bool s1, .slice A1 l1 c1, .slice B1 m1 k1]] w (RetE w (.agg #[.int .i64 0, .int .i64 0]) 1) := by
  have HXX := Lib.hid hx
  have HYY := Lib.hid hy
  have HB := Lib.hid hb
  clear hx hy hb
  have hXe : Ext w ((((w.alloc (.cells #[.bool s0, .slice A0 l0 c0, .slice B0 m0 k0] 33)).alloc (.cells #[.bool s1, .slice A1 l1 c1, .slice B1 m1 k1] 33)).alloc (.cells #[.int .i64 0, .int .i64 0] 62)).alloc (.cells #[.bool s0, .slice A0 l0 c0, .slice B0 m0 k0, .bool s1, .slice A1 l1 c1, .slice B1 m1 k1] 33)) := (((((Ext.refl w).alloc _).alloc _).alloc _).alloc _)
  have kA : Blk ((((w.alloc (.cells #[.bool s0, .slice A0 l0 c0, .slice B0 m0 k0] 33)).alloc (.cells #[.bool s1, .slice A1 l1 c1, .slice B1 m1 k1] 33)).alloc (.cells #[.int .i64 0, .int .i64 0] 62)).alloc (.cells #[.bool s0, .slice A0 l0 c0, .slice B0 m0 k0, .bool s1, .slice A1 l1 c1, .slice B1 m1 k1] 33)) w.heap.size 33 #[.bool s0, .slice A0 l0 c0, .slice B0 m0 k0] := Blk.alloc (Blk.alloc (Blk.alloc (Blk.at_ (by simp)) _) _) _
  have kB : Blk ((((w.alloc (.cells #[.bool s0, .slice A0 l0 c0, .slice B0 m0 k0] 33)).alloc (.cells #[.bool s1, .slice A1 l1 c1, .slice B1 m1 k1] 33)).alloc (.cells #[.int .i64 0, .int .i64 0] 62)).alloc (.cells #[.bool s0, .slice A0 l0 c0, .slice B0 m0 k0, .bool s1, .slice A1 l1 c1, .slice B1 m1 k1] 33)) (w.heap.size + 1) 33 #[.bool s1, .slice A1 l1 c1, .slice B1 m1 k1] := Blk.alloc (Blk.alloc (Blk.at_ (by simp)) _) _
  have kR : Blk ((((w.alloc (.cells #[.bool s0, .slice A0 l0 c0, .slice B0 m0 k0] 33)).alloc (.cells #[.bool s1, .slice A1 l1 c1, .slice B1 m1 k1] 33)).alloc (.cells #[.int .i64 0, .int .i64 0] 62)).alloc (.cells #[.bool s0, .slice A0 l0 c0, .slice B0 m0 k0, .bool s1, .slice A1 l1 c1, .slice B1 m1 k1] 33)) (w.heap.size + 2) 62 #[.int .i64 0, .int .i64 0] := Blk.alloc (Blk.at_ (by simp)) _
  have kP : Blk ((((w.alloc (.cells #[.bool s0, .slice A0 l0 c0, .slice B0 m0 k0] 33)).alloc (.cells #[.bool s1, .slice A1 l1 c1, .slice B1 m1 k1] 33)).alloc (.cells #[.int .i64 0, .int .i64 0] 62)).alloc (.cells #[.bool s0, .slice A0 l0 c0, .slice B0 m0 k0, .bool s1, .slice A1 l1 c1, .slice B1 m1 k1] 33)) (w.heap.size + 3) 33 #[.bool s0, .slice A0 l0 c0, .slice B0 m0 k0, .bool s1, .slice A1 l1 c1, .slice B1 m1 k1] := Blk.at_ (by simp)
  go_enter Try.func64, Try.ntmps64
  go_wp2_with fail
  generalize ((((w.alloc (.cells #[.bool s0, .slice A0 l0 c0, .slice B0 m0 k0] 33)).alloc (.cells #[.bool s1, .slice A1 l1 c1, .slice B1 m1 k1] 33)).alloc (.cells #[.int .i64 0, .int .i64 0] 62)).alloc (.cells #[.bool s0, .slice A0 l0 c0, .slice B0 m0 k0, .bool s1, .slice A1 l1 c1, .slice B1 m1 k1] 33)) = w1 at hXe kA kB kR kP ⊢
  have HX := Lib.hid hXe
  clear hXe
  have KA := Lib.hid kA
  clear kA
  have KB := Lib.hid kB
  clear kB
  have KR := Lib.hid kR
  clear kR
  have KP := Lib.hid kP
  clear kP
  refine (anyLarge_two s0 s1 A0 B0 A1 B1 l0 c0 m0 k0 l1 c1 m1 k1 b0 b1 _ _ KP.out (HXX.out.ext HX.out) (HYY.out.ext HX.out)).mono ?_
  rw [HB.out]
  rintro e w2 ⟨rfl, hX⟩
  replace hX : Ext w1 w2 := by with_reducible exact hX
  replace HX := Lib.hid (HX.out.trans hX)
  replace KA := Lib.hid (KA.out.ext hX)
  replace KB := Lib.hid (KB.out.ext hX)
  replace KR := Lib.hid (KR.out.ext hX)
  replace KP := Lib.hid (KP.out.ext hX)
  clear hX
  have cR0 : w2.cell? ⟨(w.heap.size + 2), 0, none⟩ = some (.int .i64 0) := KR.out.cell 0
  have fR0 : w2.frozen? ⟨(w.heap.size + 2), 0, none⟩ = false := KR.out.free 0
  have cR1 : w2.cell? ⟨(w.heap.size + 2), 1, none⟩ = some (.int .i64 0) := KR.out.cell 1
  have fR1 : w2.frozen? ⟨(w.heap.size + 2), 1, none⟩ = false := KR.out.free 1
  go_wp2
  refine bodyPost_ret (v := .tuple #[.agg #[.int .i64 0, .int .i64 0], .int .i64 1]) (by simp [results, Try.results64, go_sem, *]) rfl ?_
  exact ⟨rfl, HX.out.two (by omega) _ _⟩

set_option maxRecDepth 100000 in
set_option maxHeartbeats 2000000 in
theorem rcover_v (s0 s1 : Bool) (A0 B0 A1 B1 : Option Addr) (l0 c0 m0 k0 l1 c1 m1 k1 : Nat) (q r : Rat) (w : World) (hx : RatG w (.agg #[.bool s0, .slice A0 l0 c0, .slice B0 m0 k0]) q) (hy : RatG w (.agg #[.bool s1, .slice A1 l1 c1, .slice B1 m1 k1]) r) :
    Calls Try.prog 65 #[.agg #[.bool s0, .slice A0 l0 c0, .slice B0 m0 k0], .agg #[.bool s1, .slice A1 l1 c1, .slice B1 m1 k1]] w (RetSp w (mnQ q r).floor (-(-(mxQ q r)).floor)) := by
  have HXX := Lib.hid hx
  have HYY := Lib.hid hy
  have HFQ := Lib.hid (fitR_512 hx.fit)
  have HFR := Lib.hid (fitR_512 hy.fit)
  clear hx hy
  obtain ⟨L, hL⟩ : ∃ L : Nat, L = 512 := ⟨_, rfl⟩
  rw [← hL] at HFQ HFR
  have hL2 : L + L + 1 ≤ 400000 := by omega
  clear hL
  unfold RetSp
  obtain ⟨n1, hn1⟩ : ∃ z, spA (mnQ q r).floor (-(-(mxQ q r)).floor) = z := ⟨_, rfl⟩
  rw [hn1]
  have Hn1 := Lib.hid hn1
  clear hn1
  obtain ⟨n2, hn2⟩ : ∃ z, spB (mnQ q r).floor (-(-(mxQ q r)).floor) = z := ⟨_, rfl⟩
  rw [hn2]
  have Hn2 := Lib.hid hn2
  clear hn2
  obtain ⟨n3, hn3⟩ : ∃ z, spC (mnQ q r).floor (-(-(mxQ q r)).floor) = z := ⟨_, rfl⟩
  rw [hn3]
  have Hn3 := Lib.hid hn3
  clear hn3
  have hXe : Ext w (((w.alloc (.cells #[.bool s0, .slice A0 l0 c0, .slice B0 m0 k0] 33)).alloc (.cells #[.bool s1, .slice A1 l1 c1, .slice B1 m1 k1] 33)).alloc (.cells #[.int .i64 0, .int .i64 0] 62)) := ((((Ext.refl w).alloc _).alloc _).alloc _)
  have kA : Blk (((w.alloc (.cells #[.bool s0, .slice A0 l0 c0, .slice B0 m0 k0] 33)).alloc (.cells #[.bool s1, .slice A1 l1 c1, .slice B1 m1 k1] 33)).alloc (.cells #[.int .i64 0, .int .i64 0] 62)) w.heap.size 33 #[.bool s0, .slice A0 l0 c0, .slice B0 m0 k0] := Blk.alloc (Blk.alloc (Blk.at_ (by simp)) _) _
  have kB : Blk (((w.alloc (.cells #[.bool s0, .slice A0 l0 c0, .slice B0 m0 k0] 33)).alloc (.cells #[.bool s1, .slice A1 l1 c1, .slice B1 m1 k1] 33)).alloc (.cells #[.int .i64 0, .int .i64 0] 62)) (w.heap.size + 1) 33 #[.bool s1, .slice A1 l1 c1, .slice B1 m1 k1] := Blk.alloc (Blk.at_ (by simp)) _
  have kR : Blk (((w.alloc (.cells #[.bool s0, .slice A0 l0 c0, .slice B0 m0 k0] 33)).alloc (.cells #[.bool s1, .slice A1 l1 c1, .slice B1 m1 k1] 33)).alloc (.cells #[.int .i64 0, .int .i64 0] 62)) (w.heap.size + 2) 62 #[.int .i64 0, .int .i64 0] := Blk.at_ (by simp)
  go_enter Try.func65, Try.ntmps65
  go_wp2_with fail
  generalize (((w.alloc (.cells #[.bool s0, .slice A0 l0 c0, .slice B0 m0 k0] 33)).alloc (.cells #[.bool s1, .slice A1 l1 c1, .slice B1 m1 k1] 33)).alloc (.cells #[.int .i64 0, .int .i64 0] 62)) = w1 at hXe kA kB kR ⊢
  have HX := Lib.hid hXe
  clear hXe
  have KA := Lib.hid kA
  clear kA
  have KB := Lib.hid kB
  clear kB
  have KR := Lib.hid kR
  clear kR
  replace HXX := Lib.hid (HXX.out.ext HX.out)
  replace HYY := Lib.hid (HYY.out.ext HX.out)
  have cA0 : w1.cell? ⟨w.heap.size, 0, none⟩ = some (.bool s0) := KA.out.cell 0
  have cA1 : w1.cell? ⟨w.heap.size, 1, none⟩ = some (.slice A0 l0 c0) := KA.out.cell 1
  have cA2 : w1.cell? ⟨w.heap.size, 2, none⟩ = some (.slice B0 m0 k0) := KA.out.cell 2
  go_wp2_with fail
  clear cA0 cA1 cA2
  refine (rof_yes HXX.out).mono ?_
  rintro e w2 ⟨v2, rfl, hv, hX⟩
  replace hX : Ext w1 w2 := by with_reducible exact hX
  replace HX := Lib.hid (HX.out.trans hX)
  replace HXX := Lib.hid (HXX.out.ext hX)
  replace HYY := Lib.hid (HYY.out.ext hX)
  replace KA := Lib.hid (KA.out.ext hX)
  replace KB := Lib.hid (KB.out.ext hX)
  replace KR := Lib.hid (KR.out.ext hX)
  clear hX
  obtain ⟨s2, A2, l2, c2, B2, m2, k2, rfl⟩ := QZ.open hv
  have HQ2 := Lib.hid hv
  clear hv
  go_upto_region 2 with (fail)
  have hXa : Ext w2 (w2.alloc (.cells #[.bool s2, .slice A2 l2 c2, .slice B2 m2 k2] 42)) := (Ext.refl _).alloc _
  have kX := Blk.new w2 42 #[.bool s2, .slice A2 l2 c2, .slice B2 m2 k2]
  have zA := KA.out.lt
  have zB := KB.out.lt
  have zR := KR.out.lt
  have zg := HX.out.size
  replace HX := Lib.hid (HX.out.trans hXa)
  replace HXX := Lib.hid (HXX.out.ext hXa)
  replace HYY := Lib.hid (HYY.out.ext hXa)
  replace HQ2 := Lib.hid (HQ2.out.ext hXa)
  replace KA := Lib.hid (KA.out.ext hXa)
  replace KB := Lib.hid (KB.out.ext hXa)
  replace KR := Lib.hid (KR.out.ext hXa)
  generalize (w2.alloc (.cells #[.bool s2, .slice A2 l2 c2, .slice B2 m2 k2] 42)) = w3 at HX HXX HYY HQ2 KA KB KR kX ⊢
  have KX := Lib.hid kX
  clear kX hXa
  have cB0 : w3.cell? ⟨(w.heap.size + 1), 0, none⟩ = some (.bool s1) := KB.out.cell 0
  have cB1 : w3.cell? ⟨(w.heap.size + 1), 1, none⟩ = some (.slice A1 l1 c1) := KB.out.cell 1
  have cB2 : w3.cell? ⟨(w.heap.size + 1), 2, none⟩ = some (.slice B1 m1 k1) := KB.out.cell 2
  go_wp2_with fail
  clear cB0 cB1 cB2
  refine (rof_yes HYY.out).mono ?_
  rintro e w4 ⟨v3, rfl, hv, hX⟩
  replace hX : Ext w3 w4 := by with_reducible exact hX
  replace HX := Lib.hid (HX.out.trans hX)
  replace HXX := Lib.hid (HXX.out.ext hX)
  replace HYY := Lib.hid (HYY.out.ext hX)
  replace HQ2 := Lib.hid (HQ2.out.ext hX)
  replace KA := Lib.hid (KA.out.ext hX)
  replace KB := Lib.hid (KB.out.ext hX)
  replace KR := Lib.hid (KR.out.ext hX)
  replace KX := Lib.hid (KX.out.ext hX)
  clear hX
  obtain ⟨s3, A3, l3, c3, B3, m3, k3, rfl⟩ := QZ.open hv
  have HQ3 := Lib.hid hv
  clear hv
  go_upto_region 3 with (fail)
  have hXa : Ext w4 (w4.alloc (.cells #[.bool s3, .slice A3 l3 c3, .slice B3 m3 k3] 42)) := (Ext.refl _).alloc _
  have kY := Blk.new w4 42 #[.bool s3, .slice A3 l3 c3, .slice B3 m3 k3]
  have zA := KA.out.lt
  have zB := KB.out.lt
  have zR := KR.out.lt
  have zX := KX.out.lt
  have zg := HX.out.size
  replace HX := Lib.hid (HX.out.trans hXa)
  replace HXX := Lib.hid (HXX.out.ext hXa)
  replace HYY := Lib.hid (HYY.out.ext hXa)
  replace HQ2 := Lib.hid (HQ2.out.ext hXa)
  replace HQ3 := Lib.hid (HQ3.out.ext hXa)
  replace KA := Lib.hid (KA.out.ext hXa)
  replace KB := Lib.hid (KB.out.ext hXa)
  replace KR := Lib.hid (KR.out.ext hXa)
  replace KX := Lib.hid (KX.out.ext hXa)
  generalize (w4.alloc (.cells #[.bool s3, .slice A3 l3 c3, .slice B3 m3 k3] 42)) = w5 at HX HXX HYY HQ2 HQ3 KA KB KR KX kY ⊢
  have KY := Lib.hid kY
  clear kY hXa
  have cX0 : w5.cell? ⟨w2.heap.size, 0, none⟩ = some (.bool s2) := KX.out.cell 0
  have cX1 : w5.cell? ⟨w2.heap.size, 1, none⟩ = some (.slice A2 l2 c2) := KX.out.cell 1
  have cX2 : w5.cell? ⟨w2.heap.size, 2, none⟩ = some (.slice B2 m2 k2) := KX.out.cell 2
  have cY0 : w5.cell? ⟨w4.heap.size, 0, none⟩ = some (.bool s3) := KY.out.cell 0
  have cY1 : w5.cell? ⟨w4.heap.size, 1, none⟩ = some (.slice A3 l3 c3) := KY.out.cell 1
  have cY2 : w5.cell? ⟨w4.heap.size, 2, none⟩ = some (.slice B3 m3 k3) := KY.out.cell 2
  go_wp2_with fail
  clear cX0 cX1 cX2 cY0 cY1 cY2
  have hXa : Ext w5 (w5.alloc (.cells #[.bool s2, .slice A2 l2 c2, .slice B2 m2 k2, .bool s3, .slice A3 l3 c3, .slice B3 m3 k3] 42)) := (Ext.refl _).alloc _
  have kS := Blk.new w5 42 #[.bool s2, .slice A2 l2 c2, .slice B2 m2 k2, .bool s3, .slice A3 l3 c3, .slice B3 m3 k3]
  have zA := KA.out.lt
  have zB := KB.out.lt
  have zR := KR.out.lt
  have zX := KX.out.lt
  have zY := KY.out.lt
  have zg := HX.out.size
  replace HX := Lib.hid (HX.out.trans hXa)
  replace HXX := Lib.hid (HXX.out.ext hXa)
  replace HYY := Lib.hid (HYY.out.ext hXa)
  replace HQ2 := Lib.hid (HQ2.out.ext hXa)
  replace HQ3 := Lib.hid (HQ3.out.ext hXa)
  replace KA := Lib.hid (KA.out.ext hXa)
  replace KB := Lib.hid (KB.out.ext hXa)
  replace KR := Lib.hid (KR.out.ext hXa)
  replace KX := Lib.hid (KX.out.ext hXa)
  replace KY := Lib.hid (KY.out.ext hXa)
  generalize (w5.alloc (.cells #[.bool s2, .slice A2 l2 c2, .slice B2 m2 k2, .bool s3, .slice A3 l3 c3, .slice B3 m3 k3] 42)) = w6 at HX HXX HYY HQ2 HQ3 KA KB KR KX KY kS ⊢
  have KS := Lib.hid kS
  clear kS hXa
  go_wp2_with fail
  refine (around_any _ 1 2 L [q, r] _ (qsAt_two KS.out HQ2.out HQ3.out) (by omega) (fun x hx => by simp at hx; rcases hx with rfl | rfl; exact HFQ.out; exact HFR.out) hL2).mono ?_
  unfold RetSp
  rw [low_two, high_two, Hn1.out, Hn2.out, Hn3.out]
  rintro e w7 ⟨rfl, hX⟩
  replace hX : Ext w6 w7 := by with_reducible exact hX
  replace HX := Lib.hid (HX.out.trans hX)
  replace HXX := Lib.hid (HXX.out.ext hX)
  replace HYY := Lib.hid (HYY.out.ext hX)
  replace HQ2 := Lib.hid (HQ2.out.ext hX)
  replace HQ3 := Lib.hid (HQ3.out.ext hX)
  replace KA := Lib.hid (KA.out.ext hX)
  replace KB := Lib.hid (KB.out.ext hX)
  replace KR := Lib.hid (KR.out.ext hX)
  replace KX := Lib.hid (KX.out.ext hX)
  replace KY := Lib.hid (KY.out.ext hX)
  replace KS := Lib.hid (KS.out.ext hX)
  clear hX
  have cR0 : w7.cell? ⟨(w.heap.size + 2), 0, none⟩ = some (.int .i64 0) := KR.out.cell 0
  have fR0 : w7.frozen? ⟨(w.heap.size + 2), 0, none⟩ = false := KR.out.free 0
  have cR1 : w7.cell? ⟨(w.heap.size + 2), 1, none⟩ = some (.int .i64 0) := KR.out.cell 1
  have fR1 : w7.frozen? ⟨(w.heap.size + 2), 1, none⟩ = false := KR.out.free 1
  go_wp2
  refine bodyPost_ret (v := .tuple #[.agg #[.int .i64 n1, .int .i64 n2], .int .i64 n3]) (by simp [results, Try.results65, go_sem, *]) rfl ?_
  exact ⟨rfl, HX.out.two (by omega) _ _⟩

set_option maxRecDepth 100000 in
set_option maxHeartbeats 2000000 in
theorem rcover_ll (s0 s1 : Bool) (A0 B0 A1 B1 : Option Addr) (l0 c0 m0 k0 l1 c1 m1 k1 : Nat) (q : Rat) (w : World) (hx : RatL w (.agg #[.bool s0, .slice A0 l0 c0, .slice B0 m0 k0]) true) (hy : RatL w (.agg #[.bool s1, .slice A1 l1 c1, .slice B1 m1 k1]) true) :
    Calls Try.prog 65 #[.agg #[.bool s0, .slice A0 l0 c0, .slice B0 m0 k0], .agg #[.bool s1, .slice A1 l1 c1, .slice B1 m1 k1]] w (RetE w (.agg #[.int .i64 0, .int .i64 0]) 1) := by
  have HXX := Lib.hid hx
  have HYY := Lib.hid hy
  clear hx hy
  have hXe : Ext w (((w.alloc (.cells #[.bool s0, .slice A0 l0 c0, .slice B0 m0 k0] 33)).alloc (.cells #[.bool s1, .slice A1 l1 c1, .slice B1 m1 k1] 33)).alloc (.cells #[.int .i64 0, .int .i64 0] 62)) := ((((Ext.refl w).alloc _).alloc _).alloc _)
  have kA : Blk (((w.alloc (.cells #[.bool s0, .slice A0 l0 c0, .slice B0 m0 k0] 33)).alloc (.cells #[.bool s1, .slice A1 l1 c1, .slice B1 m1 k1] 33)).alloc (.cells #[.int .i64 0, .int .i64 0] 62)) w.heap.size 33 #[.bool s0, .slice A0 l0 c0, .slice B0 m0 k0] := Blk.alloc (Blk.alloc (Blk.at_ (by simp)) _) _
  have kB : Blk (((w.alloc (.cells #[.bool s0, .slice A0 l0 c0, .slice B0 m0 k0] 33)).alloc (.cells #[.bool s1, .slice A1 l1 c1, .slice B1 m1 k1] 33)).alloc (.cells #[.int .i64 0, .int .i64 0] 62)) (w.heap.size + 1) 33 #[.bool s1, .slice A1 l1 c1, .slice B1 m1 k1] := Blk.alloc (Blk.at_ (by simp)) _
  have kR : Blk (((w.alloc (.cells #[.bool s0, .slice A0 l0 c0, .slice B0 m0 k0] 33)).alloc (.cells #[.bool s1, .slice A1 l1 c1, .slice B1 m1 k1] 33)).alloc (.cells #[.int .i64 0, .int .i64 0] 62)) (w.heap.size + 2) 62 #[.int .i64 0, .int .i64 0] := Blk.at_ (by simp)
  go_enter Try.func65, Try.ntmps65
  go_wp2_with fail
  generalize (((w.alloc (.cells #[.bool s0, .slice A0 l0 c0, .slice B0 m0 k0] 33)).alloc (.cells #[.bool s1, .slice A1 l1 c1, .slice B1 m1 k1] 33)).alloc (.cells #[.int .i64 0, .int .i64 0] 62)) = w1 at hXe kA kB kR ⊢
  have HX := Lib.hid hXe
  clear hXe
  have KA := Lib.hid kA
  clear kA
  have KB := Lib.hid kB
  clear kB
  have KR := Lib.hid kR
  clear kR
  replace HXX := Lib.hid (HXX.out.ext HX.out)
  replace HYY := Lib.hid (HYY.out.ext HX.out)
  have cA0 : w1.cell? ⟨w.heap.size, 0, none⟩ = some (.bool s0) := KA.out.cell 0
  have cA1 : w1.cell? ⟨w.heap.size, 1, none⟩ = some (.slice A0 l0 c0) := KA.out.cell 1
  have cA2 : w1.cell? ⟨w.heap.size, 2, none⟩ = some (.slice B0 m0 k0) := KA.out.cell 2
  go_wp2_with fail
  clear cA0 cA1 cA2
  refine (rof_no HXX.out).mono ?_
  rintro e w2 ⟨rfl, hX⟩
  replace hX : Ext w1 w2 := by with_reducible exact hX
  replace HX := Lib.hid (HX.out.trans hX)
  replace HXX := Lib.hid (HXX.out.ext hX)
  replace HYY := Lib.hid (HYY.out.ext hX)
  replace KA := Lib.hid (KA.out.ext hX)
  replace KB := Lib.hid (KB.out.ext hX)
  replace KR := Lib.hid (KR.out.ext hX)
  clear hX
  go_upto_region 2 with (fail)
  have hXa : Ext w2 (w2.alloc (.cells #[.bool false, .slice none 0 0, .slice none 0 0] 42)) := (Ext.refl _).alloc _
  have kX := Blk.new w2 42 #[.bool false, .slice none 0 0, .slice none 0 0]
  have zA := KA.out.lt
  have zB := KB.out.lt
  have zR := KR.out.lt
  have zg := HX.out.size
  replace HX := Lib.hid (HX.out.trans hXa)
  replace HXX := Lib.hid (HXX.out.ext hXa)
  replace HYY := Lib.hid (HYY.out.ext hXa)
  replace KA := Lib.hid (KA.out.ext hXa)
  replace KB := Lib.hid (KB.out.ext hXa)
  replace KR := Lib.hid (KR.out.ext hXa)
  generalize (w2.alloc (.cells #[.bool false, .slice none 0 0, .slice none 0 0] 42)) = w3 at HX HXX HYY KA KB KR kX ⊢
  have KX := Lib.hid kX
  clear kX hXa
  have cB0 : w3.cell? ⟨(w.heap.size + 1), 0, none⟩ = some (.bool s1) := KB.out.cell 0
  have cB1 : w3.cell? ⟨(w.heap.size + 1), 1, none⟩ = some (.slice A1 l1 c1) := KB.out.cell 1
  have cB2 : w3.cell? ⟨(w.heap.size + 1), 2, none⟩ = some (.slice B1 m1 k1) := KB.out.cell 2
  go_wp2_with fail
  clear cB0 cB1 cB2
  refine (rof_no HYY.out).mono ?_
  rintro e w4 ⟨rfl, hX⟩
  replace hX : Ext w3 w4 := by with_reducible exact hX
  replace HX := Lib.hid (HX.out.trans hX)
  replace HXX := Lib.hid (HXX.out.ext hX)
  replace HYY := Lib.hid (HYY.out.ext hX)
  replace KA := Lib.hid (KA.out.ext hX)
  replace KB := Lib.hid (KB.out.ext hX)
  replace KR := Lib.hid (KR.out.ext hX)
  replace KX := Lib.hid (KX.out.ext hX)
  clear hX
  go_upto_region 3 with (fail)
  have hXa : Ext w4 (w4.alloc (.cells #[.bool false, .slice none 0 0, .slice none 0 0] 42)) := (Ext.refl _).alloc _
  have kY := Blk.new w4 42 #[.bool false, .slice none 0 0, .slice none 0 0]
  have zA := KA.out.lt
  have zB := KB.out.lt
  have zR := KR.out.lt
  have zX := KX.out.lt
  have zg := HX.out.size
  replace HX := Lib.hid (HX.out.trans hXa)
  replace HXX := Lib.hid (HXX.out.ext hXa)
  replace HYY := Lib.hid (HYY.out.ext hXa)
  replace KA := Lib.hid (KA.out.ext hXa)
  replace KB := Lib.hid (KB.out.ext hXa)
  replace KR := Lib.hid (KR.out.ext hXa)
  replace KX := Lib.hid (KX.out.ext hXa)
  generalize (w4.alloc (.cells #[.bool false, .slice none 0 0, .slice none 0 0] 42)) = w5 at HX HXX HYY KA KB KR KX kY ⊢
  have KY := Lib.hid kY
  clear kY hXa
  have cR0 : w5.cell? ⟨(w.heap.size + 2), 0, none⟩ = some (.int .i64 0) := KR.out.cell 0
  have fR0 : w5.frozen? ⟨(w.heap.size + 2), 0, none⟩ = false := KR.out.free 0
  have cR1 : w5.cell? ⟨(w.heap.size + 2), 1, none⟩ = some (.int .i64 0) := KR.out.cell 1
  have fR1 : w5.frozen? ⟨(w.heap.size + 2), 1, none⟩ = false := KR.out.free 1
  go_wp2
  refine bodyPost_ret (v := .tuple #[.agg #[.int .i64 0, .int .i64 0], .int .i64 1]) (by simp [results, Try.results65, go_sem, *]) rfl ?_
  exact ⟨rfl, HX.out.two (by omega) _ _⟩

set_option maxRecDepth 100000 in
set_option maxHeartbeats 2000000 in
theorem rcover_ls (s0 s1 : Bool) (A0 B0 A1 B1 : Option Addr) (l0 c0 m0 k0 l1 c1 m1 k1 : Nat) (q : Rat) (w : World) (hx : RatL w (.agg #[.bool s0, .slice A0 l0 c0, .slice B0 m0 k0]) true) (hy : RatG w (.agg #[.bool s1, .slice A1 l1 c1, .slice B1 m1 k1]) q) :
    Calls Try.prog 65 #[.agg #[.bool s0, .slice A0 l0 c0, .slice B0 m0 k0], .agg #[.bool s1, .slice A1 l1 c1, .slice B1 m1 k1]] w (RetE w (.agg #[.int .i64 0, .int .i64 0]) 1) := by
  have HXX := Lib.hid hx
  have HYY := Lib.hid hy
  clear hx hy
  have hXe : Ext w (((w.alloc (.cells #[.bool s0, .slice A0 l0 c0, .slice B0 m0 k0] 33)).alloc (.cells #[.bool s1, .slice A1 l1 c1, .slice B1 m1 k1] 33)).alloc (.cells #[.int .i64 0, .int .i64 0] 62)) := ((((Ext.refl w).alloc _).alloc _).alloc _)
  have kA : Blk (((w.alloc (.cells #[.bool s0, .slice A0 l0 c0, .slice B0 m0 k0] 33)).alloc (.cells #[.bool s1, .slice A1 l1 c1, .slice B1 m1 k1] 33)).alloc (.cells #[.int .i64 0, .int .i64 0] 62)) w.heap.size 33 #[.bool s0, .slice A0 l0 c0, .slice B0 m0 k0] := Blk.alloc (Blk.alloc (Blk.at_ (by simp)) _) _
  have kB : Blk (((w.alloc (.cells #[.bool s0, .slice A0 l0 c0, .slice B0 m0 k0] 33)).alloc (.cells #[.bool s1, .slice A1 l1 c1, .slice B1 m1 k1] 33)).alloc (.cells #[.int .i64 0, .int .i64 0] 62)) (w.heap.size + 1) 33 #[.bool s1, .slice A1 l1 c1, .slice B1 m1 k1] := Blk.alloc (Blk.at_ (by simp)) _
  have kR : Blk (((w.alloc (.cells #[.bool s0, .slice A0 l0 c0, .slice B0 m0 k0] 33)).alloc (.cells #[.bool s1, .slice A1 l1 c1, .slice B1 m1 k1] 33)).alloc (.cells #[.int .i64 0, .int .i64 0] 62)) (w.heap.size + 2) 62 #[.int .i64 0, .int .i64 0] := Blk.at_ (by simp)
  go_enter Try.func65, Try.ntmps65
  go_wp2_with fail
  generalize (((w.alloc (.cells #[.bool s0, .slice A0 l0 c0, .slice B0 m0 k0] 33)).alloc (.cells #[.bool s1, .slice A1 l1 c1, .slice B1 m1 k1] 33)).alloc (.cells #[.int .i64 0, .int .i64 0] 62)) = w1 at hXe kA kB kR ⊢
  have HX := Lib.hid hXe
  clear hXe
  have KA := Lib.hid kA
  clear kA
  have KB := Lib.hid kB
  clear kB
  have KR := Lib.hid kR
  clear kR
  replace HXX := Lib.hid (HXX.out.ext HX.out)
  replace HYY := Lib.hid (HYY.out.ext HX.out)
  have cA0 : w1.cell? ⟨w.heap.size, 0, none⟩ = some (.bool s0) := KA.out.cell 0
  have cA1 : w1.cell? ⟨w.heap.size, 1, none⟩ = some (.slice A0 l0 c0) := KA.out.cell 1
  have cA2 : w1.cell? ⟨w.heap.size, 2, none⟩ = some (.slice B0 m0 k0) := KA.out.cell 2
  go_wp2_with fail
  clear cA0 cA1 cA2
  refine (rof_no HXX.out).mono ?_
  rintro e w2 ⟨rfl, hX⟩
  replace hX : Ext w1 w2 := by with_reducible exact hX
  replace HX := Lib.hid (HX.out.trans hX)
  replace HXX := Lib.hid (HXX.out.ext hX)
  replace HYY := Lib.hid (HYY.out.ext hX)
  replace KA := Lib.hid (KA.out.ext hX)
  replace KB := Lib.hid (KB.out.ext hX)
  replace KR := Lib.hid (KR.out.ext hX)
  clear hX
  go_upto_region 2 with (fail)
  have hXa : Ext w2 (w2.alloc (.cells #[.bool false, .slice none 0 0, .slice none 0 0] 42)) := (Ext.refl _).alloc _
  have kX := Blk.new w2 42 #[.bool false, .slice none 0 0, .slice none 0 0]
  have zA := KA.out.lt
  have zB := KB.out.lt
  have zR := KR.out.lt
  have zg := HX.out.size
  replace HX := Lib.hid (HX.out.trans hXa)
  replace HXX := Lib.hid (HXX.out.ext hXa)
  replace HYY := Lib.hid (HYY.out.ext hXa)
  replace KA := Lib.hid (KA.out.ext hXa)
  replace KB := Lib.hid (KB.out.ext hXa)
  replace KR := Lib.hid (KR.out.ext hXa)
  generalize (w2.alloc (.cells #[.bool false, .slice none 0 0, .slice none 0 0] 42)) = w3 at HX HXX HYY KA KB KR kX ⊢
  have KX := Lib.hid kX
  clear kX hXa
  have cB0 : w3.cell? ⟨(w.heap.size + 1), 0, none⟩ = some (.bool s1) := KB.out.cell 0
  have cB1 : w3.cell? ⟨(w.heap.size + 1), 1, none⟩ = some (.slice A1 l1 c1) := KB.out.cell 1
  have cB2 : w3.cell? ⟨(w.heap.size + 1), 2, none⟩ = some (.slice B1 m1 k1) := KB.out.cell 2
  go_wp2_with fail
  clear cB0 cB1 cB2
  refine (rof_yes HYY.out).mono ?_
  rintro e w4 ⟨v3, rfl, hv, hX⟩
  replace hX : Ext w3 w4 := by with_reducible exact hX
  replace HX := Lib.hid (HX.out.trans hX)
  replace HXX := Lib.hid (HXX.out.ext hX)
  replace HYY := Lib.hid (HYY.out.ext hX)
  replace KA := Lib.hid (KA.out.ext hX)
  replace KB := Lib.hid (KB.out.ext hX)
  replace KR := Lib.hid (KR.out.ext hX)
  replace KX := Lib.hid (KX.out.ext hX)
  clear hX
  obtain ⟨s3, A3, l3, c3, B3, m3, k3, rfl⟩ := QZ.open hv
  have HQ3 := Lib.hid hv
  clear hv
  go_upto_region 3 with (fail)
  have hXa : Ext w4 (w4.alloc (.cells #[.bool s3, .slice A3 l3 c3, .slice B3 m3 k3] 42)) := (Ext.refl _).alloc _
  have kY := Blk.new w4 42 #[.bool s3, .slice A3 l3 c3, .slice B3 m3 k3]
  have zA := KA.out.lt
  have zB := KB.out.lt
  have zR := KR.out.lt
  have zX := KX.out.lt
  have zg := HX.out.size
  replace HX := Lib.hid (HX.out.trans hXa)
  replace HXX := Lib.hid (HXX.out.ext hXa)
  replace HYY := Lib.hid (HYY.out.ext hXa)
  replace HQ3 := Lib.hid (HQ3.out.ext hXa)
  replace KA := Lib.hid (KA.out.ext hXa)
  replace KB := Lib.hid (KB.out.ext hXa)
  replace KR := Lib.hid (KR.out.ext hXa)
  replace KX := Lib.hid (KX.out.ext hXa)
  generalize (w4.alloc (.cells #[.bool s3, .slice A3 l3 c3, .slice B3 m3 k3] 42)) = w5 at HX HXX HYY HQ3 KA KB KR KX kY ⊢
  have KY := Lib.hid kY
  clear kY hXa
  have cR0 : w5.cell? ⟨(w.heap.size + 2), 0, none⟩ = some (.int .i64 0) := KR.out.cell 0
  have fR0 : w5.frozen? ⟨(w.heap.size + 2), 0, none⟩ = false := KR.out.free 0
  have cR1 : w5.cell? ⟨(w.heap.size + 2), 1, none⟩ = some (.int .i64 0) := KR.out.cell 1
  have fR1 : w5.frozen? ⟨(w.heap.size + 2), 1, none⟩ = false := KR.out.free 1
  go_wp2
  refine bodyPost_ret (v := .tuple #[.agg #[.int .i64 0, .int .i64 0], .int .i64 1]) (by simp [results, Try.results65, go_sem, *]) rfl ?_
  exact ⟨rfl, HX.out.two (by omega) _ _⟩

set_option maxRecDepth 100000 in
set_option maxHeartbeats 2000000 in
theorem rcover_sl (s0 s1 : Bool) (A0 B0 A1 B1 : Option Addr) (l0 c0 m0 k0 l1 c1 m1 k1 : Nat) (q : Rat) (w : World) (hx : RatG w (.agg #[.bool s0, .slice A0 l0 c0, .slice B0 m0 k0]) q) (hy : RatL w (.agg #[.bool s1, .slice A1 l1 c1, .slice B1 m1 k1]) true) :
    Calls Try.prog 65 #[.agg #[.bool s0, .slice A0 l0 c0, .slice B0 m0 k0], .agg #[.bool s1, .slice A1 l1 c1, .slice B1 m1 k1]] w (RetE w (.agg #[.int .i64 0, .int .i64 0]) 1) := by
  have HXX := Lib.hid hx
  have HYY := Lib.hid hy
  clear hx hy
  have hXe : Ext w (((w.alloc (.cells #[.bool s0, .slice A0 l0 c0, .slice B0 m0 k0] 33)).alloc (.cells #[.bool s1, .slice A1 l1 c1, .slice B1 m1 k1] 33)).alloc (.cells #[.int .i64 0, .int .i64 0] 62)) := ((((Ext.refl w).alloc _).alloc _).alloc _)
  have kA : Blk (((w.alloc (.cells #[.bool s0, .slice A0 l0 c0, .slice B0 m0 k0] 33)).alloc (.cells #[.bool s1, .slice A1 l1 c1, .slice B1 m1 k1] 33)).alloc (.cells #[.int .i64 0, .int .i64 0] 62)) w.heap.size 33 #[.bool s0, .slice A0 l0 c0, .slice B0 m0 k0] := Blk.alloc (Blk.alloc (Blk.at_ (by simp)) _) _
  have kB : Blk (((w.alloc (.cells #[.bool s0, .slice A0 l0 c0, .slice B0 m0 k0] 33)).alloc (.cells #[.bool s1, .slice A1 l1 c1, .slice B1 m1 k1] 33)).alloc (.cells #[.int .i64 0, .int .i64 0] 62)) (w.heap.size + 1) 33 #[.bool s1, .slice A1 l1 c1, .slice B1 m1 k1] := Blk.alloc (Blk.at_ (by simp)) _
  have kR : Blk (((w.alloc (.cells #[.bool s0, .slice A0 l0 c0, .slice B0 m0 k0] 33)).alloc (.cells #[.bool s1, .slice A1 l1 c1, .slice B1 m1 k1] 33)).alloc (.cells #[.int .i64 0, .int .i64 0] 62)) (w.heap.size + 2) 62 #[.int .i64 0, .int .i64 0] := Blk.at_ (by simp)
  go_enter Try.func65, Try.ntmps65
  go_wp2_with fail
  generalize (((w.alloc (.cells #[.bool s0, .slice A0 l0 c0, .slice B0 m0 k0] 33)).alloc (.cells #[.bool s1, .slice A1 l1 c1, .slice B1 m1 k1] 33)).alloc (.cells #[.int .i64 0, .int .i64 0] 62)) = w1 at hXe kA kB kR ⊢
  have HX := Lib.hid hXe
  clear hXe
  have KA := Lib.hid kA
  clear kA
  have KB := Lib.hid kB
  clear kB
  have KR := Lib.hid kR
  clear kR
  replace HXX := Lib.hid (HXX.out.ext HX.out)
  replace HYY := Lib.hid (HYY.out.ext HX.out)
  have cA0 : w1.cell? ⟨w.heap.size, 0, none⟩ = some (.bool s0) := KA.out.cell 0
  have cA1 : w1.cell? ⟨w.heap.size, 1, none⟩ = some (.slice A0 l0 c0) := KA.out.cell 1
  have cA2 : w1.cell? ⟨w.heap.size, 2, none⟩ = some (.slice B0 m0 k0) := KA.out.cell 2
  go_wp2_with fail
  clear cA0 cA1 cA2
  refine (rof_yes HXX.out).mono ?_
  rintro e w2 ⟨v2, rfl, hv, hX⟩
  replace hX : Ext w1 w2 := by with_reducible exact hX
  replace HX := Lib.hid (HX.out.trans hX)
  replace HXX := Lib.hid (HXX.out.ext hX)
  replace HYY := Lib.hid (HYY.out.ext hX)
  replace KA := Lib.hid (KA.out.ext hX)
  replace KB := Lib.hid (KB.out.ext hX)
  replace KR := Lib.hid (KR.out.ext hX)
  clear hX
  obtain ⟨s2, A2, l2, c2, B2, m2, k2, rfl⟩ := QZ.open hv
  have HQ2 := Lib.hid hv
  clear hv
  go_upto_region 2 with (fail)
  have hXa : Ext w2 (w2.alloc (.cells #[.bool s2, .slice A2 l2 c2, .slice B2 m2 k2] 42)) := (Ext.refl _).alloc _
  have kX := Blk.new w2 42 #[.bool s2, .slice A2 l2 c2, .slice B2 m2 k2]
  have zA := KA.out.lt
  have zB := KB.out.lt
  have zR := KR.out.lt
  have zg := HX.out.size
  replace HX := Lib.hid (HX.out.trans hXa)
  replace HXX := Lib.hid (HXX.out.ext hXa)
  replace HYY := Lib.hid (HYY.out.ext hXa)
  replace HQ2 := Lib.hid (HQ2.out.ext hXa)
  replace KA := Lib.hid (KA.out.ext hXa)
  replace KB := Lib.hid (KB.out.ext hXa)
  replace KR := Lib.hid (KR.out.ext hXa)
  generalize (w2.alloc (.cells #[.bool s2, .slice A2 l2 c2, .slice B2 m2 k2] 42)) = w3 at HX HXX HYY HQ2 KA KB KR kX ⊢
  have KX := Lib.hid kX
  clear kX hXa
  have cB0 : w3.cell? ⟨(w.heap.size + 1), 0, none⟩ = some (.bool s1) := KB.out.cell 0
  have cB1 : w3.cell? ⟨(w.heap.size + 1), 1, none⟩ = some (.slice A1 l1 c1) := KB.out.cell 1
  have cB2 : w3.cell? ⟨(w.heap.size + 1), 2, none⟩ = some (.slice B1 m1 k1) := KB.out.cell 2
  go_wp2_with fail
  clear cB0 cB1 cB2
  refine (rof_no HYY.out).mono ?_
  rintro e w4 ⟨rfl, hX⟩
  replace hX : Ext w3 w4 := by with_reducible exact hX
  replace HX := Lib.hid (HX.out.trans hX)
  replace HXX := Lib.hid (HXX.out.ext hX)
  replace HYY := Lib.hid (HYY.out.ext hX)
  replace HQ2 := Lib.hid (HQ2.out.ext hX)
  replace KA := Lib.hid (KA.out.ext hX)
  replace KB := Lib.hid (KB.out.ext hX)
  replace KR := Lib.hid (KR.out.ext hX)
  replace KX := Lib.hid (KX.out.ext hX)
  clear hX
  go_upto_region 3 with (fail)
  have hXa : Ext w4 (w4.alloc (.cells #[.bool false, .slice none 0 0, .slice none 0 0] 42)) := (Ext.refl _).alloc _
  have kY := Blk.new w4 42 #[.bool false, .slice none 0 0, .slice none 0 0]
  have zA := KA.out.lt
  have zB := KB.out.lt
  have zR := KR.out.lt
  have zX := KX.out.lt
  have zg := HX.out.size
  replace HX := Lib.hid (HX.out.trans hXa)
  replace HXX := Lib.hid (HXX.out.ext hXa)
  replace HYY := Lib.hid (HYY.out.ext hXa)
  replace HQ2 := Lib.hid (HQ2.out.ext hXa)
  replace KA := Lib.hid (KA.out.ext hXa)
  replace KB := Lib.hid (KB.out.ext hXa)
  replace KR := Lib.hid (KR.out.ext hXa)
  replace KX := Lib.hid (KX.out.ext hXa)
  generalize (w4.alloc (.cells #[.bool false, .slice none 0 0, .slice none 0 0] 42)) = w5 at HX HXX HYY HQ2 KA KB KR KX kY ⊢
  have KY := Lib.hid kY
  clear kY hXa
  have cR0 : w5.cell? ⟨(w.heap.size + 2), 0, none⟩ = some (.int .i64 0) := KR.out.cell 0
  have fR0 : w5.frozen? ⟨(w.heap.size + 2), 0, none⟩ = false := KR.out.free 0
  have cR1 : w5.cell? ⟨(w.heap.size + 2), 1, none⟩ = some (.int .i64 0) := KR.out.cell 1
  have fR1 : w5.frozen? ⟨(w.heap.size + 2), 1, none⟩ = false := KR.out.free 1
  go_wp2
  refine bodyPost_ret (v := .tuple #[.agg #[.int .i64 0, .int .i64 0], .int .i64 1]) (by simp [results, Try.results65, go_sem, *]) rfl ?_
  exact ⟨rfl, HX.out.two (by omega) _ _⟩

end Go.Proofs.Yteoijnaljkagfaa
