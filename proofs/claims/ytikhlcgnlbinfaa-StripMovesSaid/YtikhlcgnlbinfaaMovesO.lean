/- Lemmas of the proof that follows (Moves, part 15): walks of functions by contract, and plain lemmas. Conditions: none. -/
import Derived.Test.YtikhlcgnlbinfaaMovesN
namespace Go.Proofs.Ytikhlcgnlbinfaa
open Lib (hid)
open Go.RowKit
theorem pick_aggO {α : Type} {P : World → Value → α → Prop} {w : World} {k : Nat} (hk : k < 3) {s0 s1 s2 : Bool} {A0 A1 A2 B0 B1 B2 : Option Addr} {l0 c0 m0 k0 l1 c1 m1 k1 l2 c2 m2 k2 : Nat} {q : Nat → α} (h0 : P w (.agg #[.bool s0, .slice A0 l0 c0, .slice B0 m0 k0]) (q 0)) (h1 : P w (.agg #[.bool s1, .slice A1 l1 c1, .slice B1 m1 k1]) (q 1)) (h2 : P w (.agg #[.bool s2, .slice A2 l2 c2, .slice B2 m2 k2]) (q 2)) :
  ∃ s A l c B m n, pick3 (Value.bool s0) (Value.bool s1) (Value.bool s2) k = .bool s ∧ pick3 (Value.slice A0 l0 c0) (Value.slice A1 l1 c1) (Value.slice A2 l2 c2) k = .slice A l c ∧ pick3 (Value.slice B0 m0 k0) (Value.slice B1 m1 k1) (Value.slice B2 m2 k2) k = .slice B m n ∧ P w (.agg #[.bool s, .slice A l c, .slice B m n]) (q k) := by
 match k, hk with
 | 0, _ => exact ⟨_, _, _, _, _, _, _, rfl, rfl, rfl, h0⟩
 | 1, _ => exact ⟨_, _, _, _, _, _, _, rfl, rfl, rfl, h1⟩
 | 2, _ => exact ⟨_, _, _, _, _, _, _, rfl, rfl, rfl, h2⟩
 | _ + 3, hk => omega
theorem pick_fn (f : Nat → Int) {k : Nat} (hk : k < 3) : pick3 (Value.int .i64 (f 0)) (.int .i64 (f 1)) (.int .i64 (f 2)) k = .int .i64 (f k) := by
 match k, hk with
 | 0, _ => rfl
 | 1, _ => rfl
 | 2, _ => rfl
theorem idx6S (x0 x1 x2 x3 x4 x5 : Value) {k : Nat} (hk : k < 3) (w : World) : (Instr.index 47 (.agg #[x0, x1, x2, x3, x4, x5]) (.int .i64 (k : Int))).run Try.prog w = .ok (.agg #[pick3 x0 x2 x4 k, pick3 x1 x3 x5 k]) w := by
 have i0 : ∀ w : World, (Instr.index 47 (.agg #[x0, x1, x2, x3, x4, x5]) (.int .i64 0)).run Try.prog w = .ok (.agg #[x0, x1]) w := fun _ => by kernel_rfl
 have i1 : ∀ w : World, (Instr.index 47 (.agg #[x0, x1, x2, x3, x4, x5]) (.int .i64 1)).run Try.prog w = .ok (.agg #[x2, x3]) w := fun _ => by kernel_rfl
 have i2 : ∀ w : World, (Instr.index 47 (.agg #[x0, x1, x2, x3, x4, x5]) (.int .i64 2)).run Try.prog w = .ok (.agg #[x4, x5]) w := fun _ => by kernel_rfl
 match k, hk with
 | 0, _ => exact i0 w
 | 1, _ => exact i1 w
 | 2, _ => exact i2 w
 | _ + 3, hk => omega
/-- A number that may be large. -/
def NumS (w : World) (v : Value) : Option Rat → Prop
 | none => RatL w v true
 | some q => RatG w v q
theorem NumS.ext {w w' : World} {v : Value} {o : Option Rat} (h : NumS w v o) (he : Ext w w') : NumS w' v o := by
 cases o with
 | none => exact RatL.ext h he
 | some q => exact RatG.ext h he
theorem NumS.big {w : World} {v : Value} {o : Option Rat} (h : NumS w v o) : RatL w v o.isNone := by
 cases o with
 | none => exact h
 | some q => exact RatG.small h
/-- Floor: what fits. -/
def flB (q : Rat) : Bool := decide (q.floor.natAbs ≤ 4611686018427387904)
def flV (q : Rat) : Int := if flB q then q.floor else 0
theorem floorX {w : World} {v : Value} {q : Rat} {L : Nat} (h : NumX w v q L) (hL : L ≤ 1099511627775) : Calls Try.prog 142 #[v] w fun e w' => e = .returned (.tuple #[.int .i64 (flV q), .bool (flB q)]) ∧ Ext w w' := by
 obtain ⟨s, n, d, h1, h2, h3, h4, h5⟩ := h
 subst h3
 have e : (ratV s n d).floor.natAbs = flN s n d := by
  rw [floor_ratV s n d h2]
  cases s <;> simp [sgn]
 by_cases hN : flN s n d ≤ 4611686018427387904
 ·
  have hb : flB (ratV s n d) = true := by unfold flB; rw [e]; exact decide_eq_true hN
  rw [hb, flV, if_pos hb]
  exact floor_in v s n d L w h1 h2 h4 hL hN
 ·
  have hb : flB (ratV s n d) = false := by unfold flB; rw [e]; exact decide_eq_false hN
  rw [hb, flV, if_neg (by rw [hb]; decide)]
  exact floor_out v s n d L w h1 h2 h4 hL (by omega)
def mvL (lo : Nat → Int) (q : Nat → Rat) (k : Nat) : Int := lo k + (q k).floor
def mvH (hi : Nat → Int) (q : Nat → Rat) (k : Nat) : Int := hi k - (-(q k)).floor
/-- The moved span is within the limits. -/
def mvOk (lo hi : Nat → Int) (q : Nat → Rat) (k : Nat) : Prop := -1152921504606846976 ≤ mvL lo q k ∧ mvH hi q k ≤ 1152921504606846976
theorem ceil_le_floor (q : Rat) : q.floor ≤ -(-q).floor := by
 have h1 := Rat.floor_le q
 have h2 := Rat.floor_le (-q)
 have h3 : ((q.floor : Int) : Rat) ≤ ((-(-q).floor : Int) : Rat) := by rw [Rat.intCast_neg]; grind
 exact Rat.intCast_le_intCast.1 h3
theorem ceil_lt_floor (q : Rat) : -(-q).floor ≤ q.floor + 1 := by
 have h1 := Rat.lt_floor_add_one q
 have h2 : ((-q.floor - 1 : Int) : Rat) ≤ -q := by
  rw [Rat.intCast_sub, Rat.intCast_neg]
  have : ((1 : Int) : Rat) = 1 := rfl
  grind
 have := Rat.le_floor_iff.2 h2
 omega
theorem mvOk_fl {lo hi : Nat → Int} {q : Nat → Rat} {k : Nat} (ho : okS (lo k) (hi k) = true) (h : mvOk lo hi q k) : flB (q k) = true ∧ flB (-(q k)) = true := by
 have hS : -1152921504606846976 ≤ lo k ∧ lo k ≤ hi k ∧ hi k ≤ 1152921504606846976 := by simpa [okS] using ho
 obtain ⟨h1, h2⟩ := h
 unfold mvL at h1
 unfold mvH at h2
 have h3 := ceil_le_floor (q k)
 have h4 := ceil_lt_floor (q k)
 unfold flB
 exact ⟨decide_eq_true (by omega), decide_eq_true (by omega)⟩
/-- The spans of a box in a local array. -/
def B6 (w : World) (g : Nat) (T : TypeId) (a b : Nat → Int) : Prop := Blk w g T #[.int .i64 (a 0), .int .i64 (b 0), .int .i64 (a 1), .int .i64 (b 1), .int .i64 (a 2), .int .i64 (b 2)]
theorem B6.cell {w : World} {g : Nat} {T : TypeId} {a b : Nat → Int} (h : B6 w g T a b) {k : Nat} (hk : k < 3) : w.cell? ⟨g, k * 2, none⟩ = some (.int .i64 (a k)) ∧ w.cell? ⟨g, k * 2 + 1, none⟩ = some (.int .i64 (b k)) := by
 unfold B6 at h
 match k, hk with
 | 0, _ => exact ⟨h.cell 0, h.cell 1⟩
 | 1, _ => exact ⟨h.cell 2, h.cell 3⟩
 | 2, _ => exact ⟨h.cell 4, h.cell 5⟩
theorem B6.put {w : World} {g : Nat} {T : TypeId} {a b : Nat → Int} (h : B6 w g T a b) {k : Nat} (hk : k < 3) (x y : Int) : B6 ((w.setCell ⟨g, k * 2, none⟩ (.int .i64 x)).setCell ⟨g, k * 2 + 1, none⟩ (.int .i64 y)) g T (fun i => if i = k then x else a i) (fun i => if i = k then y else b i) := by
 unfold B6 at h ⊢
 match k, hk with
 | 0, _ => exact (h.set 0 _).set 1 _
 | 1, _ => exact (h.set 2 _).set 3 _
 | 2, _ => exact (h.set 4 _).set 5 _
theorem B6.ext {w w' : World} {g : Nat} {T : TypeId} {a b : Nat → Int} (h : B6 w g T a b) (he : Ext w w') : B6 w' g T a b := Blk.ext h he
theorem B6.congr {w : World} {g : Nat} {T : TypeId} {a b a' b' : Nat → Int} (h : B6 w g T a b) (e : ∀ k, k < 3 → a k = a' k ∧ b k = b' k) : B6 w g T a' b' := by
 unfold B6 at h ⊢
 rw [← (e 0 (by omega)).1, ← (e 0 (by omega)).2, ← (e 1 (by omega)).1, ← (e 1 (by omega)).2, ← (e 2 (by omega)).1, ← (e 2 (by omega)).2]
 exact h
/-- What Move answers. -/
def mvBad (lo hi : Nat → Int) : Prop := ∃ k, k < 3 ∧ okS (lo k) (hi k) = false
open Classical in
noncomputable def mvA (lo hi : Nat → Int) (o : Nat → Option Rat) : (Nat → Int) × (Nat → Int) × Int :=
 if mvBad lo hi then (fun _ => 0, fun _ => 0, 2)
 else if ∃ k, k < 3 ∧ o k = none then (fun _ => 0, fun _ => 0, 51)
 else if ∃ k, k < 3 ∧ ¬ mvOk lo hi (fun k => (o k).getD 0) k then (fun _ => 0, fun _ => 0, 3)
 else (mvL lo (fun k => (o k).getD 0), mvH hi (fun k => (o k).getD 0), 0)
theorem mvA_bad {lo hi : Nat → Int} {o : Nat → Option Rat} (h : mvBad lo hi) : mvA lo hi o = (fun _ => 0, fun _ => 0, 2) := if_pos h
theorem mvA_big {lo hi : Nat → Int} {o : Nat → Option Rat} (h : ¬ mvBad lo hi) (h2 : ∃ k, k < 3 ∧ o k = none) : mvA lo hi o = (fun _ => 0, fun _ => 0, 51) := by unfold mvA; rw [if_neg h, if_pos h2]
theorem mvA_far {lo hi : Nat → Int} {o : Nat → Option Rat} (h : ¬ mvBad lo hi) (h2 : ¬ ∃ k, k < 3 ∧ o k = none) (h3 : ∃ k, k < 3 ∧ ¬ mvOk lo hi (fun k => (o k).getD 0) k) : mvA lo hi o = (fun _ => 0, fun _ => 0, 3) := by unfold mvA; rw [if_neg h, if_neg h2, if_pos h3]
theorem mvA_ok {lo hi : Nat → Int} {o : Nat → Option Rat} (h : ¬ mvBad lo hi) (h2 : ¬ ∃ k, k < 3 ∧ o k = none) (h3 : ¬ ∃ k, k < 3 ∧ ¬ mvOk lo hi (fun k => (o k).getD 0) k) : mvA lo hi o = (mvL lo (fun k => (o k).getD 0), mvH hi (fun k => (o k).getD 0), 0) := by unfold mvA; rw [if_neg h, if_neg h2, if_neg h3]
def boxV (a b : Nat → Int) : Value := .agg #[.int .i64 (a 0), .int .i64 (b 0), .int .i64 (a 1), .int .i64 (b 1), .int .i64 (a 2), .int .i64 (b 2)]
set_option maxRecDepth 100000 in
set_option maxHeartbeats 4000000 in
theorem move_r21 (gs ii : Nat) (xa xb f1 f2 : Int) (w : World) (ca : w.cell? ⟨gs, ii * 2, none⟩ = some (.int .i64 xa)) (cb : w.cell? ⟨gs, ii * 2 + 1, none⟩ = some (.int .i64 xb)) (_hi3 : (ii : Int) < 3) (_hi4 : ii < 3) (_hA : -1152921504606846976 ≤ xa ∧ xa ≤ 1152921504606846976) (_hB : -1152921504606846976 ≤ xb ∧ xb ≤ 1152921504606846976) (_h1 : -4611686018427387904 ≤ f1 ∧ f1 ≤ 4611686018427387904) (_h2 : -4611686018427387904 ≤ f2 ∧ f2 ≤ 4611686018427387904) (a : Act) (Q : Exit → Act → World → Prop) (hsize : 78 ≤ a.tmps.size)
  (s6 : a.tmps[6]? = some (.pointer (some ⟨gs, 0, none⟩)))
  (s11 : a.tmps[11]? = some (.int .i64 (ii : Int)))
  (s13 : a.tmps[13]? = some (.int .i64 (f1)))
  (s15 : a.tmps[15]? = some (.int .i64 (f2)))
  (hend : ∀ (xv0 xv1 xv2 xv3 xv4 xv5 xv6 xv7 xv8 xv9 xv10 xv11 xv12 xv13 : Value) (W : World), (xv0 = .int .i64 (ii : Int)) → (xv1 = .pointer (some ⟨gs, ii * 2, none⟩)) → (xv2 = .pointer (some ⟨gs, ii * 2, none⟩)) → (xv3 = .int .i64 (xa)) → (xv4 = .int .i64 (f1)) → (xv5 = .int .i64 (xa + f1)) → (xv6 = .int .i64 (ii : Int)) → (xv7 = .pointer (some ⟨gs, ii * 2, none⟩)) → (xv8 = .pointer (some ⟨gs, ii * 2 + 1, none⟩)) → (xv9 = .int .i64 (xb)) → (xv10 = .int .i64 (f2)) → (xv11 = .int .i64 (xb - f2)) → (xv12 = .int .i64 (xa + f1)) → (xv13 = .int .i64 (xb - f2)) → Ext w W → wpList Try.prog (rops Try.f63 21).toArray Q ((rops Try.f63 21).drop 14) ((((((((((((((a.put (some 66) xv0).put (some 67) xv1).put (some 68) xv2).put (some 69) xv3).put (some 70) xv4).put (some 71) xv5).put (some 72) xv6).put (some 73) xv7).put (some 74) xv8).put (some 75) xv9).put (some 76) xv10).put (some 77) xv11).put (some 13) xv12).put (some 15) xv13) W) :
  (Code.region 21 (rops Try.f63 21).toArray true).wp Try.prog Q a w := by
 have hsz : ∀ d, some d ∈ ([some 66, some 67, some 68, some 69, some 70, some 71, some 72, some 73, some 74, some 75, some 76, some 77, some 13, some 15] : List (Option Tmp)) → d < a.tmps.size := slots_lt (by decide) hsize
 refine wp_region_g0 14 [some 66, some 67, some 68, some 69, some 70, some 71, some 72, some 73, some 74, some 75, some 76, some 77, some 13, some 15] [[], [0], [1], [2], [], [3, 4], [], [6], [7], [8], [], [9, 10], [5], [11]] [[], [], [], [], [], [], [], [], [], [], [], [], [], []] (fun (done : Nat → Prop) (us : Nat → Value) (W : World) => Ext w W ∧ (done 0 → us 0 = .int .i64 (ii : Int)) ∧ (done 1 → us 1 = .pointer (some ⟨gs, ii * 2, none⟩)) ∧ (done 2 → us 2 = .pointer (some ⟨gs, ii * 2, none⟩)) ∧ (done 3 → us 3 = .int .i64 (xa)) ∧ (done 4 → us 4 = .int .i64 (f1)) ∧ (done 5 → us 5 = .int .i64 (xa + f1)) ∧ (done 6 → us 6 = .int .i64 (ii : Int)) ∧ (done 7 → us 7 = .pointer (some ⟨gs, ii * 2, none⟩)) ∧ (done 8 → us 8 = .pointer (some ⟨gs, ii * 2 + 1, none⟩)) ∧ (done 9 → us 9 = .int .i64 (xb)) ∧ (done 10 → us 10 = .int .i64 (f2)) ∧ (done 11 → us 11 = .int .i64 (xb - f2)) ∧ (done 12 → us 12 = .int .i64 (xa + f1)) ∧ (done 13 → us 13 = .int .i64 (xb - f2)) ∧ (¬ done 12 → us 12 = .int .i64 (f1)) ∧ (¬ done 13 → us 13 = .int .i64 (f2)) ∧ (done 12 → done 4) ∧ (done 13 → done 10) ∧ (done 5 → done 4) ∧ (done 11 → done 10)) (by kernel_rfl) (by kernel_rfl) hsz (fun p q us W h => by have e : p = q := funext fun k => propext (h k); rw [e]; exact id) (fun us hus => ⟨(Ext.refl w).drew, fun h => h.elim, fun h => h.elim, fun h => h.elim, fun h => h.elim, fun h => h.elim, fun h => h.elim, fun h => h.elim, fun h => h.elim, fun h => h.elim, fun h => h.elim, fun h => h.elim, fun h => h.elim, fun h => h.elim, fun h => h.elim, fun _ => Option.some.inj ((hus 12 13 rfl).symm.trans s13), fun _ => Option.some.inj ((hus 13 15 rfl).symm.trans s15), fun h => h.elim, fun h => h.elim, fun h => h.elim, fun h => h.elim⟩) ?_ ?_
 ·
  clear hend
  simp only [rops, Try.f63, regOf, Option.bind_some, Nat.reduceBEq, if_true, if_false, Bool.false_eq_true, Option.getD_some]
  simp only [List.take_succ_cons, List.take_zero]
  refine ⟨?_, ?_, ?_, ?_, ?_, ?_, ?_, ?_, ?_, ?_, ?_, ?_, ?_, ?_, trivial⟩
  ·
   intro done us W hJ hdep haft hnot b hb hb' K hK Q'
   obtain ⟨hX0, cc0, cc1, cc2, cc3, cc4, cc5, cc6, cc7, cc8, cc9, cc10, cc11, cc12, cc13, uu12, uu13, rr12, rr13, ii5, ii11⟩ := hJ
   have e11 := (hb' 11 (by simp)).trans s11
   clear hb hb'
   have hfin := hK (.int .i64 (ii : Int)) _ ⟨hX0, fun _ => rfl, fun h => cc1 (h.resolve_right (by decide)), fun h => cc2 (h.resolve_right (by decide)), fun h => cc3 (h.resolve_right (by decide)), fun h => cc4 (h.resolve_right (by decide)), fun h => cc5 (h.resolve_right (by decide)), fun h => cc6 (h.resolve_right (by decide)), fun h => cc7 (h.resolve_right (by decide)), fun h => cc8 (h.resolve_right (by decide)), fun h => cc9 (h.resolve_right (by decide)), fun h => cc10 (h.resolve_right (by decide)), fun h => cc11 (h.resolve_right (by decide)), fun h => cc12 (h.resolve_right (by decide)), fun h => cc13 (h.resolve_right (by decide)), fun h => uu12 (fun d => h (.inl d)), fun h => uu13 (fun d => h (.inl d)), fun h => .inl (rr12 (h.resolve_right (by decide))), fun h => .inl (rr13 (h.resolve_right (by decide))), fun h => .inl (ii5 (h.resolve_right (by decide))), fun h => .inl (ii11 (h.resolve_right (by decide)))⟩
   clear hK cc0 cc1 cc2 cc3 cc4 cc5 cc6 cc7 cc8 cc9 cc10 cc11 cc12 cc13 uu12 uu13 rr12 rr13 ii5 ii11
   go_simp
   exact hfin
  ·
   intro done us W hJ hdep haft hnot b hb hb' K hK Q'
   obtain ⟨hX0, cc0, cc1, cc2, cc3, cc4, cc5, cc6, cc7, cc8, cc9, cc10, cc11, cc12, cc13, uu12, uu13, rr12, rr13, ii5, ii11⟩ := hJ
   simp only [List.getD_cons_succ, List.getD_cons_zero, List.mem_cons, List.not_mem_nil, or_false, forall_eq] at hdep
   have e6 := (hb' 6 (by simp)).trans s6
   have e66 := hb 0 66 rfl
   rw [cc0 hdep] at e66
   clear hb hb'
   have hfin := hK (.pointer (some ⟨gs, ii * 2, none⟩)) _ ⟨hX0, fun h => cc0 (h.resolve_right (by decide)), fun _ => rfl, fun h => cc2 (h.resolve_right (by decide)), fun h => cc3 (h.resolve_right (by decide)), fun h => cc4 (h.resolve_right (by decide)), fun h => cc5 (h.resolve_right (by decide)), fun h => cc6 (h.resolve_right (by decide)), fun h => cc7 (h.resolve_right (by decide)), fun h => cc8 (h.resolve_right (by decide)), fun h => cc9 (h.resolve_right (by decide)), fun h => cc10 (h.resolve_right (by decide)), fun h => cc11 (h.resolve_right (by decide)), fun h => cc12 (h.resolve_right (by decide)), fun h => cc13 (h.resolve_right (by decide)), fun h => uu12 (fun d => h (.inl d)), fun h => uu13 (fun d => h (.inl d)), fun h => .inl (rr12 (h.resolve_right (by decide))), fun h => .inl (rr13 (h.resolve_right (by decide))), fun h => .inl (ii5 (h.resolve_right (by decide))), fun h => .inl (ii11 (h.resolve_right (by decide)))⟩
   clear hK cc0 cc1 cc2 cc3 cc4 cc5 cc6 cc7 cc8 cc9 cc10 cc11 cc12 cc13 uu12 uu13 rr12 rr13 ii5 ii11
   go_simp
   exact hfin
  ·
   intro done us W hJ hdep haft hnot b hb hb' K hK Q'
   obtain ⟨hX0, cc0, cc1, cc2, cc3, cc4, cc5, cc6, cc7, cc8, cc9, cc10, cc11, cc12, cc13, uu12, uu13, rr12, rr13, ii5, ii11⟩ := hJ
   simp only [List.getD_cons_succ, List.getD_cons_zero, List.mem_cons, List.not_mem_nil, or_false, forall_eq] at hdep
   have e67 := hb 1 67 rfl
   rw [cc1 hdep] at e67
   clear hb hb'
   have hfin := hK (.pointer (some ⟨gs, ii * 2, none⟩)) _ ⟨hX0, fun h => cc0 (h.resolve_right (by decide)), fun h => cc1 (h.resolve_right (by decide)), fun _ => rfl, fun h => cc3 (h.resolve_right (by decide)), fun h => cc4 (h.resolve_right (by decide)), fun h => cc5 (h.resolve_right (by decide)), fun h => cc6 (h.resolve_right (by decide)), fun h => cc7 (h.resolve_right (by decide)), fun h => cc8 (h.resolve_right (by decide)), fun h => cc9 (h.resolve_right (by decide)), fun h => cc10 (h.resolve_right (by decide)), fun h => cc11 (h.resolve_right (by decide)), fun h => cc12 (h.resolve_right (by decide)), fun h => cc13 (h.resolve_right (by decide)), fun h => uu12 (fun d => h (.inl d)), fun h => uu13 (fun d => h (.inl d)), fun h => .inl (rr12 (h.resolve_right (by decide))), fun h => .inl (rr13 (h.resolve_right (by decide))), fun h => .inl (ii5 (h.resolve_right (by decide))), fun h => .inl (ii11 (h.resolve_right (by decide)))⟩
   clear hK cc0 cc1 cc2 cc3 cc4 cc5 cc6 cc7 cc8 cc9 cc10 cc11 cc12 cc13 uu12 uu13 rr12 rr13 ii5 ii11
   go_simp
   exact hfin
  ·
   intro done us W hJ hdep haft hnot b hb hb' K hK Q'
   obtain ⟨hX0, cc0, cc1, cc2, cc3, cc4, cc5, cc6, cc7, cc8, cc9, cc10, cc11, cc12, cc13, uu12, uu13, rr12, rr13, ii5, ii11⟩ := hJ
   simp only [List.getD_cons_succ, List.getD_cons_zero, List.mem_cons, List.not_mem_nil, or_false, forall_eq] at hdep
   have e68 := hb 2 68 rfl
   rw [cc2 hdep] at e68
   clear hb hb'
   have q0 := Ext.cell hX0 ca
   have hfin := hK (.int .i64 (xa)) _ ⟨hX0, fun h => cc0 (h.resolve_right (by decide)), fun h => cc1 (h.resolve_right (by decide)), fun h => cc2 (h.resolve_right (by decide)), fun _ => rfl, fun h => cc4 (h.resolve_right (by decide)), fun h => cc5 (h.resolve_right (by decide)), fun h => cc6 (h.resolve_right (by decide)), fun h => cc7 (h.resolve_right (by decide)), fun h => cc8 (h.resolve_right (by decide)), fun h => cc9 (h.resolve_right (by decide)), fun h => cc10 (h.resolve_right (by decide)), fun h => cc11 (h.resolve_right (by decide)), fun h => cc12 (h.resolve_right (by decide)), fun h => cc13 (h.resolve_right (by decide)), fun h => uu12 (fun d => h (.inl d)), fun h => uu13 (fun d => h (.inl d)), fun h => .inl (rr12 (h.resolve_right (by decide))), fun h => .inl (rr13 (h.resolve_right (by decide))), fun h => .inl (ii5 (h.resolve_right (by decide))), fun h => .inl (ii11 (h.resolve_right (by decide)))⟩
   clear hK cc0 cc1 cc2 cc3 cc4 cc5 cc6 cc7 cc8 cc9 cc10 cc11 cc12 cc13 uu12 uu13 rr12 rr13 ii5 ii11
   go_simp
   exact hfin
  ·
   intro done us W hJ hdep haft hnot b hb hb' K hK Q'
   obtain ⟨hX0, cc0, cc1, cc2, cc3, cc4, cc5, cc6, cc7, cc8, cc9, cc10, cc11, cc12, cc13, uu12, uu13, rr12, rr13, ii5, ii11⟩ := hJ
   have e13 := hb 12 13 rfl
   rw [uu12 (fun h => hnot (rr12 h))] at e13
   clear hb hb'
   have hfin := hK (.int .i64 (f1)) _ ⟨hX0, fun h => cc0 (h.resolve_right (by decide)), fun h => cc1 (h.resolve_right (by decide)), fun h => cc2 (h.resolve_right (by decide)), fun h => cc3 (h.resolve_right (by decide)), fun _ => rfl, fun h => cc5 (h.resolve_right (by decide)), fun h => cc6 (h.resolve_right (by decide)), fun h => cc7 (h.resolve_right (by decide)), fun h => cc8 (h.resolve_right (by decide)), fun h => cc9 (h.resolve_right (by decide)), fun h => cc10 (h.resolve_right (by decide)), fun h => cc11 (h.resolve_right (by decide)), fun h => cc12 (h.resolve_right (by decide)), fun h => cc13 (h.resolve_right (by decide)), fun h => uu12 (fun d => h (.inl d)), fun h => uu13 (fun d => h (.inl d)), fun h => .inl (rr12 (h.resolve_right (by decide))), fun h => .inl (rr13 (h.resolve_right (by decide))), fun h => .inl (ii5 (h.resolve_right (by decide))), fun h => .inl (ii11 (h.resolve_right (by decide)))⟩
   clear hK cc0 cc1 cc2 cc3 cc4 cc5 cc6 cc7 cc8 cc9 cc10 cc11 cc12 cc13 uu12 uu13 rr12 rr13 ii5 ii11
   go_simp
   exact hfin
  ·
   intro done us W hJ hdep haft hnot b hb hb' K hK Q'
   obtain ⟨hX0, cc0, cc1, cc2, cc3, cc4, cc5, cc6, cc7, cc8, cc9, cc10, cc11, cc12, cc13, uu12, uu13, rr12, rr13, ii5, ii11⟩ := hJ
   simp only [List.getD_cons_succ, List.getD_cons_zero, List.mem_cons, List.not_mem_nil, or_false, forall_eq_or_imp, forall_eq] at hdep
   have e69 := hb 3 69 rfl
   rw [cc3 hdep.1] at e69
   have e70 := hb 4 70 rfl
   rw [cc4 hdep.2] at e70
   clear hb hb'
   have qw : IntKind.i64.wrap (xa + f1) = xa + f1 := IntWalk.i64_in _ (by omega)
   have hfin := hK (.int .i64 (xa + f1)) _ ⟨hX0, fun h => cc0 (h.resolve_right (by decide)), fun h => cc1 (h.resolve_right (by decide)), fun h => cc2 (h.resolve_right (by decide)), fun h => cc3 (h.resolve_right (by decide)), fun h => cc4 (h.resolve_right (by decide)), fun _ => rfl, fun h => cc6 (h.resolve_right (by decide)), fun h => cc7 (h.resolve_right (by decide)), fun h => cc8 (h.resolve_right (by decide)), fun h => cc9 (h.resolve_right (by decide)), fun h => cc10 (h.resolve_right (by decide)), fun h => cc11 (h.resolve_right (by decide)), fun h => cc12 (h.resolve_right (by decide)), fun h => cc13 (h.resolve_right (by decide)), fun h => uu12 (fun d => h (.inl d)), fun h => uu13 (fun d => h (.inl d)), fun h => .inl (rr12 (h.resolve_right (by decide))), fun h => .inl (rr13 (h.resolve_right (by decide))), fun _ => .inl hdep.2, fun h => .inl (ii11 (h.resolve_right (by decide)))⟩
   clear hK cc0 cc1 cc2 cc3 cc4 cc5 cc6 cc7 cc8 cc9 cc10 cc11 cc12 cc13 uu12 uu13 rr12 rr13 ii5 ii11
   go_simp
   exact hfin
  ·
   intro done us W hJ hdep haft hnot b hb hb' K hK Q'
   obtain ⟨hX0, cc0, cc1, cc2, cc3, cc4, cc5, cc6, cc7, cc8, cc9, cc10, cc11, cc12, cc13, uu12, uu13, rr12, rr13, ii5, ii11⟩ := hJ
   have e11 := (hb' 11 (by simp)).trans s11
   clear hb hb'
   have hfin := hK (.int .i64 (ii : Int)) _ ⟨hX0, fun h => cc0 (h.resolve_right (by decide)), fun h => cc1 (h.resolve_right (by decide)), fun h => cc2 (h.resolve_right (by decide)), fun h => cc3 (h.resolve_right (by decide)), fun h => cc4 (h.resolve_right (by decide)), fun h => cc5 (h.resolve_right (by decide)), fun _ => rfl, fun h => cc7 (h.resolve_right (by decide)), fun h => cc8 (h.resolve_right (by decide)), fun h => cc9 (h.resolve_right (by decide)), fun h => cc10 (h.resolve_right (by decide)), fun h => cc11 (h.resolve_right (by decide)), fun h => cc12 (h.resolve_right (by decide)), fun h => cc13 (h.resolve_right (by decide)), fun h => uu12 (fun d => h (.inl d)), fun h => uu13 (fun d => h (.inl d)), fun h => .inl (rr12 (h.resolve_right (by decide))), fun h => .inl (rr13 (h.resolve_right (by decide))), fun h => .inl (ii5 (h.resolve_right (by decide))), fun h => .inl (ii11 (h.resolve_right (by decide)))⟩
   clear hK cc0 cc1 cc2 cc3 cc4 cc5 cc6 cc7 cc8 cc9 cc10 cc11 cc12 cc13 uu12 uu13 rr12 rr13 ii5 ii11
   go_simp
   exact hfin
  ·
   intro done us W hJ hdep haft hnot b hb hb' K hK Q'
   obtain ⟨hX0, cc0, cc1, cc2, cc3, cc4, cc5, cc6, cc7, cc8, cc9, cc10, cc11, cc12, cc13, uu12, uu13, rr12, rr13, ii5, ii11⟩ := hJ
   simp only [List.getD_cons_succ, List.getD_cons_zero, List.mem_cons, List.not_mem_nil, or_false, forall_eq] at hdep
   have e6 := (hb' 6 (by simp)).trans s6
   have e72 := hb 6 72 rfl
   rw [cc6 hdep] at e72
   clear hb hb'
   have hfin := hK (.pointer (some ⟨gs, ii * 2, none⟩)) _ ⟨hX0, fun h => cc0 (h.resolve_right (by decide)), fun h => cc1 (h.resolve_right (by decide)), fun h => cc2 (h.resolve_right (by decide)), fun h => cc3 (h.resolve_right (by decide)), fun h => cc4 (h.resolve_right (by decide)), fun h => cc5 (h.resolve_right (by decide)), fun h => cc6 (h.resolve_right (by decide)), fun _ => rfl, fun h => cc8 (h.resolve_right (by decide)), fun h => cc9 (h.resolve_right (by decide)), fun h => cc10 (h.resolve_right (by decide)), fun h => cc11 (h.resolve_right (by decide)), fun h => cc12 (h.resolve_right (by decide)), fun h => cc13 (h.resolve_right (by decide)), fun h => uu12 (fun d => h (.inl d)), fun h => uu13 (fun d => h (.inl d)), fun h => .inl (rr12 (h.resolve_right (by decide))), fun h => .inl (rr13 (h.resolve_right (by decide))), fun h => .inl (ii5 (h.resolve_right (by decide))), fun h => .inl (ii11 (h.resolve_right (by decide)))⟩
   clear hK cc0 cc1 cc2 cc3 cc4 cc5 cc6 cc7 cc8 cc9 cc10 cc11 cc12 cc13 uu12 uu13 rr12 rr13 ii5 ii11
   go_simp
   exact hfin
  ·
   intro done us W hJ hdep haft hnot b hb hb' K hK Q'
   obtain ⟨hX0, cc0, cc1, cc2, cc3, cc4, cc5, cc6, cc7, cc8, cc9, cc10, cc11, cc12, cc13, uu12, uu13, rr12, rr13, ii5, ii11⟩ := hJ
   simp only [List.getD_cons_succ, List.getD_cons_zero, List.mem_cons, List.not_mem_nil, or_false, forall_eq] at hdep
   have e73 := hb 7 73 rfl
   rw [cc7 hdep] at e73
   clear hb hb'
   have hfin := hK (.pointer (some ⟨gs, ii * 2 + 1, none⟩)) _ ⟨hX0, fun h => cc0 (h.resolve_right (by decide)), fun h => cc1 (h.resolve_right (by decide)), fun h => cc2 (h.resolve_right (by decide)), fun h => cc3 (h.resolve_right (by decide)), fun h => cc4 (h.resolve_right (by decide)), fun h => cc5 (h.resolve_right (by decide)), fun h => cc6 (h.resolve_right (by decide)), fun h => cc7 (h.resolve_right (by decide)), fun _ => rfl, fun h => cc9 (h.resolve_right (by decide)), fun h => cc10 (h.resolve_right (by decide)), fun h => cc11 (h.resolve_right (by decide)), fun h => cc12 (h.resolve_right (by decide)), fun h => cc13 (h.resolve_right (by decide)), fun h => uu12 (fun d => h (.inl d)), fun h => uu13 (fun d => h (.inl d)), fun h => .inl (rr12 (h.resolve_right (by decide))), fun h => .inl (rr13 (h.resolve_right (by decide))), fun h => .inl (ii5 (h.resolve_right (by decide))), fun h => .inl (ii11 (h.resolve_right (by decide)))⟩
   clear hK cc0 cc1 cc2 cc3 cc4 cc5 cc6 cc7 cc8 cc9 cc10 cc11 cc12 cc13 uu12 uu13 rr12 rr13 ii5 ii11
   go_simp
   exact hfin
  ·
   intro done us W hJ hdep haft hnot b hb hb' K hK Q'
   obtain ⟨hX0, cc0, cc1, cc2, cc3, cc4, cc5, cc6, cc7, cc8, cc9, cc10, cc11, cc12, cc13, uu12, uu13, rr12, rr13, ii5, ii11⟩ := hJ
   simp only [List.getD_cons_succ, List.getD_cons_zero, List.mem_cons, List.not_mem_nil, or_false, forall_eq] at hdep
   have e74 := hb 8 74 rfl
   rw [cc8 hdep] at e74
   clear hb hb'
   have q0 := Ext.cell hX0 cb
   have hfin := hK (.int .i64 (xb)) _ ⟨hX0, fun h => cc0 (h.resolve_right (by decide)), fun h => cc1 (h.resolve_right (by decide)), fun h => cc2 (h.resolve_right (by decide)), fun h => cc3 (h.resolve_right (by decide)), fun h => cc4 (h.resolve_right (by decide)), fun h => cc5 (h.resolve_right (by decide)), fun h => cc6 (h.resolve_right (by decide)), fun h => cc7 (h.resolve_right (by decide)), fun h => cc8 (h.resolve_right (by decide)), fun _ => rfl, fun h => cc10 (h.resolve_right (by decide)), fun h => cc11 (h.resolve_right (by decide)), fun h => cc12 (h.resolve_right (by decide)), fun h => cc13 (h.resolve_right (by decide)), fun h => uu12 (fun d => h (.inl d)), fun h => uu13 (fun d => h (.inl d)), fun h => .inl (rr12 (h.resolve_right (by decide))), fun h => .inl (rr13 (h.resolve_right (by decide))), fun h => .inl (ii5 (h.resolve_right (by decide))), fun h => .inl (ii11 (h.resolve_right (by decide)))⟩
   clear hK cc0 cc1 cc2 cc3 cc4 cc5 cc6 cc7 cc8 cc9 cc10 cc11 cc12 cc13 uu12 uu13 rr12 rr13 ii5 ii11
   go_simp
   exact hfin
  ·
   intro done us W hJ hdep haft hnot b hb hb' K hK Q'
   obtain ⟨hX0, cc0, cc1, cc2, cc3, cc4, cc5, cc6, cc7, cc8, cc9, cc10, cc11, cc12, cc13, uu12, uu13, rr12, rr13, ii5, ii11⟩ := hJ
   have e15 := hb 13 15 rfl
   rw [uu13 (fun h => hnot (rr13 h))] at e15
   clear hb hb'
   have hfin := hK (.int .i64 (f2)) _ ⟨hX0, fun h => cc0 (h.resolve_right (by decide)), fun h => cc1 (h.resolve_right (by decide)), fun h => cc2 (h.resolve_right (by decide)), fun h => cc3 (h.resolve_right (by decide)), fun h => cc4 (h.resolve_right (by decide)), fun h => cc5 (h.resolve_right (by decide)), fun h => cc6 (h.resolve_right (by decide)), fun h => cc7 (h.resolve_right (by decide)), fun h => cc8 (h.resolve_right (by decide)), fun h => cc9 (h.resolve_right (by decide)), fun _ => rfl, fun h => cc11 (h.resolve_right (by decide)), fun h => cc12 (h.resolve_right (by decide)), fun h => cc13 (h.resolve_right (by decide)), fun h => uu12 (fun d => h (.inl d)), fun h => uu13 (fun d => h (.inl d)), fun h => .inl (rr12 (h.resolve_right (by decide))), fun h => .inl (rr13 (h.resolve_right (by decide))), fun h => .inl (ii5 (h.resolve_right (by decide))), fun h => .inl (ii11 (h.resolve_right (by decide)))⟩
   clear hK cc0 cc1 cc2 cc3 cc4 cc5 cc6 cc7 cc8 cc9 cc10 cc11 cc12 cc13 uu12 uu13 rr12 rr13 ii5 ii11
   go_simp
   exact hfin
  ·
   intro done us W hJ hdep haft hnot b hb hb' K hK Q'
   obtain ⟨hX0, cc0, cc1, cc2, cc3, cc4, cc5, cc6, cc7, cc8, cc9, cc10, cc11, cc12, cc13, uu12, uu13, rr12, rr13, ii5, ii11⟩ := hJ
   simp only [List.getD_cons_succ, List.getD_cons_zero, List.mem_cons, List.not_mem_nil, or_false, forall_eq_or_imp, forall_eq] at hdep
   have e75 := hb 9 75 rfl
   rw [cc9 hdep.1] at e75
   have e76 := hb 10 76 rfl
   rw [cc10 hdep.2] at e76
   clear hb hb'
   have qw : IntKind.i64.wrap (xb - f2) = xb - f2 := IntWalk.i64_in _ (by omega)
   have hfin := hK (.int .i64 (xb - f2)) _ ⟨hX0, fun h => cc0 (h.resolve_right (by decide)), fun h => cc1 (h.resolve_right (by decide)), fun h => cc2 (h.resolve_right (by decide)), fun h => cc3 (h.resolve_right (by decide)), fun h => cc4 (h.resolve_right (by decide)), fun h => cc5 (h.resolve_right (by decide)), fun h => cc6 (h.resolve_right (by decide)), fun h => cc7 (h.resolve_right (by decide)), fun h => cc8 (h.resolve_right (by decide)), fun h => cc9 (h.resolve_right (by decide)), fun h => cc10 (h.resolve_right (by decide)), fun _ => rfl, fun h => cc12 (h.resolve_right (by decide)), fun h => cc13 (h.resolve_right (by decide)), fun h => uu12 (fun d => h (.inl d)), fun h => uu13 (fun d => h (.inl d)), fun h => .inl (rr12 (h.resolve_right (by decide))), fun h => .inl (rr13 (h.resolve_right (by decide))), fun h => .inl (ii5 (h.resolve_right (by decide))), fun _ => .inl hdep.2⟩
   clear hK cc0 cc1 cc2 cc3 cc4 cc5 cc6 cc7 cc8 cc9 cc10 cc11 cc12 cc13 uu12 uu13 rr12 rr13 ii5 ii11
   go_simp
   exact hfin
  ·
   intro done us W hJ hdep haft hnot b hb hb' K hK Q'
   obtain ⟨hX0, cc0, cc1, cc2, cc3, cc4, cc5, cc6, cc7, cc8, cc9, cc10, cc11, cc12, cc13, uu12, uu13, rr12, rr13, ii5, ii11⟩ := hJ
   simp only [List.getD_cons_succ, List.getD_cons_zero, List.mem_cons, List.not_mem_nil, or_false, forall_eq] at hdep
   have e71 := hb 5 71 rfl
   rw [cc5 hdep] at e71
   clear hb hb'
   have hfin := hK (.int .i64 (xa + f1)) _ ⟨hX0, fun h => cc0 (h.resolve_right (by decide)), fun h => cc1 (h.resolve_right (by decide)), fun h => cc2 (h.resolve_right (by decide)), fun h => cc3 (h.resolve_right (by decide)), fun h => cc4 (h.resolve_right (by decide)), fun h => cc5 (h.resolve_right (by decide)), fun h => cc6 (h.resolve_right (by decide)), fun h => cc7 (h.resolve_right (by decide)), fun h => cc8 (h.resolve_right (by decide)), fun h => cc9 (h.resolve_right (by decide)), fun h => cc10 (h.resolve_right (by decide)), fun h => cc11 (h.resolve_right (by decide)), fun _ => rfl, fun h => cc13 (h.resolve_right (by decide)), fun h => absurd (.inr rfl) h, fun h => uu13 (fun d => h (.inl d)), fun _ => .inl (ii5 hdep), fun h => .inl (rr13 (h.resolve_right (by decide))), fun h => .inl (ii5 (h.resolve_right (by decide))), fun h => .inl (ii11 (h.resolve_right (by decide)))⟩
   clear hK cc0 cc1 cc2 cc3 cc4 cc5 cc6 cc7 cc8 cc9 cc10 cc11 cc12 cc13 uu12 uu13 rr12 rr13 ii5 ii11
   go_simp
   exact hfin
  ·
   intro done us W hJ hdep haft hnot b hb hb' K hK Q'
   obtain ⟨hX0, cc0, cc1, cc2, cc3, cc4, cc5, cc6, cc7, cc8, cc9, cc10, cc11, cc12, cc13, uu12, uu13, rr12, rr13, ii5, ii11⟩ := hJ
   simp only [List.getD_cons_succ, List.getD_cons_zero, List.mem_cons, List.not_mem_nil, or_false, forall_eq] at hdep
   have e77 := hb 11 77 rfl
   rw [cc11 hdep] at e77
   clear hb hb'
   have hfin := hK (.int .i64 (xb - f2)) _ ⟨hX0, fun h => cc0 (h.resolve_right (by decide)), fun h => cc1 (h.resolve_right (by decide)), fun h => cc2 (h.resolve_right (by decide)), fun h => cc3 (h.resolve_right (by decide)), fun h => cc4 (h.resolve_right (by decide)), fun h => cc5 (h.resolve_right (by decide)), fun h => cc6 (h.resolve_right (by decide)), fun h => cc7 (h.resolve_right (by decide)), fun h => cc8 (h.resolve_right (by decide)), fun h => cc9 (h.resolve_right (by decide)), fun h => cc10 (h.resolve_right (by decide)), fun h => cc11 (h.resolve_right (by decide)), fun h => cc12 (h.resolve_right (by decide)), fun _ => rfl, fun h => uu12 (fun d => h (.inl d)), fun h => absurd (.inr rfl) h, fun h => .inl (rr12 (h.resolve_right (by decide))), fun _ => .inl (ii11 hdep), fun h => .inl (ii5 (h.resolve_right (by decide))), fun h => .inl (ii11 (h.resolve_right (by decide)))⟩
   clear hK cc0 cc1 cc2 cc3 cc4 cc5 cc6 cc7 cc8 cc9 cc10 cc11 cc12 cc13 uu12 uu13 rr12 rr13 ii5 ii11
   go_simp
   exact hfin
 ·
  intro us W hJ
  obtain ⟨hX0, cc0, cc1, cc2, cc3, cc4, cc5, cc6, cc7, cc8, cc9, cc10, cc11, cc12, cc13, uu12, uu13, rr12, rr13, ii5, ii11⟩ := hJ
  exact hend (us 0) (us 1) (us 2) (us 3) (us 4) (us 5) (us 6) (us 7) (us 8) (us 9) (us 10) (us 11) (us 12) (us 13) W (cc0 (show 0 < 14 by decide)) (cc1 (show 1 < 14 by decide)) (cc2 (show 2 < 14 by decide)) (cc3 (show 3 < 14 by decide)) (cc4 (show 4 < 14 by decide)) (cc5 (show 5 < 14 by decide)) (cc6 (show 6 < 14 by decide)) (cc7 (show 7 < 14 by decide)) (cc8 (show 8 < 14 by decide)) (cc9 (show 9 < 14 by decide)) (cc10 (show 10 < 14 by decide)) (cc11 (show 11 < 14 by decide)) (cc12 (show 12 < 14 by decide)) (cc13 (show 13 < 14 by decide)) hX0
set_option maxRecDepth 100000 in
set_option maxHeartbeats 16000000 in
theorem moveP_any (lo hi : Nat → Int) (o : Nat → Option Rat) (s0 : Bool) (A0 B0 : Option Addr) (l0 c0 m0 k0 : Nat) (s1 : Bool) (A1 B1 : Option Addr) (l1 c1 m1 k1 : Nat) (s2 : Bool) (A2 B2 : Option Addr) (l2 c2 m2 k2 : Nat) (w : World) (h0 : NumS w (.agg #[.bool s0, .slice A0 l0 c0, .slice B0 m0 k0]) (o 0)) (h1 : NumS w (.agg #[.bool s1, .slice A1 l1 c1, .slice B1 m1 k1]) (o 1)) (h2 : NumS w (.agg #[.bool s2, .slice A2 l2 c2, .slice B2 m2 k2]) (o 2)) :
  Calls Try.prog 63 #[.agg #[.int .i64 (lo 0), .int .i64 (hi 0), .int .i64 (lo 1), .int .i64 (hi 1), .int .i64 (lo 2), .int .i64 (hi 2)], .agg #[.bool s0, .slice A0 l0 c0, .slice B0 m0 k0, .bool s1, .slice A1 l1 c1, .slice B1 m1 k1, .bool s2, .slice A2 l2 c2, .slice B2 m2 k2]] w (fun e w' => e = .returned (.tuple #[boxV (mvA lo hi o).1 (mvA lo hi o).2.1, .int .i64 (mvA lo hi o).2.2]) ∧ Ext w w') := by
 have hXe : Ext w (((w.alloc (.cells #[.int .i64 (lo 0), .int .i64 (hi 0), .int .i64 (lo 1), .int .i64 (hi 1), .int .i64 (lo 2), .int .i64 (hi 2)] 54)).alloc (.cells #[.bool s0, .slice A0 l0 c0, .slice B0 m0 k0, .bool s1, .slice A1 l1 c1, .slice B1 m1 k1, .bool s2, .slice A2 l2 c2, .slice B2 m2 k2] 98)).alloc (.cells #[.int .i64 0, .int .i64 0, .int .i64 0, .int .i64 0, .int .i64 0, .int .i64 0] 54)) := (((Ext.refl w).alloc _).alloc _).alloc _
 have kB : Blk (((w.alloc (.cells #[.int .i64 (lo 0), .int .i64 (hi 0), .int .i64 (lo 1), .int .i64 (hi 1), .int .i64 (lo 2), .int .i64 (hi 2)] 54)).alloc (.cells #[.bool s0, .slice A0 l0 c0, .slice B0 m0 k0, .bool s1, .slice A1 l1 c1, .slice B1 m1 k1, .bool s2, .slice A2 l2 c2, .slice B2 m2 k2] 98)).alloc (.cells #[.int .i64 0, .int .i64 0, .int .i64 0, .int .i64 0, .int .i64 0, .int .i64 0] 54)) w.heap.size 54 #[.int .i64 (lo 0), .int .i64 (hi 0), .int .i64 (lo 1), .int .i64 (hi 1), .int .i64 (lo 2), .int .i64 (hi 2)] := Blk.alloc (Blk.alloc (Blk.new w _ _) _) _
 have kT : Blk (((w.alloc (.cells #[.int .i64 (lo 0), .int .i64 (hi 0), .int .i64 (lo 1), .int .i64 (hi 1), .int .i64 (lo 2), .int .i64 (hi 2)] 54)).alloc (.cells #[.bool s0, .slice A0 l0 c0, .slice B0 m0 k0, .bool s1, .slice A1 l1 c1, .slice B1 m1 k1, .bool s2, .slice A2 l2 c2, .slice B2 m2 k2] 98)).alloc (.cells #[.int .i64 0, .int .i64 0, .int .i64 0, .int .i64 0, .int .i64 0, .int .i64 0] 54)) (w.heap.size + 1) 98 #[.bool s0, .slice A0 l0 c0, .slice B0 m0 k0, .bool s1, .slice A1 l1 c1, .slice B1 m1 k1, .bool s2, .slice A2 l2 c2, .slice B2 m2 k2] := Blk.alloc (Blk.at_ (by simp)) _
 have kR : Blk (((w.alloc (.cells #[.int .i64 (lo 0), .int .i64 (hi 0), .int .i64 (lo 1), .int .i64 (hi 1), .int .i64 (lo 2), .int .i64 (hi 2)] 54)).alloc (.cells #[.bool s0, .slice A0 l0 c0, .slice B0 m0 k0, .bool s1, .slice A1 l1 c1, .slice B1 m1 k1, .bool s2, .slice A2 l2 c2, .slice B2 m2 k2] 98)).alloc (.cells #[.int .i64 0, .int .i64 0, .int .i64 0, .int .i64 0, .int .i64 0, .int .i64 0] 54)) (w.heap.size + 2) 54 #[.int .i64 0, .int .i64 0, .int .i64 0, .int .i64 0, .int .i64 0, .int .i64 0] := Blk.at_ (by simp)
 have H0 := hid h0
 have H1 := hid h1
 have H2 := hid h2
 clear h0 h1 h2
 go_enter Try.func63, Try.ntmps63
 go_upto_region 1 with (fail)
 generalize ((w.alloc (.cells #[.int .i64 (lo 0), .int .i64 (hi 0), .int .i64 (lo 1), .int .i64 (hi 1), .int .i64 (lo 2), .int .i64 (hi 2)] 54)).alloc (.cells #[.bool s0, .slice A0 l0 c0, .slice B0 m0 k0, .bool s1, .slice A1 l1 c1, .slice B1 m1 k1, .bool s2, .slice A2 l2 c2, .slice B2 m2 k2] 98)).alloc (.cells #[.int .i64 0, .int .i64 0, .int .i64 0, .int .i64 0, .int .i64 0, .int .i64 0] 54) = w1 at hXe kB kT kR ⊢
 have HX := hid hXe
 have HT := hid kT
 have HR := hid kR
 clear hXe kT kR
 have b0 := kB.cell 0
 have b1 := kB.cell 1
 have b2 := kB.cell 2
 have b3 := kB.cell 3
 have b4 := kB.cell 4
 have b5 := kB.cell 5
 simp only [List.getElem?_toArray, List.getElem?_cons_zero, List.getElem?_cons_succ] at b0 b1 b2 b3 b4 b5
 clear kB
 go_upto_region 2 with (fail)
 have hXa : Ext w1 (w1.alloc (.cells #[.int .i64 (lo 0), .int .i64 (hi 0), .int .i64 (lo 1), .int .i64 (hi 1), .int .i64 (lo 2), .int .i64 (hi 2)] 47)) := (Ext.refl _).alloc _
 have kS : B6 (w1.alloc (.cells #[.int .i64 (lo 0), .int .i64 (hi 0), .int .i64 (lo 1), .int .i64 (hi 1), .int .i64 (lo 2), .int .i64 (hi 2)] 47)) w1.heap.size 47 lo hi := Blk.new w1 _ _
 have hrl := HR.out.lt
 replace HX := hid (HX.out.trans hXa)
 replace HT := hid (HT.out.ext hXa)
 replace HR := hid (HR.out.ext hXa)
 clear hXa b0 b1 b2 b3 b4 b5
 generalize w1.heap.size = gs at kS hrl ⊢
 generalize w1.alloc (.cells #[.int .i64 (lo 0), .int .i64 (hi 0), .int .i64 (lo 1), .int .i64 (hi 1), .int .i64 (lo 2), .int .i64 (hi 2)] 47) = w2 at kS HX HT HR ⊢
 have HS := hid kS
 unfold B6 at kS
 have b0 := kS.cell 0
 have b1 := kS.cell 1
 have b2 := kS.cell 2
 have b3 := kS.cell 3
 have b4 := kS.cell 4
 have b5 := kS.cell 5
 simp only [List.getElem?_toArray, List.getElem?_cons_zero, List.getElem?_cons_succ] at b0 b1 b2 b3 b4 b5
 clear kS
 go_wp2_with fail
 clear b0 b1 b2 b3 b4 b5
 go_loopg [25] 3 (fun fu iv wr => ∃ k : Nat, fu = 3 - k ∧ k ≤ 3 ∧ iv = .int .i64 (k : Int) ∧ Hid (∀ j, j < k → okS (lo j) (hi j) = true) ∧ Hid (B6 wr gs 47 lo hi) ∧ Hid (Blk wr (w.heap.size + 1) 98 #[.bool s0, .slice A0 l0 c0, .slice B0 m0 k0, .bool s1, .slice A1 l1 c1, .slice B1 m1 k1, .bool s2, .slice A2 l2 c2, .slice B2 m2 k2]) ∧ Hid (Blk wr (w.heap.size + 2) 54 #[.int .i64 0, .int .i64 0, .int .i64 0, .int .i64 0, .int .i64 0, .int .i64 0]) ∧ Hid (Ext w wr))
 case atStart => exact ⟨0, rfl, by omega, rfl, hid (fun j hj => by omega), HS, HT, HR, HX⟩
 case round =>
  clear HS HT HR HX
  obtain ⟨k, rfl, hk, rfl, HOK, HS, HT, HR, HX⟩ := hrel
  by_cases hk3 : k < 3
  ·
   have q1 : decide ((k : Int) < 3) = true := decide_eq_true (by omega)
   have q1b : decide (k < 3) = true := decide_eq_true hk3
   have ik := idx6S (.int .i64 (lo 0)) (.int .i64 (hi 0)) (.int .i64 (lo 1)) (.int .i64 (hi 1)) (.int .i64 (lo 2)) (.int .i64 (hi 2)) hk3
   rw [pick_fn lo hk3, pick_fn hi hk3] at ik
   go_upto_region 5 with (fail)
   have hXa : Ext wr (wr.alloc (.cells #[.int .i64 (lo k), .int .i64 (hi k)] 31)) := (Ext.refl _).alloc _
   have kB := Blk.new wr 31 #[.int .i64 (lo k), .int .i64 (hi k)]
   replace HX := hid (HX.out.trans hXa)
   replace HS := hid (HS.out.ext hXa)
   replace HT := hid (HT.out.ext hXa)
   replace HR := hid (HR.out.ext hXa)
   clear hXa ik
   generalize wr.heap.size = gx at kB ⊢
   generalize wr.alloc (.cells #[.int .i64 (lo k), .int .i64 (hi k)] 31) = w3 at kB HX HS HT HR ⊢
   have y0 := kB.cell 0
   have y1 := kB.cell 1
   simp only [List.getElem?_toArray, List.getElem?_cons_zero, List.getElem?_cons_succ] at y0 y1
   clear kB
   go_wp2_with fail
   refine (valid_any (lo k) (hi k) _).mono ?_
   obtain ⟨ob, hob⟩ : ∃ ob, okS (lo k) (hi k) = ob := ⟨_, rfl⟩
   rw [hob]
   have HOB := hid hob
   clear hob
   rintro e w4 ⟨rfl, hX⟩
   replace HX := hid (HX.out.trans hX)
   replace HS := hid (HS.out.ext hX)
   replace HT := hid (HT.out.ext hX)
   replace HR := hid (HR.out.ext hX)
   clear hX y0 y1
   by_cases hb : ob = true
   ·
    subst hb
    go_wp2
    go_roundg (3 - (k + 1))
    case rel => exact ⟨k + 1, rfl, by omega, by go_num, hid (fun j hj => by by_cases e : j = k; (subst e; exact HOB.out); exact HOK.out j (by omega)), HS, HT, HR, HX⟩
    case measure => omega
   ·
    obtain rfl : ob = false := by simpa using hb
    clear hb
    have HM : Hid (mvA lo hi o = (fun _ => 0, fun _ => 0, 2)) := hid (mvA_bad ⟨k, hk3, HOB.out⟩)
    have r0 := HR.out.cell 0
    have f0 := HR.out.free 0
    have r1 := HR.out.cell 1
    have f1 := HR.out.free 1
    have r2 := HR.out.cell 2
    have f2 := HR.out.free 2
    have r3 := HR.out.cell 3
    have f3 := HR.out.free 3
    have r4 := HR.out.cell 4
    have f4 := HR.out.free 4
    have r5 := HR.out.cell 5
    have f5 := HR.out.free 5
    simp only [List.getElem?_toArray, List.getElem?_cons_zero, List.getElem?_cons_succ] at r0 r1 r2 r3 r4 r5
    go_wp2
    refine bodyPost_ret (v := .tuple #[.agg #[.int .i64 0, .int .i64 0, .int .i64 0, .int .i64 0, .int .i64 0, .int .i64 0], .int .i64 2]) (by simp [results, Try.results63, go_sem, *]) rfl ?_
    exact ⟨by rw [HM.out]; rfl, ((((((HX.out.setCell (p := ⟨w.heap.size + 2, 0, none⟩) (by simp only; omega) _).setCell (p := ⟨w.heap.size + 2, 1, none⟩) (by simp only; omega) _).setCell (p := ⟨w.heap.size + 2, 2, none⟩) (by simp only; omega) _).setCell (p := ⟨w.heap.size + 2, 3, none⟩) (by simp only; omega) _).setCell (p := ⟨w.heap.size + 2, 4, none⟩) (by simp only; omega) _).setCell (p := ⟨w.heap.size + 2, 5, none⟩) (by simp only; omega) _)⟩
  ·
   obtain rfl : k = 3 := by omega
   have q1 : decide (((3 : Nat) : Int) < 3) = false := by decide
   have HNB : Hid (¬ mvBad lo hi) := hid (fun ⟨k, hk, h⟩ => by rw [HOK.out k hk] at h; cases h)
   have kT := HT.out
   have t0 := kT.cell 0
   have t1 := kT.cell 1
   have t2 := kT.cell 2
   have t3 := kT.cell 3
   have t4 := kT.cell 4
   have t5 := kT.cell 5
   have t6 := kT.cell 6
   have t7 := kT.cell 7
   have t8 := kT.cell 8
   simp only [List.getElem?_toArray, List.getElem?_cons_zero, List.getElem?_cons_succ] at t0 t1 t2 t3 t4 t5 t6 t7 t8
   clear kT
   go_wp2_with fail
   clear t0 t1 t2 t3 t4 t5 t6 t7 t8
   go_loopg [34] 3 (fun fu iv wz => ∃ k : Nat, fu = 3 - k ∧ k ≤ 3 ∧ iv = .int .i64 (k : Int) ∧ Hid (∀ j, j < k → o j ≠ none) ∧ Hid (B6 wz gs 47 lo hi) ∧ Hid (Blk wz (w.heap.size + 1) 98 #[.bool s0, .slice A0 l0 c0, .slice B0 m0 k0, .bool s1, .slice A1 l1 c1, .slice B1 m1 k1, .bool s2, .slice A2 l2 c2, .slice B2 m2 k2]) ∧ Hid (Blk wz (w.heap.size + 2) 54 #[.int .i64 0, .int .i64 0, .int .i64 0, .int .i64 0, .int .i64 0, .int .i64 0]) ∧ Hid (Ext w wz))
   case atStart => exact ⟨0, rfl, by omega, rfl, hid (fun j hj => by omega), HS, HT, HR, HX⟩
   case round =>
    clear HS HT HR HX
    obtain ⟨k, rfl, hk, rfl, HNN, HS, HT, HR, HX⟩ := hrel
    by_cases hk3 : k < 3
    ·
     have q2 : decide ((k : Int) < 3) = true := decide_eq_true (by omega)
     have q2b : decide (k < 3) = true := decide_eq_true hk3
     obtain ⟨s9, A9, l9, c9, B9, m9, k9, g1, g2, g3, hq⟩ := pick_aggO (P := NumS) (w := wr) (q := o) hk3 (H0.out.ext HX.out) (H1.out.ext HX.out) (H2.out.ext HX.out)
     have ik := idx9R (.bool s0) (.slice A0 l0 c0) (.slice B0 m0 k0) (.bool s1) (.slice A1 l1 c1) (.slice B1 m1 k1) (.bool s2) (.slice A2 l2 c2) (.slice B2 m2 k2) hk3
     rw [g1, g2, g3] at ik
     have HQ := hid hq
     clear hq g1 g2 g3
     go_upto_region 11 with (fail)
     have hXa : Ext wr (wr.alloc (.cells #[.bool s9, .slice A9 l9 c9, .slice B9 m9 k9] 97)) := (Ext.refl _).alloc _
     have kB := Blk.new wr 97 #[.bool s9, .slice A9 l9 c9, .slice B9 m9 k9]
     replace HX := hid (HX.out.trans hXa)
     replace HS := hid (HS.out.ext hXa)
     replace HT := hid (HT.out.ext hXa)
     replace HR := hid (HR.out.ext hXa)
     replace HQ := hid (HQ.out.ext hXa)
     clear hXa ik
     generalize wr.heap.size = gx at kB ⊢
     generalize wr.alloc (.cells #[.bool s9, .slice A9 l9 c9, .slice B9 m9 k9] 97) = w3 at kB HX HS HT HR HQ ⊢
     have y0 := kB.cell 0
     have y1 := kB.cell 1
     have y2 := kB.cell 2
     simp only [List.getElem?_toArray, List.getElem?_cons_zero, List.getElem?_cons_succ] at y0 y1 y2
     clear kB
     go_wp2_with fail
     refine (RatL.is HQ.out.big).mono ?_
     obtain ⟨ob, hob⟩ : ∃ ob, (o k).isNone = ob := ⟨_, rfl⟩
     rw [hob]
     have HOB := hid hob
     clear hob
     rintro e w4 ⟨rfl, hX⟩
     replace HX := hid (HX.out.trans hX)
     replace HS := hid (HS.out.ext hX)
     replace HT := hid (HT.out.ext hX)
     replace HR := hid (HR.out.ext hX)
     clear hX y0 y1 y2
     by_cases hb : ob = true
     ·
      subst hb
      have HM : Hid (mvA lo hi o = (fun _ => 0, fun _ => 0, 51)) := hid (mvA_big HNB.out ⟨k, hk3, by simpa using HOB.out⟩)
      have r0 := HR.out.cell 0
      have f0 := HR.out.free 0
      have r1 := HR.out.cell 1
      have f1 := HR.out.free 1
      have r2 := HR.out.cell 2
      have f2 := HR.out.free 2
      have r3 := HR.out.cell 3
      have f3 := HR.out.free 3
      have r4 := HR.out.cell 4
      have f4 := HR.out.free 4
      have r5 := HR.out.cell 5
      have f5 := HR.out.free 5
      simp only [List.getElem?_toArray, List.getElem?_cons_zero, List.getElem?_cons_succ] at r0 r1 r2 r3 r4 r5
      go_wp2
      refine bodyPost_ret (v := .tuple #[.agg #[.int .i64 0, .int .i64 0, .int .i64 0, .int .i64 0, .int .i64 0, .int .i64 0], .int .i64 51]) (by simp [results, Try.results63, go_sem, *]) rfl ?_
      exact ⟨by rw [HM.out]; rfl, ((((((HX.out.setCell (p := ⟨w.heap.size + 2, 0, none⟩) (by simp only; omega) _).setCell (p := ⟨w.heap.size + 2, 1, none⟩) (by simp only; omega) _).setCell (p := ⟨w.heap.size + 2, 2, none⟩) (by simp only; omega) _).setCell (p := ⟨w.heap.size + 2, 3, none⟩) (by simp only; omega) _).setCell (p := ⟨w.heap.size + 2, 4, none⟩) (by simp only; omega) _).setCell (p := ⟨w.heap.size + 2, 5, none⟩) (by simp only; omega) _)⟩
     ·
      obtain rfl : ob = false := by simpa using hb
      clear hb
      go_wp2
      go_roundg (3 - (k + 1))
      case rel => exact ⟨k + 1, rfl, by omega, by go_num, hid (fun j hj => by by_cases e : j = k; (subst e; intro h; have := HOB.out; rw [h] at this; cases this); exact HNN.out j (by omega)), HS, HT, HR, HX⟩
      case measure => omega
    ·
     obtain rfl : k = 3 := by omega
     have q2 : decide (((3 : Nat) : Int) < 3) = false := by decide
     have HNO : Hid (¬ ∃ k, k < 3 ∧ o k = none) := hid (fun ⟨k, hk, h⟩ => HNN.out k hk h)
     obtain ⟨q, hq⟩ : ∃ q : Nat → Rat, q = fun k => (o k).getD 0 := ⟨_, rfl⟩
     have HQO : Hid (∀ k, k < 3 → o k = some (q k)) := hid (fun k hk => by
      rw [hq]
      cases ho : o k with
      | none => exact absurd ho (HNN.out k hk)
      | some x => simp [ho])
     have HQD := hid hq
     clear hq
     have kT := HT.out
     have t0 := kT.cell 0
     have t1 := kT.cell 1
     have t2 := kT.cell 2
     have t3 := kT.cell 3
     have t4 := kT.cell 4
     have t5 := kT.cell 5
     have t6 := kT.cell 6
     have t7 := kT.cell 7
     have t8 := kT.cell 8
     simp only [List.getElem?_toArray, List.getElem?_cons_zero, List.getElem?_cons_succ] at t0 t1 t2 t3 t4 t5 t6 t7 t8
     clear kT
     go_wp2_with fail
     clear t0 t1 t2 t3 t4 t5 t6 t7 t8
     go_loopg [42] 3 (fun fu iv wy => ∃ k : Nat, fu = 3 - k ∧ k ≤ 3 ∧ iv = .int .i64 (k : Int) ∧ Hid (∀ j, j < k → mvOk lo hi q j) ∧ Hid (B6 wy gs 47 (fun j => if j < k then mvL lo q j else lo j) (fun j => if j < k then mvH hi q j else hi j)) ∧ Hid (Blk wy (w.heap.size + 2) 54 #[.int .i64 0, .int .i64 0, .int .i64 0, .int .i64 0, .int .i64 0, .int .i64 0]) ∧ Hid (Ext w wy))
     case atStart => exact ⟨0, rfl, by omega, rfl, hid (fun j hj => by omega), hid (HS.out.congr (fun k _ => ⟨by rw [if_neg (by omega)], by rw [if_neg (by omega)]⟩)), HR, HX⟩
     case round =>
      clear HS HT HR HX
      obtain ⟨k, rfl, hk, rfl, HMO, HS, HR, HX⟩ := hrel
      by_cases hk3 : k < 3
      ·
       have q3 : decide ((k : Int) < 3) = true := decide_eq_true (by omega)
       have q3b : decide (k < 3) = true := decide_eq_true hk3
       obtain ⟨s9, A9, l9, c9, B9, m9, k9, g1, g2, g3, hq⟩ := pick_aggO (P := NumS) (w := wr) (q := o) hk3 (H0.out.ext HX.out) (H1.out.ext HX.out) (H2.out.ext HX.out)
       have ik := idx9R (.bool s0) (.slice A0 l0 c0) (.slice B0 m0 k0) (.bool s1) (.slice A1 l1 c1) (.slice B1 m1 k1) (.bool s2) (.slice A2 l2 c2) (.slice B2 m2 k2) hk3
       rw [g1, g2, g3] at ik
       rw [HQO.out k hk3] at hq
       have HQ : Hid (RatG wr (.agg #[.bool s9, .slice A9 l9 c9, .slice B9 m9 k9]) (q k)) := hid hq
       clear hq g1 g2 g3
       go_upto_region 17 with (fail)
       have hXa : Ext wr (wr.alloc (.cells #[.bool s9, .slice A9 l9 c9, .slice B9 m9 k9] 97)) := (Ext.refl _).alloc _
       have kB := Blk.new wr 97 #[.bool s9, .slice A9 l9 c9, .slice B9 m9 k9]
       replace HX := hid (HX.out.trans hXa)
       replace HS := hid (HS.out.ext hXa)
       replace HR := hid (HR.out.ext hXa)
       replace HQ := hid (HQ.out.ext hXa)
       clear hXa ik
       generalize wr.heap.size = gx at kB ⊢
       generalize wr.alloc (.cells #[.bool s9, .slice A9 l9 c9, .slice B9 m9 k9] 97) = w3 at kB HX HS HR HQ ⊢
       have KB := hid kB
       clear kB
       have y0 := KB.out.cell 0
       have y1 := KB.out.cell 1
       have y2 := KB.out.cell 2
       simp only [List.getElem?_toArray, List.getElem?_cons_zero, List.getElem?_cons_succ] at y0 y1 y2
       go_wp2_with fail
       refine (ofG HQ.out).mono ?_
       rintro e w4 ⟨v4, rfl, hv, hX⟩
       replace HX := hid (HX.out.trans hX)
       replace HS := hid (HS.out.ext hX)
       replace HR := hid (HR.out.ext hX)
       replace HQ := hid (HQ.out.ext hX)
       replace KB := hid (KB.out.ext hX)
       have HN := hid hv
       obtain ⟨s4, A4, l4, c4, B4, m4, k4, rfl⟩ := NumX.open hv
       clear hX hv y0 y1 y2
       go_wp2_with fail
       refine (floorX HN.out (by omega)).mono ?_
       obtain ⟨b1, hb1⟩ : ∃ b1, flB (q k) = b1 := ⟨_, rfl⟩
       obtain ⟨f1, hf1⟩ : ∃ f1, flV (q k) = f1 := ⟨_, rfl⟩
       rw [hb1, hf1]
       have HB1 := hid hb1
       have HF1 := hid hf1
       clear hb1 hf1
       rintro e w5 ⟨rfl, hX⟩
       replace HX := hid (HX.out.trans hX)
       replace HS := hid (HS.out.ext hX)
       replace HR := hid (HR.out.ext hX)
       replace HQ := hid (HQ.out.ext hX)
       replace KB := hid (KB.out.ext hX)
       clear hX HN
       have y0 := KB.out.cell 0
       have y1 := KB.out.cell 1
       have y2 := KB.out.cell 2
       simp only [List.getElem?_toArray, List.getElem?_cons_zero, List.getElem?_cons_succ] at y0 y1 y2
       go_wp2_with fail
       refine (ofG HQ.out).mono ?_
       rintro e w6 ⟨v6, rfl, hv, hX⟩
       replace HX := hid (HX.out.trans hX)
       replace HS := hid (HS.out.ext hX)
       replace HR := hid (HR.out.ext hX)
       have HN := hid hv
       obtain ⟨s5, A5, l5, c5, B5, m5, k5, rfl⟩ := NumX.open hv
       clear hX hv y0 y1 y2 KB HQ
       go_wp2_with fail
       refine (negX HN.out).mono ?_
       rintro e w7 ⟨v7, rfl, hv, hX⟩
       replace HX := hid (HX.out.trans hX)
       replace HS := hid (HS.out.ext hX)
       replace HR := hid (HR.out.ext hX)
       replace HN := hid hv
       obtain ⟨s6, A6, l6, c6, B6, m6, k6, rfl⟩ := NumX.open hv
       clear hX hv
       go_wp2_with fail
       refine (floorX HN.out (by omega)).mono ?_
       obtain ⟨b2, hb2⟩ : ∃ b2, flB (-(q k)) = b2 := ⟨_, rfl⟩
       obtain ⟨f2, hf2⟩ : ∃ f2, flV (-(q k)) = f2 := ⟨_, rfl⟩
       rw [hb2, hf2]
       have HB2 := hid hb2
       have HF2 := hid hf2
       clear hb2 hf2
       rintro e w8 ⟨rfl, hX⟩
       replace HX := hid (HX.out.trans hX)
       replace HS := hid (HS.out.ext hX)
       replace HR := hid (HR.out.ext hX)
       clear hX HN
       have HOKK := hid (HOK.out k hk3)
       by_cases hbb : b1 = true ∧ b2 = true
       ·
        obtain ⟨rfl, rfl⟩ := hbb
        have hS9 : -1152921504606846976 ≤ lo k ∧ lo k ≤ hi k ∧ hi k ≤ 1152921504606846976 := by have := HOKK.out; simpa [okS] using this
        obtain rfl : f1 = (q k).floor := by rw [← HF1.out, flV, if_pos HB1.out]
        obtain rfl : f2 = (-(q k)).floor := by rw [← HF2.out, flV, if_pos HB2.out]
        have hr1 : -4611686018427387904 ≤ (q k).floor ∧ (q k).floor ≤ 4611686018427387904 := by have := of_decide_eq_true HB1.out; omega
        have hr2 : -4611686018427387904 ≤ (-(q k)).floor ∧ (-(q k)).floor ≤ 4611686018427387904 := by have := of_decide_eq_true HB2.out; omega
        have hcell := HS.out.cell hk3
        simp only [Nat.lt_irrefl, if_false] at hcell
        have hL9 : lo k + (q k).floor = mvL lo q k := rfl
        have hH9 : hi k - (-(q k)).floor = mvH hi q k := rfl
        have HL9 := hid hL9
        have HH9 := hid hH9
        go_upto_region 21 with (fail)
        refine move_r21 gs k (lo k) (hi k) _ _ w8 hcell.1 hcell.2 (by omega) hk3 ⟨by omega, by omega⟩ ⟨by omega, by omega⟩ hr1 hr2 _ _ (by simp) rfl rfl rfl rfl ?_
        rintro xv0 xv1 xv2 xv3 xv4 xv5 xv6 xv7 xv8 xv9 xv10 xv11 xv12 xv13 W rfl rfl rfl rfl rfl rfl rfl rfl rfl rfl rfl rfl rfl rfl hX
        simp only [rops, Try.f63, regOf, Option.bind_some, Nat.reduceBEq, if_true, if_false, Bool.false_eq_true, Option.getD_some, List.drop_succ_cons, List.drop_zero]
        simp only [Act.put, List.setIfInBounds_toArray, List.set_cons_succ, List.set_cons_zero]
        rw [HL9.out, HH9.out]
        replace HX := hid (HX.out.trans hX)
        replace HS := hid (HS.out.ext hX)
        replace HR := hid (HR.out.ext hX)
        clear hX hcell hL9 hH9
        obtain ⟨ml, hml⟩ : ∃ ml, mvL lo q k = ml := ⟨_, rfl⟩
        obtain ⟨mh, hmh⟩ : ∃ mh, mvH hi q k = mh := ⟨_, rfl⟩
        rw [hml, hmh]
        have HML := hid hml
        have HMH := hid hmh
        clear hml hmh
        by_cases hl : ml < -1152921504606846976
        ·
         have q4 : decide (ml < -1152921504606846976) = true := decide_eq_true hl
         have HM : Hid (mvA lo hi o = (fun _ => 0, fun _ => 0, 3)) := hid (mvA_far HNB.out HNO.out ⟨k, hk3, fun h => by rw [← HQD.out] at h; have := h.1; rw [HML.out] at this; omega⟩)
         clear hl hr1 hr2 hS9
         have r0 := HR.out.cell 0
         have f0 := HR.out.free 0
         have r1 := HR.out.cell 1
         have f1 := HR.out.free 1
         have r2 := HR.out.cell 2
         have f2 := HR.out.free 2
         have r3 := HR.out.cell 3
         have f3 := HR.out.free 3
         have r4 := HR.out.cell 4
         have f4 := HR.out.free 4
         have r5 := HR.out.cell 5
         have f5 := HR.out.free 5
         simp only [List.getElem?_toArray, List.getElem?_cons_zero, List.getElem?_cons_succ] at r0 r1 r2 r3 r4 r5
         go_wp2
         refine bodyPost_ret (v := .tuple #[.agg #[.int .i64 0, .int .i64 0, .int .i64 0, .int .i64 0, .int .i64 0, .int .i64 0], .int .i64 3]) (by simp [results, Try.results63, go_sem, *]) rfl ?_
         exact ⟨by rw [HM.out]; rfl, ((((((HX.out.setCell (p := ⟨w.heap.size + 2, 0, none⟩) (by simp only; omega) _).setCell (p := ⟨w.heap.size + 2, 1, none⟩) (by simp only; omega) _).setCell (p := ⟨w.heap.size + 2, 2, none⟩) (by simp only; omega) _).setCell (p := ⟨w.heap.size + 2, 3, none⟩) (by simp only; omega) _).setCell (p := ⟨w.heap.size + 2, 4, none⟩) (by simp only; omega) _).setCell (p := ⟨w.heap.size + 2, 5, none⟩) (by simp only; omega) _)⟩
        ·
         have q4 : decide (ml < -1152921504606846976) = false := decide_eq_false hl
         by_cases hh : 1152921504606846976 < mh
         ·
          have q5 : decide (1152921504606846976 < mh) = true := decide_eq_true hh
          have HM : Hid (mvA lo hi o = (fun _ => 0, fun _ => 0, 3)) := hid (mvA_far HNB.out HNO.out ⟨k, hk3, fun h => by rw [← HQD.out] at h; have := h.2; rw [HMH.out] at this; omega⟩)
          clear hl hh hr1 hr2 hS9
          have r0 := HR.out.cell 0
          have f0 := HR.out.free 0
          have r1 := HR.out.cell 1
          have f1 := HR.out.free 1
          have r2 := HR.out.cell 2
          have f2 := HR.out.free 2
          have r3 := HR.out.cell 3
          have f3 := HR.out.free 3
          have r4 := HR.out.cell 4
          have f4 := HR.out.free 4
          have r5 := HR.out.cell 5
          have f5 := HR.out.free 5
          simp only [List.getElem?_toArray, List.getElem?_cons_zero, List.getElem?_cons_succ] at r0 r1 r2 r3 r4 r5
          go_wp2
          refine bodyPost_ret (v := .tuple #[.agg #[.int .i64 0, .int .i64 0, .int .i64 0, .int .i64 0, .int .i64 0, .int .i64 0], .int .i64 3]) (by simp [results, Try.results63, go_sem, *]) rfl ?_
          exact ⟨by rw [HM.out]; rfl, ((((((HX.out.setCell (p := ⟨w.heap.size + 2, 0, none⟩) (by simp only; omega) _).setCell (p := ⟨w.heap.size + 2, 1, none⟩) (by simp only; omega) _).setCell (p := ⟨w.heap.size + 2, 2, none⟩) (by simp only; omega) _).setCell (p := ⟨w.heap.size + 2, 3, none⟩) (by simp only; omega) _).setCell (p := ⟨w.heap.size + 2, 4, none⟩) (by simp only; omega) _).setCell (p := ⟨w.heap.size + 2, 5, none⟩) (by simp only; omega) _)⟩
         ·
          have q5 : decide (1152921504606846976 < mh) = false := decide_eq_false hh
          have HOKM : Hid (mvOk lo hi q k) := hid ⟨by rw [HML.out]; omega, by rw [HMH.out]; omega⟩
          clear hl hh hr1 hr2 hS9
          have hcell := HS.out.cell hk3
          have hf0 : W.frozen? ⟨gs, k * 2, none⟩ = false := Blk.free HS.out _
          have hf1 : W.frozen? ⟨gs, k * 2 + 1, none⟩ = false := Blk.free HS.out _
          obtain ⟨hc0, hc1⟩ := hcell
          have HPUT := hid (HS.out.put hk3 ml mh)
          go_wp2
          clear hc0 hc1 hf0 hf1
          go_roundg (3 - (k + 1))
          case rel =>
           refine ⟨k + 1, rfl, by omega, by go_num, hid (fun j hj => by by_cases e : j = k; (subst e; exact HOKM.out); exact HMO.out j (by omega)), hid (HPUT.out.congr (fun j _ => ?_)), hid ((HR.out.far (by simp only; omega) _).far (by simp only; omega) _), hid ((HX.out.setCell (by simp only; omega) _).setCell (by simp only; omega) _)⟩
           by_cases e : j = k
           ·
            rw [if_pos e, if_pos e, if_pos (by omega), if_pos (by omega), e]
            exact ⟨HML.out.symm, HMH.out.symm⟩
           ·
            rw [if_neg e, if_neg e]
            by_cases h2 : j < k
            ·
             rw [if_pos h2, if_pos h2, if_pos (by omega), if_pos (by omega)]
             exact ⟨rfl, rfl⟩
            ·
             rw [if_neg h2, if_neg h2, if_neg (by omega), if_neg (by omega)]
             exact ⟨rfl, rfl⟩
          case measure => omega
       ·
        have HM : Hid (mvA lo hi o = (fun _ => 0, fun _ => 0, 3)) := hid (mvA_far HNB.out HNO.out ⟨k, hk3, fun h => by
         rw [← HQD.out] at h
         have := mvOk_fl HOKK.out h
         rw [HB1.out, HB2.out] at this
         exact hbb this⟩)
        by_cases hb1 : b1 = true
        ·
         subst hb1
         obtain rfl : b2 = false := by cases b2; rfl; exact absurd ⟨rfl, rfl⟩ hbb
         clear hbb
         have r0 := HR.out.cell 0
         have f0 := HR.out.free 0
         have r1 := HR.out.cell 1
         have f1 := HR.out.free 1
         have r2 := HR.out.cell 2
         have f2 := HR.out.free 2
         have r3 := HR.out.cell 3
         have f3 := HR.out.free 3
         have r4 := HR.out.cell 4
         have f4 := HR.out.free 4
         have r5 := HR.out.cell 5
         have f5 := HR.out.free 5
         simp only [List.getElem?_toArray, List.getElem?_cons_zero, List.getElem?_cons_succ] at r0 r1 r2 r3 r4 r5
         go_wp2
         refine bodyPost_ret (v := .tuple #[.agg #[.int .i64 0, .int .i64 0, .int .i64 0, .int .i64 0, .int .i64 0, .int .i64 0], .int .i64 3]) (by simp [results, Try.results63, go_sem, *]) rfl ?_
         exact ⟨by rw [HM.out]; rfl, ((((((HX.out.setCell (p := ⟨w.heap.size + 2, 0, none⟩) (by simp only; omega) _).setCell (p := ⟨w.heap.size + 2, 1, none⟩) (by simp only; omega) _).setCell (p := ⟨w.heap.size + 2, 2, none⟩) (by simp only; omega) _).setCell (p := ⟨w.heap.size + 2, 3, none⟩) (by simp only; omega) _).setCell (p := ⟨w.heap.size + 2, 4, none⟩) (by simp only; omega) _).setCell (p := ⟨w.heap.size + 2, 5, none⟩) (by simp only; omega) _)⟩
        ·
         obtain rfl : b1 = false := by simpa using hb1
         clear hbb hb1
         have r0 := HR.out.cell 0
         have f0 := HR.out.free 0
         have r1 := HR.out.cell 1
         have f1 := HR.out.free 1
         have r2 := HR.out.cell 2
         have f2 := HR.out.free 2
         have r3 := HR.out.cell 3
         have f3 := HR.out.free 3
         have r4 := HR.out.cell 4
         have f4 := HR.out.free 4
         have r5 := HR.out.cell 5
         have f5 := HR.out.free 5
         simp only [List.getElem?_toArray, List.getElem?_cons_zero, List.getElem?_cons_succ] at r0 r1 r2 r3 r4 r5
         go_wp2
         refine bodyPost_ret (v := .tuple #[.agg #[.int .i64 0, .int .i64 0, .int .i64 0, .int .i64 0, .int .i64 0, .int .i64 0], .int .i64 3]) (by simp [results, Try.results63, go_sem, *]) rfl ?_
         exact ⟨by rw [HM.out]; rfl, ((((((HX.out.setCell (p := ⟨w.heap.size + 2, 0, none⟩) (by simp only; omega) _).setCell (p := ⟨w.heap.size + 2, 1, none⟩) (by simp only; omega) _).setCell (p := ⟨w.heap.size + 2, 2, none⟩) (by simp only; omega) _).setCell (p := ⟨w.heap.size + 2, 3, none⟩) (by simp only; omega) _).setCell (p := ⟨w.heap.size + 2, 4, none⟩) (by simp only; omega) _).setCell (p := ⟨w.heap.size + 2, 5, none⟩) (by simp only; omega) _)⟩

      ·
       obtain rfl : k = 3 := by omega
       have q3 : decide (((3 : Nat) : Int) < 3) = false := by decide
       have HM : Hid (mvA lo hi o = (mvL lo q, mvH hi q, 0)) := hid (by rw [HQD.out]; exact mvA_ok HNB.out HNO.out (fun ⟨k, hk, h⟩ => h (by have := HMO.out k hk; rw [HQD.out] at this; exact this)))
       replace HS := hid (HS.out.congr (a' := mvL lo q) (b' := mvH hi q) (fun k hk => ⟨by rw [if_pos hk], by rw [if_pos hk]⟩))
       have kS := HS.out
       unfold B6 at kS
       have b0 := kS.cell 0
       have b1 := kS.cell 1
       have b2 := kS.cell 2
       have b3 := kS.cell 3
       have b4 := kS.cell 4
       have b5 := kS.cell 5
       simp only [List.getElem?_toArray, List.getElem?_cons_zero, List.getElem?_cons_succ] at b0 b1 b2 b3 b4 b5
       clear kS
       have r0 := HR.out.cell 0
       have f0 := HR.out.free 0
       have r1 := HR.out.cell 1
       have f1 := HR.out.free 1
       have r2 := HR.out.cell 2
       have f2 := HR.out.free 2
       have r3 := HR.out.cell 3
       have f3 := HR.out.free 3
       have r4 := HR.out.cell 4
       have f4 := HR.out.free 4
       have r5 := HR.out.cell 5
       have f5 := HR.out.free 5
       simp only [List.getElem?_toArray, List.getElem?_cons_zero, List.getElem?_cons_succ] at r0 r1 r2 r3 r4 r5
       go_wp2
       refine bodyPost_ret (v := .tuple #[.agg #[.int .i64 (mvL lo q 0), .int .i64 (mvH hi q 0), .int .i64 (mvL lo q 1), .int .i64 (mvH hi q 1), .int .i64 (mvL lo q 2), .int .i64 (mvH hi q 2)], .int .i64 0]) (by simp [results, Try.results63, go_sem, *]) rfl ?_
       exact ⟨by rw [HM.out]; rfl, ((((((HX.out.setCell (p := ⟨w.heap.size + 2, 0, none⟩) (by simp only; omega) _).setCell (p := ⟨w.heap.size + 2, 1, none⟩) (by simp only; omega) _).setCell (p := ⟨w.heap.size + 2, 2, none⟩) (by simp only; omega) _).setCell (p := ⟨w.heap.size + 2, 3, none⟩) (by simp only; omega) _).setCell (p := ⟨w.heap.size + 2, 4, none⟩) (by simp only; omega) _).setCell (p := ⟨w.heap.size + 2, 5, none⟩) (by simp only; omega) _)⟩
/-- A point within the limits. -/
def nrP (x y z : Int) : Prop := (-268435456 ≤ x ∧ x ≤ 268435456) ∧ (-268435456 ≤ y ∧ y ≤ 268435456) ∧ (-268435456 ≤ z ∧ z ≤ 268435456)
instance (x y z : Int) : Decidable (nrP x y z) := by unfold nrP; infer_instance
/-- The last of three that is not zero is negative. -/
def facS (n : Nat → Int) : Prop := if n 2 = 0 then (if n 1 = 0 then n 0 < 0 else n 1 < 0) else n 2 < 0
instance (n : Nat → Int) : Decidable (facS n) := by unfold facS; infer_instance
end Go.Proofs.Ytikhlcgnlbinfaa
namespace Go.Proofs.Ytikhlcgnlbinfaa
open Lib (hid)
theorem sgn_int' (z : Int) : sgn (decide (z < 0)) z.natAbs = z := by
 unfold sgn
 by_cases h : z < 0
 ·
  rw [decide_eq_true h]; simp; omega
 ·
  rw [decide_eq_false h]; simp; omega
theorem fitT_mul {n m a b L : Nat} (h : Fit 65536 n a) (k : Fit 65536 m b) (hL : a + b ≤ L) : Fit 65536 (n * m) L := (h.mul (by omega) k).mono (by omega) hL
theorem fitT_mulI {x y : Int} {a b L : Nat} (h : Fit 65536 x.natAbs a) (k : Fit 65536 y.natAbs b) (hL : a + b ≤ L) : Fit 65536 (x * y).natAbs L := by
 rw [Int.natAbs_mul]; exact fitT_mul h k hL
theorem fitT_addI {x y : Int} {a L : Nat} (h : Fit 65536 x.natAbs a) (k : Fit 65536 y.natAbs a) (hL : a + 1 ≤ L) : Fit 65536 (x + y).natAbs L :=
 ((h.add (by omega) k).le (Int.natAbs_add_le x y)).mono (by omega) hL
theorem fitS_add {q r : Rat} {L M : Nat} (h : FitR q L) (k : FitR r M) : FitR (q + r) (L + M + 1) := by
 have e : ratV (decide (q.num * (r.den : Int) + r.num * (q.den : Int) < 0)) (q.num * (r.den : Int) + r.num * (q.den : Int)).natAbs (q.den * r.den) = q + r := by
  unfold ratV; rw [sgn_int']; exact (Rat.add_def' q r).symm
 rw [← e]
 refine fitR_red (Nat.mul_pos q.den_pos r.den_pos) ?_ (fitT_mul h.2 k.2 (by omega))
 exact fitT_addI (fitT_mulI h.1 (by simpa using k.2) (Nat.le_refl _)) (fitT_mulI k.1 (by simpa using h.2) (by omega)) (by omega)
end Go.Proofs.Ytikhlcgnlbinfaa
namespace Go.Proofs.Ytikhlcgnlbinfaa
open Lib (hid)
open Go.RowKit
theorem fitR_small {n : Int} (h0 : -9223372036854775808 ≤ n) (h1 : n ≤ 9223372036854775807) : FitR ((n : Int) : Rat) 4 := by
 have h := fitR_double (fitQ_small h0 h1)
 rw [show 2 * 2 = 4 from rfl] at h
 exact h
end Go.Proofs.Ytikhlcgnlbinfaa
