/- Lemmas of the proof that follows (Moves, part 17): walks of functions by contract, and plain lemmas. Conditions: none. -/
import Derived.Test.YtikhlcgnlbinfaaMovesP
namespace Go.Proofs.Ytikhlcgnlbinfaa
open Lib (hid)
open Go.RowKit
theorem floor_shift (z : Int) (q : Rat) : ((z : Rat) + q).floor = z + q.floor := by
 have h1 := Rat.floor_le q
 have h2 := Rat.lt_floor_add_one q
 apply Int.le_antisymm
 ·
  have h3 := Rat.floor_le ((z : Rat) + q)
  have h4 : ((((z : Rat) + q).floor - z : Int) : Rat) ≤ q := by rw [Rat.intCast_sub]; grind
  have := Rat.le_floor_iff.2 h4
  omega
 ·
  apply Rat.le_floor_iff.2
  rw [Rat.intCast_add]
  grind
theorem low_shift {xl xh : Int} (h : xl ≤ xh) (q : Rat) : (lowN [(xl : Rat) + q, (xh : Rat) + q] 1).floor = xl + q.floor := by
 rw [low_two, mnQ, if_neg, floor_shift]
 have hr : (xl : Rat) ≤ (xh : Rat) := Rat.intCast_le_intCast.2 h
 rcases sgnQ_cases ((xl : Rat) + q - ((xh : Rat) + q)) with ⟨_, h2⟩ | ⟨_, h2⟩ | ⟨h1, _⟩
 ·
  omega
 ·
  omega
 ·
  exact absurd h1 (by grind)
theorem high_shift {xl xh : Int} (h : xl ≤ xh) (q : Rat) : -(-(highN [(xl : Rat) + q, (xh : Rat) + q] 1)).floor = xh - (-q).floor := by
 have hr : (xl : Rat) ≤ (xh : Rat) := Rat.intCast_le_intCast.2 h
 have hm : highN [(xl : Rat) + q, (xh : Rat) + q] 1 = (xh : Rat) + q := by
  rw [high_two, mxQ]
  split
  ·
   rename_i h1
   rcases sgnQ_cases ((xl : Rat) + q - ((xh : Rat) + q)) with ⟨_, h2⟩ | ⟨_, h2⟩ | ⟨h3, _⟩
   ·
    omega
   ·
    omega
   ·
    exact absurd h3 (by grind)
  ·
   rfl
 rw [hm, show -((xh : Rat) + q) = ((-xh : Int) : Rat) + -q by rw [Rat.intCast_neg]; grind, floor_shift]
 omega
/-- A number of the reference whose limbs lie in memory from B on. -/
def QZn (B : Nat) (w : World) (v : Value) (q : Rat) : Prop := QZ w v q ∧ NewQ B v
theorem staysQn (B : Nat) : Stays (QZn B) := fun _ _ _ _ _ h hk hN => ⟨h.1.keepsNI hk hN, h.2⟩
/-- A local shift of the reference: nine cells, three numbers (none: not yet stored). -/
def XN (B : Nat) (w : World) (g : Nat) (f : Nat → Option Rat) : Prop := ∃ vs : List Value, Blk w g 229 vs.toArray ∧ NumK 3 (TriO (QZn B)) w vs 3 f ∧ ∀ u ∈ vs, NoInt u
theorem XN.ext {B : Nat} {w w' : World} {g : Nat} {f : Nat → Option Rat} (h : XN B w g f) (he : Ext w w') : XN B w' g f := by
 obtain ⟨vs, h1, h2, h3⟩ := h
 exact ⟨vs, h1.ext he, h2.ext (kindO (staysQn B)) he, h3⟩
theorem XN.congr {B : Nat} {w : World} {g : Nat} {f h : Nat → Option Rat} (k : XN B w g f) (e : ∀ j, j < 3 → f j = h j) : XN B w g h := by
 obtain ⟨vs, h1, h2, h3⟩ := k
 exact ⟨vs, h1, h2.congr e, h3⟩
theorem XN.ni {B : Nat} {w : World} {g : Nat} {f : Nat → Option Rat} (h : XN B w g f) : NoInts w g := by
 obtain ⟨vs, h1, h2, h3⟩ := h
 exact ⟨_, _, h1, fun v hv => h3 v (by simpa using hv)⟩
theorem XN.free {B : Nat} {w : World} {g : Nat} {f : Nat → Option Rat} (h : XN B w g f) (i : Nat) : w.frozen? ⟨g, i, none⟩ = false := by
 obtain ⟨vs, h1, h2, h3⟩ := h
 exact h1.free i
theorem XN.lt {B : Nat} {w : World} {g : Nat} {f : Nat → Option Rat} (h : XN B w g f) : g < w.heap.size := by
 obtain ⟨vs, h1, h2, h3⟩ := h
 exact h1.lt
theorem XN.cells {B : Nat} {w : World} {g : Nat} {f : Nat → Option Rat} (h : XN B w g f) {j : Nat} (hj : j < 3) : ∃ s A l c D m k, w.cell? ⟨g, j * 3, none⟩ = some (.bool s) ∧ w.cell? ⟨g, j * 3 + 1, none⟩ = some (.slice A l c) ∧ w.cell? ⟨g, j * 3 + 2, none⟩ = some (.slice D m k) ∧ ∀ q, f j = some q → QZn B w (.agg #[.bool s, .slice A l c, .slice D m k]) q := by
 obtain ⟨vs, h1, h2, h3⟩ := h
 obtain ⟨cs, c1, ⟨s, A, l, c, D, m, k, rfl, hx⟩, h4⟩ := h2.2 j hj
 have e := fun i hi => (h1.cell (j * 3 + i)).trans ((List.getElem?_toArray ..).trans (h4 i hi))
 exact ⟨s, A, l, c, D, m, k, by simpa using e 0 (by omega), by simpa using e 1 (by omega), by simpa using e 2 (by omega), hx⟩
theorem XN.zero {B : Nat} (w : World) : XN B (w.alloc (.cells #[.bool false, .slice none 0 0, .slice none 0 0, .bool false, .slice none 0 0, .slice none 0 0, .bool false, .slice none 0 0, .slice none 0 0] 229)) w.heap.size (fun _ => none) := by
 refine ⟨[.bool false, .slice none 0 0, .slice none 0 0, .bool false, .slice none 0 0, .slice none 0 0, .bool false, .slice none 0 0, .slice none 0 0], Blk.new _ _ _, ?_, fun u hu => ?_⟩
 ·
  refine NumK.new 3 (TriO (QZn B)) _ _ 3 rfl (cs := [.bool false, .slice none 0 0, .slice none 0 0]) rfl ⟨_, _, _, _, _, _, _, rfl, fun q hq => by cases hq⟩ (fun i hi => ?_)
  match i, hi with
  | 0, _ => rfl
  | 1, _ => rfl
  | 2, _ => rfl
  | 3, _ => rfl
  | 4, _ => rfl
  | 5, _ => rfl
  | 6, _ => rfl
  | 7, _ => rfl
  | 8, _ => rfl
  | _ + 9, hi => omega
 ·
  simp at hu
  rcases hu with rfl | rfl | rfl | rfl | rfl | rfl
  all_goals first | exact noInt_bool _ | exact noInt_slice _ _ _
theorem XN.put {B : Nat} {w : World} {g : Nat} {f : Nat → Option Rat} (h : XN B w g f) {j : Nat} (hj : j < 3) {s : Bool} {A D : Option Addr} {l c m k : Nat} {q : Rat} (hx : QZn B w (.agg #[.bool s, .slice A l c, .slice D m k]) q) :
  XN B (((w.setCell ⟨g, j * 3, none⟩ (.bool s)).setCell ⟨g, j * 3 + 1, none⟩ (.slice A l c)).setCell ⟨g, j * 3 + 2, none⟩ (.slice D m k)) g (fun i => if i = j then some q else f i) := by
 have hni := h.ni
 obtain ⟨vs, h1, h2, h3⟩ := h
 have hkp : Keeps [g] w (((w.setCell ⟨g, j * 3, none⟩ (.bool s)).setCell ⟨g, j * 3 + 1, none⟩ (.slice A l c)).setCell ⟨g, j * 3 + 2, none⟩ (.slice D m k)) := (((Keeps.refl [g] w).setCell (.inl (by simp)) _).setCell (.inl (by simp)) _).setCell (.inl (by simp)) _
 have hN : ∀ q ∈ [g], NoInts w q := fun q hq => by simp at hq; subst hq; exact hni
 have hb : j * 3 + 3 ≤ vs.length := by rw [h2.1]; omega
 obtain ⟨e1, e2, e3⟩ := set_three vs (j * 3) (.bool s) (.slice A l c) (.slice D m k) hb
 refine ⟨((vs.set (j * 3) (.bool s)).set (j * 3 + 1) (.slice A l c)).set (j * 3 + 2) (.slice D m k), ?_, (h2.keep (kindO (staysQn B)) hkp hN).put hj rfl ⟨_, _, _, _, _, _, _, rfl, fun q' hq => by injection hq with hq; subst hq; exact (staysQn B) _ _ _ _ _ hx hkp hN⟩ e1 e2 e3, fun u hu => ?_⟩
 ·
  have := ((h1.set (j * 3) (.bool s)).set (j * 3 + 1) (.slice A l c)).set (j * 3 + 2) (.slice D m k)
  simpa only [List.setIfInBounds_toArray] using this
 ·
  rcases List.mem_or_eq_of_mem_set hu with hu | rfl
  ·
   rcases List.mem_or_eq_of_mem_set hu with hu | rfl
   ·
    rcases List.mem_or_eq_of_mem_set hu with hu | rfl
    ·
     exact h3 u hu
    ·
     exact noInt_bool _
   ·
    exact noInt_slice _ _ _
  ·
   exact noInt_slice _ _ _
theorem XN.old {B : Nat} {w w' : World} {g : Nat} {f : Nat → Option Rat} {L : List Nat} (h : XN B w g f) (hk : Keeps L w w') (hL : ∀ g ∈ L, g < B) (hg : g ∉ L) : XN B w' g f := by
 obtain ⟨vs, h1, h2, h3⟩ := h
 exact ⟨vs, h1.keeps hk hg, h2.imp (fun cs x hc => by
  obtain ⟨s, A, l, c, D, m, k, e, hx⟩ := hc
  exact ⟨s, A, l, c, D, m, k, e, fun q hq => ⟨(hx q hq).1.new hk (hx q hq).2 hL, (hx q hq).2⟩⟩), h3⟩
set_option maxRecDepth 100000 in
set_option maxHeartbeats 4000000 in
theorem mor_r18 (g6 g8 kk : Nat) (xl xh ml mh sa sb sc : Int) (q : Rat) (su : Bool) (Au Bu : Option Addr) (lu cu mu ku : Nat) (w : World) (ca : w.cell? ⟨g6, kk * 2, none⟩ = some (.int .i64 xl)) (cb : w.cell? ⟨g6, kk * 2 + 1, none⟩ = some (.int .i64 xh)) (x0 : w.cell? ⟨g8, kk * 3, none⟩ = some (.bool su)) (x1 : w.cell? ⟨g8, kk * 3 + 1, none⟩ = some (.slice Au lu cu)) (x2 : w.cell? ⟨g8, kk * 3 + 2, none⟩ = some (.slice Bu mu ku)) (hx : QZ w (.agg #[.bool su, .slice Au lu cu, .slice Bu mu ku]) q) (hf : FitR q 512) (_hk3 : (kk : Int) < 3) (_hk4 : kk < 3) (_hbl : -1152921504606846976 ≤ xl ∧ xl ≤ 1152921504606846976) (_hbh : -1152921504606846976 ≤ xh ∧ xh ≤ 1152921504606846976) (hfs : ∀ x ∈ ([((xl : Int) : Rat) + q, ((xh : Int) : Rat) + q] : List Rat), FitR x 600) (hl : Hid ((lowN [((xl : Int) : Rat) + q, ((xh : Int) : Rat) + q] 1).floor = ml)) (hh : Hid (-(-(highN [((xl : Int) : Rat) + q, ((xh : Int) : Rat) + q] 1)).floor = mh)) (hA : Hid (spA ml mh = sa)) (hB : Hid (spB ml mh = sb)) (hC : Hid (spC ml mh = sc)) (a : Act) (Q : Exit → Act → World → Prop) (hsize : 79 ≤ a.tmps.size)
  (s6 : a.tmps[6]? = some (.slice (some ⟨g6, 0, none⟩) 3 3))
  (s8 : a.tmps[8]? = some (.pointer (some ⟨g8, 0, none⟩)))
  (s12 : a.tmps[12]? = some (.int .i64 (kk : Int)))
  (hend : ∀ (xv0 xv1 xv2 xv3 xv4 xv5 xv6 xv7 xv8 xv9 xv10 xv11 xv12 xv13 xv14 xv15 xv16 xv17 xv18 xv19 xv20 xv21 xv22 xv23 xv24 xv25 xv26 xv27 : Value) (W : World), (xv0 = .slice (some ⟨g6, 0, none⟩) 3 3) → (xv1 = .int .i64 (kk : Int)) → (xv2 = .pointer (some ⟨g6, kk * 2, none⟩)) → (xv3 = .pointer (some ⟨g6, kk * 2, none⟩)) → (xv4 = .int .i64 (xl)) → (xv6 = .int .i64 (kk : Int)) → (xv7 = .pointer (some ⟨g8, kk * 3, none⟩)) → (xv8 = .agg #[.bool su, .slice Au lu cu, .slice Bu mu ku]) → (xv10 = .slice (some ⟨g6, 0, none⟩) 3 3) → (xv11 = .int .i64 (kk : Int)) → (xv12 = .pointer (some ⟨g6, kk * 2, none⟩)) → (xv13 = .pointer (some ⟨g6, kk * 2 + 1, none⟩)) → (xv14 = .int .i64 (xh)) → (xv16 = .int .i64 (kk : Int)) → (xv17 = .pointer (some ⟨g8, kk * 3, none⟩)) → (xv18 = .agg #[.bool su, .slice Au lu cu, .slice Bu mu ku]) → (xv21 = .tuple #[.agg #[.int .i64 sa, .int .i64 sb], .int .i64 sc]) → (xv22 = .tuple #[.agg #[.int .i64 sa, .int .i64 sb], .int .i64 sc]) → (xv23 = .agg #[.int .i64 sa, .int .i64 sb]) → (xv24 = .int .i64 (sc)) → (xv27 = .int .i64 (sc)) → (∃ g, xv25 = .pointer (some ⟨g, 0, none⟩) ∧ w.heap.size ≤ g ∧ Blk W g 31 #[.int .i64 (sa), .int .i64 (sb)]) → Ext w W → wpList Try.prog (rops Try.f64 18).toArray Q [] ((((((((((((((((((((((((((((a.put (some 55) xv0).put (some 56) xv1).put (some 57) xv2).put (some 58) xv3).put (some 59) xv4).put (some 60) xv5).put (some 61) xv6).put (some 62) xv7).put (some 63) xv8).put (some 64) xv9).put (some 65) xv10).put (some 66) xv11).put (some 67) xv12).put (some 68) xv13).put (some 69) xv14).put (some 70) xv15).put (some 71) xv16).put (some 72) xv17).put (some 73) xv18).put (some 74) xv19).put (some 75) xv20).put (some 76) xv21).put (some 54) xv22).put (some 77) xv23).put (some 78) xv24).put (some 13) xv25).put (none) xv26).put (some 14) xv27) W) :
  (Code.region 18 (rops Try.f64 18).toArray true).wp Try.prog Q a w := by
 have hsz : ∀ d, some d ∈ ([some 55, some 56, some 57, some 58, some 59, some 60, some 61, some 62, some 63, some 64, some 65, some 66, some 67, some 68, some 69, some 70, some 71, some 72, some 73, some 74, some 75, some 76, some 54, some 77, some 78, some 13, none, some 14] : List (Option Tmp)) → d < a.tmps.size := slots_lt (by decide) hsize
 refine wp_region_g 28 [some 55, some 56, some 57, some 58, some 59, some 60, some 61, some 62, some 63, some 64, some 65, some 66, some 67, some 68, some 69, some 70, some 71, some 72, some 73, some 74, some 75, some 76, some 54, some 77, some 78, some 13, none, some 14] [[], [], [0, 1], [2], [3], [4], [], [6], [7], [5, 8], [], [], [10, 11], [12], [13], [14], [], [16], [17], [15, 18], [9, 19], [20], [21], [22], [22], [], [21, 23, 25], [24]] [[], [], [], [], [], [], [], [], [], [], [], [], [], [], [], [], [], [], [], [], [], [], [], [], [], [26], [], []] (fun (done : Nat → Prop) (us : Nat → Value) (W : World) => Ext w W ∧ (done 0 → us 0 = .slice (some ⟨g6, 0, none⟩) 3 3) ∧ (done 1 → us 1 = .int .i64 (kk : Int)) ∧ (done 2 → us 2 = .pointer (some ⟨g6, kk * 2, none⟩)) ∧ (done 3 → us 3 = .pointer (some ⟨g6, kk * 2, none⟩)) ∧ (done 4 → us 4 = .int .i64 (xl)) ∧ (done 6 → us 6 = .int .i64 (kk : Int)) ∧ (done 7 → us 7 = .pointer (some ⟨g8, kk * 3, none⟩)) ∧ (done 8 → us 8 = .agg #[.bool su, .slice Au lu cu, .slice Bu mu ku]) ∧ (done 10 → us 10 = .slice (some ⟨g6, 0, none⟩) 3 3) ∧ (done 11 → us 11 = .int .i64 (kk : Int)) ∧ (done 12 → us 12 = .pointer (some ⟨g6, kk * 2, none⟩)) ∧ (done 13 → us 13 = .pointer (some ⟨g6, kk * 2 + 1, none⟩)) ∧ (done 14 → us 14 = .int .i64 (xh)) ∧ (done 16 → us 16 = .int .i64 (kk : Int)) ∧ (done 17 → us 17 = .pointer (some ⟨g8, kk * 3, none⟩)) ∧ (done 18 → us 18 = .agg #[.bool su, .slice Au lu cu, .slice Bu mu ku]) ∧ (done 21 → us 21 = .tuple #[.agg #[.int .i64 sa, .int .i64 sb], .int .i64 sc]) ∧ (done 22 → us 22 = .tuple #[.agg #[.int .i64 sa, .int .i64 sb], .int .i64 sc]) ∧ (done 23 → us 23 = .agg #[.int .i64 sa, .int .i64 sb]) ∧ (done 24 → us 24 = .int .i64 (sc)) ∧ (done 27 → us 27 = .int .i64 (sc)) ∧ (done 5 → ¬ done 9 → QZ W (us 5) ((xl : Int) : Rat)) ∧ (done 9 → ¬ done 20 → QZ W (us 9) (((xl : Int) : Rat) + q)) ∧ (done 15 → ¬ done 19 → QZ W (us 15) ((xh : Int) : Rat)) ∧ (done 19 → ¬ done 20 → QZ W (us 19) (((xh : Int) : Rat) + q)) ∧ (done 20 → ¬ done 21 → ∃ g, (us 20) = .slice (some ⟨g, 0, none⟩) 2 2 ∧ QsAt W (some ⟨g, 0, none⟩) 2 [((xl : Int) : Rat) + q, ((xh : Int) : Rat) + q]) ∧ Loc w W 31 #[.int .i64 (0), .int .i64 (0)] #[.int .i64 (sa), .int .i64 (sb)] (done 25) (done 26) (us 25) ∧ (done 21 → done 20) ∧ (done 20 → done 9) ∧ (done 20 → done 19)) (by kernel_rfl) (by kernel_rfl) hsz (fun p q us W h => by have e : p = q := funext fun k => propext (h k); rw [e]; exact id) (fun us => ⟨(Ext.refl w).drew, fun h => h.elim, fun h => h.elim, fun h => h.elim, fun h => h.elim, fun h => h.elim, fun h => h.elim, fun h => h.elim, fun h => h.elim, fun h => h.elim, fun h => h.elim, fun h => h.elim, fun h => h.elim, fun h => h.elim, fun h => h.elim, fun h => h.elim, fun h => h.elim, fun h => h.elim, fun h => h.elim, fun h => h.elim, fun h => h.elim, fun h => h.elim, fun h => h.elim, fun h => h.elim, fun h => h.elim, fun h => h.elim, fun h => h.elim, Loc.unmade id, fun h => h.elim, fun h => h.elim, fun h => h.elim⟩) ?_ ?_
 ·
  clear hend
  simp only [rops, Try.f64, regOf, Option.bind_some, Nat.reduceBEq, if_true, if_false, Bool.false_eq_true, Option.getD_some]
  simp only [List.take_succ_cons, List.take_zero]
  refine ⟨?_, ?_, ?_, ?_, ?_, ?_, ?_, ?_, ?_, ?_, ?_, ?_, ?_, ?_, ?_, ?_, ?_, ?_, ?_, ?_, ?_, ?_, ?_, ?_, ?_, ?_, ?_, ?_, trivial⟩
  ·
   intro done us W hJ hdep haft hnot b hb hb' K hK Q'
   obtain ⟨hX0, cc0, cc1, cc2, cc3, cc4, cc6, cc7, cc8, cc10, cc11, cc12, cc13, cc14, cc16, cc17, cc18, cc21, cc22, cc23, cc24, cc27, kk5, kk9, kk15, kk19, kk20, ll, oo21_20, oo20_9, oo20_19⟩ := hJ
   have e6 := (hb' 6 (by simp)).trans s6
   clear hb hb'
   have hfin := hK (.slice (some ⟨g6, 0, none⟩) 3 3) _ ⟨hX0, fun _ => rfl, fun h => cc1 (h.resolve_right (by decide)), fun h => cc2 (h.resolve_right (by decide)), fun h => cc3 (h.resolve_right (by decide)), fun h => cc4 (h.resolve_right (by decide)), fun h => cc6 (h.resolve_right (by decide)), fun h => cc7 (h.resolve_right (by decide)), fun h => cc8 (h.resolve_right (by decide)), fun h => cc10 (h.resolve_right (by decide)), fun h => cc11 (h.resolve_right (by decide)), fun h => cc12 (h.resolve_right (by decide)), fun h => cc13 (h.resolve_right (by decide)), fun h => cc14 (h.resolve_right (by decide)), fun h => cc16 (h.resolve_right (by decide)), fun h => cc17 (h.resolve_right (by decide)), fun h => cc18 (h.resolve_right (by decide)), fun h => cc21 (h.resolve_right (by decide)), fun h => cc22 (h.resolve_right (by decide)), fun h => cc23 (h.resolve_right (by decide)), fun h => cc24 (h.resolve_right (by decide)), fun h => cc27 (h.resolve_right (by decide)), fun h h9 => (kk5 (h.resolve_right (by decide)) (fun d => h9 (.inl d))), fun h h20 => (kk9 (h.resolve_right (by decide)) (fun d => h20 (.inl d))), fun h h19 => (kk15 (h.resolve_right (by decide)) (fun d => h19 (.inl d))), fun h h20 => (kk19 (h.resolve_right (by decide)) (fun d => h20 (.inl d))), fun h h21 => (kk20 (h.resolve_right (by decide)) (fun d => h21 (.inl d))), Loc.same ll ⟨fun h => h.resolve_right (by decide), .inl⟩ ⟨fun h => h.resolve_right (by decide), .inl⟩, fun h => .inl (oo21_20 (h.resolve_right (by decide))), fun h => .inl (oo20_9 (h.resolve_right (by decide))), fun h => .inl (oo20_19 (h.resolve_right (by decide)))⟩
   clear hK cc0 cc1 cc2 cc3 cc4 cc6 cc7 cc8 cc10 cc11 cc12 cc13 cc14 cc16 cc17 cc18 cc21 cc22 cc23 cc24 cc27 kk5 kk9 kk15 kk19 kk20 ll oo21_20 oo20_9 oo20_19
   go_simp
   exact hfin
  ·
   intro done us W hJ hdep haft hnot b hb hb' K hK Q'
   obtain ⟨hX0, cc0, cc1, cc2, cc3, cc4, cc6, cc7, cc8, cc10, cc11, cc12, cc13, cc14, cc16, cc17, cc18, cc21, cc22, cc23, cc24, cc27, kk5, kk9, kk15, kk19, kk20, ll, oo21_20, oo20_9, oo20_19⟩ := hJ
   have e12 := (hb' 12 (by simp)).trans s12
   clear hb hb'
   have hfin := hK (.int .i64 (kk : Int)) _ ⟨hX0, fun h => cc0 (h.resolve_right (by decide)), fun _ => rfl, fun h => cc2 (h.resolve_right (by decide)), fun h => cc3 (h.resolve_right (by decide)), fun h => cc4 (h.resolve_right (by decide)), fun h => cc6 (h.resolve_right (by decide)), fun h => cc7 (h.resolve_right (by decide)), fun h => cc8 (h.resolve_right (by decide)), fun h => cc10 (h.resolve_right (by decide)), fun h => cc11 (h.resolve_right (by decide)), fun h => cc12 (h.resolve_right (by decide)), fun h => cc13 (h.resolve_right (by decide)), fun h => cc14 (h.resolve_right (by decide)), fun h => cc16 (h.resolve_right (by decide)), fun h => cc17 (h.resolve_right (by decide)), fun h => cc18 (h.resolve_right (by decide)), fun h => cc21 (h.resolve_right (by decide)), fun h => cc22 (h.resolve_right (by decide)), fun h => cc23 (h.resolve_right (by decide)), fun h => cc24 (h.resolve_right (by decide)), fun h => cc27 (h.resolve_right (by decide)), fun h h9 => (kk5 (h.resolve_right (by decide)) (fun d => h9 (.inl d))), fun h h20 => (kk9 (h.resolve_right (by decide)) (fun d => h20 (.inl d))), fun h h19 => (kk15 (h.resolve_right (by decide)) (fun d => h19 (.inl d))), fun h h20 => (kk19 (h.resolve_right (by decide)) (fun d => h20 (.inl d))), fun h h21 => (kk20 (h.resolve_right (by decide)) (fun d => h21 (.inl d))), Loc.same ll ⟨fun h => h.resolve_right (by decide), .inl⟩ ⟨fun h => h.resolve_right (by decide), .inl⟩, fun h => .inl (oo21_20 (h.resolve_right (by decide))), fun h => .inl (oo20_9 (h.resolve_right (by decide))), fun h => .inl (oo20_19 (h.resolve_right (by decide)))⟩
   clear hK cc0 cc1 cc2 cc3 cc4 cc6 cc7 cc8 cc10 cc11 cc12 cc13 cc14 cc16 cc17 cc18 cc21 cc22 cc23 cc24 cc27 kk5 kk9 kk15 kk19 kk20 ll oo21_20 oo20_9 oo20_19
   go_simp
   exact hfin
  ·
   intro done us W hJ hdep haft hnot b hb hb' K hK Q'
   obtain ⟨hX0, cc0, cc1, cc2, cc3, cc4, cc6, cc7, cc8, cc10, cc11, cc12, cc13, cc14, cc16, cc17, cc18, cc21, cc22, cc23, cc24, cc27, kk5, kk9, kk15, kk19, kk20, ll, oo21_20, oo20_9, oo20_19⟩ := hJ
   simp only [List.getD_cons_succ, List.getD_cons_zero, List.mem_cons, List.not_mem_nil, or_false, forall_eq_or_imp, forall_eq] at hdep
   have e55 := hb 0 55 rfl
   rw [cc0 hdep.1] at e55
   have e56 := hb 1 56 rfl
   rw [cc1 hdep.2] at e56
   clear hb hb'
   have hfin := hK (.pointer (some ⟨g6, kk * 2, none⟩)) _ ⟨hX0, fun h => cc0 (h.resolve_right (by decide)), fun h => cc1 (h.resolve_right (by decide)), fun _ => rfl, fun h => cc3 (h.resolve_right (by decide)), fun h => cc4 (h.resolve_right (by decide)), fun h => cc6 (h.resolve_right (by decide)), fun h => cc7 (h.resolve_right (by decide)), fun h => cc8 (h.resolve_right (by decide)), fun h => cc10 (h.resolve_right (by decide)), fun h => cc11 (h.resolve_right (by decide)), fun h => cc12 (h.resolve_right (by decide)), fun h => cc13 (h.resolve_right (by decide)), fun h => cc14 (h.resolve_right (by decide)), fun h => cc16 (h.resolve_right (by decide)), fun h => cc17 (h.resolve_right (by decide)), fun h => cc18 (h.resolve_right (by decide)), fun h => cc21 (h.resolve_right (by decide)), fun h => cc22 (h.resolve_right (by decide)), fun h => cc23 (h.resolve_right (by decide)), fun h => cc24 (h.resolve_right (by decide)), fun h => cc27 (h.resolve_right (by decide)), fun h h9 => (kk5 (h.resolve_right (by decide)) (fun d => h9 (.inl d))), fun h h20 => (kk9 (h.resolve_right (by decide)) (fun d => h20 (.inl d))), fun h h19 => (kk15 (h.resolve_right (by decide)) (fun d => h19 (.inl d))), fun h h20 => (kk19 (h.resolve_right (by decide)) (fun d => h20 (.inl d))), fun h h21 => (kk20 (h.resolve_right (by decide)) (fun d => h21 (.inl d))), Loc.same ll ⟨fun h => h.resolve_right (by decide), .inl⟩ ⟨fun h => h.resolve_right (by decide), .inl⟩, fun h => .inl (oo21_20 (h.resolve_right (by decide))), fun h => .inl (oo20_9 (h.resolve_right (by decide))), fun h => .inl (oo20_19 (h.resolve_right (by decide)))⟩
   clear hK cc0 cc1 cc2 cc3 cc4 cc6 cc7 cc8 cc10 cc11 cc12 cc13 cc14 cc16 cc17 cc18 cc21 cc22 cc23 cc24 cc27 kk5 kk9 kk15 kk19 kk20 ll oo21_20 oo20_9 oo20_19
   go_simp
   exact hfin
  ·
   intro done us W hJ hdep haft hnot b hb hb' K hK Q'
   obtain ⟨hX0, cc0, cc1, cc2, cc3, cc4, cc6, cc7, cc8, cc10, cc11, cc12, cc13, cc14, cc16, cc17, cc18, cc21, cc22, cc23, cc24, cc27, kk5, kk9, kk15, kk19, kk20, ll, oo21_20, oo20_9, oo20_19⟩ := hJ
   simp only [List.getD_cons_succ, List.getD_cons_zero, List.mem_cons, List.not_mem_nil, or_false, forall_eq] at hdep
   have e57 := hb 2 57 rfl
   rw [cc2 hdep] at e57
   clear hb hb'
   have hfin := hK (.pointer (some ⟨g6, kk * 2, none⟩)) _ ⟨hX0, fun h => cc0 (h.resolve_right (by decide)), fun h => cc1 (h.resolve_right (by decide)), fun h => cc2 (h.resolve_right (by decide)), fun _ => rfl, fun h => cc4 (h.resolve_right (by decide)), fun h => cc6 (h.resolve_right (by decide)), fun h => cc7 (h.resolve_right (by decide)), fun h => cc8 (h.resolve_right (by decide)), fun h => cc10 (h.resolve_right (by decide)), fun h => cc11 (h.resolve_right (by decide)), fun h => cc12 (h.resolve_right (by decide)), fun h => cc13 (h.resolve_right (by decide)), fun h => cc14 (h.resolve_right (by decide)), fun h => cc16 (h.resolve_right (by decide)), fun h => cc17 (h.resolve_right (by decide)), fun h => cc18 (h.resolve_right (by decide)), fun h => cc21 (h.resolve_right (by decide)), fun h => cc22 (h.resolve_right (by decide)), fun h => cc23 (h.resolve_right (by decide)), fun h => cc24 (h.resolve_right (by decide)), fun h => cc27 (h.resolve_right (by decide)), fun h h9 => (kk5 (h.resolve_right (by decide)) (fun d => h9 (.inl d))), fun h h20 => (kk9 (h.resolve_right (by decide)) (fun d => h20 (.inl d))), fun h h19 => (kk15 (h.resolve_right (by decide)) (fun d => h19 (.inl d))), fun h h20 => (kk19 (h.resolve_right (by decide)) (fun d => h20 (.inl d))), fun h h21 => (kk20 (h.resolve_right (by decide)) (fun d => h21 (.inl d))), Loc.same ll ⟨fun h => h.resolve_right (by decide), .inl⟩ ⟨fun h => h.resolve_right (by decide), .inl⟩, fun h => .inl (oo21_20 (h.resolve_right (by decide))), fun h => .inl (oo20_9 (h.resolve_right (by decide))), fun h => .inl (oo20_19 (h.resolve_right (by decide)))⟩
   clear hK cc0 cc1 cc2 cc3 cc4 cc6 cc7 cc8 cc10 cc11 cc12 cc13 cc14 cc16 cc17 cc18 cc21 cc22 cc23 cc24 cc27 kk5 kk9 kk15 kk19 kk20 ll oo21_20 oo20_9 oo20_19
   go_simp
   exact hfin
  ·
   intro done us W hJ hdep haft hnot b hb hb' K hK Q'
   obtain ⟨hX0, cc0, cc1, cc2, cc3, cc4, cc6, cc7, cc8, cc10, cc11, cc12, cc13, cc14, cc16, cc17, cc18, cc21, cc22, cc23, cc24, cc27, kk5, kk9, kk15, kk19, kk20, ll, oo21_20, oo20_9, oo20_19⟩ := hJ
   simp only [List.getD_cons_succ, List.getD_cons_zero, List.mem_cons, List.not_mem_nil, or_false, forall_eq] at hdep
   have e58 := hb 3 58 rfl
   rw [cc3 hdep] at e58
   clear hb hb'
   have q0 := Ext.cell hX0 ca
   have hfin := hK (.int .i64 (xl)) _ ⟨hX0, fun h => cc0 (h.resolve_right (by decide)), fun h => cc1 (h.resolve_right (by decide)), fun h => cc2 (h.resolve_right (by decide)), fun h => cc3 (h.resolve_right (by decide)), fun _ => rfl, fun h => cc6 (h.resolve_right (by decide)), fun h => cc7 (h.resolve_right (by decide)), fun h => cc8 (h.resolve_right (by decide)), fun h => cc10 (h.resolve_right (by decide)), fun h => cc11 (h.resolve_right (by decide)), fun h => cc12 (h.resolve_right (by decide)), fun h => cc13 (h.resolve_right (by decide)), fun h => cc14 (h.resolve_right (by decide)), fun h => cc16 (h.resolve_right (by decide)), fun h => cc17 (h.resolve_right (by decide)), fun h => cc18 (h.resolve_right (by decide)), fun h => cc21 (h.resolve_right (by decide)), fun h => cc22 (h.resolve_right (by decide)), fun h => cc23 (h.resolve_right (by decide)), fun h => cc24 (h.resolve_right (by decide)), fun h => cc27 (h.resolve_right (by decide)), fun h h9 => (kk5 (h.resolve_right (by decide)) (fun d => h9 (.inl d))), fun h h20 => (kk9 (h.resolve_right (by decide)) (fun d => h20 (.inl d))), fun h h19 => (kk15 (h.resolve_right (by decide)) (fun d => h19 (.inl d))), fun h h20 => (kk19 (h.resolve_right (by decide)) (fun d => h20 (.inl d))), fun h h21 => (kk20 (h.resolve_right (by decide)) (fun d => h21 (.inl d))), Loc.same ll ⟨fun h => h.resolve_right (by decide), .inl⟩ ⟨fun h => h.resolve_right (by decide), .inl⟩, fun h => .inl (oo21_20 (h.resolve_right (by decide))), fun h => .inl (oo20_9 (h.resolve_right (by decide))), fun h => .inl (oo20_19 (h.resolve_right (by decide)))⟩
   clear hK cc0 cc1 cc2 cc3 cc4 cc6 cc7 cc8 cc10 cc11 cc12 cc13 cc14 cc16 cc17 cc18 cc21 cc22 cc23 cc24 cc27 kk5 kk9 kk15 kk19 kk20 ll oo21_20 oo20_9 oo20_19
   go_simp
   exact hfin
  ·
   intro done us W hJ hdep haft hnot b hb hb' K hK Q'
   obtain ⟨hX0, cc0, cc1, cc2, cc3, cc4, cc6, cc7, cc8, cc10, cc11, cc12, cc13, cc14, cc16, cc17, cc18, cc21, cc22, cc23, cc24, cc27, kk5, kk9, kk15, kk19, kk20, ll, oo21_20, oo20_9, oo20_19⟩ := hJ
   simp only [List.getD_cons_succ, List.getD_cons_zero, List.mem_cons, List.not_mem_nil, or_false, forall_eq] at hdep
   have e59 := hb 4 59 rfl
   rw [cc4 hdep] at e59
   clear hb hb'
   go_simp
   refine (whole_any xl W (by omega) (by omega)).mono ?_
   rintro e w' ⟨v, rfl, hv, hX⟩
   exact hK _ _ ⟨hX0.trans hX, fun h => cc0 (h.resolve_right (by decide)), fun h => cc1 (h.resolve_right (by decide)), fun h => cc2 (h.resolve_right (by decide)), fun h => cc3 (h.resolve_right (by decide)), fun h => cc4 (h.resolve_right (by decide)), fun h => cc6 (h.resolve_right (by decide)), fun h => cc7 (h.resolve_right (by decide)), fun h => cc8 (h.resolve_right (by decide)), fun h => cc10 (h.resolve_right (by decide)), fun h => cc11 (h.resolve_right (by decide)), fun h => cc12 (h.resolve_right (by decide)), fun h => cc13 (h.resolve_right (by decide)), fun h => cc14 (h.resolve_right (by decide)), fun h => cc16 (h.resolve_right (by decide)), fun h => cc17 (h.resolve_right (by decide)), fun h => cc18 (h.resolve_right (by decide)), fun h => cc21 (h.resolve_right (by decide)), fun h => cc22 (h.resolve_right (by decide)), fun h => cc23 (h.resolve_right (by decide)), fun h => cc24 (h.resolve_right (by decide)), fun h => cc27 (h.resolve_right (by decide)), fun _ _ => hv, fun h h20 => QZ.ext (kk9 (h.resolve_right (by decide)) (fun d => h20 (.inl d))) hX, fun h h19 => QZ.ext (kk15 (h.resolve_right (by decide)) (fun d => h19 (.inl d))) hX, fun h h20 => QZ.ext (kk19 (h.resolve_right (by decide)) (fun d => h20 (.inl d))) hX, fun h h21 => ((kk20 (h.resolve_right (by decide)) (fun d => h21 (.inl d))).elim fun g h => ⟨g, h.1, h.2.ext hX⟩), Loc.same (ll.ext hX) ⟨fun h => h.resolve_right (by decide), .inl⟩ ⟨fun h => h.resolve_right (by decide), .inl⟩, fun h => .inl (oo21_20 (h.resolve_right (by decide))), fun h => .inl (oo20_9 (h.resolve_right (by decide))), fun h => .inl (oo20_19 (h.resolve_right (by decide)))⟩
  ·
   intro done us W hJ hdep haft hnot b hb hb' K hK Q'
   obtain ⟨hX0, cc0, cc1, cc2, cc3, cc4, cc6, cc7, cc8, cc10, cc11, cc12, cc13, cc14, cc16, cc17, cc18, cc21, cc22, cc23, cc24, cc27, kk5, kk9, kk15, kk19, kk20, ll, oo21_20, oo20_9, oo20_19⟩ := hJ
   have e12 := (hb' 12 (by simp)).trans s12
   clear hb hb'
   have hfin := hK (.int .i64 (kk : Int)) _ ⟨hX0, fun h => cc0 (h.resolve_right (by decide)), fun h => cc1 (h.resolve_right (by decide)), fun h => cc2 (h.resolve_right (by decide)), fun h => cc3 (h.resolve_right (by decide)), fun h => cc4 (h.resolve_right (by decide)), fun _ => rfl, fun h => cc7 (h.resolve_right (by decide)), fun h => cc8 (h.resolve_right (by decide)), fun h => cc10 (h.resolve_right (by decide)), fun h => cc11 (h.resolve_right (by decide)), fun h => cc12 (h.resolve_right (by decide)), fun h => cc13 (h.resolve_right (by decide)), fun h => cc14 (h.resolve_right (by decide)), fun h => cc16 (h.resolve_right (by decide)), fun h => cc17 (h.resolve_right (by decide)), fun h => cc18 (h.resolve_right (by decide)), fun h => cc21 (h.resolve_right (by decide)), fun h => cc22 (h.resolve_right (by decide)), fun h => cc23 (h.resolve_right (by decide)), fun h => cc24 (h.resolve_right (by decide)), fun h => cc27 (h.resolve_right (by decide)), fun h h9 => (kk5 (h.resolve_right (by decide)) (fun d => h9 (.inl d))), fun h h20 => (kk9 (h.resolve_right (by decide)) (fun d => h20 (.inl d))), fun h h19 => (kk15 (h.resolve_right (by decide)) (fun d => h19 (.inl d))), fun h h20 => (kk19 (h.resolve_right (by decide)) (fun d => h20 (.inl d))), fun h h21 => (kk20 (h.resolve_right (by decide)) (fun d => h21 (.inl d))), Loc.same ll ⟨fun h => h.resolve_right (by decide), .inl⟩ ⟨fun h => h.resolve_right (by decide), .inl⟩, fun h => .inl (oo21_20 (h.resolve_right (by decide))), fun h => .inl (oo20_9 (h.resolve_right (by decide))), fun h => .inl (oo20_19 (h.resolve_right (by decide)))⟩
   clear hK cc0 cc1 cc2 cc3 cc4 cc6 cc7 cc8 cc10 cc11 cc12 cc13 cc14 cc16 cc17 cc18 cc21 cc22 cc23 cc24 cc27 kk5 kk9 kk15 kk19 kk20 ll oo21_20 oo20_9 oo20_19
   go_simp
   exact hfin
  ·
   intro done us W hJ hdep haft hnot b hb hb' K hK Q'
   obtain ⟨hX0, cc0, cc1, cc2, cc3, cc4, cc6, cc7, cc8, cc10, cc11, cc12, cc13, cc14, cc16, cc17, cc18, cc21, cc22, cc23, cc24, cc27, kk5, kk9, kk15, kk19, kk20, ll, oo21_20, oo20_9, oo20_19⟩ := hJ
   simp only [List.getD_cons_succ, List.getD_cons_zero, List.mem_cons, List.not_mem_nil, or_false, forall_eq] at hdep
   have e8 := (hb' 8 (by simp)).trans s8
   have e61 := hb 6 61 rfl
   rw [cc6 hdep] at e61
   clear hb hb'
   have hfin := hK (.pointer (some ⟨g8, kk * 3, none⟩)) _ ⟨hX0, fun h => cc0 (h.resolve_right (by decide)), fun h => cc1 (h.resolve_right (by decide)), fun h => cc2 (h.resolve_right (by decide)), fun h => cc3 (h.resolve_right (by decide)), fun h => cc4 (h.resolve_right (by decide)), fun h => cc6 (h.resolve_right (by decide)), fun _ => rfl, fun h => cc8 (h.resolve_right (by decide)), fun h => cc10 (h.resolve_right (by decide)), fun h => cc11 (h.resolve_right (by decide)), fun h => cc12 (h.resolve_right (by decide)), fun h => cc13 (h.resolve_right (by decide)), fun h => cc14 (h.resolve_right (by decide)), fun h => cc16 (h.resolve_right (by decide)), fun h => cc17 (h.resolve_right (by decide)), fun h => cc18 (h.resolve_right (by decide)), fun h => cc21 (h.resolve_right (by decide)), fun h => cc22 (h.resolve_right (by decide)), fun h => cc23 (h.resolve_right (by decide)), fun h => cc24 (h.resolve_right (by decide)), fun h => cc27 (h.resolve_right (by decide)), fun h h9 => (kk5 (h.resolve_right (by decide)) (fun d => h9 (.inl d))), fun h h20 => (kk9 (h.resolve_right (by decide)) (fun d => h20 (.inl d))), fun h h19 => (kk15 (h.resolve_right (by decide)) (fun d => h19 (.inl d))), fun h h20 => (kk19 (h.resolve_right (by decide)) (fun d => h20 (.inl d))), fun h h21 => (kk20 (h.resolve_right (by decide)) (fun d => h21 (.inl d))), Loc.same ll ⟨fun h => h.resolve_right (by decide), .inl⟩ ⟨fun h => h.resolve_right (by decide), .inl⟩, fun h => .inl (oo21_20 (h.resolve_right (by decide))), fun h => .inl (oo20_9 (h.resolve_right (by decide))), fun h => .inl (oo20_19 (h.resolve_right (by decide)))⟩
   clear hK cc0 cc1 cc2 cc3 cc4 cc6 cc7 cc8 cc10 cc11 cc12 cc13 cc14 cc16 cc17 cc18 cc21 cc22 cc23 cc24 cc27 kk5 kk9 kk15 kk19 kk20 ll oo21_20 oo20_9 oo20_19
   go_simp
   exact hfin
  ·
   intro done us W hJ hdep haft hnot b hb hb' K hK Q'
   obtain ⟨hX0, cc0, cc1, cc2, cc3, cc4, cc6, cc7, cc8, cc10, cc11, cc12, cc13, cc14, cc16, cc17, cc18, cc21, cc22, cc23, cc24, cc27, kk5, kk9, kk15, kk19, kk20, ll, oo21_20, oo20_9, oo20_19⟩ := hJ
   simp only [List.getD_cons_succ, List.getD_cons_zero, List.mem_cons, List.not_mem_nil, or_false, forall_eq] at hdep
   have e62 := hb 7 62 rfl
   rw [cc7 hdep] at e62
   clear hb hb'
   have z0 := Ext.cell hX0 x0
   have z1 := Ext.cell hX0 x1
   have z2 := Ext.cell hX0 x2
   have hfin := hK (.agg #[.bool su, .slice Au lu cu, .slice Bu mu ku]) _ ⟨hX0, fun h => cc0 (h.resolve_right (by decide)), fun h => cc1 (h.resolve_right (by decide)), fun h => cc2 (h.resolve_right (by decide)), fun h => cc3 (h.resolve_right (by decide)), fun h => cc4 (h.resolve_right (by decide)), fun h => cc6 (h.resolve_right (by decide)), fun h => cc7 (h.resolve_right (by decide)), fun _ => rfl, fun h => cc10 (h.resolve_right (by decide)), fun h => cc11 (h.resolve_right (by decide)), fun h => cc12 (h.resolve_right (by decide)), fun h => cc13 (h.resolve_right (by decide)), fun h => cc14 (h.resolve_right (by decide)), fun h => cc16 (h.resolve_right (by decide)), fun h => cc17 (h.resolve_right (by decide)), fun h => cc18 (h.resolve_right (by decide)), fun h => cc21 (h.resolve_right (by decide)), fun h => cc22 (h.resolve_right (by decide)), fun h => cc23 (h.resolve_right (by decide)), fun h => cc24 (h.resolve_right (by decide)), fun h => cc27 (h.resolve_right (by decide)), fun h h9 => (kk5 (h.resolve_right (by decide)) (fun d => h9 (.inl d))), fun h h20 => (kk9 (h.resolve_right (by decide)) (fun d => h20 (.inl d))), fun h h19 => (kk15 (h.resolve_right (by decide)) (fun d => h19 (.inl d))), fun h h20 => (kk19 (h.resolve_right (by decide)) (fun d => h20 (.inl d))), fun h h21 => (kk20 (h.resolve_right (by decide)) (fun d => h21 (.inl d))), Loc.same ll ⟨fun h => h.resolve_right (by decide), .inl⟩ ⟨fun h => h.resolve_right (by decide), .inl⟩, fun h => .inl (oo21_20 (h.resolve_right (by decide))), fun h => .inl (oo20_9 (h.resolve_right (by decide))), fun h => .inl (oo20_19 (h.resolve_right (by decide)))⟩
   clear hK cc0 cc1 cc2 cc3 cc4 cc6 cc7 cc8 cc10 cc11 cc12 cc13 cc14 cc16 cc17 cc18 cc21 cc22 cc23 cc24 cc27 kk5 kk9 kk15 kk19 kk20 ll oo21_20 oo20_9 oo20_19
   go_simp
   exact hfin
  ·
   intro done us W hJ hdep haft hnot b hb hb' K hK Q'
   obtain ⟨hX0, cc0, cc1, cc2, cc3, cc4, cc6, cc7, cc8, cc10, cc11, cc12, cc13, cc14, cc16, cc17, cc18, cc21, cc22, cc23, cc24, cc27, kk5, kk9, kk15, kk19, kk20, ll, oo21_20, oo20_9, oo20_19⟩ := hJ
   simp only [List.getD_cons_succ, List.getD_cons_zero, List.mem_cons, List.not_mem_nil, or_false, forall_eq_or_imp, forall_eq] at hdep
   have e60 := hb 5 60 rfl
   have e63 := hb 8 63 rfl
   rw [cc8 hdep.2] at e63
   clear hb hb'
   have h5 := kk5 hdep.1 hnot
   go_simp
   refine (qadd_any _ _ ((xl : Int) : Rat) q 4 512 W h5 (hx.ext hX0) (fitR_small (by omega) (by omega)) hf (by omega)).mono ?_
   rintro e w' ⟨v, rfl, hv, hX⟩
   exact hK _ _ ⟨hX0.trans hX, fun h => cc0 (h.resolve_right (by decide)), fun h => cc1 (h.resolve_right (by decide)), fun h => cc2 (h.resolve_right (by decide)), fun h => cc3 (h.resolve_right (by decide)), fun h => cc4 (h.resolve_right (by decide)), fun h => cc6 (h.resolve_right (by decide)), fun h => cc7 (h.resolve_right (by decide)), fun h => cc8 (h.resolve_right (by decide)), fun h => cc10 (h.resolve_right (by decide)), fun h => cc11 (h.resolve_right (by decide)), fun h => cc12 (h.resolve_right (by decide)), fun h => cc13 (h.resolve_right (by decide)), fun h => cc14 (h.resolve_right (by decide)), fun h => cc16 (h.resolve_right (by decide)), fun h => cc17 (h.resolve_right (by decide)), fun h => cc18 (h.resolve_right (by decide)), fun h => cc21 (h.resolve_right (by decide)), fun h => cc22 (h.resolve_right (by decide)), fun h => cc23 (h.resolve_right (by decide)), fun h => cc24 (h.resolve_right (by decide)), fun h => cc27 (h.resolve_right (by decide)), fun _ h => absurd (.inr rfl) h, fun _ _ => hv, fun h h19 => QZ.ext (kk15 (h.resolve_right (by decide)) (fun d => h19 (.inl d))) hX, fun h h20 => QZ.ext (kk19 (h.resolve_right (by decide)) (fun d => h20 (.inl d))) hX, fun h h21 => ((kk20 (h.resolve_right (by decide)) (fun d => h21 (.inl d))).elim fun g h => ⟨g, h.1, h.2.ext hX⟩), Loc.same (ll.ext hX) ⟨fun h => h.resolve_right (by decide), .inl⟩ ⟨fun h => h.resolve_right (by decide), .inl⟩, fun h => .inl (oo21_20 (h.resolve_right (by decide))), fun h => .inl (oo20_9 (h.resolve_right (by decide))), fun h => .inl (oo20_19 (h.resolve_right (by decide)))⟩
  ·
   intro done us W hJ hdep haft hnot b hb hb' K hK Q'
   obtain ⟨hX0, cc0, cc1, cc2, cc3, cc4, cc6, cc7, cc8, cc10, cc11, cc12, cc13, cc14, cc16, cc17, cc18, cc21, cc22, cc23, cc24, cc27, kk5, kk9, kk15, kk19, kk20, ll, oo21_20, oo20_9, oo20_19⟩ := hJ
   have e6 := (hb' 6 (by simp)).trans s6
   clear hb hb'
   have hfin := hK (.slice (some ⟨g6, 0, none⟩) 3 3) _ ⟨hX0, fun h => cc0 (h.resolve_right (by decide)), fun h => cc1 (h.resolve_right (by decide)), fun h => cc2 (h.resolve_right (by decide)), fun h => cc3 (h.resolve_right (by decide)), fun h => cc4 (h.resolve_right (by decide)), fun h => cc6 (h.resolve_right (by decide)), fun h => cc7 (h.resolve_right (by decide)), fun h => cc8 (h.resolve_right (by decide)), fun _ => rfl, fun h => cc11 (h.resolve_right (by decide)), fun h => cc12 (h.resolve_right (by decide)), fun h => cc13 (h.resolve_right (by decide)), fun h => cc14 (h.resolve_right (by decide)), fun h => cc16 (h.resolve_right (by decide)), fun h => cc17 (h.resolve_right (by decide)), fun h => cc18 (h.resolve_right (by decide)), fun h => cc21 (h.resolve_right (by decide)), fun h => cc22 (h.resolve_right (by decide)), fun h => cc23 (h.resolve_right (by decide)), fun h => cc24 (h.resolve_right (by decide)), fun h => cc27 (h.resolve_right (by decide)), fun h h9 => (kk5 (h.resolve_right (by decide)) (fun d => h9 (.inl d))), fun h h20 => (kk9 (h.resolve_right (by decide)) (fun d => h20 (.inl d))), fun h h19 => (kk15 (h.resolve_right (by decide)) (fun d => h19 (.inl d))), fun h h20 => (kk19 (h.resolve_right (by decide)) (fun d => h20 (.inl d))), fun h h21 => (kk20 (h.resolve_right (by decide)) (fun d => h21 (.inl d))), Loc.same ll ⟨fun h => h.resolve_right (by decide), .inl⟩ ⟨fun h => h.resolve_right (by decide), .inl⟩, fun h => .inl (oo21_20 (h.resolve_right (by decide))), fun h => .inl (oo20_9 (h.resolve_right (by decide))), fun h => .inl (oo20_19 (h.resolve_right (by decide)))⟩
   clear hK cc0 cc1 cc2 cc3 cc4 cc6 cc7 cc8 cc10 cc11 cc12 cc13 cc14 cc16 cc17 cc18 cc21 cc22 cc23 cc24 cc27 kk5 kk9 kk15 kk19 kk20 ll oo21_20 oo20_9 oo20_19
   go_simp
   exact hfin
  ·
   intro done us W hJ hdep haft hnot b hb hb' K hK Q'
   obtain ⟨hX0, cc0, cc1, cc2, cc3, cc4, cc6, cc7, cc8, cc10, cc11, cc12, cc13, cc14, cc16, cc17, cc18, cc21, cc22, cc23, cc24, cc27, kk5, kk9, kk15, kk19, kk20, ll, oo21_20, oo20_9, oo20_19⟩ := hJ
   have e12 := (hb' 12 (by simp)).trans s12
   clear hb hb'
   have hfin := hK (.int .i64 (kk : Int)) _ ⟨hX0, fun h => cc0 (h.resolve_right (by decide)), fun h => cc1 (h.resolve_right (by decide)), fun h => cc2 (h.resolve_right (by decide)), fun h => cc3 (h.resolve_right (by decide)), fun h => cc4 (h.resolve_right (by decide)), fun h => cc6 (h.resolve_right (by decide)), fun h => cc7 (h.resolve_right (by decide)), fun h => cc8 (h.resolve_right (by decide)), fun h => cc10 (h.resolve_right (by decide)), fun _ => rfl, fun h => cc12 (h.resolve_right (by decide)), fun h => cc13 (h.resolve_right (by decide)), fun h => cc14 (h.resolve_right (by decide)), fun h => cc16 (h.resolve_right (by decide)), fun h => cc17 (h.resolve_right (by decide)), fun h => cc18 (h.resolve_right (by decide)), fun h => cc21 (h.resolve_right (by decide)), fun h => cc22 (h.resolve_right (by decide)), fun h => cc23 (h.resolve_right (by decide)), fun h => cc24 (h.resolve_right (by decide)), fun h => cc27 (h.resolve_right (by decide)), fun h h9 => (kk5 (h.resolve_right (by decide)) (fun d => h9 (.inl d))), fun h h20 => (kk9 (h.resolve_right (by decide)) (fun d => h20 (.inl d))), fun h h19 => (kk15 (h.resolve_right (by decide)) (fun d => h19 (.inl d))), fun h h20 => (kk19 (h.resolve_right (by decide)) (fun d => h20 (.inl d))), fun h h21 => (kk20 (h.resolve_right (by decide)) (fun d => h21 (.inl d))), Loc.same ll ⟨fun h => h.resolve_right (by decide), .inl⟩ ⟨fun h => h.resolve_right (by decide), .inl⟩, fun h => .inl (oo21_20 (h.resolve_right (by decide))), fun h => .inl (oo20_9 (h.resolve_right (by decide))), fun h => .inl (oo20_19 (h.resolve_right (by decide)))⟩
   clear hK cc0 cc1 cc2 cc3 cc4 cc6 cc7 cc8 cc10 cc11 cc12 cc13 cc14 cc16 cc17 cc18 cc21 cc22 cc23 cc24 cc27 kk5 kk9 kk15 kk19 kk20 ll oo21_20 oo20_9 oo20_19
   go_simp
   exact hfin
  ·
   intro done us W hJ hdep haft hnot b hb hb' K hK Q'
   obtain ⟨hX0, cc0, cc1, cc2, cc3, cc4, cc6, cc7, cc8, cc10, cc11, cc12, cc13, cc14, cc16, cc17, cc18, cc21, cc22, cc23, cc24, cc27, kk5, kk9, kk15, kk19, kk20, ll, oo21_20, oo20_9, oo20_19⟩ := hJ
   simp only [List.getD_cons_succ, List.getD_cons_zero, List.mem_cons, List.not_mem_nil, or_false, forall_eq_or_imp, forall_eq] at hdep
   have e65 := hb 10 65 rfl
   rw [cc10 hdep.1] at e65
   have e66 := hb 11 66 rfl
   rw [cc11 hdep.2] at e66
   clear hb hb'
   have hfin := hK (.pointer (some ⟨g6, kk * 2, none⟩)) _ ⟨hX0, fun h => cc0 (h.resolve_right (by decide)), fun h => cc1 (h.resolve_right (by decide)), fun h => cc2 (h.resolve_right (by decide)), fun h => cc3 (h.resolve_right (by decide)), fun h => cc4 (h.resolve_right (by decide)), fun h => cc6 (h.resolve_right (by decide)), fun h => cc7 (h.resolve_right (by decide)), fun h => cc8 (h.resolve_right (by decide)), fun h => cc10 (h.resolve_right (by decide)), fun h => cc11 (h.resolve_right (by decide)), fun _ => rfl, fun h => cc13 (h.resolve_right (by decide)), fun h => cc14 (h.resolve_right (by decide)), fun h => cc16 (h.resolve_right (by decide)), fun h => cc17 (h.resolve_right (by decide)), fun h => cc18 (h.resolve_right (by decide)), fun h => cc21 (h.resolve_right (by decide)), fun h => cc22 (h.resolve_right (by decide)), fun h => cc23 (h.resolve_right (by decide)), fun h => cc24 (h.resolve_right (by decide)), fun h => cc27 (h.resolve_right (by decide)), fun h h9 => (kk5 (h.resolve_right (by decide)) (fun d => h9 (.inl d))), fun h h20 => (kk9 (h.resolve_right (by decide)) (fun d => h20 (.inl d))), fun h h19 => (kk15 (h.resolve_right (by decide)) (fun d => h19 (.inl d))), fun h h20 => (kk19 (h.resolve_right (by decide)) (fun d => h20 (.inl d))), fun h h21 => (kk20 (h.resolve_right (by decide)) (fun d => h21 (.inl d))), Loc.same ll ⟨fun h => h.resolve_right (by decide), .inl⟩ ⟨fun h => h.resolve_right (by decide), .inl⟩, fun h => .inl (oo21_20 (h.resolve_right (by decide))), fun h => .inl (oo20_9 (h.resolve_right (by decide))), fun h => .inl (oo20_19 (h.resolve_right (by decide)))⟩
   clear hK cc0 cc1 cc2 cc3 cc4 cc6 cc7 cc8 cc10 cc11 cc12 cc13 cc14 cc16 cc17 cc18 cc21 cc22 cc23 cc24 cc27 kk5 kk9 kk15 kk19 kk20 ll oo21_20 oo20_9 oo20_19
   go_simp
   exact hfin
  ·
   intro done us W hJ hdep haft hnot b hb hb' K hK Q'
   obtain ⟨hX0, cc0, cc1, cc2, cc3, cc4, cc6, cc7, cc8, cc10, cc11, cc12, cc13, cc14, cc16, cc17, cc18, cc21, cc22, cc23, cc24, cc27, kk5, kk9, kk15, kk19, kk20, ll, oo21_20, oo20_9, oo20_19⟩ := hJ
   simp only [List.getD_cons_succ, List.getD_cons_zero, List.mem_cons, List.not_mem_nil, or_false, forall_eq] at hdep
   have e67 := hb 12 67 rfl
   rw [cc12 hdep] at e67
   clear hb hb'
   have hfin := hK (.pointer (some ⟨g6, kk * 2 + 1, none⟩)) _ ⟨hX0, fun h => cc0 (h.resolve_right (by decide)), fun h => cc1 (h.resolve_right (by decide)), fun h => cc2 (h.resolve_right (by decide)), fun h => cc3 (h.resolve_right (by decide)), fun h => cc4 (h.resolve_right (by decide)), fun h => cc6 (h.resolve_right (by decide)), fun h => cc7 (h.resolve_right (by decide)), fun h => cc8 (h.resolve_right (by decide)), fun h => cc10 (h.resolve_right (by decide)), fun h => cc11 (h.resolve_right (by decide)), fun h => cc12 (h.resolve_right (by decide)), fun _ => rfl, fun h => cc14 (h.resolve_right (by decide)), fun h => cc16 (h.resolve_right (by decide)), fun h => cc17 (h.resolve_right (by decide)), fun h => cc18 (h.resolve_right (by decide)), fun h => cc21 (h.resolve_right (by decide)), fun h => cc22 (h.resolve_right (by decide)), fun h => cc23 (h.resolve_right (by decide)), fun h => cc24 (h.resolve_right (by decide)), fun h => cc27 (h.resolve_right (by decide)), fun h h9 => (kk5 (h.resolve_right (by decide)) (fun d => h9 (.inl d))), fun h h20 => (kk9 (h.resolve_right (by decide)) (fun d => h20 (.inl d))), fun h h19 => (kk15 (h.resolve_right (by decide)) (fun d => h19 (.inl d))), fun h h20 => (kk19 (h.resolve_right (by decide)) (fun d => h20 (.inl d))), fun h h21 => (kk20 (h.resolve_right (by decide)) (fun d => h21 (.inl d))), Loc.same ll ⟨fun h => h.resolve_right (by decide), .inl⟩ ⟨fun h => h.resolve_right (by decide), .inl⟩, fun h => .inl (oo21_20 (h.resolve_right (by decide))), fun h => .inl (oo20_9 (h.resolve_right (by decide))), fun h => .inl (oo20_19 (h.resolve_right (by decide)))⟩
   clear hK cc0 cc1 cc2 cc3 cc4 cc6 cc7 cc8 cc10 cc11 cc12 cc13 cc14 cc16 cc17 cc18 cc21 cc22 cc23 cc24 cc27 kk5 kk9 kk15 kk19 kk20 ll oo21_20 oo20_9 oo20_19
   go_simp
   exact hfin
  ·
   intro done us W hJ hdep haft hnot b hb hb' K hK Q'
   obtain ⟨hX0, cc0, cc1, cc2, cc3, cc4, cc6, cc7, cc8, cc10, cc11, cc12, cc13, cc14, cc16, cc17, cc18, cc21, cc22, cc23, cc24, cc27, kk5, kk9, kk15, kk19, kk20, ll, oo21_20, oo20_9, oo20_19⟩ := hJ
   simp only [List.getD_cons_succ, List.getD_cons_zero, List.mem_cons, List.not_mem_nil, or_false, forall_eq] at hdep
   have e68 := hb 13 68 rfl
   rw [cc13 hdep] at e68
   clear hb hb'
   have q0 := Ext.cell hX0 cb
   have hfin := hK (.int .i64 (xh)) _ ⟨hX0, fun h => cc0 (h.resolve_right (by decide)), fun h => cc1 (h.resolve_right (by decide)), fun h => cc2 (h.resolve_right (by decide)), fun h => cc3 (h.resolve_right (by decide)), fun h => cc4 (h.resolve_right (by decide)), fun h => cc6 (h.resolve_right (by decide)), fun h => cc7 (h.resolve_right (by decide)), fun h => cc8 (h.resolve_right (by decide)), fun h => cc10 (h.resolve_right (by decide)), fun h => cc11 (h.resolve_right (by decide)), fun h => cc12 (h.resolve_right (by decide)), fun h => cc13 (h.resolve_right (by decide)), fun _ => rfl, fun h => cc16 (h.resolve_right (by decide)), fun h => cc17 (h.resolve_right (by decide)), fun h => cc18 (h.resolve_right (by decide)), fun h => cc21 (h.resolve_right (by decide)), fun h => cc22 (h.resolve_right (by decide)), fun h => cc23 (h.resolve_right (by decide)), fun h => cc24 (h.resolve_right (by decide)), fun h => cc27 (h.resolve_right (by decide)), fun h h9 => (kk5 (h.resolve_right (by decide)) (fun d => h9 (.inl d))), fun h h20 => (kk9 (h.resolve_right (by decide)) (fun d => h20 (.inl d))), fun h h19 => (kk15 (h.resolve_right (by decide)) (fun d => h19 (.inl d))), fun h h20 => (kk19 (h.resolve_right (by decide)) (fun d => h20 (.inl d))), fun h h21 => (kk20 (h.resolve_right (by decide)) (fun d => h21 (.inl d))), Loc.same ll ⟨fun h => h.resolve_right (by decide), .inl⟩ ⟨fun h => h.resolve_right (by decide), .inl⟩, fun h => .inl (oo21_20 (h.resolve_right (by decide))), fun h => .inl (oo20_9 (h.resolve_right (by decide))), fun h => .inl (oo20_19 (h.resolve_right (by decide)))⟩
   clear hK cc0 cc1 cc2 cc3 cc4 cc6 cc7 cc8 cc10 cc11 cc12 cc13 cc14 cc16 cc17 cc18 cc21 cc22 cc23 cc24 cc27 kk5 kk9 kk15 kk19 kk20 ll oo21_20 oo20_9 oo20_19
   go_simp
   exact hfin
  ·
   intro done us W hJ hdep haft hnot b hb hb' K hK Q'
   obtain ⟨hX0, cc0, cc1, cc2, cc3, cc4, cc6, cc7, cc8, cc10, cc11, cc12, cc13, cc14, cc16, cc17, cc18, cc21, cc22, cc23, cc24, cc27, kk5, kk9, kk15, kk19, kk20, ll, oo21_20, oo20_9, oo20_19⟩ := hJ
   simp only [List.getD_cons_succ, List.getD_cons_zero, List.mem_cons, List.not_mem_nil, or_false, forall_eq] at hdep
   have e69 := hb 14 69 rfl
   rw [cc14 hdep] at e69
   clear hb hb'
   go_simp
   refine (whole_any xh W (by omega) (by omega)).mono ?_
   rintro e w' ⟨v, rfl, hv, hX⟩
   exact hK _ _ ⟨hX0.trans hX, fun h => cc0 (h.resolve_right (by decide)), fun h => cc1 (h.resolve_right (by decide)), fun h => cc2 (h.resolve_right (by decide)), fun h => cc3 (h.resolve_right (by decide)), fun h => cc4 (h.resolve_right (by decide)), fun h => cc6 (h.resolve_right (by decide)), fun h => cc7 (h.resolve_right (by decide)), fun h => cc8 (h.resolve_right (by decide)), fun h => cc10 (h.resolve_right (by decide)), fun h => cc11 (h.resolve_right (by decide)), fun h => cc12 (h.resolve_right (by decide)), fun h => cc13 (h.resolve_right (by decide)), fun h => cc14 (h.resolve_right (by decide)), fun h => cc16 (h.resolve_right (by decide)), fun h => cc17 (h.resolve_right (by decide)), fun h => cc18 (h.resolve_right (by decide)), fun h => cc21 (h.resolve_right (by decide)), fun h => cc22 (h.resolve_right (by decide)), fun h => cc23 (h.resolve_right (by decide)), fun h => cc24 (h.resolve_right (by decide)), fun h => cc27 (h.resolve_right (by decide)), fun h h9 => QZ.ext (kk5 (h.resolve_right (by decide)) (fun d => h9 (.inl d))) hX, fun h h20 => QZ.ext (kk9 (h.resolve_right (by decide)) (fun d => h20 (.inl d))) hX, fun _ _ => hv, fun h h20 => QZ.ext (kk19 (h.resolve_right (by decide)) (fun d => h20 (.inl d))) hX, fun h h21 => ((kk20 (h.resolve_right (by decide)) (fun d => h21 (.inl d))).elim fun g h => ⟨g, h.1, h.2.ext hX⟩), Loc.same (ll.ext hX) ⟨fun h => h.resolve_right (by decide), .inl⟩ ⟨fun h => h.resolve_right (by decide), .inl⟩, fun h => .inl (oo21_20 (h.resolve_right (by decide))), fun h => .inl (oo20_9 (h.resolve_right (by decide))), fun h => .inl (oo20_19 (h.resolve_right (by decide)))⟩
  ·
   intro done us W hJ hdep haft hnot b hb hb' K hK Q'
   obtain ⟨hX0, cc0, cc1, cc2, cc3, cc4, cc6, cc7, cc8, cc10, cc11, cc12, cc13, cc14, cc16, cc17, cc18, cc21, cc22, cc23, cc24, cc27, kk5, kk9, kk15, kk19, kk20, ll, oo21_20, oo20_9, oo20_19⟩ := hJ
   have e12 := (hb' 12 (by simp)).trans s12
   clear hb hb'
   have hfin := hK (.int .i64 (kk : Int)) _ ⟨hX0, fun h => cc0 (h.resolve_right (by decide)), fun h => cc1 (h.resolve_right (by decide)), fun h => cc2 (h.resolve_right (by decide)), fun h => cc3 (h.resolve_right (by decide)), fun h => cc4 (h.resolve_right (by decide)), fun h => cc6 (h.resolve_right (by decide)), fun h => cc7 (h.resolve_right (by decide)), fun h => cc8 (h.resolve_right (by decide)), fun h => cc10 (h.resolve_right (by decide)), fun h => cc11 (h.resolve_right (by decide)), fun h => cc12 (h.resolve_right (by decide)), fun h => cc13 (h.resolve_right (by decide)), fun h => cc14 (h.resolve_right (by decide)), fun _ => rfl, fun h => cc17 (h.resolve_right (by decide)), fun h => cc18 (h.resolve_right (by decide)), fun h => cc21 (h.resolve_right (by decide)), fun h => cc22 (h.resolve_right (by decide)), fun h => cc23 (h.resolve_right (by decide)), fun h => cc24 (h.resolve_right (by decide)), fun h => cc27 (h.resolve_right (by decide)), fun h h9 => (kk5 (h.resolve_right (by decide)) (fun d => h9 (.inl d))), fun h h20 => (kk9 (h.resolve_right (by decide)) (fun d => h20 (.inl d))), fun h h19 => (kk15 (h.resolve_right (by decide)) (fun d => h19 (.inl d))), fun h h20 => (kk19 (h.resolve_right (by decide)) (fun d => h20 (.inl d))), fun h h21 => (kk20 (h.resolve_right (by decide)) (fun d => h21 (.inl d))), Loc.same ll ⟨fun h => h.resolve_right (by decide), .inl⟩ ⟨fun h => h.resolve_right (by decide), .inl⟩, fun h => .inl (oo21_20 (h.resolve_right (by decide))), fun h => .inl (oo20_9 (h.resolve_right (by decide))), fun h => .inl (oo20_19 (h.resolve_right (by decide)))⟩
   clear hK cc0 cc1 cc2 cc3 cc4 cc6 cc7 cc8 cc10 cc11 cc12 cc13 cc14 cc16 cc17 cc18 cc21 cc22 cc23 cc24 cc27 kk5 kk9 kk15 kk19 kk20 ll oo21_20 oo20_9 oo20_19
   go_simp
   exact hfin
  ·
   intro done us W hJ hdep haft hnot b hb hb' K hK Q'
   obtain ⟨hX0, cc0, cc1, cc2, cc3, cc4, cc6, cc7, cc8, cc10, cc11, cc12, cc13, cc14, cc16, cc17, cc18, cc21, cc22, cc23, cc24, cc27, kk5, kk9, kk15, kk19, kk20, ll, oo21_20, oo20_9, oo20_19⟩ := hJ
   simp only [List.getD_cons_succ, List.getD_cons_zero, List.mem_cons, List.not_mem_nil, or_false, forall_eq] at hdep
   have e8 := (hb' 8 (by simp)).trans s8
   have e71 := hb 16 71 rfl
   rw [cc16 hdep] at e71
   clear hb hb'
   have hfin := hK (.pointer (some ⟨g8, kk * 3, none⟩)) _ ⟨hX0, fun h => cc0 (h.resolve_right (by decide)), fun h => cc1 (h.resolve_right (by decide)), fun h => cc2 (h.resolve_right (by decide)), fun h => cc3 (h.resolve_right (by decide)), fun h => cc4 (h.resolve_right (by decide)), fun h => cc6 (h.resolve_right (by decide)), fun h => cc7 (h.resolve_right (by decide)), fun h => cc8 (h.resolve_right (by decide)), fun h => cc10 (h.resolve_right (by decide)), fun h => cc11 (h.resolve_right (by decide)), fun h => cc12 (h.resolve_right (by decide)), fun h => cc13 (h.resolve_right (by decide)), fun h => cc14 (h.resolve_right (by decide)), fun h => cc16 (h.resolve_right (by decide)), fun _ => rfl, fun h => cc18 (h.resolve_right (by decide)), fun h => cc21 (h.resolve_right (by decide)), fun h => cc22 (h.resolve_right (by decide)), fun h => cc23 (h.resolve_right (by decide)), fun h => cc24 (h.resolve_right (by decide)), fun h => cc27 (h.resolve_right (by decide)), fun h h9 => (kk5 (h.resolve_right (by decide)) (fun d => h9 (.inl d))), fun h h20 => (kk9 (h.resolve_right (by decide)) (fun d => h20 (.inl d))), fun h h19 => (kk15 (h.resolve_right (by decide)) (fun d => h19 (.inl d))), fun h h20 => (kk19 (h.resolve_right (by decide)) (fun d => h20 (.inl d))), fun h h21 => (kk20 (h.resolve_right (by decide)) (fun d => h21 (.inl d))), Loc.same ll ⟨fun h => h.resolve_right (by decide), .inl⟩ ⟨fun h => h.resolve_right (by decide), .inl⟩, fun h => .inl (oo21_20 (h.resolve_right (by decide))), fun h => .inl (oo20_9 (h.resolve_right (by decide))), fun h => .inl (oo20_19 (h.resolve_right (by decide)))⟩
   clear hK cc0 cc1 cc2 cc3 cc4 cc6 cc7 cc8 cc10 cc11 cc12 cc13 cc14 cc16 cc17 cc18 cc21 cc22 cc23 cc24 cc27 kk5 kk9 kk15 kk19 kk20 ll oo21_20 oo20_9 oo20_19
   go_simp
   exact hfin
  ·
   intro done us W hJ hdep haft hnot b hb hb' K hK Q'
   obtain ⟨hX0, cc0, cc1, cc2, cc3, cc4, cc6, cc7, cc8, cc10, cc11, cc12, cc13, cc14, cc16, cc17, cc18, cc21, cc22, cc23, cc24, cc27, kk5, kk9, kk15, kk19, kk20, ll, oo21_20, oo20_9, oo20_19⟩ := hJ
   simp only [List.getD_cons_succ, List.getD_cons_zero, List.mem_cons, List.not_mem_nil, or_false, forall_eq] at hdep
   have e72 := hb 17 72 rfl
   rw [cc17 hdep] at e72
   clear hb hb'
   have z0 := Ext.cell hX0 x0
   have z1 := Ext.cell hX0 x1
   have z2 := Ext.cell hX0 x2
   have hfin := hK (.agg #[.bool su, .slice Au lu cu, .slice Bu mu ku]) _ ⟨hX0, fun h => cc0 (h.resolve_right (by decide)), fun h => cc1 (h.resolve_right (by decide)), fun h => cc2 (h.resolve_right (by decide)), fun h => cc3 (h.resolve_right (by decide)), fun h => cc4 (h.resolve_right (by decide)), fun h => cc6 (h.resolve_right (by decide)), fun h => cc7 (h.resolve_right (by decide)), fun h => cc8 (h.resolve_right (by decide)), fun h => cc10 (h.resolve_right (by decide)), fun h => cc11 (h.resolve_right (by decide)), fun h => cc12 (h.resolve_right (by decide)), fun h => cc13 (h.resolve_right (by decide)), fun h => cc14 (h.resolve_right (by decide)), fun h => cc16 (h.resolve_right (by decide)), fun h => cc17 (h.resolve_right (by decide)), fun _ => rfl, fun h => cc21 (h.resolve_right (by decide)), fun h => cc22 (h.resolve_right (by decide)), fun h => cc23 (h.resolve_right (by decide)), fun h => cc24 (h.resolve_right (by decide)), fun h => cc27 (h.resolve_right (by decide)), fun h h9 => (kk5 (h.resolve_right (by decide)) (fun d => h9 (.inl d))), fun h h20 => (kk9 (h.resolve_right (by decide)) (fun d => h20 (.inl d))), fun h h19 => (kk15 (h.resolve_right (by decide)) (fun d => h19 (.inl d))), fun h h20 => (kk19 (h.resolve_right (by decide)) (fun d => h20 (.inl d))), fun h h21 => (kk20 (h.resolve_right (by decide)) (fun d => h21 (.inl d))), Loc.same ll ⟨fun h => h.resolve_right (by decide), .inl⟩ ⟨fun h => h.resolve_right (by decide), .inl⟩, fun h => .inl (oo21_20 (h.resolve_right (by decide))), fun h => .inl (oo20_9 (h.resolve_right (by decide))), fun h => .inl (oo20_19 (h.resolve_right (by decide)))⟩
   clear hK cc0 cc1 cc2 cc3 cc4 cc6 cc7 cc8 cc10 cc11 cc12 cc13 cc14 cc16 cc17 cc18 cc21 cc22 cc23 cc24 cc27 kk5 kk9 kk15 kk19 kk20 ll oo21_20 oo20_9 oo20_19
   go_simp
   exact hfin
  ·
   intro done us W hJ hdep haft hnot b hb hb' K hK Q'
   obtain ⟨hX0, cc0, cc1, cc2, cc3, cc4, cc6, cc7, cc8, cc10, cc11, cc12, cc13, cc14, cc16, cc17, cc18, cc21, cc22, cc23, cc24, cc27, kk5, kk9, kk15, kk19, kk20, ll, oo21_20, oo20_9, oo20_19⟩ := hJ
   simp only [List.getD_cons_succ, List.getD_cons_zero, List.mem_cons, List.not_mem_nil, or_false, forall_eq_or_imp, forall_eq] at hdep
   have e70 := hb 15 70 rfl
   have e73 := hb 18 73 rfl
   rw [cc18 hdep.2] at e73
   clear hb hb'
   have h5 := kk15 hdep.1 hnot
   go_simp
   refine (qadd_any _ _ ((xh : Int) : Rat) q 4 512 W h5 (hx.ext hX0) (fitR_small (by omega) (by omega)) hf (by omega)).mono ?_
   rintro e w' ⟨v, rfl, hv, hX⟩
   exact hK _ _ ⟨hX0.trans hX, fun h => cc0 (h.resolve_right (by decide)), fun h => cc1 (h.resolve_right (by decide)), fun h => cc2 (h.resolve_right (by decide)), fun h => cc3 (h.resolve_right (by decide)), fun h => cc4 (h.resolve_right (by decide)), fun h => cc6 (h.resolve_right (by decide)), fun h => cc7 (h.resolve_right (by decide)), fun h => cc8 (h.resolve_right (by decide)), fun h => cc10 (h.resolve_right (by decide)), fun h => cc11 (h.resolve_right (by decide)), fun h => cc12 (h.resolve_right (by decide)), fun h => cc13 (h.resolve_right (by decide)), fun h => cc14 (h.resolve_right (by decide)), fun h => cc16 (h.resolve_right (by decide)), fun h => cc17 (h.resolve_right (by decide)), fun h => cc18 (h.resolve_right (by decide)), fun h => cc21 (h.resolve_right (by decide)), fun h => cc22 (h.resolve_right (by decide)), fun h => cc23 (h.resolve_right (by decide)), fun h => cc24 (h.resolve_right (by decide)), fun h => cc27 (h.resolve_right (by decide)), fun h h9 => QZ.ext (kk5 (h.resolve_right (by decide)) (fun d => h9 (.inl d))) hX, fun h h20 => QZ.ext (kk9 (h.resolve_right (by decide)) (fun d => h20 (.inl d))) hX, fun _ h => absurd (.inr rfl) h, fun _ _ => hv, fun h h21 => ((kk20 (h.resolve_right (by decide)) (fun d => h21 (.inl d))).elim fun g h => ⟨g, h.1, h.2.ext hX⟩), Loc.same (ll.ext hX) ⟨fun h => h.resolve_right (by decide), .inl⟩ ⟨fun h => h.resolve_right (by decide), .inl⟩, fun h => .inl (oo21_20 (h.resolve_right (by decide))), fun h => .inl (oo20_9 (h.resolve_right (by decide))), fun h => .inl (oo20_19 (h.resolve_right (by decide)))⟩
  ·
   intro done us W hJ hdep haft hnot b hb hb' K hK Q'
   obtain ⟨hX0, cc0, cc1, cc2, cc3, cc4, cc6, cc7, cc8, cc10, cc11, cc12, cc13, cc14, cc16, cc17, cc18, cc21, cc22, cc23, cc24, cc27, kk5, kk9, kk15, kk19, kk20, ll, oo21_20, oo20_9, oo20_19⟩ := hJ
   simp only [List.getD_cons_succ, List.getD_cons_zero, List.mem_cons, List.not_mem_nil, or_false, forall_eq_or_imp, forall_eq] at hdep
   have e64 := hb 9 64 rfl
   have e74 := hb 19 74 rfl
   clear hb hb'
   have h9 := kk9 hdep.1 hnot
   have h19 := kk19 hdep.2 hnot
   obtain ⟨s1, A1, l1, c1, B1, m1, k1, u1⟩ := QZ.open h9
   obtain ⟨s2, A2, l2, c2, B2, m2, k2, u2⟩ := QZ.open h19
   rw [u1] at h9 e64
   rw [u2] at h19 e74
   have hX := (Ext.refl W).alloc (.cells #[.bool s1, .slice A1 l1 c1, .slice B1 m1 k1, .bool s2, .slice A2 l2 c2, .slice B2 m2 k2] 65)
   have hn := Blk.new W 65 #[.bool s1, .slice A1 l1 c1, .slice B1 m1 k1, .bool s2, .slice A2 l2 c2, .slice B2 m2 k2]
   have hqs := qsAt_two hn (h9.ext hX) (h19.ext hX)
   clear h9 h19 u1 u2 hn
   go_simp
   exact hK _ _ ⟨hX0.trans hX, fun h => cc0 (h.resolve_right (by decide)), fun h => cc1 (h.resolve_right (by decide)), fun h => cc2 (h.resolve_right (by decide)), fun h => cc3 (h.resolve_right (by decide)), fun h => cc4 (h.resolve_right (by decide)), fun h => cc6 (h.resolve_right (by decide)), fun h => cc7 (h.resolve_right (by decide)), fun h => cc8 (h.resolve_right (by decide)), fun h => cc10 (h.resolve_right (by decide)), fun h => cc11 (h.resolve_right (by decide)), fun h => cc12 (h.resolve_right (by decide)), fun h => cc13 (h.resolve_right (by decide)), fun h => cc14 (h.resolve_right (by decide)), fun h => cc16 (h.resolve_right (by decide)), fun h => cc17 (h.resolve_right (by decide)), fun h => cc18 (h.resolve_right (by decide)), fun h => cc21 (h.resolve_right (by decide)), fun h => cc22 (h.resolve_right (by decide)), fun h => cc23 (h.resolve_right (by decide)), fun h => cc24 (h.resolve_right (by decide)), fun h => cc27 (h.resolve_right (by decide)), fun h h9 => QZ.ext (kk5 (h.resolve_right (by decide)) (fun d => h9 (.inl d))) hX, fun _ h => absurd (.inr rfl) h, fun h h19 => QZ.ext (kk15 (h.resolve_right (by decide)) (fun d => h19 (.inl d))) hX, fun _ h => absurd (.inr rfl) h, fun _ _ => ⟨_, rfl, hqs⟩, Loc.same (ll.ext hX) ⟨fun h => h.resolve_right (by decide), .inl⟩ ⟨fun h => h.resolve_right (by decide), .inl⟩, fun h => .inl (oo21_20 (h.resolve_right (by decide))), fun _ => .inl hdep.1, fun _ => .inl hdep.2⟩
  ·
   intro done us W hJ hdep haft hnot b hb hb' K hK Q'
   obtain ⟨hX0, cc0, cc1, cc2, cc3, cc4, cc6, cc7, cc8, cc10, cc11, cc12, cc13, cc14, cc16, cc17, cc18, cc21, cc22, cc23, cc24, cc27, kk5, kk9, kk15, kk19, kk20, ll, oo21_20, oo20_9, oo20_19⟩ := hJ
   simp only [List.getD_cons_succ, List.getD_cons_zero, List.mem_cons, List.not_mem_nil, or_false, forall_eq] at hdep
   have e75 := hb 20 75 rfl
   clear hb hb'
   obtain ⟨g, hu, hq⟩ := kk20 hdep hnot
   rw [hu] at e75
   go_simp
   refine (around_any (some ⟨g, 0, none⟩) 1 2 600 [((xl : Int) : Rat) + q, ((xh : Int) : Rat) + q] W hq (by omega) hfs (by omega)).mono ?_
   unfold RetSp
   rw [hl.out, hh.out, hA.out, hB.out, hC.out]
   rintro e w' ⟨rfl, hX⟩
   exact hK (.tuple #[.agg #[.int .i64 sa, .int .i64 sb], .int .i64 sc]) _ ⟨hX0.trans hX, fun h => cc0 (h.resolve_right (by decide)), fun h => cc1 (h.resolve_right (by decide)), fun h => cc2 (h.resolve_right (by decide)), fun h => cc3 (h.resolve_right (by decide)), fun h => cc4 (h.resolve_right (by decide)), fun h => cc6 (h.resolve_right (by decide)), fun h => cc7 (h.resolve_right (by decide)), fun h => cc8 (h.resolve_right (by decide)), fun h => cc10 (h.resolve_right (by decide)), fun h => cc11 (h.resolve_right (by decide)), fun h => cc12 (h.resolve_right (by decide)), fun h => cc13 (h.resolve_right (by decide)), fun h => cc14 (h.resolve_right (by decide)), fun h => cc16 (h.resolve_right (by decide)), fun h => cc17 (h.resolve_right (by decide)), fun h => cc18 (h.resolve_right (by decide)), fun _ => rfl, fun h => cc22 (h.resolve_right (by decide)), fun h => cc23 (h.resolve_right (by decide)), fun h => cc24 (h.resolve_right (by decide)), fun h => cc27 (h.resolve_right (by decide)), fun h h9 => QZ.ext (kk5 (h.resolve_right (by decide)) (fun d => h9 (.inl d))) hX, fun h h20 => QZ.ext (kk9 (h.resolve_right (by decide)) (fun d => h20 (.inl d))) hX, fun h h19 => QZ.ext (kk15 (h.resolve_right (by decide)) (fun d => h19 (.inl d))) hX, fun h h20 => QZ.ext (kk19 (h.resolve_right (by decide)) (fun d => h20 (.inl d))) hX, fun _ h => absurd (.inr rfl) h, Loc.same (ll.ext hX) ⟨fun h => h.resolve_right (by decide), .inl⟩ ⟨fun h => h.resolve_right (by decide), .inl⟩, fun _ => .inl hdep, fun h => .inl (oo20_9 (h.resolve_right (by decide))), fun h => .inl (oo20_19 (h.resolve_right (by decide)))⟩
  ·
   intro done us W hJ hdep haft hnot b hb hb' K hK Q'
   obtain ⟨hX0, cc0, cc1, cc2, cc3, cc4, cc6, cc7, cc8, cc10, cc11, cc12, cc13, cc14, cc16, cc17, cc18, cc21, cc22, cc23, cc24, cc27, kk5, kk9, kk15, kk19, kk20, ll, oo21_20, oo20_9, oo20_19⟩ := hJ
   simp only [List.getD_cons_succ, List.getD_cons_zero, List.mem_cons, List.not_mem_nil, or_false, forall_eq] at hdep
   have e76 := hb 21 76 rfl
   rw [cc21 hdep] at e76
   clear hb hb'
   have hfin := hK (.tuple #[.agg #[.int .i64 sa, .int .i64 sb], .int .i64 sc]) _ ⟨hX0, fun h => cc0 (h.resolve_right (by decide)), fun h => cc1 (h.resolve_right (by decide)), fun h => cc2 (h.resolve_right (by decide)), fun h => cc3 (h.resolve_right (by decide)), fun h => cc4 (h.resolve_right (by decide)), fun h => cc6 (h.resolve_right (by decide)), fun h => cc7 (h.resolve_right (by decide)), fun h => cc8 (h.resolve_right (by decide)), fun h => cc10 (h.resolve_right (by decide)), fun h => cc11 (h.resolve_right (by decide)), fun h => cc12 (h.resolve_right (by decide)), fun h => cc13 (h.resolve_right (by decide)), fun h => cc14 (h.resolve_right (by decide)), fun h => cc16 (h.resolve_right (by decide)), fun h => cc17 (h.resolve_right (by decide)), fun h => cc18 (h.resolve_right (by decide)), fun h => cc21 (h.resolve_right (by decide)), fun _ => rfl, fun h => cc23 (h.resolve_right (by decide)), fun h => cc24 (h.resolve_right (by decide)), fun h => cc27 (h.resolve_right (by decide)), fun h h9 => (kk5 (h.resolve_right (by decide)) (fun d => h9 (.inl d))), fun h h20 => (kk9 (h.resolve_right (by decide)) (fun d => h20 (.inl d))), fun h h19 => (kk15 (h.resolve_right (by decide)) (fun d => h19 (.inl d))), fun h h20 => (kk19 (h.resolve_right (by decide)) (fun d => h20 (.inl d))), fun h h21 => (kk20 (h.resolve_right (by decide)) (fun d => h21 (.inl d))), Loc.same ll ⟨fun h => h.resolve_right (by decide), .inl⟩ ⟨fun h => h.resolve_right (by decide), .inl⟩, fun h => .inl (oo21_20 (h.resolve_right (by decide))), fun h => .inl (oo20_9 (h.resolve_right (by decide))), fun h => .inl (oo20_19 (h.resolve_right (by decide)))⟩
   clear hK cc0 cc1 cc2 cc3 cc4 cc6 cc7 cc8 cc10 cc11 cc12 cc13 cc14 cc16 cc17 cc18 cc21 cc22 cc23 cc24 cc27 kk5 kk9 kk15 kk19 kk20 ll oo21_20 oo20_9 oo20_19
   go_simp
   exact hfin
  ·
   intro done us W hJ hdep haft hnot b hb hb' K hK Q'
   obtain ⟨hX0, cc0, cc1, cc2, cc3, cc4, cc6, cc7, cc8, cc10, cc11, cc12, cc13, cc14, cc16, cc17, cc18, cc21, cc22, cc23, cc24, cc27, kk5, kk9, kk15, kk19, kk20, ll, oo21_20, oo20_9, oo20_19⟩ := hJ
   simp only [List.getD_cons_succ, List.getD_cons_zero, List.mem_cons, List.not_mem_nil, or_false, forall_eq] at hdep
   have e54 := hb 22 54 rfl
   rw [cc22 hdep] at e54
   clear hb hb'
   have hfin := hK (.agg #[.int .i64 sa, .int .i64 sb]) _ ⟨hX0, fun h => cc0 (h.resolve_right (by decide)), fun h => cc1 (h.resolve_right (by decide)), fun h => cc2 (h.resolve_right (by decide)), fun h => cc3 (h.resolve_right (by decide)), fun h => cc4 (h.resolve_right (by decide)), fun h => cc6 (h.resolve_right (by decide)), fun h => cc7 (h.resolve_right (by decide)), fun h => cc8 (h.resolve_right (by decide)), fun h => cc10 (h.resolve_right (by decide)), fun h => cc11 (h.resolve_right (by decide)), fun h => cc12 (h.resolve_right (by decide)), fun h => cc13 (h.resolve_right (by decide)), fun h => cc14 (h.resolve_right (by decide)), fun h => cc16 (h.resolve_right (by decide)), fun h => cc17 (h.resolve_right (by decide)), fun h => cc18 (h.resolve_right (by decide)), fun h => cc21 (h.resolve_right (by decide)), fun h => cc22 (h.resolve_right (by decide)), fun _ => rfl, fun h => cc24 (h.resolve_right (by decide)), fun h => cc27 (h.resolve_right (by decide)), fun h h9 => (kk5 (h.resolve_right (by decide)) (fun d => h9 (.inl d))), fun h h20 => (kk9 (h.resolve_right (by decide)) (fun d => h20 (.inl d))), fun h h19 => (kk15 (h.resolve_right (by decide)) (fun d => h19 (.inl d))), fun h h20 => (kk19 (h.resolve_right (by decide)) (fun d => h20 (.inl d))), fun h h21 => (kk20 (h.resolve_right (by decide)) (fun d => h21 (.inl d))), Loc.same ll ⟨fun h => h.resolve_right (by decide), .inl⟩ ⟨fun h => h.resolve_right (by decide), .inl⟩, fun h => .inl (oo21_20 (h.resolve_right (by decide))), fun h => .inl (oo20_9 (h.resolve_right (by decide))), fun h => .inl (oo20_19 (h.resolve_right (by decide)))⟩
   clear hK cc0 cc1 cc2 cc3 cc4 cc6 cc7 cc8 cc10 cc11 cc12 cc13 cc14 cc16 cc17 cc18 cc21 cc22 cc23 cc24 cc27 kk5 kk9 kk15 kk19 kk20 ll oo21_20 oo20_9 oo20_19
   go_simp
   exact hfin
  ·
   intro done us W hJ hdep haft hnot b hb hb' K hK Q'
   obtain ⟨hX0, cc0, cc1, cc2, cc3, cc4, cc6, cc7, cc8, cc10, cc11, cc12, cc13, cc14, cc16, cc17, cc18, cc21, cc22, cc23, cc24, cc27, kk5, kk9, kk15, kk19, kk20, ll, oo21_20, oo20_9, oo20_19⟩ := hJ
   simp only [List.getD_cons_succ, List.getD_cons_zero, List.mem_cons, List.not_mem_nil, or_false, forall_eq] at hdep
   have e54 := hb 22 54 rfl
   rw [cc22 hdep] at e54
   clear hb hb'
   have hfin := hK (.int .i64 (sc)) _ ⟨hX0, fun h => cc0 (h.resolve_right (by decide)), fun h => cc1 (h.resolve_right (by decide)), fun h => cc2 (h.resolve_right (by decide)), fun h => cc3 (h.resolve_right (by decide)), fun h => cc4 (h.resolve_right (by decide)), fun h => cc6 (h.resolve_right (by decide)), fun h => cc7 (h.resolve_right (by decide)), fun h => cc8 (h.resolve_right (by decide)), fun h => cc10 (h.resolve_right (by decide)), fun h => cc11 (h.resolve_right (by decide)), fun h => cc12 (h.resolve_right (by decide)), fun h => cc13 (h.resolve_right (by decide)), fun h => cc14 (h.resolve_right (by decide)), fun h => cc16 (h.resolve_right (by decide)), fun h => cc17 (h.resolve_right (by decide)), fun h => cc18 (h.resolve_right (by decide)), fun h => cc21 (h.resolve_right (by decide)), fun h => cc22 (h.resolve_right (by decide)), fun h => cc23 (h.resolve_right (by decide)), fun _ => rfl, fun h => cc27 (h.resolve_right (by decide)), fun h h9 => (kk5 (h.resolve_right (by decide)) (fun d => h9 (.inl d))), fun h h20 => (kk9 (h.resolve_right (by decide)) (fun d => h20 (.inl d))), fun h h19 => (kk15 (h.resolve_right (by decide)) (fun d => h19 (.inl d))), fun h h20 => (kk19 (h.resolve_right (by decide)) (fun d => h20 (.inl d))), fun h h21 => (kk20 (h.resolve_right (by decide)) (fun d => h21 (.inl d))), Loc.same ll ⟨fun h => h.resolve_right (by decide), .inl⟩ ⟨fun h => h.resolve_right (by decide), .inl⟩, fun h => .inl (oo21_20 (h.resolve_right (by decide))), fun h => .inl (oo20_9 (h.resolve_right (by decide))), fun h => .inl (oo20_19 (h.resolve_right (by decide)))⟩
   clear hK cc0 cc1 cc2 cc3 cc4 cc6 cc7 cc8 cc10 cc11 cc12 cc13 cc14 cc16 cc17 cc18 cc21 cc22 cc23 cc24 cc27 kk5 kk9 kk15 kk19 kk20 ll oo21_20 oo20_9 oo20_19
   go_simp
   exact hfin
  ·
   intro done us W hJ hdep haft hnot b hb hb' K hK Q'
   obtain ⟨hX0, cc0, cc1, cc2, cc3, cc4, cc6, cc7, cc8, cc10, cc11, cc12, cc13, cc14, cc16, cc17, cc18, cc21, cc22, cc23, cc24, cc27, kk5, kk9, kk15, kk19, kk20, ll, oo21_20, oo20_9, oo20_19⟩ := hJ
   simp only [List.getD_cons_succ, List.getD_cons_zero, List.mem_cons, List.not_mem_nil, or_false, forall_eq_or_imp, forall_eq] at haft
   clear hb hb'
   have hfin := hK _ _ ⟨hX0.alloc _, fun h => cc0 (h.resolve_right (by decide)), fun h => cc1 (h.resolve_right (by decide)), fun h => cc2 (h.resolve_right (by decide)), fun h => cc3 (h.resolve_right (by decide)), fun h => cc4 (h.resolve_right (by decide)), fun h => cc6 (h.resolve_right (by decide)), fun h => cc7 (h.resolve_right (by decide)), fun h => cc8 (h.resolve_right (by decide)), fun h => cc10 (h.resolve_right (by decide)), fun h => cc11 (h.resolve_right (by decide)), fun h => cc12 (h.resolve_right (by decide)), fun h => cc13 (h.resolve_right (by decide)), fun h => cc14 (h.resolve_right (by decide)), fun h => cc16 (h.resolve_right (by decide)), fun h => cc17 (h.resolve_right (by decide)), fun h => cc18 (h.resolve_right (by decide)), fun h => cc21 (h.resolve_right (by decide)), fun h => cc22 (h.resolve_right (by decide)), fun h => cc23 (h.resolve_right (by decide)), fun h => cc24 (h.resolve_right (by decide)), fun h => cc27 (h.resolve_right (by decide)), fun h h9 => QZ.ext (kk5 (h.resolve_right (by decide)) (fun d => h9 (.inl d))) ((Ext.refl _).alloc _), fun h h20 => QZ.ext (kk9 (h.resolve_right (by decide)) (fun d => h20 (.inl d))) ((Ext.refl _).alloc _), fun h h19 => QZ.ext (kk15 (h.resolve_right (by decide)) (fun d => h19 (.inl d))) ((Ext.refl _).alloc _), fun h h20 => QZ.ext (kk19 (h.resolve_right (by decide)) (fun d => h20 (.inl d))) ((Ext.refl _).alloc _), fun h h21 => ((kk20 (h.resolve_right (by decide)) (fun d => h21 (.inl d))).elim fun g h => ⟨g, h.1, h.2.ext ((Ext.refl _).alloc _)⟩), Loc.new w W hX0 (fun h => h.elim haft (by decide)) (Ext.refl _), fun h => .inl (oo21_20 (h.resolve_right (by decide))), fun h => .inl (oo20_9 (h.resolve_right (by decide))), fun h => .inl (oo20_19 (h.resolve_right (by decide)))⟩
   clear hK hX0 cc0 cc1 cc2 cc3 cc4 cc6 cc7 cc8 cc10 cc11 cc12 cc13 cc14 cc16 cc17 cc18 cc21 cc22 cc23 cc24 cc27 kk5 kk9 kk15 kk19 kk20 ll oo21_20 oo20_9 oo20_19
   go_simp
   exact hfin
  ·
   intro done us W hJ hdep haft hnot b hb hb' K hK Q'
   obtain ⟨hX0, cc0, cc1, cc2, cc3, cc4, cc6, cc7, cc8, cc10, cc11, cc12, cc13, cc14, cc16, cc17, cc18, cc21, cc22, cc23, cc24, cc27, kk5, kk9, kk15, kk19, kk20, ll, oo21_20, oo20_9, oo20_19⟩ := hJ
   simp only [List.getD_cons_succ, List.getD_cons_zero, List.mem_cons, List.not_mem_nil, or_false, forall_eq_or_imp, forall_eq] at hdep
   have e13 := hb 25 13 rfl
   have e77 := hb 23 77 rfl
   rw [cc23 hdep.2.1] at e77
   obtain ⟨g, eg, hg, hB⟩ := ll.stored hdep.2.2 hnot
   rw [eg] at e13
   have q0 : W.cell? ⟨g, 0, none⟩ = some (.int .i64 (0)) := hB.cell 0
   have z0 : W.frozen? ⟨g, 0, none⟩ = false := hB.free 0
   have q1 : W.cell? ⟨g, 1, none⟩ = some (.int .i64 (0)) := hB.cell 1
   have z1 : W.frozen? ⟨g, 1, none⟩ = false := hB.free 1
   clear hb hb'
   have hfin := hK undef _ ⟨((hX0.setCell hg _).setCell hg _), fun h => cc0 (h.resolve_right (by decide)), fun h => cc1 (h.resolve_right (by decide)), fun h => cc2 (h.resolve_right (by decide)), fun h => cc3 (h.resolve_right (by decide)), fun h => cc4 (h.resolve_right (by decide)), fun h => cc6 (h.resolve_right (by decide)), fun h => cc7 (h.resolve_right (by decide)), fun h => cc8 (h.resolve_right (by decide)), fun h => cc10 (h.resolve_right (by decide)), fun h => cc11 (h.resolve_right (by decide)), fun h => cc12 (h.resolve_right (by decide)), fun h => cc13 (h.resolve_right (by decide)), fun h => cc14 (h.resolve_right (by decide)), fun h => cc16 (h.resolve_right (by decide)), fun h => cc17 (h.resolve_right (by decide)), fun h => cc18 (h.resolve_right (by decide)), fun h => cc21 (h.resolve_right (by decide)), fun h => cc22 (h.resolve_right (by decide)), fun h => cc23 (h.resolve_right (by decide)), fun h => cc24 (h.resolve_right (by decide)), fun h => cc27 (h.resolve_right (by decide)), fun _ h9 => absurd (.inl (oo20_9 (oo21_20 hdep.1))) h9, fun _ h20 => absurd (.inl (oo21_20 hdep.1)) h20, fun _ h19 => absurd (.inl (oo20_19 (oo21_20 hdep.1))) h19, fun _ h20 => absurd (.inl (oo21_20 hdep.1)) h20, fun _ h21 => absurd (.inl hdep.1) h21, ⟨fun _ => ⟨g, eg, hg, fun _ => (Blk.set (Blk.set hB 0 _) 1 _), fun h => absurd (.inr rfl) h⟩⟩, fun h => .inl (oo21_20 (h.resolve_right (by decide))), fun h => .inl (oo20_9 (h.resolve_right (by decide))), fun h => .inl (oo20_19 (h.resolve_right (by decide)))⟩
   clear hK hX0 cc0 cc1 cc2 cc3 cc4 cc6 cc7 cc8 cc10 cc11 cc12 cc13 cc14 cc16 cc17 cc18 cc21 cc22 cc23 cc24 cc27 kk5 kk9 kk15 kk19 kk20 ll oo21_20 oo20_9 oo20_19
   go_simp
   exact hfin
  ·
   intro done us W hJ hdep haft hnot b hb hb' K hK Q'
   obtain ⟨hX0, cc0, cc1, cc2, cc3, cc4, cc6, cc7, cc8, cc10, cc11, cc12, cc13, cc14, cc16, cc17, cc18, cc21, cc22, cc23, cc24, cc27, kk5, kk9, kk15, kk19, kk20, ll, oo21_20, oo20_9, oo20_19⟩ := hJ
   simp only [List.getD_cons_succ, List.getD_cons_zero, List.mem_cons, List.not_mem_nil, or_false, forall_eq] at hdep
   have e78 := hb 24 78 rfl
   rw [cc24 hdep] at e78
   clear hb hb'
   have hfin := hK (.int .i64 (sc)) _ ⟨hX0, fun h => cc0 (h.resolve_right (by decide)), fun h => cc1 (h.resolve_right (by decide)), fun h => cc2 (h.resolve_right (by decide)), fun h => cc3 (h.resolve_right (by decide)), fun h => cc4 (h.resolve_right (by decide)), fun h => cc6 (h.resolve_right (by decide)), fun h => cc7 (h.resolve_right (by decide)), fun h => cc8 (h.resolve_right (by decide)), fun h => cc10 (h.resolve_right (by decide)), fun h => cc11 (h.resolve_right (by decide)), fun h => cc12 (h.resolve_right (by decide)), fun h => cc13 (h.resolve_right (by decide)), fun h => cc14 (h.resolve_right (by decide)), fun h => cc16 (h.resolve_right (by decide)), fun h => cc17 (h.resolve_right (by decide)), fun h => cc18 (h.resolve_right (by decide)), fun h => cc21 (h.resolve_right (by decide)), fun h => cc22 (h.resolve_right (by decide)), fun h => cc23 (h.resolve_right (by decide)), fun h => cc24 (h.resolve_right (by decide)), fun _ => rfl, fun h h9 => (kk5 (h.resolve_right (by decide)) (fun d => h9 (.inl d))), fun h h20 => (kk9 (h.resolve_right (by decide)) (fun d => h20 (.inl d))), fun h h19 => (kk15 (h.resolve_right (by decide)) (fun d => h19 (.inl d))), fun h h20 => (kk19 (h.resolve_right (by decide)) (fun d => h20 (.inl d))), fun h h21 => (kk20 (h.resolve_right (by decide)) (fun d => h21 (.inl d))), Loc.same ll ⟨fun h => h.resolve_right (by decide), .inl⟩ ⟨fun h => h.resolve_right (by decide), .inl⟩, fun h => .inl (oo21_20 (h.resolve_right (by decide))), fun h => .inl (oo20_9 (h.resolve_right (by decide))), fun h => .inl (oo20_19 (h.resolve_right (by decide)))⟩
   clear hK cc0 cc1 cc2 cc3 cc4 cc6 cc7 cc8 cc10 cc11 cc12 cc13 cc14 cc16 cc17 cc18 cc21 cc22 cc23 cc24 cc27 kk5 kk9 kk15 kk19 kk20 ll oo21_20 oo20_9 oo20_19
   go_simp
   exact hfin
 ·
  intro us W hJ
  obtain ⟨hX0, cc0, cc1, cc2, cc3, cc4, cc6, cc7, cc8, cc10, cc11, cc12, cc13, cc14, cc16, cc17, cc18, cc21, cc22, cc23, cc24, cc27, kk5, kk9, kk15, kk19, kk20, ll, oo21_20, oo20_9, oo20_19⟩ := hJ
  rw [show (rops Try.f64 18).drop 28 = [] by kernel_rfl]
  exact hend (us 0) (us 1) (us 2) (us 3) (us 4) (us 5) (us 6) (us 7) (us 8) (us 9) (us 10) (us 11) (us 12) (us 13) (us 14) (us 15) (us 16) (us 17) (us 18) (us 19) (us 20) (us 21) (us 22) (us 23) (us 24) (us 25) (us 26) (us 27) W (cc0 (show 0 < 28 by decide)) (cc1 (show 1 < 28 by decide)) (cc2 (show 2 < 28 by decide)) (cc3 (show 3 < 28 by decide)) (cc4 (show 4 < 28 by decide)) (cc6 (show 6 < 28 by decide)) (cc7 (show 7 < 28 by decide)) (cc8 (show 8 < 28 by decide)) (cc10 (show 10 < 28 by decide)) (cc11 (show 11 < 28 by decide)) (cc12 (show 12 < 28 by decide)) (cc13 (show 13 < 28 by decide)) (cc14 (show 14 < 28 by decide)) (cc16 (show 16 < 28 by decide)) (cc17 (show 17 < 28 by decide)) (cc18 (show 18 < 28 by decide)) (cc21 (show 21 < 28 by decide)) (cc22 (show 22 < 28 by decide)) (cc23 (show 23 < 28 by decide)) (cc24 (show 24 < 28 by decide)) (cc27 (show 27 < 28 by decide)) (ll.done (show 25 < 28 by decide) (show 26 < 28 by decide)) hX0
set_option maxRecDepth 100000 in
set_option maxHeartbeats 2000000 in
theorem mor_r22 (g6 : Nat) (aa bb : Nat → Int) (w : World) (c0 : w.cell? ⟨g6, 0, none⟩ = some (.int .i64 (aa 0))) (c1 : w.cell? ⟨g6, 1, none⟩ = some (.int .i64 (bb 0))) (c2 : w.cell? ⟨g6, 2, none⟩ = some (.int .i64 (aa 1))) (c3 : w.cell? ⟨g6, 3, none⟩ = some (.int .i64 (bb 1))) (c4 : w.cell? ⟨g6, 4, none⟩ = some (.int .i64 (aa 2))) (c5 : w.cell? ⟨g6, 5, none⟩ = some (.int .i64 (bb 2))) (a : Act) (Q : Exit → Act → World → Prop) (hsize : 97 ≤ a.tmps.size)
  (s6 : a.tmps[6]? = some (.slice (some ⟨g6, 0, none⟩) 3 3))
  (hend : ∀ (xv0 xv1 xv2 xv3 xv4 xv5 xv6 xv7 xv8 xv9 : Value) (W : World), (xv0 = .slice (some ⟨g6, 0, none⟩) 3 3) → (xv1 = .pointer (some ⟨g6, 0, none⟩)) → (xv2 = .agg #[.int .i64 (aa 0), .int .i64 (bb 0)]) → (xv3 = .slice (some ⟨g6, 0, none⟩) 3 3) → (xv4 = .pointer (some ⟨g6, 2, none⟩)) → (xv5 = .agg #[.int .i64 (aa 1), .int .i64 (bb 1)]) → (xv6 = .slice (some ⟨g6, 0, none⟩) 3 3) → (xv7 = .pointer (some ⟨g6, 4, none⟩)) → (xv8 = .agg #[.int .i64 (aa 2), .int .i64 (bb 2)]) → (xv9 = .agg #[.int .i64 (aa 0), .int .i64 (bb 0), .int .i64 (aa 1), .int .i64 (bb 1), .int .i64 (aa 2), .int .i64 (bb 2)]) → Ext w W → wpList Try.prog (rops Try.f64 22).toArray Q ((rops Try.f64 22).drop 10) ((((((((((a.put (some 87) xv0).put (some 88) xv1).put (some 89) xv2).put (some 90) xv3).put (some 91) xv4).put (some 92) xv5).put (some 93) xv6).put (some 94) xv7).put (some 95) xv8).put (some 96) xv9) W) :
  (Code.region 22 (rops Try.f64 22).toArray true).wp Try.prog Q a w := by
 refine wp_region_k 10 [some 87, some 88, some 89, some 90, some 91, some 92, some 93, some 94, some 95, some 96] [[], [0], [1], [], [3], [4], [], [6], [7], [2, 5, 8]] [eqv (.slice (some ⟨g6, 0, none⟩) 3 3), eqv (.pointer (some ⟨g6, 0, none⟩)), eqv (.agg #[.int .i64 (aa 0), .int .i64 (bb 0)]), eqv (.slice (some ⟨g6, 0, none⟩) 3 3), eqv (.pointer (some ⟨g6, 2, none⟩)), eqv (.agg #[.int .i64 (aa 1), .int .i64 (bb 1)]), eqv (.slice (some ⟨g6, 0, none⟩) 3 3), eqv (.pointer (some ⟨g6, 4, none⟩)), eqv (.agg #[.int .i64 (aa 2), .int .i64 (bb 2)]), eqv (.agg #[.int .i64 (aa 0), .int .i64 (bb 0), .int .i64 (aa 1), .int .i64 (bb 1), .int .i64 (aa 2), .int .i64 (bb 2)])] (by kernel_rfl) (by kernel_rfl) rfl (by decide) hsize ⟨monC, monC, monC, monC, monC, monC, monC, monC, monC, monC, trivial⟩ ?_ ?_
 ·
  clear hend
  simp only [rops, Try.f64, regOf, Option.bind_some, Nat.reduceBEq, if_true, if_false, Bool.false_eq_true, Option.getD_some]
  simp only [List.take_succ_cons, List.take_zero]
  refine ⟨?_, ?_, ?_, ?_, ?_, ?_, ?_, ?_, ?_, ?_, trivial⟩
  ·
   rintro us W hJ _ b hb hbz K hK0 hK Qz
   have e6 := (hbz 6 (by simp)).trans s6
   clear hb hbz
   go_simp
   exact hK0 _ rfl
  ·
   rintro us W hJ d0 b hb hbz K hK0 hK Qz
   have e87 := slotV (hb 0 87 rfl) d0
   clear hb hbz d0
   go_simp
   exact hK0 _ rfl
  ·
   rintro us W hJ d1 b hb hbz K hK0 hK Qz
   have e88 := slotV (hb 1 88 rfl) d1
   clear hb hbz d1
   have z0 := Ext.cell hJ c0
   have z1 := Ext.cell hJ c1
   go_simp
   exact hK0 _ rfl
  ·
   rintro us W hJ _ b hb hbz K hK0 hK Qz
   have e6 := (hbz 6 (by simp)).trans s6
   clear hb hbz
   go_simp
   exact hK0 _ rfl
  ·
   rintro us W hJ d3 b hb hbz K hK0 hK Qz
   have e90 := slotV (hb 3 90 rfl) d3
   clear hb hbz d3
   go_simp
   exact hK0 _ rfl
  ·
   rintro us W hJ d4 b hb hbz K hK0 hK Qz
   have e91 := slotV (hb 4 91 rfl) d4
   clear hb hbz d4
   have z0 := Ext.cell hJ c2
   have z1 := Ext.cell hJ c3
   go_simp
   exact hK0 _ rfl
  ·
   rintro us W hJ _ b hb hbz K hK0 hK Qz
   have e6 := (hbz 6 (by simp)).trans s6
   clear hb hbz
   go_simp
   exact hK0 _ rfl
  ·
   rintro us W hJ d6 b hb hbz K hK0 hK Qz
   have e93 := slotV (hb 6 93 rfl) d6
   clear hb hbz d6
   go_simp
   exact hK0 _ rfl
  ·
   rintro us W hJ d7 b hb hbz K hK0 hK Qz
   have e94 := slotV (hb 7 94 rfl) d7
   clear hb hbz d7
   have z0 := Ext.cell hJ c4
   have z1 := Ext.cell hJ c5
   go_simp
   exact hK0 _ rfl
  ·
   rintro us W hJ ⟨d2, d5, d8⟩ b hb hbz K hK0 hK Qz
   have e89 := slotV (hb 2 89 rfl) d2
   have e92 := slotV (hb 5 92 rfl) d5
   have e95 := slotV (hb 8 95 rfl) d8
   clear hb hbz d2 d5 d8
   go_simp
   exact hK0 _ rfl
 ·
  rintro us W ⟨v0, v1, v2, v3, v4, v5, v6, v7, v8, v9, _⟩ hJ
  exact hend _ _ _ _ _ _ _ _ _ _ W v0 v1 v2 v3 v4 v5 v6 v7 v8 v9 hJ
set_option maxRecDepth 100000 in
set_option maxHeartbeats 16000000 in
theorem moveR_any (lo hi : Nat → Int) (o : Nat → Option Rat) (s0 : Bool) (A0 B0 : Option Addr) (l0 c0 m0 k0 : Nat) (s1 : Bool) (A1 B1 : Option Addr) (l1 c1 m1 k1 : Nat) (s2 : Bool) (A2 B2 : Option Addr) (l2 c2 m2 k2 : Nat) (w : World) (h0 : NumS w (.agg #[.bool s0, .slice A0 l0 c0, .slice B0 m0 k0]) (o 0)) (h1 : NumS w (.agg #[.bool s1, .slice A1 l1 c1, .slice B1 m1 k1]) (o 1)) (h2 : NumS w (.agg #[.bool s2, .slice A2 l2 c2, .slice B2 m2 k2]) (o 2)) :
  Calls Try.prog 64 #[.agg #[.int .i64 (lo 0), .int .i64 (hi 0), .int .i64 (lo 1), .int .i64 (hi 1), .int .i64 (lo 2), .int .i64 (hi 2)], .agg #[.bool s0, .slice A0 l0 c0, .slice B0 m0 k0, .bool s1, .slice A1 l1 c1, .slice B1 m1 k1, .bool s2, .slice A2 l2 c2, .slice B2 m2 k2]] w (fun e w' => e = .returned (.tuple #[boxV (mvA lo hi o).1 (mvA lo hi o).2.1, .int .i64 (mvA lo hi o).2.2]) ∧ Ext w w') := by
 have hXe : Ext w (((w.alloc (.cells #[.int .i64 (lo 0), .int .i64 (hi 0), .int .i64 (lo 1), .int .i64 (hi 1), .int .i64 (lo 2), .int .i64 (hi 2)] 54)).alloc (.cells #[.bool s0, .slice A0 l0 c0, .slice B0 m0 k0, .bool s1, .slice A1 l1 c1, .slice B1 m1 k1, .bool s2, .slice A2 l2 c2, .slice B2 m2 k2] 98)).alloc (.cells #[.int .i64 0, .int .i64 0, .int .i64 0, .int .i64 0, .int .i64 0, .int .i64 0] 54)) := (((Ext.refl w).alloc _).alloc _).alloc _
 have kB : Blk (((w.alloc (.cells #[.int .i64 (lo 0), .int .i64 (hi 0), .int .i64 (lo 1), .int .i64 (hi 1), .int .i64 (lo 2), .int .i64 (hi 2)] 54)).alloc (.cells #[.bool s0, .slice A0 l0 c0, .slice B0 m0 k0, .bool s1, .slice A1 l1 c1, .slice B1 m1 k1, .bool s2, .slice A2 l2 c2, .slice B2 m2 k2] 98)).alloc (.cells #[.int .i64 0, .int .i64 0, .int .i64 0, .int .i64 0, .int .i64 0, .int .i64 0] 54)) w.heap.size 54 #[.int .i64 (lo 0), .int .i64 (hi 0), .int .i64 (lo 1), .int .i64 (hi 1), .int .i64 (lo 2), .int .i64 (hi 2)] := Blk.alloc (Blk.alloc (Blk.new w _ _) _) _
 have kT : Blk (((w.alloc (.cells #[.int .i64 (lo 0), .int .i64 (hi 0), .int .i64 (lo 1), .int .i64 (hi 1), .int .i64 (lo 2), .int .i64 (hi 2)] 54)).alloc (.cells #[.bool s0, .slice A0 l0 c0, .slice B0 m0 k0, .bool s1, .slice A1 l1 c1, .slice B1 m1 k1, .bool s2, .slice A2 l2 c2, .slice B2 m2 k2] 98)).alloc (.cells #[.int .i64 0, .int .i64 0, .int .i64 0, .int .i64 0, .int .i64 0, .int .i64 0] 54)) (w.heap.size + 1) 98 #[.bool s0, .slice A0 l0 c0, .slice B0 m0 k0, .bool s1, .slice A1 l1 c1, .slice B1 m1 k1, .bool s2, .slice A2 l2 c2, .slice B2 m2 k2] := Blk.alloc (Blk.at_ (by simp)) _
 have kR : Blk (((w.alloc (.cells #[.int .i64 (lo 0), .int .i64 (hi 0), .int .i64 (lo 1), .int .i64 (hi 1), .int .i64 (lo 2), .int .i64 (hi 2)] 54)).alloc (.cells #[.bool s0, .slice A0 l0 c0, .slice B0 m0 k0, .bool s1, .slice A1 l1 c1, .slice B1 m1 k1, .bool s2, .slice A2 l2 c2, .slice B2 m2 k2] 98)).alloc (.cells #[.int .i64 0, .int .i64 0, .int .i64 0, .int .i64 0, .int .i64 0, .int .i64 0] 54)) (w.heap.size + 2) 54 #[.int .i64 0, .int .i64 0, .int .i64 0, .int .i64 0, .int .i64 0, .int .i64 0] := Blk.at_ (by simp)
 have H0 := hid h0
 have H1 := hid h1
 have H2 := hid h2
 clear h0 h1 h2
 go_enter Try.func64, Try.ntmps64
 go_upto_region 1 with (fail)
 generalize ((w.alloc (.cells #[.int .i64 (lo 0), .int .i64 (hi 0), .int .i64 (lo 1), .int .i64 (hi 1), .int .i64 (lo 2), .int .i64 (hi 2)] 54)).alloc (.cells #[.bool s0, .slice A0 l0 c0, .slice B0 m0 k0, .bool s1, .slice A1 l1 c1, .slice B1 m1 k1, .bool s2, .slice A2 l2 c2, .slice B2 m2 k2] 98)).alloc (.cells #[.int .i64 0, .int .i64 0, .int .i64 0, .int .i64 0, .int .i64 0, .int .i64 0] 54) = w1 at hXe kB kT kR ⊢
 have HX := hid hXe
 have HT := hid kT
 have HR := hid kR
 clear hXe kT kR
 have b0 := kB.cell 0
 have b1 := kB.cell 1
 have b2 := kB.cell 2
 have b3 := kB.cell 3
 have b4 := kB.cell 4
 have b5 := kB.cell 5
 simp only [List.getElem?_toArray, List.getElem?_cons_zero, List.getElem?_cons_succ] at b0 b1 b2 b3 b4 b5
 clear kB
 go_upto_region 2 with (fail)
 have hXa : Ext w1 (w1.alloc (.cells #[.int .i64 (lo 0), .int .i64 (hi 0), .int .i64 (lo 1), .int .i64 (hi 1), .int .i64 (lo 2), .int .i64 (hi 2)] 31)) := (Ext.refl _).alloc _
 have kS : B6 (w1.alloc (.cells #[.int .i64 (lo 0), .int .i64 (hi 0), .int .i64 (lo 1), .int .i64 (hi 1), .int .i64 (lo 2), .int .i64 (hi 2)] 31)) w1.heap.size 31 lo hi := Blk.new w1 _ _
 have hrl := HR.out.lt
 replace HX := hid (HX.out.trans hXa)
 replace HT := hid (HT.out.ext hXa)
 replace HR := hid (HR.out.ext hXa)
 clear hXa b0 b1 b2 b3 b4 b5
 generalize w1.heap.size = g6 at kS hrl ⊢
 generalize w1.alloc (.cells #[.int .i64 (lo 0), .int .i64 (hi 0), .int .i64 (lo 1), .int .i64 (hi 1), .int .i64 (lo 2), .int .i64 (hi 2)] 31) = w2 at kS HX HT HR ⊢
 have HS := hid kS
 have h6l : g6 < w2.heap.size := Blk.lt kS
 clear kS
 go_wp2_with fail
 go_loopg [7] 3 (fun fu iv wr => ∃ k : Nat, fu = 3 - k ∧ k ≤ 3 ∧ iv = .int .i64 (k : Int) ∧ Hid (∀ j, j < k → okS (lo j) (hi j) = true) ∧ Hid (Ext w2 wr))
 case atStart => exact ⟨0, rfl, by omega, rfl, hid (fun j hj => by omega), hid (Ext.refl _)⟩
 case round =>
  obtain ⟨k, rfl, hk, rfl, HOK, HXL⟩ := hrel
  by_cases hk3 : k < 3
  ·
   have q1 : decide ((k : Int) < 3) = true := decide_eq_true (by omega)
   obtain ⟨ca, cb⟩ := (HS.out.ext HXL.out).cell hk3
   go_wp2_with fail
   refine (rvalid_any (lo k) (hi k) _).mono ?_
   obtain ⟨ob, hob⟩ : ∃ ob, okS (lo k) (hi k) = ob := ⟨_, rfl⟩
   rw [hob]
   have HOB := hid hob
   clear hob
   rintro e w4 ⟨rfl, hX⟩
   replace HXL := hid (HXL.out.trans hX)
   clear hX ca cb
   by_cases hb : ob = true
   ·
    subst hb
    go_wp2
    go_roundg (3 - (k + 1))
    case rel => exact ⟨k + 1, rfl, by omega, by go_num, hid (fun j hj => by by_cases e : j = k; (subst e; exact HOB.out); exact HOK.out j (by omega)), HXL⟩
    case measure => omega
   ·
    obtain rfl : ob = false := by simpa using hb
    clear hb
    have HM : Hid (mvA lo hi o = (fun _ => 0, fun _ => 0, 2)) := hid (mvA_bad ⟨k, hk3, HOB.out⟩)
    replace HX := hid (HX.out.trans HXL.out)
    replace HR := hid (HR.out.ext HXL.out)
    have r0 := HR.out.cell 0
    have f0 := HR.out.free 0
    have r1 := HR.out.cell 1
    have f1 := HR.out.free 1
    have r2 := HR.out.cell 2
    have f2 := HR.out.free 2
    have r3 := HR.out.cell 3
    have f3 := HR.out.free 3
    have r4 := HR.out.cell 4
    have f4 := HR.out.free 4
    have r5 := HR.out.cell 5
    have f5 := HR.out.free 5
    simp only [List.getElem?_toArray, List.getElem?_cons_zero, List.getElem?_cons_succ] at r0 r1 r2 r3 r4 r5
    go_wp2
    refine bodyPost_ret (v := .tuple #[.agg #[.int .i64 0, .int .i64 0, .int .i64 0, .int .i64 0, .int .i64 0, .int .i64 0], .int .i64 2]) (by simp [results, Try.results64, go_sem, *]) rfl ?_
    exact ⟨by rw [HM.out]; rfl, ((((((HX.out.setCell (p := ⟨w.heap.size + 2, 0, none⟩) (by simp only; omega) _).setCell (p := ⟨w.heap.size + 2, 1, none⟩) (by simp only; omega) _).setCell (p := ⟨w.heap.size + 2, 2, none⟩) (by simp only; omega) _).setCell (p := ⟨w.heap.size + 2, 3, none⟩) (by simp only; omega) _).setCell (p := ⟨w.heap.size + 2, 4, none⟩) (by simp only; omega) _).setCell (p := ⟨w.heap.size + 2, 5, none⟩) (by simp only; omega) _)⟩
  ·
   obtain rfl : k = 3 := by omega
   have q1 : decide (((3 : Nat) : Int) < 3) = false := by decide
   have HNB : Hid (¬ mvBad lo hi) := hid (fun ⟨k, hk, h⟩ => by rw [HOK.out k hk] at h; cases h)
   replace HX := hid (HX.out.trans HXL.out)
   replace HR := hid (HR.out.ext HXL.out)
   replace HT := hid (HT.out.ext HXL.out)
   replace HS := hid (HS.out.ext HXL.out)
   have h6w : g6 < wr.heap.size := Blk.lt HS.out
   clear HXL
   go_upto_region 8 with (fail)
   have hXa : Ext wr (wr.alloc (.cells #[.bool false, .slice none 0 0, .slice none 0 0, .bool false, .slice none 0 0, .slice none 0 0, .bool false, .slice none 0 0, .slice none 0 0] 229)) := (Ext.refl _).alloc _
   have kQ := XN.zero (B := g6 + 1) wr
   replace HX := hid (HX.out.trans hXa)
   replace HS := hid (HS.out.ext hXa)
   replace HT := hid (HT.out.ext hXa)
   replace HR := hid (HR.out.ext hXa)
   clear hXa
   generalize wr.heap.size = g8 at kQ h6w ⊢
   generalize wr.alloc (.cells #[.bool false, .slice none 0 0, .slice none 0 0, .bool false, .slice none 0 0, .slice none 0 0, .bool false, .slice none 0 0, .slice none 0 0] 229) = w3 at kQ HX HS HT HR ⊢
   have HQ := hid kQ
   clear kQ
   go_wp2_with fail
   go_loopg [9] 3 (fun fu iv wz => ∃ k : Nat, fu = 3 - k ∧ k ≤ 3 ∧ iv = .int .i64 (k : Int) ∧ Hid (∀ j, j < k → o j ≠ none) ∧ Hid (XN (g6 + 1) wz g8 (fun j => if j < k then o j else none)) ∧ Hid (B6 wz g6 31 lo hi) ∧ Hid (Blk wz (w.heap.size + 1) 98 #[.bool s0, .slice A0 l0 c0, .slice B0 m0 k0, .bool s1, .slice A1 l1 c1, .slice B1 m1 k1, .bool s2, .slice A2 l2 c2, .slice B2 m2 k2]) ∧ Hid (Blk wz (w.heap.size + 2) 54 #[.int .i64 0, .int .i64 0, .int .i64 0, .int .i64 0, .int .i64 0, .int .i64 0]) ∧ Hid (Ext w wz))
   case atStart => exact ⟨0, rfl, by omega, rfl, hid (fun j hj => by omega), hid (HQ.out.congr (fun j _ => by rw [if_neg (by omega)])), HS, HT, HR, HX⟩
   case round =>
    clear HQ HS HT HR HX
    obtain ⟨k, rfl, hk, rfl, HNN, HQ, HS, HT, HR, HX⟩ := hrel
    by_cases hk3 : k < 3
    ·
     have q2 : decide ((k : Int) < 3) = true := decide_eq_true (by omega)
     have hk3z : (k : Int) < 3 := by omega
     obtain ⟨s9, A9, l9, c9, B9, m9, k9, g1, g2, g3, hq⟩ := pick_aggO (P := NumS) (w := wr) (q := o) hk3 (H0.out.ext HX.out) (H1.out.ext HX.out) (H2.out.ext HX.out)
     have x0 : wr.cell? ⟨w.heap.size + 1, k * 3, none⟩ = some (pick3 (.bool s0) (.bool s1) (.bool s2) k) := by
      rw [HT.out.cell]
      match k, hk3 with
      | 0, _ => rfl
      | 1, _ => rfl
      | 2, _ => rfl
     have x1 : wr.cell? ⟨w.heap.size + 1, k * 3 + 1, none⟩ = some (pick3 (.slice A0 l0 c0) (.slice A1 l1 c1) (.slice A2 l2 c2) k) := by
      rw [HT.out.cell]
      match k, hk3 with
      | 0, _ => rfl
      | 1, _ => rfl
      | 2, _ => rfl
     have x2 : wr.cell? ⟨w.heap.size + 1, k * 3 + 2, none⟩ = some (pick3 (.slice B0 m0 k0) (.slice B1 m1 k1) (.slice B2 m2 k2) k) := by
      rw [HT.out.cell]
      match k, hk3 with
      | 0, _ => rfl
      | 1, _ => rfl
      | 2, _ => rfl
     rw [g1] at x0
     rw [g2] at x1
     rw [g3] at x2
     clear g1 g2 g3
     cases hok : o k with
     | none =>
      rw [hok] at hq
      have HBG := hid (show RatL wr _ true from hq)
      have HM : Hid (mvA lo hi o = (fun _ => 0, fun _ => 0, 51)) := hid (mvA_big HNB.out ⟨k, hk3, hok⟩)
      clear hq hok
      go_wp2_with fail
      refine (rof_no HBG.out).mono ?_
      rintro e w4 ⟨rfl, hX⟩
      replace HX := hid (HX.out.trans hX)
      replace HR := hid (HR.out.ext hX)
      clear hX x0 x1 x2
      go_upto_region 12 with (fail)
      have hXa : Ext w4 (w4.alloc (.cells #[.bool false, .slice none 0 0, .slice none 0 0] 65)) := (Ext.refl _).alloc _
      replace HX := hid (HX.out.trans hXa)
      replace HR := hid (HR.out.ext hXa)
      clear hXa
      generalize w4.alloc (.cells #[.bool false, .slice none 0 0, .slice none 0 0] 65) = w5 at HX HR ⊢
      have r0 := HR.out.cell 0
      have f0 := HR.out.free 0
      have r1 := HR.out.cell 1
      have f1 := HR.out.free 1
      have r2 := HR.out.cell 2
      have f2 := HR.out.free 2
      have r3 := HR.out.cell 3
      have f3 := HR.out.free 3
      have r4 := HR.out.cell 4
      have f4 := HR.out.free 4
      have r5 := HR.out.cell 5
      have f5 := HR.out.free 5
      simp only [List.getElem?_toArray, List.getElem?_cons_zero, List.getElem?_cons_succ] at r0 r1 r2 r3 r4 r5
      go_wp2
      refine bodyPost_ret (v := .tuple #[.agg #[.int .i64 0, .int .i64 0, .int .i64 0, .int .i64 0, .int .i64 0, .int .i64 0], .int .i64 51]) (by simp [results, Try.results64, go_sem, *]) rfl ?_
      exact ⟨by rw [HM.out]; rfl, ((((((HX.out.setCell (p := ⟨w.heap.size + 2, 0, none⟩) (by simp only; omega) _).setCell (p := ⟨w.heap.size + 2, 1, none⟩) (by simp only; omega) _).setCell (p := ⟨w.heap.size + 2, 2, none⟩) (by simp only; omega) _).setCell (p := ⟨w.heap.size + 2, 3, none⟩) (by simp only; omega) _).setCell (p := ⟨w.heap.size + 2, 4, none⟩) (by simp only; omega) _).setCell (p := ⟨w.heap.size + 2, 5, none⟩) (by simp only; omega) _)⟩
     | some x =>
      rw [hok] at hq
      have HGQ : Hid (RatG wr (.agg #[.bool s9, .slice A9 l9 c9, .slice B9 m9 k9]) x) := hid hq
      have HOX := hid hok
      clear hq hok
      go_wp2_with fail
      have h6q : g6 < wr.heap.size := Blk.lt HS.out
      refine (rof_yesN HGQ.out).mono ?_
      rintro e w4 ⟨v4, rfl, hv, hnq, hX⟩
      have HNQ := hid (hnq.mono (show g6 + 1 ≤ wr.heap.size by omega))
      clear hnq h6q
      obtain ⟨s4, A4, l4, c4, B4, m4, k4, rfl⟩ := QZ.open hv
      replace HX := hid (HX.out.trans hX)
      replace HQ := hid (HQ.out.ext hX)
      replace HS := hid (HS.out.ext hX)
      replace HT := hid (HT.out.ext hX)
      replace HR := hid (HR.out.ext hX)
      have HV := hid hv
      clear hX x0 x1 x2 hv HGQ
      go_upto_region 12 with (fail)
      have hXa : Ext w4 (w4.alloc (.cells #[.bool s4, .slice A4 l4 c4, .slice B4 m4 k4] 65)) := (Ext.refl _).alloc _
      have kB := Blk.new w4 65 #[.bool s4, .slice A4 l4 c4, .slice B4 m4 k4]
      replace HX := hid (HX.out.trans hXa)
      replace HQ := hid (HQ.out.ext hXa)
      replace HS := hid (HS.out.ext hXa)
      replace HT := hid (HT.out.ext hXa)
      replace HR := hid (HR.out.ext hXa)
      replace HV := hid (HV.out.ext hXa)
      clear hXa
      generalize w4.heap.size = gx at kB ⊢
      generalize w4.alloc (.cells #[.bool s4, .slice A4 l4 c4, .slice B4 m4 k4] 65) = w5 at kB HX HQ HS HT HR HV ⊢
      have y0 := kB.cell 0
      have y1 := kB.cell 1
      have y2 := kB.cell 2
      simp only [List.getElem?_toArray, List.getElem?_cons_zero, List.getElem?_cons_succ] at y0 y1 y2
      clear kB
      obtain ⟨s5, A5, l5, c5, B5, m5, k5, x0, x1, x2, _⟩ := HQ.out.cells hk3
      have f0 := HQ.out.free (k * 3)
      have f1 := HQ.out.free (k * 3 + 1)
      have f2 := HQ.out.free (k * 3 + 2)
      have HPUT := hid (HQ.out.put hk3 (q := x) ⟨HV.out, HNQ.out⟩)
      go_wp2
      clear x0 x1 x2 f0 f1 f2 y0 y1 y2
      go_roundg (3 - (k + 1))
      case rel =>
       refine ⟨k + 1, rfl, by omega, by go_num, hid (fun j hj => by by_cases e : j = k; (subst e; rw [HOX.out]; simp); exact HNN.out j (by omega)), hid (HPUT.out.congr (fun j _ => ?_)), hid (((Blk.far HS.out (by simp only; omega) _).far (by simp only; omega) _).far (by simp only; omega) _), hid (((HT.out.far (by simp only; omega) _).far (by simp only; omega) _).far (by simp only; omega) _), hid (((HR.out.far (by simp only; omega) _).far (by simp only; omega) _).far (by simp only; omega) _), hid (((HX.out.setCell (by simp only; omega) _).setCell (by simp only; omega) _).setCell (by simp only; omega) _)⟩
       by_cases e : j = k
       ·
        rw [if_pos e, if_pos (by omega), e, HOX.out]
       ·
        rw [if_neg e]
        by_cases h2 : j < k
        ·
         rw [if_pos h2, if_pos (by omega)]
        ·
         rw [if_neg h2, if_neg (by omega)]
      case measure => omega
    ·
     obtain rfl : k = 3 := by omega
     have q2 : decide (((3 : Nat) : Int) < 3) = false := by decide
     have HNO : Hid (¬ ∃ k, k < 3 ∧ o k = none) := hid (fun ⟨k, hk, h⟩ => HNN.out k hk h)
     obtain ⟨q, hq⟩ : ∃ q : Nat → Rat, q = fun k => (o k).getD 0 := ⟨_, rfl⟩
     have HQO : Hid (∀ k, k < 3 → o k = some (q k)) := hid (fun k hk => by
      rw [hq]
      cases ho : o k with
      | none => exact absurd ho (HNN.out k hk)
      | some x => simp [ho])
     have HQD := hid hq
     have HFT : Hid (∀ k, k < 3 → FitR (q k) 512) := hid (fun k hk => by
      obtain ⟨s9, A9, l9, c9, B9, m9, k9, _, _, _, hn⟩ := pick_aggO (P := NumS) (w := w) (q := o) hk H0.out H1.out H2.out
      rw [HQO.out k hk] at hn
      exact fitR_512 (RatG.fit hn))
     clear hq
     replace HQ := hid (HQ.out.congr (h := fun j => some (q j)) (fun j hj => by rw [if_pos hj]; exact HQO.out j hj))
     have hg8 := HQ.out.lt
     go_wp2_with fail
     go_loopg [12] 3 (fun fu iv wy => ∃ k : Nat, fu = 3 - k ∧ k ≤ 3 ∧ iv = .int .i64 (k : Int) ∧ Hid (∀ j, j < k → mvOk lo hi q j) ∧ Hid (B6 wy g6 31 (fun j => if j < k then mvL lo q j else lo j) (fun j => if j < k then mvH hi q j else hi j)) ∧ Hid (Keeps [g6] wr wy) ∧ Hid (Ext w wy))
     case atStart => exact ⟨0, rfl, by omega, rfl, hid (fun j hj => by omega), hid (HS.out.congr (fun k _ => ⟨by rw [if_neg (by omega)], by rw [if_neg (by omega)]⟩)), hid (Keeps.refl _ _), HX⟩
     case round =>
      clear HS HT HX
      obtain ⟨k, rfl, hk, rfl, HMO, HS, HKP, HX⟩ := hrel
      replace HR := hid (HR.out.keeps HKP.out (by simp; omega))
      by_cases hk3 : k < 3
      ·
       have q3 : decide ((k : Int) < 3) = true := decide_eq_true (by omega)
       have hS9 : -1152921504606846976 ≤ lo k ∧ lo k ≤ hi k ∧ hi k ≤ 1152921504606846976 := by have := HOK.out k hk3; simpa [okS] using this
       have hcell := HS.out.cell hk3
       simp only [Nat.lt_irrefl, if_false] at hcell
       obtain ⟨ca, cb⟩ := hcell
       have HQW : Hid (XN (g6 + 1) wr g8 (fun j => some (q j))) := hid (HQ.out.old HKP.out (fun g hg => by simp at hg; omega) (by simp; omega))
       obtain ⟨su, Au, lu, cu, Bu, mu, ku, x0, x1, x2, hx⟩ := HQW.out.cells hk3
       have HXV := hid (hx _ rfl).1
       clear hx
       obtain ⟨xl, hxl⟩ : ∃ xl, lo k = xl := ⟨_, rfl⟩
       obtain ⟨xh, hxh⟩ : ∃ xh, hi k = xh := ⟨_, rfl⟩
       obtain ⟨ml, hml⟩ : ∃ ml, xl + (q k).floor = ml := ⟨_, rfl⟩
       obtain ⟨mh, hmh⟩ : ∃ mh, xh - (-(q k)).floor = mh := ⟨_, rfl⟩
       rw [hxl] at ca hS9
       rw [hxh] at cb hS9
       have HML : Hid (mvL lo q k = ml) := hid (by unfold mvL; rw [hxl, hml])
       have HMH : Hid (mvH hi q k = mh) := hid (by unfold mvH; rw [hxh, hmh])
       have hmm : ml ≤ mh := by have := ceil_le_floor (q k); omega
       have HL1 : Hid ((lowN [((xl : Int) : Rat) + q k, ((xh : Int) : Rat) + q k] 1).floor = ml) := hid ((low_shift hS9.2.1 (q k)).trans hml)
       have HH1 : Hid (-(-(highN [((xl : Int) : Rat) + q k, ((xh : Int) : Rat) + q k] 1)).floor = mh) := hid ((high_shift hS9.2.1 (q k)).trans hmh)
       have hfs : ∀ x ∈ ([((xl : Int) : Rat) + q k, ((xh : Int) : Rat) + q k] : List Rat), FitR x 600 := fun x hx => by
        have hf := HFT.out k hk3
        simp at hx
        rcases hx with rfl | rfl
        ·
         exact (fitS_add (fitR_small (by omega) (by omega)) hf).mono (by omega)
        ·
         exact (fitS_add (fitR_small (by omega) (by omega)) hf).mono (by omega)
       have HFS := hid hfs
       clear hxl hxh hml hmh hfs
       obtain ⟨sa, hsa⟩ : ∃ sa, spA ml mh = sa := ⟨_, rfl⟩
       obtain ⟨sb, hsb⟩ : ∃ sb, spB ml mh = sb := ⟨_, rfl⟩
       obtain ⟨sc, hsc⟩ : ∃ sc, spC ml mh = sc := ⟨_, rfl⟩
       have HSA := hid hsa
       have HSB := hid hsb
       have HSC := hid hsc
       clear hsa hsb hsc
       go_upto_region 18 with (fail)
       refine mor_r18 g6 g8 k xl xh ml mh sa sb sc (q k) su Au Bu lu cu mu ku wr ca cb x0 x1 x2 HXV.out (HFT.out k hk3) (by omega) hk3 (by omega) (by omega) HFS.out HL1 HH1 HSA HSB HSC _ _ (by simp) rfl rfl rfl ?_
       rintro xv0 xv1 xv2 xv3 xv4 xv5 xv6 xv7 xv8 xv9 xv10 xv11 xv12 xv13 xv14 xv15 xv16 xv17 xv18 xv19 xv20 xv21 xv22 xv23 xv24 xv25 xv26 xv27 W rfl rfl rfl rfl rfl rfl rfl rfl rfl rfl rfl rfl rfl rfl rfl rfl rfl rfl rfl rfl rfl ⟨g13, rfl, hg13, kM⟩ hX
       simp only [rops, Try.f64, regOf, Option.bind_some, Nat.reduceBEq, if_true, if_false, Bool.false_eq_true, Option.getD_some, List.drop_succ_cons, List.drop_zero]
       simp only [Act.put, List.setIfInBounds_toArray, List.set_cons_succ, List.set_cons_zero]
       have HM13 : Hid (Blk W g13 31 #[.int .i64 sa, .int .i64 sb]) := hid kM
       replace HX := hid (HX.out.trans hX)
       replace HS := hid (HS.out.ext hX)
       replace HR := hid (HR.out.ext hX)
       replace HKP := hid (HKP.out.trans (.of_ext hX _))
       clear hX kM x0 x1 x2 ca cb
       by_cases hmo : -1152921504606846976 ≤ ml ∧ mh ≤ 1152921504606846976
       ·
        have HOKM : Hid (mvOk lo hi q k) := hid ⟨by rw [HML.out]; exact hmo.1, by rw [HMH.out]; exact hmo.2⟩
        obtain ⟨e1, e2, e3⟩ := sp_yes (lo := ml) (hi := mh) (end_in ⟨hmo.1, by omega⟩).2 (end_in ⟨by omega, hmo.2⟩).2
        obtain rfl : ml = sa := e1.symm.trans HSA.out
        obtain rfl : mh = sb := e2.symm.trans HSB.out
        obtain rfl : 0 = sc := e3.symm.trans HSC.out
        clear e1 e2 e3 hmo
        have y0 := HM13.out.cell 0
        have y1 := HM13.out.cell 1
        simp only [List.getElem?_toArray, List.getElem?_cons_zero, List.getElem?_cons_succ] at y0 y1
        obtain ⟨hc0, hc1⟩ := HS.out.cell hk3
        have hf0 : W.frozen? ⟨g6, k * 2, none⟩ = false := Blk.free HS.out _
        have hf1 : W.frozen? ⟨g6, k * 2 + 1, none⟩ = false := Blk.free HS.out _
        have HPUT := hid (HS.out.put hk3 ml mh)
        go_wp2
        clear hc0 hc1 hf0 hf1 y0 y1
        go_roundg (3 - (k + 1))
        case rel =>
         refine ⟨k + 1, rfl, by omega, by go_num, hid (fun j hj => by by_cases e : j = k; (subst e; exact HOKM.out); exact HMO.out j (by omega)), hid (HPUT.out.congr (fun j _ => ?_)), hid ((HKP.out.setCell (.inl (by simp)) _).setCell (.inl (by simp)) _), hid ((HX.out.setCell (by simp only; omega) _).setCell (by simp only; omega) _)⟩
         by_cases e : j = k
         ·
          rw [if_pos e, if_pos e, if_pos (by omega), if_pos (by omega), e]
          exact ⟨HML.out.symm, HMH.out.symm⟩
         ·
          rw [if_neg e, if_neg e]
          by_cases h2 : j < k
          ·
           rw [if_pos h2, if_pos h2, if_pos (by omega), if_pos (by omega)]
           exact ⟨rfl, rfl⟩
          ·
           rw [if_neg h2, if_neg h2, if_neg (by omega), if_neg (by omega)]
           exact ⟨rfl, rfl⟩
        case measure => omega
       ·
        obtain ⟨e1, e2, e3⟩ := sp_no (lo := ml) (hi := mh) (fun h => hmo ⟨(endE_zero h.1).1, (endE_zero h.2).2⟩)
        obtain rfl : 3 = sc := e3.symm.trans HSC.out
        have HM : Hid (mvA lo hi o = (fun _ => 0, fun _ => 0, 3)) := hid (mvA_far HNB.out HNO.out ⟨k, hk3, fun h => hmo (by rw [← HQD.out] at h; have a := h.1; have b := h.2; rw [HML.out] at a; rw [HMH.out] at b; exact ⟨a, b⟩)⟩)
        clear e1 e2 e3 hmo
        have r0 := HR.out.cell 0
        have f0 := HR.out.free 0
        have r1 := HR.out.cell 1
        have f1 := HR.out.free 1
        have r2 := HR.out.cell 2
        have f2 := HR.out.free 2
        have r3 := HR.out.cell 3
        have f3 := HR.out.free 3
        have r4 := HR.out.cell 4
        have f4 := HR.out.free 4
        have r5 := HR.out.cell 5
        have f5 := HR.out.free 5
        simp only [List.getElem?_toArray, List.getElem?_cons_zero, List.getElem?_cons_succ] at r0 r1 r2 r3 r4 r5
        go_wp2
        refine bodyPost_ret (v := .tuple #[.agg #[.int .i64 0, .int .i64 0, .int .i64 0, .int .i64 0, .int .i64 0, .int .i64 0], .int .i64 3]) (by simp [results, Try.results64, go_sem, *]) rfl ?_
        exact ⟨by rw [HM.out]; rfl, ((((((HX.out.setCell (p := ⟨w.heap.size + 2, 0, none⟩) (by simp only; omega) _).setCell (p := ⟨w.heap.size + 2, 1, none⟩) (by simp only; omega) _).setCell (p := ⟨w.heap.size + 2, 2, none⟩) (by simp only; omega) _).setCell (p := ⟨w.heap.size + 2, 3, none⟩) (by simp only; omega) _).setCell (p := ⟨w.heap.size + 2, 4, none⟩) (by simp only; omega) _).setCell (p := ⟨w.heap.size + 2, 5, none⟩) (by simp only; omega) _)⟩

      ·
       obtain rfl : k = 3 := by omega
       have q3 : decide (((3 : Nat) : Int) < 3) = false := by decide
       have HM : Hid (mvA lo hi o = (mvL lo q, mvH hi q, 0)) := hid (by rw [HQD.out]; exact mvA_ok HNB.out HNO.out (fun ⟨k, hk, h⟩ => h (by have := HMO.out k hk; rw [HQD.out] at this; exact this)))
       replace HS := hid (HS.out.congr (a' := mvL lo q) (b' := mvH hi q) (fun k hk => ⟨by rw [if_pos hk], by rw [if_pos hk]⟩))
       go_upto_region 22 with (fail)
       refine mor_r22 g6 (mvL lo q) (mvH hi q) wr (Blk.cell HS.out 0) (Blk.cell HS.out 1) (Blk.cell HS.out 2) (Blk.cell HS.out 3) (Blk.cell HS.out 4) (Blk.cell HS.out 5) _ _ (by simp) rfl ?_
       rintro xv0 xv1 xv2 xv3 xv4 xv5 xv6 xv7 xv8 xv9 W rfl rfl rfl rfl rfl rfl rfl rfl rfl rfl hX
       simp only [rops, Try.f64, regOf, Option.bind_some, Nat.reduceBEq, if_true, if_false, Bool.false_eq_true, Option.getD_some, List.drop_succ_cons, List.drop_zero]
       simp only [Act.put, List.setIfInBounds_toArray, List.set_cons_succ, List.set_cons_zero]
       replace HX := hid (HX.out.trans hX)
       replace HR := hid (HR.out.ext hX)
       clear hX
       have r0 := HR.out.cell 0
       have f0 := HR.out.free 0
       have r1 := HR.out.cell 1
       have f1 := HR.out.free 1
       have r2 := HR.out.cell 2
       have f2 := HR.out.free 2
       have r3 := HR.out.cell 3
       have f3 := HR.out.free 3
       have r4 := HR.out.cell 4
       have f4 := HR.out.free 4
       have r5 := HR.out.cell 5
       have f5 := HR.out.free 5
       simp only [List.getElem?_toArray, List.getElem?_cons_zero, List.getElem?_cons_succ] at r0 r1 r2 r3 r4 r5
       go_wp2
       refine bodyPost_ret (v := .tuple #[.agg #[.int .i64 (mvL lo q 0), .int .i64 (mvH hi q 0), .int .i64 (mvL lo q 1), .int .i64 (mvH hi q 1), .int .i64 (mvL lo q 2), .int .i64 (mvH hi q 2)], .int .i64 0]) (by simp [results, Try.results64, go_sem, *]) rfl ?_
       exact ⟨by rw [HM.out]; rfl, ((((((HX.out.setCell (p := ⟨w.heap.size + 2, 0, none⟩) (by simp only; omega) _).setCell (p := ⟨w.heap.size + 2, 1, none⟩) (by simp only; omega) _).setCell (p := ⟨w.heap.size + 2, 2, none⟩) (by simp only; omega) _).setCell (p := ⟨w.heap.size + 2, 3, none⟩) (by simp only; omega) _).setCell (p := ⟨w.heap.size + 2, 4, none⟩) (by simp only; omega) _).setCell (p := ⟨w.heap.size + 2, 5, none⟩) (by simp only; omega) _)⟩
end Go.Proofs.Ytikhlcgnlbinfaa
