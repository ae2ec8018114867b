/- Lemmas of the proof that follows (Worsts, part 13): walks of functions by contract, and plain lemmas. Conditions: none. -/
import Derived.Test.YtikhlcgnlbinfaaWorstsL
set_option maxRecDepth 100000
set_option maxHeartbeats 16000000
namespace Go.Proofs.Ytikhlcgnlbinfaa
open Lib (hid)
open Go.RowKit
/-- A local shift of the reference: nine cells, three numbers (none: not yet stored). -/
def XQ (w : World) (g : Nat) (f : Nat -> Option Rat) : Prop := ∃ vs : List Value, Blk w g 229 vs.toArray /\ NumK 3 (pL QZ) w vs 3 f /\ ∀ u ∈ vs, bx u
theorem XQ.ext {w w' : World} {g : Nat} {f : Nat -> Option Rat} (h : XQ w g f) (he : Ext w w') : XQ w' g f := by
 obtain ⟨vs, h1, h2, h3⟩ := h;exact ⟨vs, h1.ext he, h2.ext (lP bG) he, h3⟩
theorem XQ.congr {w : World} {g : Nat} {f h : Nat -> Option Rat} (k : XQ w g f) (e : ∀ j, j < 3 -> f j = h j) : XQ w g h := by
 obtain ⟨vs, h1, h2, h3⟩ := k;exact ⟨vs, h1, h2.congr e, h3⟩
theorem XQ.ni {w : World} {g : Nat} {f : Nat -> Option Rat} (h : XQ w g f) : NoInts w g := by
 obtain ⟨vs, h1, h2, h3⟩ := h;exact ⟨_, _, h1, fun v hv => h3 v (by simpa using hv)⟩
theorem XQ.free {w : World} {g : Nat} {f : Nat -> Option Rat} (h : XQ w g f) (i : Nat) : w.frozen? ⟨g, i, none⟩ = false := by
 obtain ⟨vs, h1, h2, h3⟩ := h;exact h1.free i
theorem XQ.cells {w : World} {g : Nat} {f : Nat -> Option Rat} (h : XQ w g f) {j : Nat} (hj : j < 3) : ∃ s A l c B m k, w.cell? ⟨g, j * 3, none⟩ = some (.bool s) /\ w.cell? ⟨g, j * 3 + 1, none⟩ = some (.slice A l c) /\ w.cell? ⟨g, j * 3 + 2, none⟩ = some (.slice B m k) /\ ∀ q, f j = some q -> QZ w (.agg #[.bool s, .slice A l c, .slice B m k]) q := by
 obtain ⟨vs, h1, h2, h3⟩ := h;obtain ⟨cs, c1, ⟨s, A, l, c, B, m, k, rfl, hx⟩, h4⟩ := h2.2 j hj;have e := fun i hi => (h1.cell (j * 3 + i)).trans ((List.getElem?_toArray ..).trans (h4 i hi))
 exact ⟨s, A, l, c, B, m, k, by simpa using e 0 (by omega), by simpa using e 1 (by omega), by simpa using e 2 (by omega), hx⟩
theorem XQ.zero (w : World) : XQ (w.alloc (.cells #[.bool false, .slice none 0 0, .slice none 0 0, .bool false, .slice none 0 0, .slice none 0 0, .bool false, .slice none 0 0, .slice none 0 0] 229)) w.heap.size (fun _ => none) := by
 refine ⟨[.bool false, .slice none 0 0, .slice none 0 0, .bool false, .slice none 0 0, .slice none 0 0, .bool false, .slice none 0 0, .slice none 0 0], Blk.new _ _ _, ?_, fun u hu => ?_⟩
 .
  refine NumK.new 3 (pL QZ) _ _ 3 rfl (cs := [.bool false, .slice none 0 0, .slice none 0 0]) rfl ⟨_, _, _, _, _, _, _, rfl, fun q hq => by cases hq⟩ (fun i hi => ?_)
  match i, hi with
  | 0, _ => rfl
  | 1, _ => rfl
  | 2, _ => rfl
  | 3, _ => rfl
  | 4, _ => rfl
  | 5, _ => rfl
  | 6, _ => rfl
  | 7, _ => rfl
  | 8, _ => rfl
  | _ + 9, hi => omega
 .
  simp at hu
  rcases hu with rfl | rfl | rfl | rfl | rfl | rfl
  all_goals first | exact aj _ | exact ag _ _ _
theorem XQ.put {w : World} {g : Nat} {f : Nat -> Option Rat} (h : XQ w g f) {j : Nat} (hj : j < 3) {s : Bool} {A B : Option Addr} {l c m k : Nat} {q : Rat} (hx : QZ w (.agg #[.bool s, .slice A l c, .slice B m k]) q) :
  XQ (((w.setCell ⟨g, j * 3, none⟩ (.bool s)).setCell ⟨g, j * 3 + 1, none⟩ (.slice A l c)).setCell ⟨g, j * 3 + 2, none⟩ (.slice B m k)) g (fun i => if i = j then some q else f i) := by
 have hni := h.ni;obtain ⟨vs, h1, h2, h3⟩ := h;have hkp : Keeps [g] w (((w.setCell ⟨g, j * 3, none⟩ (.bool s)).setCell ⟨g, j * 3 + 1, none⟩ (.slice A l c)).setCell ⟨g, j * 3 + 2, none⟩ (.slice B m k)) := (((Keeps.refl [g] w).setCell (.inl (by simp)) _).setCell (.inl (by simp)) _).setCell (.inl (by simp)) _;have hN : ∀ q ∈ [g], NoInts w q := fun q hq => by simp at hq; subst hq; exact hni
 have hb : j * 3 + 3 <= vs.length := by rw [h2.1]; omega
 obtain ⟨e1, e2, e3⟩ := eN vs (j * 3) (.bool s) (.slice A l c) (.slice B m k) hb;refine ⟨((vs.set (j * 3) (.bool s)).set (j * 3 + 1) (.slice A l c)).set (j * 3 + 2) (.slice B m k), ?_, (h2.keep (lP bG) hkp hN).put hj rfl ⟨_, _, _, _, _, _, _, rfl, fun q' hq => by injection hq with hq; subst hq; exact bG _ _ _ _ _ hx hkp hN⟩ e1 e2 e3, fun u hu => ?_⟩
 .
  have := ((h1.set (j * 3) (.bool s)).set (j * 3 + 1) (.slice A l c)).set (j * 3 + 2) (.slice B m k)
  simpa only [List.setIfInBounds_toArray] using this
 .
  rcases List.mem_or_eq_of_mem_set hu with hu | rfl
  .
   rcases List.mem_or_eq_of_mem_set hu with hu | rfl
   .
    rcases List.mem_or_eq_of_mem_set hu with hu | rfl
    .
     exact h3 u hu
    .
     exact aj _
   .
    exact ag _ _ _
  .
   exact ag _ _ _
/-- The nine cells, once all three numbers are stored. -/
theorem XQ.nine {w : World} {g : Nat} {f : Nat -> Option Rat} {q : Nat -> Rat} (h : XQ w g f) (hq : ∀ j, j < 3 -> f j = some (q j)) : ∃ s0 A0 l0 c0 B0 m0 k0 s1 A1 l1 c1 B1 m1 k1 s2 A2 l2 c2 B2 m2 k2,
  Blk w g 229 #[.bool s0, .slice A0 l0 c0, .slice B0 m0 k0, .bool s1, .slice A1 l1 c1, .slice B1 m1 k1, .bool s2, .slice A2 l2 c2, .slice B2 m2 k2] /\
  QZ w (.agg #[.bool s0, .slice A0 l0 c0, .slice B0 m0 k0]) (q 0) /\ QZ w (.agg #[.bool s1, .slice A1 l1 c1, .slice B1 m1 k1]) (q 1) /\ QZ w (.agg #[.bool s2, .slice A2 l2 c2, .slice B2 m2 k2]) (q 2) := by
 obtain ⟨vs, h1, h2, h3⟩ := h;obtain ⟨cs0, c0, ⟨s0, A0, l0, c0', B0, m0, k0, rfl, x0⟩, e0⟩ := h2.2 0 (by omega);obtain ⟨cs1, c1, ⟨s1, A1, l1, c1', B1, m1, k1, rfl, x1⟩, e1⟩ := h2.2 1 (by omega);obtain ⟨cs2, c2, ⟨s2, A2, l2, c2', B2, m2, k2, rfl, x2⟩, e2⟩ := h2.2 2 (by omega);have hl := h2.1
 have e : vs = [.bool s0, .slice A0 l0 c0', .slice B0 m0 k0, .bool s1, .slice A1 l1 c1', .slice B1 m1 k1, .bool s2, .slice A2 l2 c2', .slice B2 m2 k2] := by
  refine List.ext_getElem? fun i => ?_
  match i with
  | 0 => simpa using e0 0 (by omega)
  | 1 => simpa using e0 1 (by omega)
  | 2 => simpa using e0 2 (by omega)
  | 3 => simpa using e1 0 (by omega)
  | 4 => simpa using e1 1 (by omega)
  | 5 => simpa using e1 2 (by omega)
  | 6 => simpa using e2 0 (by omega)
  | 7 => simpa using e2 1 (by omega)
  | 8 => simpa using e2 2 (by omega)
  | i + 9 => rw [List.getElem?_eq_none (by omega), List.getElem?_eq_none (by simp)]
 subst e;exact ⟨s0, A0, l0, c0', B0, m0, k0, s1, A1, l1, c1', B1, m1, k1, s2, A2, l2, c2', B2, m2, k2, h1, x0 _ (hq 0 (by omega)), x1 _ (hq 1 (by omega)), x2 _ (hq 2 (by omega))⟩
/-- A row of shifts, made by appending. -/
theorem tI : Elem Try.prog 117 229 9 168 (.agg #[.bool false, .slice none 0 0, .slice none 0 0, .bool false, .slice none 0 0, .slice none 0 0, .bool false, .slice none 0 0, .slice none 0 0]) := Elem.mk' (by kernel_rfl) (by kernel_rfl) rfl (by decide)
def SRow (base : Nat) (w : World) (v : Value) (n : Nat) (f : Nat -> Rat) : Prop := (∃ us, w.ownsRow base 229 9 v n us /\ NumK 3 (Tri QZ) w us (3 * n) f) /\ RowNI w v
section
variable {base n : Nat} {w w' : World} {v : Value} {f h : Nat -> Rat}
theorem SRow.nil (base : Nat) (w : World) (f : Nat -> Rat) : SRow base w (.slice none 0 0) 0 f := ⟨⟨[], World.ownsRow_nil _ _ _ _, NumK.nil 3 _ w f⟩, fun g hg => by simp [Value.ownBlock] at hg⟩
theorem SRow.keeps (k : SRow base w v n f) {L : List Nat} (hk : Keeps L w w') (hN : ∀ g ∈ L, NoInts w g) (hn : ∀ g, v.ownBlock = some g -> g ∉ L) : SRow base w' v n f := by
 obtain ⟨⟨us, h1, h2⟩, h3⟩ := k;exact ⟨⟨us, ak h1 hk hn, h2.keep si hk hN⟩, h3.keeps hk hn⟩
theorem SRow.ext (k : SRow base w v n f) (he : Ext w w') : SRow base w' v n f := k.keeps (.of_ext he []) (fun g hg => by simp at hg) (fun g _ hg => by simp at hg)
theorem SRow.slice (k : SRow base w v n f) : ∃ A c, v = .slice A n c := ar k.1.choose_spec.1
theorem SRow.low (k : SRow base w v n f) {g : Nat} (hg : v.ownBlock = some g) : base <= g /\ g < w.heap.size := cD k.1.choose_spec.1 hg
theorem SRow.shp {A : Option Addr} {c : Nat} (k : SRow base w (.slice A n c) n f) (hn : 0 < n) : ∃ g, A = some ⟨g, 0, none⟩ /\ base <= g /\ g < w.heap.size /\ ShP QZ w g 0 n f := by
 obtain ⟨⟨us, h1, h2⟩, h3⟩ := k;have hlow := fun g hg => cD (g := g) h1 hg
 rcases h1.2 with ⟨hv, h0⟩ | ⟨g, cap, cur, hv, hg, hb⟩
 .
  omega
 .
  injection hv with hA hn hc;subst hA;exact ⟨g, rfl, hg, (hlow g (by simp [Value.ownBlock])).2, ShP.of_row h1 h2⟩
theorem SRow.after {v' : Value} {us : List Value} {s0 s1 s2 : Bool} {A0 B0 A1 B1 A2 B2 : Option Addr} {l0 c0 m0 k0 l1 c1 m1 k1 l2 c2 m2 k2 : Nat} (ho : w'.ownsRow base 229 9 v' (n + 1) (us ++ [.bool s0, .slice A0 l0 c0, .slice B0 m0 k0, .bool s1, .slice A1 l1 c1, .slice B1 m1 k1, .bool s2, .slice A2 l2 c2, .slice B2 m2 k2])) (hG : w.grownBy w' v.ownBlock) (h3 : RowNI w v) (hni : RowNI w' v')
  (q0 : QZ w (.agg #[.bool s0, .slice A0 l0 c0, .slice B0 m0 k0]) (f (3 * n))) (q1 : QZ w (.agg #[.bool s1, .slice A1 l1 c1, .slice B1 m1 k1]) (f (3 * n + 1))) (q2 : QZ w (.agg #[.bool s2, .slice A2 l2 c2, .slice B2 m2 k2]) (f (3 * n + 2))) (h2 : NumK 3 (Tri QZ) w us (3 * n) f) : SRow base w' v' (n + 1) f := by
 have hN2 := h2.imp (w' := w') (R' := Tri QZ) (fun cs x hx => by
  obtain ⟨s, A, l, c, B, m, k, e, hp⟩ := hx;exact ⟨s, A, l, c, B, m, k, e, hp.grownNI h3 hG⟩)
 have h4 := ((hN2.snoc rfl (Tri.mk (q0.grownNI h3 hG))).snoc rfl (Tri.mk (q1.grownNI h3 hG))).snoc rfl (Tri.mk (q2.grownNI h3 hG));rw [List.append_assoc, List.append_assoc] at h4;refine ⟨⟨_, ho, ?_⟩, hni⟩;rw [show 3 * (n + 1) = 3 * n + 1 + 1 + 1 by omega];refine h4.congr (fun j hj => ?_)
 by_cases e2 : j = 3 * n + 1 + 1
 .
  subst e2; rw [if_pos rfl]
 rw [if_neg e2]
 by_cases e1 : j = 3 * n + 1
 .
  subst e1; rw [if_pos rfl]
 rw [if_neg e1]
 by_cases e0 : j = 3 * n
 .
  subst e0; rw [if_pos rfl]
 rw [if_neg e0]
end
theorem gB {n : Nat} {ms : List Mt} {u : Nat -> Rat} {k : Nat} {m : Mt} (h : ms[k]? = some m) (i : Nat) : aU n (ms.take (k + 1)) u i = aU n (ms.take k) u i + ((m.w * aB m i : Int) : Rat) * cN n m u := by
 unfold aU;rw [dO h, eW];simp only [sumM];grind
/-- The slopes behind k matches and the first i unknowns of the next. -/
def bz (n : Nat) (ms : List Mt) (u : Nat -> Rat) (k i : Nat) : Nat -> Rat := fun j => if j < i then aU n (ms.take (k + 1)) u j else aU n (ms.take k) u j
theorem jJ (n : Nat) (ms : List Mt) (u : Nat -> Rat) (k : Nat) : bz n ms u k 0 = aU n (ms.take k) u := by funext j; unfold bz; rw [if_neg (by omega)]
theorem jK {n : Nat} {ms : List Mt} {u : Nat -> Rat} {k N : Nat} : ∀ j, j < N -> bz n ms u k N j = aU n (ms.take (k + 1)) u j := fun j hj => by unfold bz; rw [if_pos hj]
theorem jL {n : Nat} {ms : List Mt} {u : Nat -> Rat} {k i : Nat} {m : Mt} (h : ms[k]? = some m) (hc : aB m i = 0) : bz n ms u k (i + 1) = bz n ms u k i := by
 funext j
 unfold bz
 by_cases e : j = i
 .
  subst e;rw [if_pos (by omega), if_neg (by omega), gB h, hc, Int.mul_zero];grind
 .
  by_cases hj : j < i
  .
   rw [if_pos (by omega), if_pos hj]
  .
   rw [if_neg (by omega), if_neg hj]
theorem kC {n : Nat} {ms : List Mt} {u : Nat -> Rat} {k i : Nat} {m : Mt} (h : ms[k]? = some m) : bz n ms u k (i + 1) = fun j => if j = i then bz n ms u k i i + ((aB m i : Int) : Rat) * (((m.w : Int) : Rat) * cN n m u) else bz n ms u k i j := by
 funext j
 unfold bz
 by_cases e : j = i
 .
  subst e;rw [if_pos (by omega), if_pos rfl, if_neg (by omega), gB h, Rat.intCast_mul];grind
 .
  rw [if_neg e]
  by_cases hj : j < i
  .
   rw [if_pos (by omega), if_pos hj]
  .
   rw [if_neg (by omega), if_neg hj]
theorem kE (n : Nat) (ms : List Mt) (u : Nat -> Rat) : aU n (ms.take 0) u = fun _ => 0 := by funext j; rfl
theorem kG {S : Int} {ms : List Mt} (hm : ∀ m ∈ ms, VM S m) (_hl : ms.length <= 64) {n : Nat} (hn : n <= 24) {u : Nat -> Rat} (ht : ka n u) (k i : Nat) : FitQ (aU n (ms.take k) u i) 57 := by
 obtain ⟨P, h1, h2, h3⟩ := ht;have := (kb (S := S) (ms := ms.take k) (fun m hm' => hm m (List.mem_of_mem_take hm')) (by rw [List.length_take]; omega) hn h1 h2 h3 i).fit h1 h2;exact this
/-- What the map of dropped indexes holds. -/
def gl (l : List Int) : List (Int × Value) := l.map fun d => (d, Value.bool true)
theorem jM {v : Value} {g : Nat} (h : g ∈ v.ownBlock.toList) : v.ownBlock = some g := by
 rcases e : v.ownBlock with _ | k
 .
  rw [e] at h; simp at h
 .
  rw [e] at h; simp at h; rw [h]
theorem gC (S : Int) (A At : Option Addr) (n c m ct : Nat) (w : World) (hne : ¬ (m : Int) = S) (_hm : m <= 9223372036854775807) :
  Calls Try.prog 58 #[.agg #[.int .i64 S, .slice A n c], .slice At m ct] w (fun e w' => e = .returned (.tuple #[.slice none 0 0, .bool false]) /\ Ext w w') := by
 have HX := hid ((Ext.refl w).alloc (.cells #[.int .i64 S, .slice A n c] 76));have HP : Hid (Blk (w.alloc (.cells #[.int .i64 S, .slice A n c] 76)) w.heap.size 76 #[.int .i64 S, .slice A n c]) := hid (Blk.new w _ _);have q1 : ((m : Int) != S) = true := by simpa using hne
 clear hne;go_enter Try.func58, Try.ntmps58
 go_upto_region 1 with (fail)
 generalize w.alloc _ = w1 at HX HP |-;have p0 := HP.out.cell 0;simp only [List.getElem?_toArray, List.getElem?_cons_zero, List.getElem?_cons_succ] at p0;go_wp2;refine bodyPost_ret (v := .tuple #[.slice none 0 0, .bool false]) (by simp [results, Try.results58, go_sem, *]) rfl ?_;exact ⟨rfl, HX.out⟩
theorem fc (m n c gt ot ct : Nat) (A tA : Option Addr) (u : Nat -> Rat) (w : World) (hS : ShP RatG w gt ot m u) (hA : 0 < m -> tA = some ⟨gt, ot, none⟩) (_hm : m <= 20) :
  Calls Try.prog 58 #[.agg #[.int .i64 (m : Int), .slice A n c], .slice tA m ct] w (fun e w' => ∃ v, e = .returned (.tuple #[v, .bool true]) /\ SRow w.heap.size w' v m u /\ Ext w w') := by
 have HX := hid ((Ext.refl w).alloc (.cells #[.int .i64 (m : Int), .slice A n c] 76));have HP : Hid (Blk (w.alloc (.cells #[.int .i64 (m : Int), .slice A n c] 76)) w.heap.size 76 #[.int .i64 (m : Int), .slice A n c]) := hid (Blk.new w _ _);have q1 : ((m : Int) != (m : Int)) = false := by simp
 have HS := hid hS;clear hS;go_enter Try.func58, Try.ntmps58
 go_upto_region 1 with (fail)
 generalize w.alloc _ = w1 at HX HP |-;have p0 := HP.out.cell 0;simp only [List.getElem?_toArray, List.getElem?_cons_zero, List.getElem?_cons_succ] at p0;have hlw : w.heap.size <= w1.heap.size := HX.out.size
 go_upto_region 3 with (fail)
 clear p0 q1
 go_wp2_with fail
 go_loopg [6, 7, 8, 9, 10, 11] m (fun fu ov iv _ _ _ _ W => ∃ i : Nat, fu = m - i /\ i <= m /\ iv = .int .i64 (i : Int) /\ Hid (SRow w.heap.size W ov i u) /\ Hid (Ext w W))
 case atStart => exact ⟨0, by omega, by omega, rfl, hid (SRow.nil _ _ _), HX⟩
 case round =>
  clear HX HP;obtain ⟨i, rfl, hi, rfl, HO, HX⟩ := hrel;obtain ⟨Ao, co, hAo⟩ := HO.out.slice;subst hAo
  by_cases him : i < m
  .
   have q1 : decide ((i : Int) < (m : Int)) = true := decide_eq_true (by omega);have q1b : decide (i < m) = true := decide_eq_true him;have hAe := hA (by omega);subst hAe
   go_upto_region 8 with (fail)
   have hX2 : Ext wr (wr.alloc (.cells #[.bool false, .slice none 0 0, .slice none 0 0, .bool false, .slice none 0 0, .slice none 0 0, .bool false, .slice none 0 0, .slice none 0 0] 229)) := (Ext.refl _).alloc _;have HG : Hid (w.heap.size <= wr.heap.size /\ (∀ g, (Value.slice Ao i co).ownBlock = some g -> g < wr.heap.size)) := hid ⟨HX.out.size, fun g hg => (HO.out.low hg).2⟩;have HQ : Hid (XQ (wr.alloc (.cells #[.bool false, .slice none 0 0, .slice none 0 0, .bool false, .slice none 0 0, .slice none 0 0, .bool false, .slice none 0 0, .slice none 0 0] 229)) wr.heap.size (fun j => if j < 0 then some (u (3 * i + j)) else none)) := hid ((XQ.zero wr).congr (fun j hj => by simp));generalize wr.heap.size = gs at HG HQ |-;generalize wr.alloc _ = w2 at hX2 HQ |-;replace HO := hid (HO.out.ext hX2);replace HX := hid (HX.out.trans hX2);clear hX2
   go_wp2_with fail
   go_loopg [9, 10, 11] 3 (fun fu kv _ _ W => ∃ k : Nat, fu = 3 - k /\ k <= 3 /\ kv = .int .i64 (k : Int) /\ Hid (XQ W gs (fun j => if j < k then some (u (3 * i + j)) else none)) /\ Hid (SRow w.heap.size W (.slice Ao i co) i u) /\ Hid (Ext w W))
   case atStart => exact ⟨0, by omega, by omega, rfl, HQ, HO, HX⟩
   case round =>
    clear HQ HO HX;obtain ⟨k, rfl, hk, rfl, HQ, HO, HX⟩ := hrel
    by_cases hk3 : k < 3
    .
     have q2 : decide ((k : Int) < 3) = true := decide_eq_true (by omega);have hki : (k : Int) < 3 := by omega
     obtain ⟨sq, Aq, lq, cq, Bq, mq, kq, y0, y1, y2, hy⟩ := (HS.out.ext ea HX.out) i k him hk3;have HY := hid hy;clear hy
     go_wp2_with fail
     refine (rn HY.out).mono ?_;rintro e w4 ⟨v, rfl, hv, hX2⟩;clear y0 y1 y2 HY;obtain ⟨s4, A4, l4, c4, B4, m4, k4, rfl⟩ := QZ.open hv
     go_upto_region 12 with (fail)
     replace HQ := hid (HQ.out.ext hX2);replace HO := hid (HO.out.ext hX2);replace HX := hid (HX.out.trans hX2);have hX3 : Ext w4 (w4.alloc (.cells #[.bool s4, .slice A4 l4 c4, .slice B4 m4 k4] 65)) := (Ext.refl _).alloc _;have HB : Hid (QB (w4.alloc (.cells #[.bool s4, .slice A4 l4 c4, .slice B4 m4 k4] 65)) w4.heap.size (u (3 * i + k))) := hid (QB.new hv);have HVV := hid (hv.ext hX3);have b0 := (Blk.new w4 65 #[.bool s4, .slice A4 l4 c4, .slice B4 m4 k4]).cell 0;have b1 := (Blk.new w4 65 #[.bool s4, .slice A4 l4 c4, .slice B4 m4 k4]).cell 1;have b2 := (Blk.new w4 65 #[.bool s4, .slice A4 l4 c4, .slice B4 m4 k4]).cell 2;simp only [List.getElem?_toArray, List.getElem?_cons_zero, List.getElem?_cons_succ] at b0 b1 b2;clear hv hX2 HB;generalize w4.heap.size = gx at b0 b1 b2 |-;generalize w4.alloc _ = w5 at b0 b1 b2 HVV hX3 |-;replace HQ := hid (HQ.out.ext hX3);replace HO := hid (HO.out.ext hX3);replace HX := hid (HX.out.trans hX3);clear hX3;obtain ⟨s5, A5, l5, c5, B5, m5, k5, z0, z1, z2, _⟩ := HQ.out.cells hk3;have f0 := HQ.out.free (k * 3);have f1 := HQ.out.free (k * 3 + 1);have f2 := HQ.out.free (k * 3 + 2);have hni := HQ.out.ni
     have HQ2 := hid ((HQ.out.put hk3 HVV.out).congr (h := fun j => if j < k + 1 then some (u (3 * i + j)) else none) (fun j hj => by
      by_cases e : j = k
      .
       subst e; simp
      .
       simp only [if_neg e]
       by_cases e2 : j < k
       .
        rw [if_pos e2, if_pos (by omega)]
       .
        rw [if_neg e2, if_neg (by omega)]))
     have HKP : Hid (Keeps [gs] w5 (((w5.setCell ⟨gs, k * 3, none⟩ (.bool s4)).setCell ⟨gs, k * 3 + 1, none⟩ (.slice A4 l4 c4)).setCell ⟨gs, k * 3 + 2, none⟩ (.slice B4 m4 k4))) := hid ((((Keeps.refl [gs] w5).setCell (.inl (by simp)) _).setCell (.inl (by simp)) _).setCell (.inl (by simp)) _);have HO2 := hid (HO.out.keeps HKP.out (fun q hq => by simp at hq; subst hq; exact hni) (fun g hg h => by have := HG.out.2 g hg; simp at h; omega));have HX2 := hid (HKP.out.ext HX.out (fun q hq => by simp at hq; subst hq; exact HG.out.1));clear HQ HO HX HKP hni HVV;go_wp2;go_roundg (3 - (k + 1))
     case rel => exact ⟨k + 1, by omega, by omega, by go_num, HQ2, HO2, HX2⟩
     case measure => omega
    obtain rfl : k = 3 := by omega
    have q2 : decide (((3 : Nat) : Int) < 3) = false := by decide
    obtain ⟨s0, A0, l0, c0, B0, m0, k0, s1, A1, l1, c1, B1, m1, k1, s2, A2, l2, c2, B2, m2, k2, hB9, h0, h1, h2⟩ := HQ.out.nine (q := fun j => u (3 * i + j)) (fun j hj => if_pos hj);have x0 := hB9.cell 0;have x1 := hB9.cell 1;have x2 := hB9.cell 2;have x3 := hB9.cell 3;have x4 := hB9.cell 4;have x5 := hB9.cell 5;have x6 := hB9.cell 6;have x7 := hB9.cell 7;have x8 := hB9.cell 8;simp only [List.getElem?_toArray, List.getElem?_cons_zero, List.getElem?_cons_succ] at x0 x1 x2 x3 x4 x5 x6 x7 x8;obtain ⟨⟨us, hown, hnum⟩, hni0⟩ := HO.out;have HA1 : Hid (Ext wr (wr.alloc (.cells #[.bool s0, .slice A0 l0 c0, .slice B0 m0 k0, .bool s1, .slice A1 l1 c1, .slice B1 m1 k1, .bool s2, .slice A2 l2 c2, .slice B2 m2 k2] 229))) := hid ((Ext.refl wr).alloc _);have HNM := hid hnum;have HN0 := hid hni0;have H012 := hid (And.intro h0 (And.intro h1 h2));clear hnum hni0 h0 h1 h2 hB9
    go_wp2_with (at_builtin; refine bP _ tI (by simp [Value.cells, bx]) rfl _ _ rfl w.heap.size _ i us rfl (World.ownsRow.ext' hown HA1.out) (HN0.out.ext HA1.out) _ 1 1 [.bool s0, .slice A0 l0 c0, .slice B0 m0 k0, .bool s1, .slice A1 l1 c1, .slice B1 m1 k1, .bool s2, .slice A2 l2 c2, .slice B2 m2 k2] rfl rfl (At.new _ [_, _, _, _, _, _, _, _, _] _) (by simp [Value.oneCell']) (by simp [bx]) (by omega) (by omega) (by unfold maxLen; omega) (by have := HX.out.size; simp; omega) ?_; intro v6 w6 hown1 hgr1 hni1; have HQ6 := hid (SRow.after hown1 hgr1 (HN0.out.ext HA1.out) hni1 (H012.out.1.ext HA1.out) (H012.out.2.1.ext HA1.out) (H012.out.2.2.ext HA1.out) (HNM.out.ext si HA1.out)); have HK6 := hid (aY hgr1); clear hown1 hgr1 hni1 hown; obtain ⟨A7, c7, hA7⟩ := HQ6.out.slice; subst hA7)
    go_roundg (m - (i + 1))
    case rel => exact ⟨i + 1, by omega, by omega, by go_num, HQ6, hid (HK6.out.ext (HX.out.trans HA1.out) (fun g hg => (HO.out.low (jM hg)).1))⟩
    case measure => omega
  obtain rfl : i = m := by omega
  have q1 : decide ((i : Int) < (i : Int)) = false := by simp
  have q1b : decide (i < i) = false := by simp
  go_wp2;refine bodyPost_ret (v := .tuple #[.slice Ao i co, .bool true]) (by simp [results, Try.results58, go_sem, *]) rfl ?_
  exact ⟨_, rfl, HO.out, HX.out⟩
theorem gV {w : World} {A : Option Addr} {l : Nat} {xs : List Int} (h : Ints .u32 w A l xs) (hl : l <= 4) : Fit 4294967296 (wN xs) 4 := by
 have h1 := eK h;have h2 := bI (B := 4294967296) (by omega) (dg h)
 have h3 : Fit 4294967296 (wN xs) xs.length := by
  unfold Fit;rw [<- h1];exact h2
 exact h3.mono (by omega) (by rw [h.1]; exact hl)
/-- The number of a shift that came in. -/
def eS (N : Nat -> Bool × List Int × List Int) (j : Nat) : Rat := bV (N j).1 (N j).2.1 (N j).2.2
theorem jN {w : World} {g o m : Nat} {N : Nat -> Bool × List Int × List Int} (h : ShV w g o m N) (hn : ¬ sm m N) : ShP RatG w g o m (eS N) /\ ∀ j, j < 3 * m -> FitQ (eS N j) 4 := by
 have key : ∀ s k, s < m -> k < 3 -> Fit 4294967296 (wN (N (3 * s + k)).2.1) 4 /\ Fit 4294967296 (wN (N (3 * s + k)).2.2) 4 := fun s k hs hk => by
  obtain ⟨A, l, c, B, d, e, h0, h1, h2, h3, h4, h5⟩ := h s k hs hk;obtain ⟨A', l', c', B', d', e', i1, i2, i3, i4, i5, i6⟩ := h5;have hc : ¬ (4 < (N (3 * s + k)).2.1.length \/ 4 < (N (3 * s + k)).2.2.length) := fun q => hn ⟨3 * s + k, by omega, q⟩
  exact ⟨gV i2 (by have := i2.1; omega), gV i5 (by have := i5.1; omega)⟩
 refine ⟨fun s k hs hk => ?_, fun j hj => ?_⟩
 .
  obtain ⟨A, l, c, B, d, e, h0, h1, h2, h3, h4, h5⟩ := h s k hs hk;obtain ⟨k1, k2⟩ := key s k hs hk;exact ⟨_, A, l, c, B, d, e, h0, h1, h2, _, _, _, h5, ⟨⟨k1.mono (by omega) (by omega)⟩, ⟨k2.mono (by omega) (by omega)⟩⟩, rfl⟩
 .
  have e : j = 3 * (j / 3) + j % 3 := by omega
  rw [e];obtain ⟨k1, k2⟩ := key (j / 3) (j % 3) (by omega) (Nat.mod_lt _ (by omega));refine ia (ig _) k1 ?_;unfold wD;split
  .
   exact Fit.one (by omega) (by omega)
  .
   exact k2
theorem rL {m : Nat} {u : Nat -> Rat} (h : ∀ j, j < 3 * m -> FitQ (u j) 4) : dP m u 8 := fun j hj => (eZ (h j hj)).mono (by omega)
theorem uf : ((BB 4 : Nat) : Int) = 4294967296 ^ 4 := by
 unfold BB;rw [Int.natCast_pow];rfl
theorem rM {S : Nat} {u : Nat -> Rat} (_hS : S <= 4) (h : ∀ j, j < 3 * S -> FitQ (u j) 4) : ka (3 * S) u := o5 (by omega) (fun j hj => by
 obtain ⟨h1, h2⟩ := h j hj;unfold Fit at h1 h2;rw [<- uf] at h1 h2;exact ⟨Nat.le_of_lt (Int.ofNat_lt.1 h1), Nat.le_of_lt (Int.ofNat_lt.1 h2)⟩)
theorem nL {zs : List (Int × Int)} {k : Nat} {x y : Int} (h : zs[k]? = some (x, y)) : eM (zs.drop k) = if x = y then eM (zs.drop (k + 1)) else decide (x < y) := by
 have hk : k < zs.length := by
  rcases Nat.lt_or_ge k zs.length with h' | h'
  .
   exact h'
  .
   rw [List.getElem?_eq_none h'] at h; cases h
 rw [List.drop_eq_getElem_cons hk];have e : zs[k] = (x, y) := by rw [List.getElem?_eq_getElem hk] at h; injection h
 rw [e];rfl
theorem sR (gx gy k : Nat) (x y : Int) (t : Bool) (w : World) (x0 : w.cell? ⟨gx, k, none⟩ = some (.int .i64 (x))) (y0 : w.cell? ⟨gy, k, none⟩ = some (.int .i64 (y))) (_hk : k < 7) (_hk2 : (k : Int) < 7) (_ht : (x != y) = t) : aJ Try.prog Try.f153 6 9 59 w [50, 51, 52, 53, 54, 55, 56, 57, 58] [.c (.slice (some ⟨gx, 0, none⟩) 7 7), .c (.int .i64 (k : Int)), .c (.pointer (some ⟨gx, k, none⟩)), .c (.int .i64 (x)), .c (.slice (some ⟨gy, 0, none⟩) 7 7), .c (.int .i64 (k : Int)), .c (.pointer (some ⟨gy, k, none⟩)), .c (.int .i64 (y)), .c (.bool t)] [(5, .slice (some ⟨gx, 0, none⟩) 7 7), (6, .slice (some ⟨gy, 0, none⟩) 7 7), (7, .int .i64 (k : Int))] := by
 refine aM [[], [], [0, 1], [2], [], [], [4, 5], [6], [3, 7]] (by kernel_rfl) (by kernel_rfl) rfl trivial ?_;simp only [ae, Try.f153, ab, Option.bind_some, Nat.reduceBEq, if_true, if_false, Bool.false_eq_true, Option.getD_some];simp only [List.take_succ_cons, List.take_zero]
 repeat' first | refine ⟨?_, ?_⟩ | fail
 all_goals first | (intro us W b hJ K hK0 hK Qz; simp only [aF, am, ao, List.getD_cons_succ, List.getD_cons_zero]) | exact True.intro
 all_goals try (intros; have q0 := Ext.cell hJ x0; have q1 := Ext.cell hJ y0; go_simp; exact hK0 _ rfl)
theorem sS (gx gy k : Nat) (x y : Int) (t : Bool) (w : World) (x0 : w.cell? ⟨gx, k, none⟩ = some (.int .i64 (x))) (y0 : w.cell? ⟨gy, k, none⟩ = some (.int .i64 (y))) (_hk : k < 7) (_hk2 : (k : Int) < 7) (_ht : decide (x < y) = t) : aJ Try.prog Try.f153 7 10 68 w [59, 60, 61, 62, 63, 64, 65, 66, 67, 4] [.c (.slice (some ⟨gx, 0, none⟩) 7 7), .c (.int .i64 (k : Int)), .c (.pointer (some ⟨gx, k, none⟩)), .c (.int .i64 (x)), .c (.slice (some ⟨gy, 0, none⟩) 7 7), .c (.int .i64 (k : Int)), .c (.pointer (some ⟨gy, k, none⟩)), .c (.int .i64 (y)), .c (.bool t), .c (.bool t)] [(5, .slice (some ⟨gx, 0, none⟩) 7 7), (6, .slice (some ⟨gy, 0, none⟩) 7 7), (7, .int .i64 (k : Int))] := by
 refine aM [[], [], [0, 1], [2], [], [], [4, 5], [6], [3, 7], [8]] (by kernel_rfl) (by kernel_rfl) rfl trivial ?_;simp only [ae, Try.f153, ab, Option.bind_some, Nat.reduceBEq, if_true, if_false, Bool.false_eq_true, Option.getD_some];simp only [List.take_succ_cons, List.take_zero]
 repeat' first | refine ⟨?_, ?_⟩ | fail
 all_goals first | (intro us W b hJ K hK0 hK Qz; simp only [aF, am, ao, List.getD_cons_succ, List.getD_cons_zero]) | exact True.intro
 all_goals try (intros; have q0 := Ext.cell hJ x0; have q1 := Ext.cell hJ y0; go_simp; exact hK0 _ rfl)
theorem nM (a0 a1 a2 a3 a4 a5 a6 b0 b1 b2 b3 b4 b5 b6 : Int) (w : World) :
  Calls Try.prog 153 #[.agg #[.int .i64 (a0), .int .i64 (a1), .int .i64 (a2), .int .i64 (a3), .int .i64 (a4), .int .i64 (a5), .int .i64 (a6)], .agg #[.int .i64 (b0), .int .i64 (b1), .int .i64 (b2), .int .i64 (b3), .int .i64 (b4), .int .i64 (b5), .int .i64 (b6)]] w (fun e w' => e = .returned (.bool (qh ⟨a0, a1, a2, a3, a4, a5, a6⟩ ⟨b0, b1, b2, b3, b4, b5, b6⟩)) /\ Ext w w') := by
 have HX : Hid (Ext w ((w.alloc (.cells #[.int .i64 (a0), .int .i64 (a1), .int .i64 (a2), .int .i64 (a3), .int .i64 (a4), .int .i64 (a5), .int .i64 (a6)] 90)).alloc (.cells #[.int .i64 (b0), .int .i64 (b1), .int .i64 (b2), .int .i64 (b3), .int .i64 (b4), .int .i64 (b5), .int .i64 (b6)] 90))) := hid (((Ext.refl w).alloc _).alloc _);have kA : Blk ((w.alloc (.cells #[.int .i64 (a0), .int .i64 (a1), .int .i64 (a2), .int .i64 (a3), .int .i64 (a4), .int .i64 (a5), .int .i64 (a6)] 90)).alloc (.cells #[.int .i64 (b0), .int .i64 (b1), .int .i64 (b2), .int .i64 (b3), .int .i64 (b4), .int .i64 (b5), .int .i64 (b6)] 90)) w.heap.size 90 #[.int .i64 (a0), .int .i64 (a1), .int .i64 (a2), .int .i64 (a3), .int .i64 (a4), .int .i64 (a5), .int .i64 (a6)] := Blk.alloc (Blk.new w _ _) _;have kB : Blk ((w.alloc (.cells #[.int .i64 (a0), .int .i64 (a1), .int .i64 (a2), .int .i64 (a3), .int .i64 (a4), .int .i64 (a5), .int .i64 (a6)] 90)).alloc (.cells #[.int .i64 (b0), .int .i64 (b1), .int .i64 (b2), .int .i64 (b3), .int .i64 (b4), .int .i64 (b5), .int .i64 (b6)] 90)) (w.heap.size + 1) 90 #[.int .i64 (b0), .int .i64 (b1), .int .i64 (b2), .int .i64 (b3), .int .i64 (b4), .int .i64 (b5), .int .i64 (b6)] := Blk.at_ (by simp);obtain ⟨zs, hzs⟩ : ∃ zs : List (Int × Int), zs = [(a0, b0), (a1, b1), (a2, b2), (a3, b3), (a4, b4), (a5, b5), (a6, b6)] := ⟨_, rfl⟩;have HL : Hid (qh ⟨a0, a1, a2, a3, a4, a5, a6⟩ ⟨b0, b1, b2, b3, b4, b5, b6⟩ = eM zs) := hid (by rw [hzs]; rfl);have HZX : Hid (#[.int .i64 (a0), .int .i64 (a1), .int .i64 (a2), .int .i64 (a3), .int .i64 (a4), .int .i64 (a5), .int .i64 (a6)] = (zs.map fun z => Value.int .i64 z.1).toArray) := hid (by rw [hzs]; rfl);have HZY : Hid (#[.int .i64 (b0), .int .i64 (b1), .int .i64 (b2), .int .i64 (b3), .int .i64 (b4), .int .i64 (b5), .int .i64 (b6)] = (zs.map fun z => Value.int .i64 z.2).toArray) := hid (by rw [hzs]; rfl);have HZL : Hid (zs.length = 7) := hid (by rw [hzs]; rfl);clear hzs;go_enter Try.func153, Try.ntmps153
 go_upto_region 1 with (fail)
 generalize (w.alloc _).alloc _ = w1 at HX kA kB |-;have p0 := kA.cell 0;have p1 := kA.cell 1;have p2 := kA.cell 2;have p3 := kA.cell 3;have p4 := kA.cell 4;have p5 := kA.cell 5;have p6 := kA.cell 6;simp only [List.getElem?_toArray, List.getElem?_cons_zero, List.getElem?_cons_succ] at p0 p1 p2 p3 p4 p5 p6;have HB := hid kB;clear kA kB
 go_upto_region 2 with (fail)
 have hXa : Ext w1 (w1.alloc (.cells #[.int .i64 (a0), .int .i64 (a1), .int .i64 (a2), .int .i64 (a3), .int .i64 (a4), .int .i64 (a5), .int .i64 (a6)] 3)) := (Ext.refl _).alloc _;have HXB := hid (Blk.new w1 3 #[.int .i64 (a0), .int .i64 (a1), .int .i64 (a2), .int .i64 (a3), .int .i64 (a4), .int .i64 (a5), .int .i64 (a6)]);replace HX := hid (HX.out.trans hXa);replace HB := hid (HB.out.ext hXa);clear hXa p0 p1 p2 p3 p4 p5 p6;generalize w1.heap.size = gx at HXB |-;generalize w1.alloc _ = w2 at HX HB HXB |-;have q0 := HB.out.cell 0;have q1 := HB.out.cell 1;have q2 := HB.out.cell 2;have q3 := HB.out.cell 3;have q4 := HB.out.cell 4;have q5 := HB.out.cell 5;have q6 := HB.out.cell 6;simp only [List.getElem?_toArray, List.getElem?_cons_zero, List.getElem?_cons_succ] at q0 q1 q2 q3 q4 q5 q6
 go_upto_region 3 with (fail)
 have hXa : Ext w2 (w2.alloc (.cells #[.int .i64 (b0), .int .i64 (b1), .int .i64 (b2), .int .i64 (b3), .int .i64 (b4), .int .i64 (b5), .int .i64 (b6)] 3)) := (Ext.refl _).alloc _;have HYB := hid (Blk.new w2 3 #[.int .i64 (b0), .int .i64 (b1), .int .i64 (b2), .int .i64 (b3), .int .i64 (b4), .int .i64 (b5), .int .i64 (b6)]);replace HX := hid (HX.out.trans hXa);replace HXB := hid (HXB.out.ext hXa);clear hXa HB q0 q1 q2 q3 q4 q5 q6;generalize w2.heap.size = gy at HYB |-;generalize w2.alloc _ = w3 at HX HXB HYB |-;have HCX : Hid (∀ i z, zs[i]? = some z -> w3.cell? ⟨gx, i, none⟩ = some (.int .i64 z.1)) := hid (fun i z hz => (HXB.out.cell i).trans (by rw [HZX.out, List.getElem?_toArray, List.getElem?_map, hz]; rfl));have HCY : Hid (∀ i z, zs[i]? = some z -> w3.cell? ⟨gy, i, none⟩ = some (.int .i64 z.2)) := hid (fun i z hz => (HYB.out.cell i).trans (by rw [HZY.out, List.getElem?_toArray, List.getElem?_map, hz]; rfl));clear HXB HYB HZX HZY;have HX3 := hid (Ext.refl w3)
 go_wp2_with fail
 go_loopg [7] 7 (fun fu iv wr => ∃ k : Nat, fu = 7 - k /\ k <= 7 /\ iv = .int .i64 (k : Int) /\ Hid (eM zs = eM (zs.drop k)) /\ Hid (Ext w3 wr))
 case atStart => exact ⟨0, rfl, by omega, rfl, hid rfl, HX3⟩
 case round =>
  clear HX3;obtain ⟨k, rfl, hk, rfl, HD, HX3⟩ := hrel
  by_cases hlt : k < 7
  .
   have q1 : decide ((k : Int) < 7) = true := decide_eq_true (by omega);have q1b : decide (k < 7) = true := decide_eq_true hlt;obtain ⟨⟨x, y⟩, hz⟩ : ∃ z, zs[k]? = some z := ⟨_, List.getElem?_eq_getElem (by rw [HZL.out]; exact hlt)⟩;have x0 := Ext.cell HX3.out (HCX.out k _ hz);have y0 := Ext.cell HX3.out (HCY.out k _ hz);have HDR := hid (nL hz);clear hz;simp only at x0 y0;obtain ⟨t, ht⟩ : ∃ t, (x != y) = t := ⟨_, rfl⟩
   go_upto_region 6 with (fail)
   refine sR gx gy k x y t wr x0 y0 hlt (by omega) ht _ _ (by simp) ⟨rfl, rfl, rfl, trivial⟩ ?_;rintro W hX;simp only [EndK, ae, Try.f153, ab, Option.bind_some, Nat.reduceBEq, if_true, if_false, Bool.false_eq_true, Option.getD_some, List.drop_succ_cons, List.drop_zero];simp only [Act.put, List.setIfInBounds_toArray, List.set_cons_succ, List.set_cons_zero];replace HX3 := hid (HX3.out.trans hX);replace x0 := Ext.cell hX x0;replace y0 := Ext.cell hX y0;clear hX;have HT := hid ht;clear ht
   by_cases ht : t = true
   .
    subst ht;have hxy : x ≠ y := by simpa using HT.out
    have HE : Hid (eM zs = decide (x < y)) := hid (by rw [HD.out, HDR.out, if_neg hxy]);clear hxy HDR HD;obtain ⟨s, hs⟩ : ∃ s, decide (x < y) = s := ⟨_, rfl⟩
    go_upto_region 7 with (fail)
    refine sS gx gy k x y s W x0 y0 hlt (by omega) hs _ _ (by simp) ⟨rfl, rfl, rfl, trivial⟩ ?_;rintro W2 hX;simp only [EndK, ae, Try.f153, ab, Option.bind_some, Nat.reduceBEq, if_true, if_false, Bool.false_eq_true, Option.getD_some, List.drop_succ_cons, List.drop_zero];simp only [Act.put, List.setIfInBounds_toArray, List.set_cons_succ, List.set_cons_zero];replace HX3 := hid (HX3.out.trans hX);have HS := hid hs;clear hX hs x0 y0;go_wp2;go_ret;exact ⟨by rw [HL.out, HE.out, HS.out]; rfl, HX.out.trans HX3.out⟩
   .
    obtain rfl : t = false := by simpa using ht
    have hxy : x = y := by simpa using HT.out
    have HE : Hid (eM zs = eM (zs.drop (k + 1))) := hid (by rw [HD.out, HDR.out, if_pos hxy]);clear hxy HDR HD ht x0 y0;go_wp2;go_roundg (7 - (k + 1))
    case rel => exact ⟨k + 1, rfl, by omega, by go_num, HE, HX3⟩
    case measure => omega
  .
   obtain rfl : k = 7 := by omega
   have HE : Hid (eM zs = false) := hid (by rw [HD.out, List.drop_of_length_le (by rw [HZL.out]; omega)]; rfl);go_wp2;go_ret;exact ⟨by rw [HL.out, HE.out]; rfl, HX.out.trans HX3.out⟩
def aG (x y : Int) : Int := if x < y then -1 else if y < x then 1 else 0
/-- The first that is not 0. -/
def nN : List Int -> Int
 | [] => 0
 | x :: xs => if x = 0 then nN xs else x
theorem rN (l : List (Int × Int)) : decide (nN (l.map fun p => aG p.1 p.2) < 0) = eM l := by
 induction l with
 | nil => rfl
 | cons p l ih =>
  obtain ⟨x, y⟩ := p;simp only [List.map_cons, nN, eM]
  by_cases e : x = y
  .
   subst e;rw [if_pos (show aG x x = 0 by unfold aG; rw [if_neg (by omega), if_neg (by omega)]), if_pos rfl];exact ih
  .
   rw [if_neg e]
   by_cases h : x < y
   .
    have hc : aG x y = -1 := by unfold aG; rw [if_pos h]
    rw [hc, if_neg (by omega), decide_eq_true h];rfl
   .
    have hc : aG x y = 1 := by unfold aG; rw [if_neg h, if_pos (by omega)]
    rw [hc, if_neg (by omega), decide_eq_false h];rfl
theorem gW (x : Int) (w : World) : Calls Try.prog 212 #[.int .i64 x] w (fun e w' => e = .returned (.bool false) /\ Ext w w') := by
 have q : (x != x) = false := by simp
 go_enter Try.func212, Try.ntmps212;go_wp2;go_ret;exact ⟨rfl, Ext.refl _⟩
theorem b8 (x y : Int) (w : World) : Calls Try.prog 208 #[.int .i64 x, .int .i64 y] w (fun e w' => e = .returned (.int .i64 (aG x y)) /\ Ext w w') := by
 have HX := hid (Ext.refl w);go_enter Try.func208, Try.ntmps208
 go_wp2_with fail
 refine (gW x _).mono ?_;rintro e w2 ⟨rfl, hX⟩;replace HX := hid (HX.out.trans hX);clear hX
 go_wp2_with fail
 refine (gW y _).mono ?_;rintro e w3 ⟨rfl, hX⟩;replace HX := hid (HX.out.trans hX);clear hX
 by_cases h1 : x < y
 .
  have q1 : decide (x < y) = true := decide_eq_true h1;have HC : Hid (aG x y = -1) := hid (by unfold aG; rw [if_pos h1]);clear h1;go_wp2;go_ret;exact ⟨by rw [HC.out]; rfl, HX.out⟩
 .
  have q1 : decide (x < y) = false := decide_eq_false h1
  by_cases h2 : y < x
  .
   have q2 : decide (y < x) = true := decide_eq_true h2;have HC : Hid (aG x y = 1) := hid (by unfold aG; rw [if_neg h1, if_pos h2]);clear h1 h2;go_wp2;go_ret;exact ⟨by rw [HC.out]; rfl, HX.out⟩
  .
   have q2 : decide (y < x) = false := decide_eq_false h2;have HC : Hid (aG x y = 0) := hid (by unfold aG; rw [if_neg h1, if_neg h2]);clear h1 h2;go_wp2;go_ret;exact ⟨by rw [HC.out]; rfl, HX.out⟩
theorem sT (g n c : Nat) (zs : List Int) (w : World) (hn : zs.length = n) (_hn9 : n <= 100) (hc : ∀ i z, zs[i]? = some z -> w.cell? ⟨g, i, none⟩ = some (.int .i64 z)) :
  Calls Try.prog 207 #[.slice (some ⟨g, 0, none⟩) n c] w (fun e w' => e = .returned (.int .i64 (nN zs)) /\ Ext w w') := by
 have HC := hid hc;have HN := hid hn;clear hc hn;have HX := hid (Ext.refl w);go_enter Try.func207, Try.ntmps207
 go_wp2_with fail
 go_loopg [8] n (fun fu iv wr => ∃ k : Nat, fu = n - k /\ k <= n /\ iv = .int .i64 (k : Int) /\ Hid (nN zs = nN (zs.drop k)) /\ Hid (Ext w wr))
 case atStart => exact ⟨0, rfl, by omega, rfl, hid rfl, HX⟩
 case round =>
  clear HX;obtain ⟨k, rfl, hk, rfl, HD, HX⟩ := hrel
  by_cases hlt : k < n
  .
   have q1 : decide (k < n) = true := decide_eq_true hlt;have hkl : k < zs.length := by rw [HN.out]; exact hlt
   obtain ⟨z, hz⟩ : ∃ z, zs[k]? = some z := ⟨_, List.getElem?_eq_getElem hkl⟩;have x0 := Ext.cell HX.out (HC.out k z hz)
   have hdrop : nN (zs.drop k) = if z = 0 then nN (zs.drop (k + 1)) else z := by
    rw [List.drop_eq_getElem_cons hkl];have : zs[k] = z := by rw [List.getElem?_eq_getElem hkl] at hz; injection hz
    rw [this];rfl
   have HDR := hid hdrop;clear hdrop hz hkl
   by_cases h0 : z = 0
   .
    have q2 : (z != 0) = false := by simpa using h0
    have HE : Hid (nN zs = nN (zs.drop (k + 1))) := hid (by rw [HD.out, HDR.out, if_pos h0]);clear h0;go_wp2;go_roundg (n - (k + 1))
    case rel => exact ⟨k + 1, rfl, by omega, by go_num, HE, HX⟩
    case measure => omega
   .
    have q2 : (z != 0) = true := by simpa using h0
    have HE : Hid (nN zs = z) := hid (by rw [HD.out, HDR.out, if_neg h0]);clear h0;go_wp2;go_ret;exact ⟨by rw [HE.out]; rfl, HX.out⟩
  .
   obtain rfl : n = k := by omega
   have q1 : decide (n < n) = false := by simp
   have HE : Hid (nN zs = 0) := hid (by rw [HD.out, List.drop_of_length_le (by rw [HN.out]; omega)]; rfl);go_wp2;go_ret;exact ⟨by rw [HE.out]; rfl, HX.out⟩
theorem kH (ga gb : Nat) (va0 va1 va2 va3 va4 va5 va6 vb0 vb1 vb2 vb3 vb4 vb5 vb6 : Int) (w : World) (ca0 : w.cell? ⟨ga, 0, none⟩ = some (.int .i64 va0)) (ca1 : w.cell? ⟨ga, 1, none⟩ = some (.int .i64 va1)) (ca2 : w.cell? ⟨ga, 2, none⟩ = some (.int .i64 va2)) (ca3 : w.cell? ⟨ga, 3, none⟩ = some (.int .i64 va3)) (ca4 : w.cell? ⟨ga, 4, none⟩ = some (.int .i64 va4)) (ca5 : w.cell? ⟨ga, 5, none⟩ = some (.int .i64 va5)) (ca6 : w.cell? ⟨ga, 6, none⟩ = some (.int .i64 va6)) (cb0 : w.cell? ⟨gb, 0, none⟩ = some (.int .i64 vb0)) (cb1 : w.cell? ⟨gb, 1, none⟩ = some (.int .i64 vb1)) (cb2 : w.cell? ⟨gb, 2, none⟩ = some (.int .i64 vb2)) (cb3 : w.cell? ⟨gb, 3, none⟩ = some (.int .i64 vb3)) (cb4 : w.cell? ⟨gb, 4, none⟩ = some (.int .i64 vb4)) (cb5 : w.cell? ⟨gb, 5, none⟩ = some (.int .i64 vb5)) (cb6 : w.cell? ⟨gb, 6, none⟩ = some (.int .i64 vb6)) : aJ Try.prog Try.f191 1 43 48 w [5, 6, 7, 8, 9, 10, 11, 12, 13, 14, 15, 16, 17, 18, 19, 20, 21, 22, 23, 24, 25, 26, 27, 28, 29, 30, 31, 32, 33, 34, 35, 36, 37, 38, 39, 40, 41, 42, 43, 44, 45, 46, 47] [.c (.pointer (some ⟨ga, 0, none⟩)), .c (.int .i64 (va0)), .c (.pointer (some ⟨gb, 0, none⟩)), .c (.int .i64 (vb0)), .c (.int .i64 (aG va0 vb0)), .c (.pointer (some ⟨ga, 1, none⟩)), .c (.int .i64 (va1)), .c (.pointer (some ⟨gb, 1, none⟩)), .c (.int .i64 (vb1)), .c (.int .i64 (aG va1 vb1)), .c (.pointer (some ⟨ga, 2, none⟩)), .c (.pointer (some ⟨ga, 2, none⟩)), .c (.int .i64 (va2)), .c (.pointer (some ⟨gb, 2, none⟩)), .c (.pointer (some ⟨gb, 2, none⟩)), .c (.int .i64 (vb2)), .c (.int .i64 (aG va2 vb2)), .c (.pointer (some ⟨ga, 2, none⟩)), .c (.pointer (some ⟨ga, 3, none⟩)), .c (.int .i64 (va3)), .c (.pointer (some ⟨gb, 2, none⟩)), .c (.pointer (some ⟨gb, 3, none⟩)), .c (.int .i64 (vb3)), .c (.int .i64 (aG va3 vb3)), .c (.pointer (some ⟨ga, 2, none⟩)), .c (.pointer (some ⟨ga, 4, none⟩)), .c (.int .i64 (va4)), .c (.pointer (some ⟨gb, 2, none⟩)), .c (.pointer (some ⟨gb, 4, none⟩)), .c (.int .i64 (vb4)), .c (.int .i64 (aG va4 vb4)), .c (.pointer (some ⟨ga, 5, none⟩)), .c (.int .i64 (va5)), .c (.pointer (some ⟨gb, 5, none⟩)), .c (.int .i64 (vb5)), .c (.int .i64 (aG va5 vb5)), .c (.pointer (some ⟨ga, 6, none⟩)), .c (.int .i64 (va6)), .c (.pointer (some ⟨gb, 6, none⟩)), .c (.int .i64 (vb6)), .c (.int .i64 (aG va6 vb6)), .p fun v W => ∃ g, v = .slice (some ⟨g, 0, none⟩) 7 7 /\ Blk W g 3 (([aG va0 vb0, aG va1 vb1, aG va2 vb2, aG va3 vb3, aG va4 vb4, aG va5 vb5, aG va6 vb6] : List Int).map fun z => Value.int .i64 z).toArray, .c (.int .i64 (nN [aG va0 vb0, aG va1 vb1, aG va2 vb2, aG va3 vb3, aG va4 vb4, aG va5 vb5, aG va6 vb6]))] [(2, .pointer (some ⟨ga, 0, none⟩)), (3, .pointer (some ⟨gb, 0, none⟩))] := by
 refine aM [[], [0], [], [2], [1, 3], [], [5], [], [7], [6, 8], [], [10], [11], [], [13], [14], [12, 15], [], [17], [18], [], [20], [21], [19, 22], [], [24], [25], [], [27], [28], [26, 29], [], [31], [], [33], [32, 34], [], [36], [], [38], [37, 39], [4, 9, 16, 23, 30, 35, 40], [41]] (by kernel_rfl) (by kernel_rfl) rfl ⟨by intro v W W' h hX; exact h.elim fun g h => ⟨g, h.1, h.2.ext hX⟩, trivial⟩ ?_;simp only [ae, Try.f191, ab, Option.bind_some, Nat.reduceBEq, if_true, if_false, Bool.false_eq_true, Option.getD_some];simp only [List.take_succ_cons, List.take_zero]
 repeat' first | refine ⟨?_, ?_⟩ | fail
 all_goals first | (intro us W b hJ K hK0 hK Qz; simp only [aF, am, ao, List.getD_cons_succ, List.getD_cons_zero]) | exact True.intro
 all_goals try (intros; have q0 := Ext.cell hJ ca0; have q1 := Ext.cell hJ cb0; have q2 := Ext.cell hJ ca1; have q3 := Ext.cell hJ cb1; have q4 := Ext.cell hJ ca2; have q5 := Ext.cell hJ cb2; have q6 := Ext.cell hJ ca3; have q7 := Ext.cell hJ cb3; have q8 := Ext.cell hJ ca4; have q9 := Ext.cell hJ cb4; have q10 := Ext.cell hJ ca5; have q11 := Ext.cell hJ cb5; have q12 := Ext.cell hJ ca6; have q13 := Ext.cell hJ cb6; go_simp; exact hK0 _ rfl)
 .
  intro e6 e8 e2 e3;go_simp;refine (b8 va0 vb0 _).mono ?_;rintro e w' ⟨rfl, hX⟩;exact hK _ _ rfl hX
 .
  intro e11 e13 e2 e3;go_simp;refine (b8 va1 vb1 _).mono ?_;rintro e w' ⟨rfl, hX⟩;exact hK _ _ rfl hX
 .
  intro e17 e20 e2 e3;go_simp;refine (b8 va2 vb2 _).mono ?_;rintro e w' ⟨rfl, hX⟩;exact hK _ _ rfl hX
 .
  intro e24 e27 e2 e3;go_simp;refine (b8 va3 vb3 _).mono ?_;rintro e w' ⟨rfl, hX⟩;exact hK _ _ rfl hX
 .
  intro e31 e34 e2 e3;go_simp;refine (b8 va4 vb4 _).mono ?_;rintro e w' ⟨rfl, hX⟩;exact hK _ _ rfl hX
 .
  intro e37 e39 e2 e3;go_simp;refine (b8 va5 vb5 _).mono ?_;rintro e w' ⟨rfl, hX⟩;exact hK _ _ rfl hX
 .
  intro e42 e44 e2 e3;go_simp;refine (b8 va6 vb6 _).mono ?_;rintro e w' ⟨rfl, hX⟩;exact hK _ _ rfl hX
 .
  intro e9 e14 e21 e28 e35 e40 e45 e2 e3;have hX := (Ext.refl W).alloc (.cells #[.int .i64 (aG va0 vb0), .int .i64 (aG va1 vb1), .int .i64 (aG va2 vb2), .int .i64 (aG va3 vb3), .int .i64 (aG va4 vb4), .int .i64 (aG va5 vb5), .int .i64 (aG va6 vb6)] 3);have hn := Blk.new W 3 #[.int .i64 (aG va0 vb0), .int .i64 (aG va1 vb1), .int .i64 (aG va2 vb2), .int .i64 (aG va3 vb3), .int .i64 (aG va4 vb4), .int .i64 (aG va5 vb5), .int .i64 (aG va6 vb6)];go_simp;exact hK _ _ ⟨_, rfl, hn⟩ hX
 .
  intro e46 d41 e2 e3;obtain ⟨g, hv, hB⟩ := d41;rw [hv] at e46;go_simp;refine (sT g 7 7 [aG va0 vb0, aG va1 vb1, aG va2 vb2, aG va3 vb3, aG va4 vb4, aG va5 vb5, aG va6 vb6] W rfl (by omega) (fun i z hz => (hB.cell i).trans (by rw [List.getElem?_toArray, List.getElem?_map, hz]; rfl))).mono ?_;rintro e w' ⟨rfl, hX⟩;exact hK _ _ rfl hX
theorem nO (va0 va1 va2 va3 va4 va5 va6 vb0 vb1 vb2 vb3 vb4 vb5 vb6 : Int) (w : World) :
  Calls Try.prog 191 #[.agg #[.int .i64 (va0), .int .i64 (va1), .int .i64 (va2), .int .i64 (va3), .int .i64 (va4), .int .i64 (va5), .int .i64 (va6)], .agg #[.int .i64 (vb0), .int .i64 (vb1), .int .i64 (vb2), .int .i64 (vb3), .int .i64 (vb4), .int .i64 (vb5), .int .i64 (vb6)]] w (fun e w' => ∃ r : Int, e = .returned (.int .i64 r) /\ decide (r < 0) = qh ⟨va0, va1, va2, va3, va4, va5, va6⟩ ⟨vb0, vb1, vb2, vb3, vb4, vb5, vb6⟩ /\ Ext w w') := by
 have hXe : Ext w ((w.alloc (.cells #[.int .i64 (va0), .int .i64 (va1), .int .i64 (va2), .int .i64 (va3), .int .i64 (va4), .int .i64 (va5), .int .i64 (va6)] 90)).alloc (.cells #[.int .i64 (vb0), .int .i64 (vb1), .int .i64 (vb2), .int .i64 (vb3), .int .i64 (vb4), .int .i64 (vb5), .int .i64 (vb6)] 90)) := ((Ext.refl w).alloc _).alloc _;have kA : Blk ((w.alloc (.cells #[.int .i64 (va0), .int .i64 (va1), .int .i64 (va2), .int .i64 (va3), .int .i64 (va4), .int .i64 (va5), .int .i64 (va6)] 90)).alloc (.cells #[.int .i64 (vb0), .int .i64 (vb1), .int .i64 (vb2), .int .i64 (vb3), .int .i64 (vb4), .int .i64 (vb5), .int .i64 (vb6)] 90)) w.heap.size 90 #[.int .i64 (va0), .int .i64 (va1), .int .i64 (va2), .int .i64 (va3), .int .i64 (va4), .int .i64 (va5), .int .i64 (va6)] := Blk.alloc (Blk.new w _ _) _;have kB : Blk ((w.alloc (.cells #[.int .i64 (va0), .int .i64 (va1), .int .i64 (va2), .int .i64 (va3), .int .i64 (va4), .int .i64 (va5), .int .i64 (va6)] 90)).alloc (.cells #[.int .i64 (vb0), .int .i64 (vb1), .int .i64 (vb2), .int .i64 (vb3), .int .i64 (vb4), .int .i64 (vb5), .int .i64 (vb6)] 90)) (w.heap.size + 1) 90 #[.int .i64 (vb0), .int .i64 (vb1), .int .i64 (vb2), .int .i64 (vb3), .int .i64 (vb4), .int .i64 (vb5), .int .i64 (vb6)] := Blk.at_ (by simp);go_enter Try.func191, Try.ntmps191
 go_upto_region 1 with (fail)
 generalize (w.alloc _).alloc _ = w1 at hXe kA kB |-;refine kH w.heap.size (w.heap.size + 1) va0 va1 va2 va3 va4 va5 va6 vb0 vb1 vb2 vb3 vb4 vb5 vb6 w1 (kA.cell 0) (kA.cell 1) (kA.cell 2) (kA.cell 3) (kA.cell 4) (kA.cell 5) (kA.cell 6) (kB.cell 0) (kB.cell 1) (kB.cell 2) (kB.cell 3) (kB.cell 4) (kB.cell 5) (kB.cell 6) _ _ (by simp) ⟨rfl, rfl, trivial⟩ ?_;rintro W hX xv41 _;simp only [EndK, ae, Try.f191, ab, Option.bind_some, Nat.reduceBEq, if_true, if_false, Bool.false_eq_true, Option.getD_some, List.drop_succ_cons, List.drop_zero];simp only [Act.put, List.setIfInBounds_toArray, List.set_cons_succ, List.set_cons_zero];replace hXe := hXe.trans hX;clear kA kB hX;have HX := hid hXe;clear hXe;go_wp2;go_ret;exact ⟨_, rfl, rN [(va0, vb0), (va1, vb1), (va2, vb2), (va3, vb3), (va4, vb4), (va5, vb5), (va6, vb6)], HX.out⟩
theorem RowN.make3 {P : World -> Value -> Rat -> Prop} {te : TypeId} {base g n : Nat} {w : World} {us : List Value} (ho : w.ownsRow base te 3 (.slice (some ⟨g, 0, none⟩) n n) n us) (h1 : ∀ i, i < n * 3 -> us[i]? = (Value.agg #[.bool false, .slice none 0 0, .slice none 0 0]).cells[i % 3]?) (h2 : ∀ u ∈ us, u ∈ (Value.agg #[.bool false, .slice none 0 0, .slice none 0 0]).cells) : RowN P te 3 base w g n n n (fun _ => none) :=
 RowN.zero rfl ho h1 h2 (fun u hu => by
  simp [Value.cells] at hu
  rcases hu with rfl | rfl
  all_goals first | exact aj _ | exact ag _ _ _) ⟨1, rfl⟩ (fun i hi => by
  match i, hi with
  | 0, _ => rfl
  | 1, _ => rfl
  | 2, _ => rfl
  | _ + 3, hi => omega) (by omega)
theorem NumX.past {w : World} {v : Value} {q : Rat} {K g : Nat} (h : NumX w v q K) (hN : NoInts w g) {b : Bool} {A1 A2 : Option Addr} {l1 c1 l2 c2 : Nat} : NumX (((w.setCell ⟨g, 0, none⟩ (.bool b)).setCell ⟨g, 1, none⟩ (.slice A1 l1 c1)).setCell ⟨g, 2, none⟩ (.slice A2 l2 c2)) v q K :=
 h.keepsNI ((((Keeps.refl [g] w).setCell (.inl (by simp)) _).setCell (.inl (by simp)) _).setCell (.inl (by simp)) _) (fun k hk => by simp at hk; subst hk; exact hN)
theorem rO (gm gt ot S ct : Nat) (ma mb mx my mz md mw : Int) (un : Nat -> Rat) (w : World) (v0 : w.cell? ⟨gm, 0, none⟩ = some (.int .i64 (ma))) (v1 : w.cell? ⟨gm, 1, none⟩ = some (.int .i64 (mb))) (v2 : w.cell? ⟨gm, 2, none⟩ = some (.int .i64 (mx))) (v3 : w.cell? ⟨gm, 3, none⟩ = some (.int .i64 (my))) (v4 : w.cell? ⟨gm, 4, none⟩ = some (.int .i64 (mz))) (v5 : w.cell? ⟨gm, 5, none⟩ = some (.int .i64 (md))) (v6 : w.cell? ⟨gm, 6, none⟩ = some (.int .i64 (mw))) (hS : ShP (fun w v q => NumX w v q 256) w gt ot S un) (hm : VM S ⟨ma, mb, mx, my, mz, md, mw⟩) (_hw1 : 1 <= mw) (_hw2 : mw <= 1000) (a : Act) (Q : Exit -> Act -> World -> Prop) (hsize : 40 <= a.tmps.size)
  (s0 : a.tmps[0]? = some (.slice (some ⟨gt, ot, none⟩) S ct))
  (s8 : a.tmps[8]? = some (.pointer (some ⟨gm, 0, none⟩)))
  (hend : ∀ (xv0 xv1 xv2 xv3 xv4 xv5 xv6 xv7 xv8 : Value) (W : World), (xv0 = .pointer (some ⟨gm, 6, none⟩)) -> (xv1 = .int .i64 (mw)) -> (xv3 = .slice (some ⟨gt, ot, none⟩) S ct) -> (xv4 = .agg #[.int .i64 (ma), .int .i64 (mb), .int .i64 (mx), .int .i64 (my), .int .i64 (mz), .int .i64 (md), .int .i64 (mw)]) -> (NumX W xv2 ((mw : Int) : Rat) 2) -> (NumX W xv5 (cN (3 * S) ⟨ma, mb, mx, my, mz, md, mw⟩ un) 1550) -> (NumX W xv6 (((mw : Int) : Rat) * cN (3 * S) ⟨ma, mb, mx, my, mz, md, mw⟩ un) 1552) -> (∃ g, xv7 = .pointer (some ⟨g, 0, none⟩) /\ w.heap.size <= g /\ Blk W g 217 (jh xv6)) -> Ext w W -> wpList Try.prog (ae Try.f137 10).toArray Q [] (((((((((a.put (some 33) xv0).put (some 34) xv1).put (some 35) xv2).put (some 36) xv3).put (some 37) xv4).put (some 38) xv5).put (some 39) xv6).put (some 9) xv7).put (none) xv8) W) :
  (Code.region 10 (ae Try.f137 10).toArray true).wp Try.prog Q a w := by
 have hsz : ∀ d, some d ∈ ([some 33, some 34, some 35, some 36, some 37, some 38, some 39, some 9, none] : List (Option Tmp)) -> d < a.tmps.size := cw (by decide) hsize;refine dC 9 [some 33, some 34, some 35, some 36, some 37, some 38, some 39, some 9, none] [[], [0], [1], [], [], [3, 4], [2, 5], [], [6, 7]] [[], [], [], [], [], [], [8], [8], []] (fun (done : Nat -> Prop) (us : Nat -> Value) (W : World) => Ext w W /\ (done 0 -> us 0 = .pointer (some ⟨gm, 6, none⟩)) /\ (done 1 -> us 1 = .int .i64 (mw)) /\ (done 3 -> us 3 = .slice (some ⟨gt, ot, none⟩) S ct) /\ (done 4 -> us 4 = .agg #[.int .i64 (ma), .int .i64 (mb), .int .i64 (mx), .int .i64 (my), .int .i64 (mz), .int .i64 (md), .int .i64 (mw)]) /\ (done 2 -> NumX W (us 2) ((mw : Int) : Rat) 2) /\ (done 5 -> NumX W (us 5) (cN (3 * S) ⟨ma, mb, mx, my, mz, md, mw⟩ un) 1550) /\ (done 6 -> NumX W (us 6) (((mw : Int) : Rat) * cN (3 * S) ⟨ma, mb, mx, my, mz, md, mw⟩ un) 1552) /\ Loc w W 217 #[.bool false, .slice none 0 0, .slice none 0 0] (jh (us 6)) (done 7) (done 8) (us 7)) (by kernel_rfl) (by kernel_rfl) hsz (fun p q us W h => by have e : p = q := funext fun k => propext (h k); rw [e]; exact id) (fun us => ⟨(Ext.refl w).drew, fun h => h.elim, fun h => h.elim, fun h => h.elim, fun h => h.elim, fun h => h.elim, fun h => h.elim, fun h => h.elim, Loc.unmade id⟩) ?_ ?_
 .
  clear hend;simp only [ae, Try.f137, ab, Option.bind_some, Nat.reduceBEq, if_true, if_false, Bool.false_eq_true, Option.getD_some];simp only [List.take_succ_cons, List.take_zero];refine ⟨?_, ?_, ?_, ?_, ?_, ?_, ?_, ?_, ?_, trivial⟩
  .
   intro done us W hJ hdep haft hnot b hb hb' K hK Q';obtain ⟨hX0, cc0, cc1, cc3, cc4, pp2, pp5, pp6, ll7⟩ := hJ;have e8 := (hb' 8 (by simp)).trans s8;clear hb hb';have hfin := hK (.pointer (some ⟨gm, 6, none⟩)) _ ⟨hX0, fun _ => rfl, fun h => cc1 (h.resolve_right (by decide)), fun h => cc3 (h.resolve_right (by decide)), fun h => cc4 (h.resolve_right (by decide)), fun h => pp2 (h.resolve_right (by decide)), fun h => pp5 (h.resolve_right (by decide)), fun h => pp6 (h.resolve_right (by decide)), Loc.same ll7 ⟨fun h => h.resolve_right (by decide), .inl⟩ ⟨fun h => h.resolve_right (by decide), .inl⟩⟩;clear hK cc0 cc1 cc3 cc4 pp2 pp5 pp6 ll7;go_simp;exact hfin
  .
   intro done us W hJ hdep haft hnot b hb hb' K hK Q';obtain ⟨hX0, cc0, cc1, cc3, cc4, pp2, pp5, pp6, ll7⟩ := hJ;simp only [List.getD_cons_succ, List.getD_cons_zero, List.mem_cons, List.not_mem_nil, or_false, forall_eq] at hdep;have e33 := hb 0 33 rfl;rw [cc0 hdep] at e33;clear hb hb';have z0 := Ext.cell hX0 v6;have hfin := hK (.int .i64 (mw)) _ ⟨hX0, fun h => cc0 (h.resolve_right (by decide)), fun _ => rfl, fun h => cc3 (h.resolve_right (by decide)), fun h => cc4 (h.resolve_right (by decide)), fun h => pp2 (h.resolve_right (by decide)), fun h => pp5 (h.resolve_right (by decide)), fun h => pp6 (h.resolve_right (by decide)), Loc.same ll7 ⟨fun h => h.resolve_right (by decide), .inl⟩ ⟨fun h => h.resolve_right (by decide), .inl⟩⟩;clear hK cc0 cc1 cc3 cc4 pp2 pp5 pp6 ll7;go_simp;exact hfin
  .
   intro done us W hJ hdep haft hnot b hb hb' K hK Q';obtain ⟨hX0, cc0, cc1, cc3, cc4, pp2, pp5, pp6, ll7⟩ := hJ;simp only [List.getD_cons_succ, List.getD_cons_zero, List.mem_cons, List.not_mem_nil, or_false, forall_eq] at hdep;have e34 := hb 1 34 rfl;rw [cc1 hdep] at e34;clear hb hb';go_simp;refine (fG mw W (by omega) (by omega)).mono ?_;rintro e w' ⟨v, rfl, hv, hX⟩;exact hK _ _ ⟨Ext.trans hX0 hX, fun h => cc0 (h.resolve_right (by decide)), fun h => cc1 (h.resolve_right (by decide)), fun h => cc3 (h.resolve_right (by decide)), fun h => cc4 (h.resolve_right (by decide)), fun _ => hv, fun h => NumX.ext (pp5 (h.resolve_right (by decide))) hX, fun h => NumX.ext (pp6 (h.resolve_right (by decide))) hX, Loc.same (ll7.ext hX) ⟨fun h => h.resolve_right (by decide), .inl⟩ ⟨fun h => h.resolve_right (by decide), .inl⟩⟩
  .
   intro done us W hJ hdep haft hnot b hb hb' K hK Q';obtain ⟨hX0, cc0, cc1, cc3, cc4, pp2, pp5, pp6, ll7⟩ := hJ;have e0 := (hb' 0 (by simp)).trans s0;clear hb hb';have hfin := hK (.slice (some ⟨gt, ot, none⟩) S ct) _ ⟨hX0, fun h => cc0 (h.resolve_right (by decide)), fun h => cc1 (h.resolve_right (by decide)), fun _ => rfl, fun h => cc4 (h.resolve_right (by decide)), fun h => pp2 (h.resolve_right (by decide)), fun h => pp5 (h.resolve_right (by decide)), fun h => pp6 (h.resolve_right (by decide)), Loc.same ll7 ⟨fun h => h.resolve_right (by decide), .inl⟩ ⟨fun h => h.resolve_right (by decide), .inl⟩⟩;clear hK cc0 cc1 cc3 cc4 pp2 pp5 pp6 ll7;go_simp;exact hfin
  .
   intro done us W hJ hdep haft hnot b hb hb' K hK Q';obtain ⟨hX0, cc0, cc1, cc3, cc4, pp2, pp5, pp6, ll7⟩ := hJ;have e8 := (hb' 8 (by simp)).trans s8;clear hb hb';have z0 := Ext.cell hX0 v0;have z1 := Ext.cell hX0 v1;have z2 := Ext.cell hX0 v2;have z3 := Ext.cell hX0 v3;have z4 := Ext.cell hX0 v4;have z5 := Ext.cell hX0 v5;have z6 := Ext.cell hX0 v6;have hfin := hK (.agg #[.int .i64 (ma), .int .i64 (mb), .int .i64 (mx), .int .i64 (my), .int .i64 (mz), .int .i64 (md), .int .i64 (mw)]) _ ⟨hX0, fun h => cc0 (h.resolve_right (by decide)), fun h => cc1 (h.resolve_right (by decide)), fun h => cc3 (h.resolve_right (by decide)), fun _ => rfl, fun h => pp2 (h.resolve_right (by decide)), fun h => pp5 (h.resolve_right (by decide)), fun h => pp6 (h.resolve_right (by decide)), Loc.same ll7 ⟨fun h => h.resolve_right (by decide), .inl⟩ ⟨fun h => h.resolve_right (by decide), .inl⟩⟩;clear hK cc0 cc1 cc3 cc4 pp2 pp5 pp6 ll7;go_simp;exact hfin
  .
   intro done us W hJ hdep haft hnot b hb hb' K hK Q';obtain ⟨hX0, cc0, cc1, cc3, cc4, pp2, pp5, pp6, ll7⟩ := hJ;simp only [List.getD_cons_succ, List.getD_cons_zero, List.mem_cons, List.not_mem_nil, or_false, forall_eq_or_imp, forall_eq] at hdep;have e36 := hb 3 36 rfl;rw [cc3 hdep.1] at e36;have e37 := hb 4 37 rfl;rw [cc4 hdep.2] at e37;clear hb hb';go_simp;refine (eu (m := ⟨ma, mb, mx, my, mz, md, mw⟩) (hS.ext (bm 256) hX0) hm (by omega)).mono ?_;rintro e w' ⟨v, rfl, hv, hX⟩;exact hK _ _ ⟨Ext.trans hX0 hX, fun h => cc0 (h.resolve_right (by decide)), fun h => cc1 (h.resolve_right (by decide)), fun h => cc3 (h.resolve_right (by decide)), fun h => cc4 (h.resolve_right (by decide)), fun h => NumX.ext (pp2 (h.resolve_right (by decide))) hX, fun _ => hv, fun h => NumX.ext (pp6 (h.resolve_right (by decide))) hX, Loc.same (ll7.ext hX) ⟨fun h => h.resolve_right (by decide), .inl⟩ ⟨fun h => h.resolve_right (by decide), .inl⟩⟩
  .
   intro done us W hJ hdep haft hnot b hb hb' K hK Q';obtain ⟨hX0, cc0, cc1, cc3, cc4, pp2, pp5, pp6, ll7⟩ := hJ;simp only [List.getD_cons_succ, List.getD_cons_zero, List.mem_cons, List.not_mem_nil, or_false, forall_eq_or_imp, forall_eq] at hdep;simp only [List.getD_cons_succ, List.getD_cons_zero, List.mem_cons, List.not_mem_nil, or_false, forall_eq] at haft;have e35 := hb 2 35 rfl;have e38 := hb 5 38 rfl;clear hb hb';go_simp;refine (mG (pp2 hdep.1) (pp5 hdep.2) (by omega) (by omega)).mono ?_;rintro e w' ⟨v, rfl, hv, hX⟩;exact hK _ _ ⟨Ext.trans hX0 hX, fun h => cc0 (h.resolve_right (by decide)), fun h => cc1 (h.resolve_right (by decide)), fun h => cc3 (h.resolve_right (by decide)), fun h => cc4 (h.resolve_right (by decide)), fun h => NumX.ext (pp2 (h.resolve_right (by decide))) hX, fun h => NumX.ext (pp5 (h.resolve_right (by decide))) hX, fun _ => hv, Loc.same (Loc.revs (ll7.ext hX) haft) ⟨fun h => h.resolve_right (by decide), .inl⟩ ⟨fun h => h.resolve_right (by decide), .inl⟩⟩
  .
   intro done us W hJ hdep haft hnot b hb hb' K hK Q';obtain ⟨hX0, cc0, cc1, cc3, cc4, pp2, pp5, pp6, ll7⟩ := hJ;simp only [List.getD_cons_succ, List.getD_cons_zero, List.mem_cons, List.not_mem_nil, or_false, forall_eq] at haft;clear hb hb';have hfin := hK _ _ ⟨hX0.alloc _, fun h => cc0 (h.resolve_right (by decide)), fun h => cc1 (h.resolve_right (by decide)), fun h => cc3 (h.resolve_right (by decide)), fun h => cc4 (h.resolve_right (by decide)), fun h => NumX.ext (pp2 (h.resolve_right (by decide))) ((Ext.refl _).alloc _), fun h => NumX.ext (pp5 (h.resolve_right (by decide))) ((Ext.refl _).alloc _), fun h => NumX.ext (pp6 (h.resolve_right (by decide))) ((Ext.refl _).alloc _), Loc.new w W hX0 (fun h => h.elim haft (by decide)) (Ext.refl _)⟩;clear hK hX0 cc0 cc1 cc3 cc4 pp2 pp5 pp6 ll7;go_simp;exact hfin
  .
   intro done us W hJ hdep haft hnot b hb hb' K hK Q';obtain ⟨hX0, cc0, cc1, cc3, cc4, pp2, pp5, pp6, ll7⟩ := hJ;simp only [List.getD_cons_succ, List.getD_cons_zero, List.mem_cons, List.not_mem_nil, or_false, forall_eq_or_imp, forall_eq] at hdep;have e9 := hb 7 9 rfl;have e39 := hb 6 39 rfl;obtain ⟨g, eg, hg, hB⟩ := ll7.stored hdep.2 hnot;rw [eg] at e9;have q0 : W.cell? ⟨g, 0, none⟩ = some (.bool false) := hB.cell 0;have z0 : W.frozen? ⟨g, 0, none⟩ = false := hB.free 0;have q1 : W.cell? ⟨g, 1, none⟩ = some (.slice none 0 0) := hB.cell 1;have z1 : W.frozen? ⟨g, 1, none⟩ = false := hB.free 1;have q2 : W.cell? ⟨g, 2, none⟩ = some (.slice none 0 0) := hB.cell 2;have z2 : W.frozen? ⟨g, 2, none⟩ = false := hB.free 2;clear hb hb';obtain ⟨s9, A9, l9, c9, B9, m9, k9, hu⟩ := NumX.open (pp6 hdep.1);rw [hu] at e39;have hN := NoInts.three hB;have hfin := hK undef _ ⟨(((hX0.setCell hg _).setCell hg _).setCell hg _), fun h => cc0 (h.resolve_right (by decide)), fun h => cc1 (h.resolve_right (by decide)), fun h => cc3 (h.resolve_right (by decide)), fun h => cc4 (h.resolve_right (by decide)), fun h => NumX.past (pp2 (h.resolve_right (by decide))) hN, fun h => NumX.past (pp5 (h.resolve_right (by decide))) hN, fun h => NumX.past (pp6 (h.resolve_right (by decide))) hN, ⟨fun _ => ⟨g, eg, hg, fun _ => (Blk.put3 hB hu), fun h => absurd (.inr rfl) h⟩⟩⟩;clear hK hX0 cc0 cc1 cc3 cc4 pp2 pp5 pp6 ll7;go_simp;exact hfin
 .
  intro us W hJ;obtain ⟨hX0, cc0, cc1, cc3, cc4, pp2, pp5, pp6, ll7⟩ := hJ;rw [show (ae Try.f137 10).drop 9 = [] by kernel_rfl];exact hend (us 0) (us 1) (us 2) (us 3) (us 4) (us 5) (us 6) (us 7) (us 8) W (cc0 (show 0 < 9 by decide)) (cc1 (show 1 < 9 by decide)) (cc3 (show 3 < 9 by decide)) (cc4 (show 4 < 9 by decide)) (pp2 (show 2 < 9 by decide)) (pp5 (show 5 < 9 by decide)) (pp6 (show 6 < 9 by decide)) (ll7.done (show 7 < 9 by decide) (show 8 < 9 by decide)) hX0
theorem rP (go nn jj gr : Nat) (cc : Int) (q r : Rat) (se : Bool) (Ae Be : Option Addr) (le ce me ke : Nat) (st : Bool) (At Bt : Option Addr) (lt ct mt kt : Nat) (w : World) (x0 : w.cell? ⟨go, jj * 3, none⟩ = some (.bool se)) (x1 : w.cell? ⟨go, jj * 3 + 1, none⟩ = some (.slice Ae le ce)) (x2 : w.cell? ⟨go, jj * 3 + 2, none⟩ = some (.slice Be me ke)) (y0 : w.cell? ⟨gr, 0, none⟩ = some (.bool st)) (y1 : w.cell? ⟨gr, 1, none⟩ = some (.slice At lt ct)) (y2 : w.cell? ⟨gr, 2, none⟩ = some (.slice Bt mt kt)) (hx : NumX w (.agg #[.bool se, .slice Ae le ce, .slice Be me ke]) q 57) (hr : NumX w (.agg #[.bool st, .slice At lt ct, .slice Bt mt kt]) r 1552) (_hjn : jj < nn) (_hc1 : -100 <= cc) (_hc2 : cc <= 100) : aJ Try.prog Try.f137 15 13 64 w [51, 52, 53, 54, 55, 56, 57, 58, 59, 60, 61, 62, 63] [.c (.slice (some ⟨go, 0, none⟩) nn nn), .c (.int .i64 (jj : Int)), .c (.slice (some ⟨go, 0, none⟩) nn nn), .c (.int .i64 (jj : Int)), .c (.pointer (some ⟨go, jj * 3, none⟩)), .c (.agg #[.bool se, .slice Ae le ce, .slice Be me ke]), .c (.int .i64 (cc)), .p fun v W => NumX W v (((cc : Int) : Rat)) (2), .c (.agg #[.bool st, .slice At lt ct, .slice Bt mt kt]), .p fun v W => NumX W v (((cc : Int) : Rat) * r) (2 + 1552), .p fun v W => NumX W v (q + ((cc : Int) : Rat) * r) (57 + (2 + 1552) + 1), .p fun v W => NumQ W v (q + ((cc : Int) : Rat) * r), .c (.pointer (some ⟨go, jj * 3, none⟩))] [(5, .slice (some ⟨go, 0, none⟩) nn nn), (9, .pointer (some ⟨gr, 0, none⟩)), (10, .int .i64 (jj : Int)), (11, .int .i64 (cc))] := by
 refine aM [[], [], [], [], [2, 3], [4], [], [6], [], [7, 8], [5, 9], [10], [0, 1]] (by kernel_rfl) (by kernel_rfl) rfl ⟨by intro v W W' h hX; exact NumX.ext h hX, by intro v W W' h hX; exact NumX.ext h hX, by intro v W W' h hX; exact NumX.ext h hX, by intro v W W' h hX; exact NumQ.ext h hX, trivial⟩ ?_;simp only [ae, Try.f137, ab, Option.bind_some, Nat.reduceBEq, if_true, if_false, Bool.false_eq_true, Option.getD_some];simp only [List.take_succ_cons, List.take_zero]
 repeat' first | refine ⟨?_, ?_⟩ | fail
 all_goals first | (intro us W b hJ K hK0 hK Qz; simp only [aF, am, ao, List.getD_cons_succ, List.getD_cons_zero]) | exact True.intro
 all_goals try (intros; have q0 := Ext.cell hJ x0; have q1 := Ext.cell hJ x1; have q2 := Ext.cell hJ x2; have q3 := Ext.cell hJ y0; have q4 := Ext.cell hJ y1; have q5 := Ext.cell hJ y2; go_simp; exact hK0 _ rfl)
 .
  intro e57 e5 e9 e10 e11;go_simp;refine (fG cc _ (by omega) (by omega)).mono ?_;rintro e w' ⟨v, rfl, hv, hX⟩;exact hK _ _ hv hX
 .
  intro e58 d7 e59 e5 e9 e10 e11;go_simp;refine (mG d7 (hr.ext hJ) (by omega) (by omega)).mono ?_;rintro e w' ⟨v, rfl, hv, hX⟩;exact hK _ _ hv hX
 .
  intro e56 e60 d9 e5 e9 e10 e11;go_simp;refine (qH (hx.ext hJ) d9 (by omega)).mono ?_;rintro e w' ⟨v, rfl, hv, hX⟩;exact hK _ _ hv hX
 .
  intro e61 d10 e5 e9 e10 e11;go_simp;refine (cz d10 (by omega)).mono ?_;rintro e w' ⟨v, rfl, hv, hX⟩;exact hK _ _ hv hX
theorem kI (S nn : Nat) (A : Option Addr) (n c : Nat) (ms : List Mt) (gt ot ct : Nat) (u : Nat -> Rat) (w : World) (h : MsAt w A n ms) (hv : VP (S : Int) ms) (hN : nn = 3 * S) (hS : ShP (fun w v q => NumX w v q 256) w gt ot S u) (ht : ka nn u) :
  Calls Try.prog 137 #[.slice (some ⟨gt, ot, none⟩) S ct, .agg #[.int .i64 (S : Int), .slice A n c]] w (fun e w' => ∃ go, e = .returned (.slice (some ⟨go, 0, none⟩) nn nn) /\ RowN (fun w v q => NumX w v q 57) 217 3 w.heap.size w' go nn nn nn (fun j => some (aU nn ms u j)) /\ Ext w w') := by
 have hS1 : 1 <= S := by have := hv.1; omega
 have hS8 : S <= 8 := by have := hv.2.1; omega
 have hn64 : n <= 64 := by have := hv.2.2.1; have := h.1; omega
 have hqN : IntKind.i64.wrap (3 * (S : Int)) = (nn : Int) := by rw [IntWalk.i64_in _ (by omega)]; omega
 have hNb : nn <= 24 := by omega
 have HFIT : Hid (∀ k i, FitQ (aU nn (ms.take k) u i) 57) := hid (fun k i => kG hv.2.2.2 hv.2.2.1 hNb ht k i);have H := hid h;have HL := hid h.1;have HVM := hid hv.2.2.2;have HNN := hid hN;have HS0 := hid hS;clear h hv hN ht hS;have hXe : Ext w (w.alloc (.cells #[.int .i64 (S : Int), .slice A n c] 76)) := (Ext.refl w).alloc _;have kP : Blk (w.alloc (.cells #[.int .i64 (S : Int), .slice A n c] 76)) w.heap.size 76 #[.int .i64 (S : Int), .slice A n c] := Blk.new w _ _;go_enter Try.func137, Try.ntmps137
 go_upto_region 1 with (fail)
 generalize w.alloc _ = w1 at hXe kP |-;have HX := hid hXe;have HP := hid kP;have p0 := kP.cell 0;simp only [List.getElem?_toArray, List.getElem?_cons_zero] at p0;have hxs := HX.out.size;have hpl := kP.lt;clear hXe kP
 go_upto_region 2 with (at_make; refine cT w1 tu rfl _ _ rfl w.heap.size _ _ _ _ nn nn rfl rfl (by first | rfl | omega) (by first | rfl | omega) (Nat.le_refl _) (by omega) (by unfold maxLen; omega) hxs ?_; intro w4 us hown hz1 hz2 hext hsz)
 have hrow : RowN (fun w v q => NumX w v q 57) 217 3 w.heap.size w4 w1.heap.size nn nn nn (fun _ => none) := RowN.make3 hown hz1 hz2;replace HX := hid (HX.out.trans hext);replace HP := hid (HP.out.ext hext);generalize w1.heap.size = go at hrow hpl hsz hxs |-;have HR := hid hrow;clear hrow hown hz1 hz2 hext p0 hsz
 go_wp2_with fail
 go_loopg [18] nn (fun f iv wr => ∃ j : Nat, f = nn - j /\ j <= nn /\ iv = .int .i64 (j : Int) /\ Hid (RowN (fun w v q => NumX w v q 57) 217 3 w.heap.size wr go nn nn nn (fun u => if u < j then some ((0 : Int) : Rat) else none)) /\ Hid (Blk wr w.heap.size 76 #[.int .i64 (S : Int), .slice A n c]) /\ Hid (Ext w wr))
 case atStart => exact ⟨0, by omega, by omega, rfl, hid (HR.out.congr (fun u _ => by rw [if_neg (by omega)])), HP, HX⟩
 case round =>
  clear HR HP HX;obtain ⟨j, rfl, hj, rfl, HR, HP, HX⟩ := hrel
  by_cases hlt : j < nn
  .
   have q1 : decide (j < nn) = true := decide_eq_true hlt
   go_wp2_with fail
   refine (fG 0 _ (by omega) (by omega)).mono ?_;rintro e w5 ⟨v5, rfl, hv, hX⟩;replace HX := hid (HX.out.trans hX);replace HP := hid (HP.out.ext hX);replace HR := hid (HR.out.ext (aC 57) hX);obtain ⟨s4, A4, l4, c4, B4, m4, k4, rfl⟩ := NumX.open hv;have HN := hid (hv.mono (show 2 <= 57 by omega));clear hv hX;obtain ⟨s2, A2, l2, c2, B2, m2, k2, x0, x1, x2, _⟩ := HR.out.cells hlt rfl;have f0 := HR.out.free (j * 3);have f1 := HR.out.free (j * 3 + 1);have f2 := HR.out.free (j * 3 + 2);go_wp2;clear x0 x1 x2 f0 f1 f2;have hput := HR.out.put (aC 57) hlt rfl HN.out;go_roundg (nn - (j + 1))
   case rel =>
    refine ⟨j + 1, rfl, by omega, by go_num, hid (hput.congr (fun u _ => ?_)), hid (((HP.out.far (by simp only; omega) _).far (by simp only; omega) _).far (by simp only; omega) _), hid (((HX.out.setCell (p := ⟨go, j * 3, none⟩) (by simp only; omega) (.bool s4)).setCell (p := ⟨go, j * 3 + 1, none⟩) (by simp only; omega) (.slice A4 l4 c4)).setCell (p := ⟨go, j * 3 + 2, none⟩) (by simp only; omega) (.slice B4 m4 k4))⟩
    by_cases e : u = j
    .
     rw [if_pos e, if_pos (by omega)]
    .
     rw [if_neg e]
     by_cases h2 : u < j
     .
      rw [if_pos h2, if_pos (by omega)]
     .
      rw [if_neg h2, if_neg (by omega)]
   case measure => omega
  .
   obtain rfl : nn = j := by omega
   have q1 : decide (nn < nn) = false := by simp
   have p1 := HP.out.cell 1;simp only [List.getElem?_toArray, List.getElem?_cons_zero, List.getElem?_cons_succ] at p1
   go_wp2_with fail
   clear p1;have HSW := hid (HS0.out.ext (bm 256) HX.out);have HNG := hid HR.out.ni;have hgS : gt ≠ go := by have := HS0.out.low (by omega); omega
   go_loopg [29] n (fun f iv wz => ∃ k : Nat, f = n - k /\ k <= n /\ iv = .int .i64 (k : Int) /\ Hid (RowN (fun w v q => NumX w v q 57) 217 3 w.heap.size wz go nn nn nn (fun j => some (aU nn (ms.take k) u j))) /\ Hid (Ext w wz) /\ Hid (Keeps [go] wr wz))
   case atStart => exact ⟨0, by omega, by omega, rfl, hid (HR.out.congr (fun u hu => by rw [if_pos hu, kE]; rfl)), HX, hid (Keeps.refl _ _)⟩
   case round =>
    clear HR HX;obtain ⟨k, rfl, hk, rfl, HR, HX, HK⟩ := hrel
    by_cases hkn : k < n
    .
     have q2 : decide (k < n) = true := decide_eq_true hkn;obtain ⟨gq, oq, ⟨a, b, x, y, z, d, ww⟩, rfl, hm, hmem, x0, x1, x2, x3, x4, x5, x6⟩ := (H.out.ext HX.out).get hkn;simp only at x0 x1 x2 x3 x4 x5 x6;have HM := hid hm;have HMM := hid (HVM.out _ hmem);clear hm hmem
     go_upto_region 10 with (fail)
     have hXa : Ext wr (wr.alloc (.cells #[.int .i64 (a), .int .i64 (b), .int .i64 (x), .int .i64 (y), .int .i64 (z), .int .i64 (d), .int .i64 (ww)] 90)) := (Ext.refl _).alloc _;have kM := Blk.new wr 90 #[.int .i64 (a), .int .i64 (b), .int .i64 (x), .int .i64 (y), .int .i64 (z), .int .i64 (d), .int .i64 (ww)];have hgl := HR.out.low.2;replace HX := hid (HX.out.trans hXa);replace HR := hid (HR.out.ext (aC 57) hXa);replace HK := hid (HK.out.trans (.of_ext hXa _));clear hXa x0 x1 x2 x3 x4 x5 x6;generalize wr.heap.size = gm at kM hgl |-;generalize wr.alloc _ = w5 at kM HX HR HK |-;have HSZ := hid (HSW.out.keeps (aC 256) HK.out (fun g hg => by simp at hg; subst hg; exact HNG.out) (by simp; omega));have KM := hid kM;clear kM;refine rO gm gt ot S ct a b x y z d ww u w5 (KM.out.cell 0) (KM.out.cell 1) (KM.out.cell 2) (KM.out.cell 3) (KM.out.cell 4) (KM.out.cell 5) (KM.out.cell 6) HSZ.out HMM.out (by have := HMM.out.w1; simpa using this) (by have := HMM.out.w2; simpa using this) _ _ (by simp) rfl rfl ?_;rintro xv0 xv1 xv2 xv3 xv4 xv5 xv6 xv7 xv8 W rfl rfl rfl rfl _ _ hv ⟨gr, rfl, hgr, kR⟩ hX;simp only [ae, Try.f137, ab, Option.bind_some, Nat.reduceBEq, if_true, if_false, Bool.false_eq_true, Option.getD_some];simp only [Act.put, List.setIfInBounds_toArray, List.set_cons_succ, List.set_cons_zero];obtain ⟨s8, A8, l8, c8, B8, m8, k8, rfl⟩ := NumX.open hv;have HRV := hid hv;have KR : Hid (Blk W gr 217 #[.bool s8, .slice A8 l8 c8, .slice B8 m8 k8]) := hid kR;have hgr2 : go < gr := by have := KM.out.lt; omega
     replace HX := hid (HX.out.trans hX);replace HR := hid (HR.out.ext (aC 57) hX);replace HK := hid (HK.out.trans (.of_ext hX _));replace KM := hid (KM.out.ext hX);clear hv kR hX HSZ hgr;have y0 := KM.out.cell 0;have y1 := KM.out.cell 1;have y2 := KM.out.cell 2;have y3 := KM.out.cell 3;have y4 := KM.out.cell 4;have y5 := KM.out.cell 5;have y6 := KM.out.cell 6;simp only [List.getElem?_toArray, List.getElem?_cons_zero, List.getElem?_cons_succ] at y0 y1 y2 y3 y4 y5 y6;have p0 := (HP.out.keeps HK.out (by simp; omega)).cell 0;have p1 := (HP.out.keeps HK.out (by simp; omega)).cell 1;simp only [List.getElem?_toArray, List.getElem?_cons_zero, List.getElem?_cons_succ] at p0 p1
     go_wp2_with fail
     refine (jm (S := S) (N := nn) (m := ⟨a, b, x, y, z, d, ww⟩) HMM.out hS8 HNN.out).mono ?_;rintro e w6 ⟨gc, rfl, hC, hX⟩;replace HX := hid (HX.out.trans hX);replace HR := hid (HR.out.ext (aC 57) hX);replace HK := hid (HK.out.trans (.of_ext hX _));replace KR := hid (KR.out.ext hX);replace HRV := hid (HRV.out.ext hX);have hgc : go < gc := by have := hC.low; have := KR.out.lt; have := KM.out.lt; omega
     have HC := hid hC;clear hC hX y0 y1 y2 y3 y4 y5 y6 p0 p1 KM;have HNW := hid HR.out.ni
     go_wp2_with fail
     go_loopg [44] nn (fun f iv wy => ∃ i : Nat, f = nn - i /\ i <= nn /\ iv = .int .i64 (i : Int) /\ Hid (RowN (fun w v q => NumX w v q 57) 217 3 w.heap.size wy go nn nn nn (fun j => some (bz nn ms u k i j))) /\ Hid (Ext w wy) /\ Hid (Keeps [go] w6 wy))
     case atStart => exact ⟨0, by omega, by omega, rfl, hid (HR.out.congr (fun u hu => by rw [jJ])), HX, hid (Keeps.refl _ _)⟩
     case round =>
      clear HR HX;obtain ⟨i, rfl, hi, rfl, HR, HX, HKI⟩ := hrel
      by_cases hin : i < nn
      .
       have q3 : decide (i < nn) = true := decide_eq_true hin;obtain ⟨cc, hcc⟩ : ∃ cc, aB ⟨a, b, x, y, z, d, ww⟩ i = cc := ⟨_, rfl⟩;have hcb : -100 <= cc /\ cc <= 100 := by rw [<- hcc]; exact a8 HMM.out i
       have cx := (HC.out.keeps HKI.out (by simp; omega)).cell hin;rw [hcc] at cx;have HCC := hid hcc;clear hcc
       go_upto_region 14 with (fail)
       clear cx
       by_cases hz : cc = 0
       .
        have q4 : (cc != 0) = false := by simpa using hz
        have HZ := hid hz;clear hz;go_wp2;go_roundg (nn - (i + 1))
        case rel => exact ⟨i + 1, rfl, by omega, by go_num, hid (HR.out.congr (fun u _ => by rw [jL HM.out (HCC.out.trans HZ.out)])), HX, HKI⟩
        case measure => omega
       .
        have q4 : (cc != 0) = true := by simpa using hz
        clear hz;obtain ⟨s9, A9, l9, c9, B9, m9, k9, x0, x1, x2, hx⟩ := HR.out.cells hin rfl;have HXV := hid (hx _ rfl);clear hx;have KRW := hid (KR.out.keeps HKI.out (by simp; omega));have HRW := hid (HRV.out.keepsNI HKI.out (fun g hg => by simp at hg; subst hg; exact HNW.out));have hsl : FitQ (bz nn ms u k (i + 1) i) 57 := by unfold bz; rw [if_pos (by omega)]; exact HFIT.out _ _
        have HSL := hid hsl;clear hsl
        go_upto_region 15 with (fail)
        refine rP go nn i gr cc _ _ s9 A9 B9 l9 c9 m9 k9 s8 A8 B8 l8 c8 m8 k8 wr x0 x1 x2 (KRW.out.cell 0) (KRW.out.cell 1) (KRW.out.cell 2) HXV.out HRW.out hin hcb.1 hcb.2 _ _ (by simp) ⟨rfl, rfl, rfl, rfl, trivial⟩ ?_;rintro W hX xv7 _ xv9 _ xv10 _ xv11 hv;simp only [EndK, ae, Try.f137, ab, Option.bind_some, Nat.reduceBEq, if_true, if_false, Bool.false_eq_true, Option.getD_some, List.drop_succ_cons, List.drop_zero];simp only [Act.put, List.setIfInBounds_toArray, List.set_cons_succ, List.set_cons_zero];replace HX := hid (HX.out.trans hX);replace HR := hid (HR.out.ext (aC 57) hX);replace HKI := hid (HKI.out.trans (.of_ext hX _));have hadd := kC (n := nn) (ms := ms) (u := u) (k := k) (i := i) HM.out;rw [HCC.out] at hadd;have HADD := hid hadd
        have hvf : NumX W xv11 (bz nn ms u k (i + 1) i) 57 := by
         have e : bz nn ms u k (i + 1) i = bz nn ms u k i i + ((cc : Int) : Rat) * (((ww : Int) : Rat) * cN (3 * S) ⟨a, b, x, y, z, d, ww⟩ u) := (congrFun HADD.out i).trans (by simp only; rw [if_pos trivial, HNN.out]);rw [e] at HSL |-;exact hv.numx HSL.out
        obtain ⟨s4, A4, l4, c4, B4, m4, k4, rfl⟩ := NumX.open hvf;have HN := hid hvf;clear hv hvf hadd hX x0 x1 x2;obtain ⟨s2, A2, l2, c2, B2, m2, k2, x0, x1, x2, _⟩ := HR.out.cells hin rfl;have f0 := HR.out.free (i * 3);have f1 := HR.out.free (i * 3 + 1);have f2 := HR.out.free (i * 3 + 2);go_wp2;clear x0 x1 x2 f0 f1 f2;have hput := HR.out.put (aC 57) hin rfl HN.out;go_roundg (nn - (i + 1))
        case rel =>
         refine ⟨i + 1, rfl, by omega, by go_num, hid (hput.congr (fun v hv => ?_)), hid (((HX.out.setCell (p := ⟨go, i * 3, none⟩) (by simp only; omega) (.bool s4)).setCell (p := ⟨go, i * 3 + 1, none⟩) (by simp only; omega) (.slice A4 l4 c4)).setCell (p := ⟨go, i * 3 + 2, none⟩) (by simp only; omega) (.slice B4 m4 k4)), hid (((HKI.out.setCell (p := ⟨go, i * 3, none⟩) (.inl (by simp)) (.bool s4)).setCell (p := ⟨go, i * 3 + 1, none⟩) (.inl (by simp)) (.slice A4 l4 c4)).setCell (p := ⟨go, i * 3 + 2, none⟩) (.inl (by simp)) (.slice B4 m4 k4))⟩
         by_cases e : v = i
         .
          subst e; rw [if_pos rfl]
         .
          rw [if_neg e, HADD.out];simp only;rw [if_neg e]
        case measure => omega
      .
       obtain rfl : nn = i := by omega
       have q3 : decide (nn < nn) = false := by simp
       go_wp2;go_roundg (n - (k + 1))
       case rel => exact ⟨k + 1, rfl, by omega, by go_num, hid (HR.out.congr (fun v hv => by rw [jK v hv])), HX, hid (HK.out.trans HKI.out)⟩
       case measure => omega

    .
     obtain rfl : n = k := by omega
     have q2 : decide (n < n) = false := by simp
     have HTK : Hid (ms.take n = ms) := hid (List.take_of_length_le (by have := HL.out; omega));rw [HTK.out] at HR;go_wp2;go_ret;exact ⟨go, rfl, HR.out, HX.out⟩
/-- All slopes are 0. -/
def ix (nn : Nat) (ms : List Mt) (u : Nat -> Rat) : Bool := (List.range nn).all fun i => decide (aU nn ms u i = 0)
theorem ez {nn : Nat} {ms : List Mt} {u : Nat -> Rat} : ix nn ms u = true ↔ ∀ i, i < nn -> aU nn ms u i = 0 := by
 unfold ix;rw [List.all_eq_true];exact ⟨fun h i hi => by simpa using h i (List.mem_range.2 hi), fun h i hi => by simpa using h i (List.mem_range.1 hi)⟩
theorem dr {q : Rat} : bW q = 0 ↔ q = 0 := by
 rcases bj q with ⟨h1, h2⟩ | ⟨h1, h2⟩ | ⟨h1, h2⟩
 .
  rw [h2]; exact ⟨fun h => by omega, fun h => by subst h; exact absurd h1 (by decide)⟩
 .
  rw [h2]; exact ⟨fun _ => h1, fun _ => rfl⟩
 .
  rw [h2]; exact ⟨fun h => by omega, fun h => by subst h; exact absurd h1 (by decide)⟩
theorem eA (S : Int) (A : Option Addr) (n c : Nat) (ms : List Mt) (tv : Value) (w : World) (h : MsAt w A n ms) (hv : ¬ VP S ms)  :
  Calls Try.prog 66 #[.agg #[.int .i64 S, .slice A n c], tv] w (fun e w' => e = .returned (.tuple #[.bool false, .int .i64 50]) /\ Ext w w') := by
 have H := hid h;have HV := hid hv;clear h hv;have HX := hid ((Ext.refl w).alloc (.cells #[.int .i64 S, .slice A n c] 76));have HP := hid (Blk.new w 76 #[.int .i64 S, .slice A n c]);go_enter Try.func66, Try.ntmps66
 go_upto_region 1 with (fail)
 generalize w.alloc _ = w1 at HX HP |-;have p0 := HP.out.cell 0;have p1 := HP.out.cell 1;simp only [List.getElem?_toArray, List.getElem?_cons_zero, List.getElem?_cons_succ] at p0 p1
 go_wp2_with fail
 refine (lS S A n c ms tv _ (H.out.ext HX.out) HV.out).mono ?_;rintro e w2 ⟨rfl, hX⟩;replace HX := hid (HX.out.trans hX);clear hX p0 p1;go_wp2
 go_ret2
 exact ⟨rfl, HX.out⟩
theorem iy (S : Nat) (A : Option Addr) (n c : Nat) (ms : List Mt) (At : Option Addr) (m ct : Nat) (w : World) (h : MsAt w A n ms) (hv : VP (S : Int) ms) (hne : m ≠ S) :
  Calls Try.prog 66 #[.agg #[.int .i64 (S : Int), .slice A n c], .slice At m ct] w (fun e w' => e = .returned (.tuple #[.bool false, .int .i64 51]) /\ Ext w w') := by
 have H := hid h;have HV := hid hv;clear h hv;have HX := hid ((Ext.refl w).alloc (.cells #[.int .i64 (S : Int), .slice A n c] 76));have HP := hid (Blk.new w 76 #[.int .i64 (S : Int), .slice A n c]);go_enter Try.func66, Try.ntmps66
 go_upto_region 1 with (fail)
 generalize w.alloc _ = w1 at HX HP |-;have p0 := HP.out.cell 0;have p1 := HP.out.cell 1;simp only [List.getElem?_toArray, List.getElem?_cons_zero, List.getElem?_cons_succ] at p0 p1
 go_wp2_with fail
 refine (lT S A n c ms At m ct _ (H.out.ext HX.out) HV.out hne).mono ?_;rintro e w2 ⟨rfl, hX⟩;replace HX := hid (HX.out.trans hX);clear hX p0 p1;go_wp2
 go_ret2
 exact ⟨rfl, HX.out⟩
theorem jO (S : Nat) (A : Option Addr) (n c : Nat) (ms : List Mt) (nn gt ot ct : Nat) (u : Nat -> Rat) (w : World) (h : MsAt w A n ms) (hv : VP (S : Int) ms) (hN : nn = 3 * S) (hS : ShP RatG w gt ot S u) (ht : ka nn u) :
  Calls Try.prog 66 #[.agg #[.int .i64 (S : Int), .slice A n c], .slice (some ⟨gt, ot, none⟩) S ct] w (fun e w' => e = .returned (.tuple #[.bool (ix nn ms u), .int .i64 0]) /\ Ext w w') := by
 have H := hid h;have HV := hid hv;clear h hv;have HX := hid ((Ext.refl w).alloc (.cells #[.int .i64 (S : Int), .slice A n c] 76));have HP := hid (Blk.new w 76 #[.int .i64 (S : Int), .slice A n c]);go_enter Try.func66, Try.ntmps66
 go_upto_region 1 with (fail)
 generalize w.alloc _ = w1 at HX HP |-;have p0 := HP.out.cell 0;have p1 := HP.out.cell 1;simp only [List.getElem?_toArray, List.getElem?_cons_zero, List.getElem?_cons_succ] at p0 p1
 go_wp2_with fail
 have HS0 := hid hS;have HT := hid ht;have HNN := hid hN;have hS8 : S <= 8 := by have := HV.out.2.1; omega
 have hn24 : nn <= 24 := by omega
 clear hS ht hN;refine (kx S A n c ms gt ot ct u _ (H.out.ext HX.out) HV.out (HS0.out.ext ea HX.out)).mono ?_;rintro e w2 ⟨gs, rfl, hgo, hS, hX⟩;have HS := hid hS;replace HX := hid (HX.out.trans hX);replace HP := hid (HP.out.ext hX);clear hS hX p0 p1 hgo;have p0 := HP.out.cell 0;have p1 := HP.out.cell 1;simp only [List.getElem?_toArray, List.getElem?_cons_zero, List.getElem?_cons_succ] at p0 p1
 go_wp2_with fail
 refine (kI S nn A n c ms gs 0 S u _ (H.out.ext HX.out) HV.out HNN.out HS.out HT.out).mono ?_;rintro e w3 ⟨go, rfl, hR, hX⟩;replace HX := hid (HX.out.trans hX);have HR := hid hR;clear hR hX p0 p1
 go_wp2_with fail
 go_loopg [23] nn (fun fu iv wr => ∃ j : Nat, fu = nn - j /\ j <= nn /\ iv = .int .i64 (j : Int) /\ Hid (∀ i, i < j -> aU nn ms u i = 0) /\ Hid (RowN (fun w v q => NumX w v q 57) 217 3 w2.heap.size wr go nn nn nn (fun j => some (aU nn ms u j))) /\ Hid (Ext w wr))
 case atStart => exact ⟨0, rfl, by omega, rfl, hid (fun i hi => by omega), HR, HX⟩
 case round =>
  clear HR HX;obtain ⟨j, rfl, hj, rfl, HZ, HR, HX⟩ := hrel
  by_cases hlt : j < nn
  .
   have q1 : decide (j < nn) = true := decide_eq_true hlt;obtain ⟨s1, A1, l1, c1, B1, m1, k1, x0, x1, x2, hx⟩ := HR.out.cells hlt rfl;have HN := hid (hx _ rfl);clear hx
   go_upto_region 7 with (fail)
   have hXa : Ext wr (wr.alloc (.cells #[.bool s1, .slice A1 l1 c1, .slice B1 m1 k1] 217)) := (Ext.refl _).alloc _;have kB := Blk.new wr 217 #[.bool s1, .slice A1 l1 c1, .slice B1 m1 k1];have hgw := HX.out.size;replace HX := hid (HX.out.trans hXa);replace HR := hid (HR.out.ext (aC 57) hXa);replace HN := hid (HN.out.ext hXa);clear hXa x0 x1 x2;generalize wr.heap.size = gx at kB hgw |-;generalize wr.alloc _ = w5 at kB HX HR HN |-;have y0 := kB.cell 0;have y1 := kB.cell 1;have y2 := kB.cell 2;simp only [List.getElem?_toArray, List.getElem?_cons_zero, List.getElem?_cons_succ] at y0 y1 y2;clear kB
   go_wp2_with fail

   refine (iN HN.out).mono ?_;rintro e w6 ⟨rfl, hX⟩;replace HX := hid (HX.out.trans hX);replace HR := hid (HR.out.ext (aC 57) hX);clear hX y0 y1 y2;obtain ⟨sg, hsg⟩ : ∃ sg, bW (aU nn ms u j) = sg := ⟨_, rfl⟩;rw [hsg]
   by_cases hz : sg = 0
   .
    have q2 : (sg != 0) = false := by simpa using hz
    have HSL : Hid (aU nn ms u j = 0) := hid (dr.1 (hsg.trans hz));clear hsg hz;go_wp2;go_roundg (nn - (j + 1))
    case rel => exact ⟨j + 1, rfl, by omega, by go_num, hid (fun i hi => by by_cases e : i = j; (rw [e]; exact HSL.out); exact HZ.out i (by omega)), HR, HX⟩
    case measure => omega
   .
    have q2 : (sg != 0) = true := by simpa using hz
    have HMB : Hid (ix nn ms u = false) := hid (by rcases hb : ix nn ms u with _ | _; rfl; exact absurd (hsg.symm.trans (dr.2 (ez.1 hb j hlt))) hz);clear hsg hz;go_wp2
    go_ret2
    exact ⟨by rw [HMB.out]; rfl, HX.out⟩
  .
   obtain rfl : nn = j := by omega
   have q1 : decide (nn < nn) = false := by simp
   have HMB : Hid (ix nn ms u = true) := hid (ez.2 HZ.out);go_wp2
   go_ret2
   exact ⟨by rw [HMB.out]; rfl, HX.out⟩
end Go.Proofs.Ytikhlcgnlbinfaa
