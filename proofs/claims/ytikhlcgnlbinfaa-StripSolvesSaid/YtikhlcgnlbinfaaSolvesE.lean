/- Lemmas of the proof that follows (Solves, part 5): walks of functions by contract, and plain lemmas. Conditions: none. -/
import Derived.Test.YtikhlcgnlbinfaaSolvesD
set_option maxRecDepth 100000
set_option maxHeartbeats 4000000
namespace Go.Proofs.Ytikhlcgnlbinfaa
open Lib (hid)
open Go.RowKit
/-- A value that is a number of the interface: a sign and two lists of words. -/
def RatV (w : World) (v : Value) (neg : Bool) (xs ys : List Int) : Prop :=
 ∃ A l c B m k, v = .agg #[.bool neg, .slice A l c, .slice B m k] /\ Ints .u32 w A l xs /\ l <= c /\ c <= 9223372036854775807 /\ Ints .u32 w B m ys /\ m <= k /\ k <= 9223372036854775807
theorem RatV.ext {w w' : World} {v : Value} {neg : Bool} {xs ys : List Int} (h : RatV w v neg xs ys) (he : Ext w w') : RatV w' v neg xs ys := by
 obtain ⟨A, l, c, B, m, k, h1, h2, h3, h4, h5, h6⟩ := h;exact ⟨A, l, c, B, m, k, h1, h2.ext he, h3, h4, h5.ext he, h6⟩
/-- What the words denote. -/
def wN (xs : List Int) : Nat := (val 4294967296 xs).toNat
def wD (ys : List Int) : Nat := if wN ys = 0 then 1 else wN ys
def il (neg : Bool) (xs ys : List Int) : Rat := aw neg (wN xs) (wD ys)
theorem rg (ys : List Int) : 0 < wD ys := by unfold wD; split <;> omega
theorem gE {w : World} {A : Option Addr} {l : Nat} {xs : List Int} (h : Ints .u32 w A l xs) : val 4294967296 xs = (wN xs : Int) := by
 have := az (B := 4294967296) (by omega) (cS h); unfold wN; omega
theorem di {w : World} {A : Option Addr} {l m : Nat} {xs : List Int} (h : Ints .u32 w A l xs) (_hm : m <= l) (hN : Nm (xs.take m)) (hv : val 4294967296 (xs.take m) = val 4294967296 xs) (K : Nat) : m <= K ↔ Fit 4294967296 (wN xs) K := by
 have hr : Rep 4294967296 (xs.take m) (wN xs) := Rep.of_take (cS h) hv hN (gE h);have hl : (xs.take m).length = m := by rw [List.length_take, h.1]; omega
 constructor
 .
  intro hk;have := hr.lt (by omega);rw [hl] at this;have h2 := df (B := 4294967296) (by omega) hk;unfold Fit; omega
 .
  intro hf;have := hf.len (by omega) hr;omega
theorem nj {w : World} {A : Option Addr} {l m : Nat} {xs : List Int} (h : Ints .u32 w A l xs) (_hm : m <= l) (hN : Nm (xs.take m)) (hv : val 4294967296 (xs.take m) = val 4294967296 xs) : m = 0 ↔ wN xs = 0 := by
 have hr : Rep 4294967296 (xs.take m) (wN xs) := Rep.of_take (cS h) hv hN (gE h);have hl : (xs.take m).length = m := by rw [List.length_take, h.1]; omega
 rw [hr.pos (by omega), <- List.length_eq_zero_iff, hl]
theorem qU (g : Nat) (neg : Bool) (A B : Option Addr) (l c m k : Nat) (xs : List Int) (D L : Nat) (w : World) (a0 : w.cell? ⟨g, 0, none⟩ = some (.bool neg)) (a1 : w.cell? ⟨g, 1, none⟩ = some (.slice A l c)) (hI : Ints .u32 w A l xs) (hlc : l <= c) (hcm : c <= 9223372036854775807) (hd : W32 w (.slice B m k) D) (hD : 0 < D) (fN : Fit 4294967296 (wN xs) L) (fD : Fit 4294967296 D L) (hL : L <= 1099511627775) : aF Try.prog Try.f133 4 8 19 w [11, 12, 13, 14, 15, 16, 17, 18] [.c (.pointer (some ⟨g, 0, none⟩)), .c (.bool neg), .c (.pointer (some ⟨g, 1, none⟩)), .c (.slice A l c), .p fun v W => W32 W v (wN xs), .c (.slice B m k), .p fun v W => NumV W v neg (wN xs) D, .p fun v W => NumQ W v (aw neg (wN xs) D)] [(1, .pointer (some ⟨g, 0, none⟩)), (3, .slice B m k)] := by
 refine aJ [[], [0], [], [2], [3], [], [1, 4, 5], [6]] (by kernel_rfl) (by kernel_rfl) rfl ⟨by intro v W W' h hX; exact W32.ext h hX, by intro v W W' h hX; exact NumV.ext h hX, by intro v W W' h hX; exact NumQ.ext h hX, trivial⟩ ?_;simp only [ae, Try.f133, ab, Option.bind_some, Nat.reduceBEq, if_true, if_false, Bool.false_eq_true, Option.getD_some];simp only [List.take_succ_cons, List.take_zero]
 repeat' first | refine ⟨?_, ?_⟩ | fail
 all_goals first | (intro us W b hJ K hK0 hK Qz; simp only [aC, al, am, List.getD_cons_succ, List.getD_cons_zero]) | exact True.intro
 all_goals try (intros; have q0 := Ext.cell hJ a0; have q1 := Ext.cell hJ a1; go_simp; exact hK0 _ rfl)
 .
  intro e14 e1 e3;go_simp;refine (aI A l c xs _ (Ints.ext hI hJ) hlc hcm).mono ?_;rintro e w' ⟨q, hq, hN, hv, rfl, rfl⟩;exact hK0 _ (RetNorm.natv (N := wN xs) (Ints.ext hI hJ) hq hN hv (gE hI) hlc hcm)
 .
  intro e12 e15 d4 e16 e1 e3;obtain ⟨P1, q1, r1, hv1, g1, _⟩ := W32.open d4;rw [hv1] at e15;go_simp;exact hK0 _ ⟨_, _, rfl, g1, W32.ext hd hJ⟩
 .
  intro e17 d6 e1 e3;go_simp;refine (cF ⟨_, _, _, d6, hD, rfl, fN, fD⟩ hL).mono ?_;rintro e w' ⟨v, rfl, hv, hX⟩;exact hK _ _ hv hX
theorem rh (v : Value) (neg : Bool) (xs ys : List Int) (L : Nat) (w : World) (h : RatV w v neg xs ys) (fN : Fit 4294967296 (wN xs) L) (fD : Fit 4294967296 (wD ys) L) (hL : L <= 1099511627775) :
  Calls Try.prog 133 #[v] w (qT w (il neg xs ys)) := by
 obtain ⟨A, l, c, B, m, k, rfl, hA, hlc, hcm, hB, hmk, hkm⟩ := h;have hXw : Ext w ((w.alloc (.cells #[.bool neg, .slice A l c, .slice B m k] 97)).alloc (.cells #[.bool false, .slice none 0 0, .slice none 0 0] 217)) := ((Ext.refl w).alloc _).alloc _;have hBA : Blk ((w.alloc (.cells #[.bool neg, .slice A l c, .slice B m k] 97)).alloc (.cells #[.bool false, .slice none 0 0, .slice none 0 0] 217)) w.heap.size 97 #[.bool neg, .slice A l c, .slice B m k] := (Blk.new w _ _).alloc _
 have hBR : Blk ((w.alloc (.cells #[.bool neg, .slice A l c, .slice B m k] 97)).alloc (.cells #[.bool false, .slice none 0 0, .slice none 0 0] 217)) (w.heap.size + 1) 217 #[.bool false, .slice none 0 0, .slice none 0 0] := by
  have := Blk.new (w.alloc (.cells #[.bool neg, .slice A l c, .slice B m k] 97)) 217 #[.bool false, .slice none 0 0, .slice none 0 0]
  simpa using this
 have HQE : Hid (il neg xs ys = aw neg (wN xs) (wD ys)) := rfl;have HIA := hid (hA.ext hXw);have HIB := hid (hB.ext hXw);clear hA hB;go_enter Try.func133, Try.ntmps133
 go_wp2_with fail
 generalize (w.alloc _).alloc _ = w1 at hXw hBA hBR HIA HIB |-;have HXw := hid hXw;have HBA := hid hBA;have HBR := hid hBR;obtain ⟨a0, a1, a2, _, _, _⟩ := hBA.three;clear hXw hBA hBR;refine (aI B m k ys _ HIB.out hmk hkm).mono ?_;rintro e w' ⟨q, hq, hN, hv, rfl, rfl⟩;have hnil := nj HIB.out hq hN hv;have hWB := RetNorm.natv (N := wN ys) (c := k) HIB.out hq hN hv (gE HIB.out) hmk hkm
 by_cases hz : wN ys = 0
 .
  obtain rfl : q = 0 := hnil.2 hz;have HD1 : Hid (wD ys = 1) := by show _ = _; unfold wD; rw [if_pos hz]
  have HDP : Hid (0 < 1) := Nat.one_pos;rw [HD1.out] at fD HQE;clear hnil hWB hz hN hv hq
  go_wp2_with fail
  have hXo : Ext w1 (w1.alloc (.cells #[.int .u32 1] 129)) := (Ext.refl w1).alloc _;have hD : W32 (w1.alloc (.cells #[.int .u32 1] 129)) (.slice (some ⟨w1.heap.size, 0, none⟩) 1 1) 1 := W32.one w1 _;replace HIA := hid (HIA.out.ext hXo);replace HBA := hid (HBA.out.ext hXo);replace HBR := hid (HBR.out.ext hXo);replace HXw := hid (HXw.out.trans hXo);obtain ⟨N1, hN1⟩ : ∃ N1, N1 = w1.heap.size := ⟨_, rfl⟩;rw [<- hN1] at hD |-;generalize w1.alloc _ = w2 at *;obtain ⟨a0, a1, a2, _, _, _⟩ := HBA.out.three;have HD := hid hD;clear hD hXo hN1;refine qU w.heap.size neg A (some ⟨N1, 0, none⟩) l c 1 1 xs _ L w2 a0 a1 HIA.out hlc hcm HD.out HDP.out fN fD hL _ _ (by simp) ⟨rfl, rfl, trivial⟩ ?_;rintro W hXW xv4 h4 xv6 h6 xv7 h7;simp only [EndK, ae, Try.f133, ab, Option.bind_some, Nat.reduceBEq, if_true, if_false, Bool.false_eq_true, Option.getD_some, List.drop_succ_cons, List.drop_zero];simp only [Act.put, List.setIfInBounds_toArray, List.set_cons_succ, List.set_cons_zero];obtain ⟨P1, q1, r1, P2, q2, r2, rfl, g1, g2, _, _⟩ := NumV.open h7;obtain ⟨y0, y1, y2, f0, f1', f2'⟩ := (HBR.out.ext hXW).three;have HNB := hid (NoInts.three (HBR.out.ext hXW));have G7 := hid h7;have HXW := hid hXW;clear h4 h6 h7 hXW a0 a1 a2 g1 g2;go_wp2;refine bodyPost_ret (v := .agg #[.bool _, .slice P1 q1 r1, .slice P2 q2 r2]) (by simp [results, Try.results133, go_sem, *]; rfl) rfl ?_;rw [HQE.out];exact ⟨_, rfl, NumQ.boxed G7.out HNB.out _ _ _ _ _ _ _, Ext.boxed (HXw.out.trans HXW.out) (by omega) _ _ _⟩
 .
  have hq0 : ((q : Int) == 0) = false := by
   have : q ≠ 0 := fun h => hz (hnil.1 h)
   simp; omega
  have HD1 : Hid (wD ys = wN ys) := by show _ = _; unfold wD; rw [if_neg hz]
  have HDP : Hid (0 < wN ys) := by show 0 < wN ys; omega
  rw [HD1.out] at fD HQE;have HD := hid hWB;clear hnil hWB hz hN hv
  go_wp2_with fail
  refine qU w.heap.size neg A B l c q k xs _ L w1 a0 a1 HIA.out hlc hcm HD.out HDP.out fN fD hL _ _ (by simp) ⟨rfl, rfl, trivial⟩ ?_;rintro W hXW xv4 h4 xv6 h6 xv7 h7;simp only [EndK, ae, Try.f133, ab, Option.bind_some, Nat.reduceBEq, if_true, if_false, Bool.false_eq_true, Option.getD_some, List.drop_succ_cons, List.drop_zero];simp only [Act.put, List.setIfInBounds_toArray, List.set_cons_succ, List.set_cons_zero];obtain ⟨P1, q1, r1, P2, q2, r2, rfl, g1, g2, _, _⟩ := NumV.open h7;obtain ⟨y0, y1, y2, f0, f1', f2'⟩ := (HBR.out.ext hXW).three;have HNB := hid (NoInts.three (HBR.out.ext hXW));have G7 := hid h7;have HXW := hid hXW;clear h4 h6 h7 hXW a0 a1 a2 g1 g2;go_wp2;refine bodyPost_ret (v := .agg #[.bool _, .slice P1 q1 r1, .slice P2 q2 r2]) (by simp [results, Try.results133, go_sem, *]; rfl) rfl ?_;rw [HQE.out];exact ⟨_, rfl, NumQ.boxed G7.out HNB.out _ _ _ _ _ _ _, Ext.boxed (HXw.out.trans HXW.out) (by omega) _ _ _⟩
/-- At most as many words as the interface lets. -/
structure bG (n : Nat) : Prop where
 fit : Fit 4294967296 n 256
theorem jn {n m : Nat} (h : m <= 256 ↔ Fit 4294967296 n 256) : m <= 256 ↔ bG n := h.trans ⟨fun h => ⟨h⟩, fun h => h.fit⟩
theorem nl (v : Value) (neg : Bool) (xs ys : List Int) (w : World) (h : RatV w v neg xs ys) (f1 : bG (wN xs)) (f2 : bG (wN ys)) :
  Calls Try.prog 141 #[v] w fun e w' => e = .returned (.bool false) /\ Ext w w' := by
 obtain ⟨A, l, c, B, m, k, rfl, hA, hlc, hcm, hB, hmk, hkm⟩ := h;have hXw : Ext w (w.alloc (.cells #[.bool neg, .slice A l c, .slice B m k] 97)) := (Ext.refl w).alloc _;have HIA := hid (hA.ext hXw);have HIB := hid (hB.ext hXw);have HXw := hid hXw;have HF1 := hid f1;clear hA hB hXw f1;have HF2 := hid f2;clear f2;go_enter Try.func141, Try.ntmps141
 go_wp2_with fail
 refine (aI A l c xs _ HIA.out hlc hcm).mono ?_;rintro e w' ⟨q, hq, hN, hv, rfl, rfl⟩;have hlen : q <= 256 ↔ bG (wN xs) := jn (di HIA.out hq hN hv 256);have hq1 : q <= 256 := hlen.2 HF1.out;clear hlen hN hv
 go_wp2_with fail
 refine (aI B m k ys _ HIB.out hmk hkm).mono ?_;rintro e w' ⟨q2, hq2, hN, hv, rfl, rfl⟩;have hlen : q2 <= 256 ↔ bG (wN ys) := jn (di HIB.out hq2 hN hv 256);have hq3 : q2 <= 256 := hlen.2 HF2.out;clear hlen hN hv;go_wp2;go_ret;exact ⟨by first | rfl | (simp; done) | (simp; omega), HXw.out⟩
theorem li (v : Value) (neg : Bool) (xs ys : List Int) (w : World) (h : RatV w v neg xs ys) (f1 : ¬ bG (wN xs)) :
  Calls Try.prog 141 #[v] w fun e w' => e = .returned (.bool true) /\ Ext w w' := by
 obtain ⟨A, l, c, B, m, k, rfl, hA, hlc, hcm, hB, hmk, hkm⟩ := h;have hXw : Ext w (w.alloc (.cells #[.bool neg, .slice A l c, .slice B m k] 97)) := (Ext.refl w).alloc _;have HIA := hid (hA.ext hXw);have HIB := hid (hB.ext hXw);have HXw := hid hXw;have HF1 := hid f1;clear hA hB hXw f1;go_enter Try.func141, Try.ntmps141
 go_wp2_with fail
 refine (aI A l c xs _ HIA.out hlc hcm).mono ?_;rintro e w' ⟨q, hq, hN, hv, rfl, rfl⟩;have hlen : q <= 256 ↔ bG (wN xs) := jn (di HIA.out hq hN hv 256)
 have hq1 : 256 < q := by
  rcases Nat.lt_or_ge 256 q with h | h
  .
   exact h
  .
   exact absurd (hlen.1 h) HF1.out
 clear hlen hN hv;go_wp2;go_ret;exact ⟨by first | rfl | (simp; done) | (simp; omega), HXw.out⟩
theorem lj (v : Value) (neg : Bool) (xs ys : List Int) (w : World) (h : RatV w v neg xs ys) (f1 : bG (wN xs)) (f2 : ¬ bG (wN ys)) :
  Calls Try.prog 141 #[v] w fun e w' => e = .returned (.bool true) /\ Ext w w' := by
 obtain ⟨A, l, c, B, m, k, rfl, hA, hlc, hcm, hB, hmk, hkm⟩ := h;have hXw : Ext w (w.alloc (.cells #[.bool neg, .slice A l c, .slice B m k] 97)) := (Ext.refl w).alloc _;have HIA := hid (hA.ext hXw);have HIB := hid (hB.ext hXw);have HXw := hid hXw;have HF1 := hid f1;clear hA hB hXw f1;have HF2 := hid f2;clear f2;go_enter Try.func141, Try.ntmps141
 go_wp2_with fail
 refine (aI A l c xs _ HIA.out hlc hcm).mono ?_;rintro e w' ⟨q, hq, hN, hv, rfl, rfl⟩;have hlen : q <= 256 ↔ bG (wN xs) := jn (di HIA.out hq hN hv 256);have hq1 : q <= 256 := hlen.2 HF1.out;clear hlen hN hv
 go_wp2_with fail
 refine (aI B m k ys _ HIB.out hmk hkm).mono ?_;rintro e w' ⟨q2, hq2, hN, hv, rfl, rfl⟩;have hlen : q2 <= 256 ↔ bG (wN ys) := jn (di HIB.out hq2 hN hv 256)
 have hq3 : 256 < q2 := by
  rcases Nat.lt_or_ge 256 q2 with h | h
  .
   exact h
  .
   exact absurd (hlen.1 h) HF2.out
 clear hlen hN hv;go_wp2;go_ret;exact ⟨by first | rfl | (simp; done) | (simp; omega), HXw.out⟩
/-- Both lists are not too long. -/
def SmallR (xs ys : List Int) : Prop := bG (wN xs) /\ bG (wN ys)
theorem lk (v : Value) (neg : Bool) (xs ys : List Int) (w : World) (h : RatV w v neg xs ys) (hs : ¬ SmallR xs ys) :
  Calls Try.prog 141 #[v] w fun e w' => e = .returned (.bool true) /\ Ext w w' := by
 by_cases h1 : bG (wN xs)
 .
  exact lj v neg xs ys w h h1 fun h2 => hs ⟨h1, h2⟩
 .
  exact li v neg xs ys w h h1
theorem SmallR.den {xs ys : List Int} (h : SmallR xs ys) : bG (wD ys) := by
 unfold wD;split
 .
  exact ⟨Fit.one (by omega) (by omega)⟩
 .
  exact h.2
theorem pB : Elem Try.prog 95 129 1 4 (.int .u32 0) := Elem.mk' (by kernel_rfl) (by kernel_rfl) rfl (by decide)
/-- A number that is not large. -/
structure FitQW (q : Rat) : Prop where
 num : bG q.num.natAbs
 den : bG q.den
/-- The canonical words of a denominator. -/
def sm (ys : List Int) (d : Nat) : Prop := (d = 1 /\ ys = []) \/ (d ≠ 1 /\ Rep 4294967296 ys d)
/-- The canonical value of a number. -/
def RatC (w : World) (v : Value) (q : Rat) : Prop := ∃ xs ys, RatV w v (decide (q.num < 0)) xs ys /\ Rep 4294967296 xs q.num.natAbs /\ sm ys q.den
theorem RatC.ext {w w' : World} {v : Value} {q : Rat} (h : RatC w v q) (he : Ext w w') : RatC w' v q := by
 obtain ⟨xs, ys, h1, h2⟩ := h;exact ⟨xs, ys, h1.ext he, h2⟩
/-- What Done leaves. -/
def pC (w : World) (q : Rat) (e : Ending) (w' : World) : Prop := ∃ v', e = .returned (.tuple #[v', .int .i64 0]) /\ RatC w' v' q /\ Ext w w'
/-- A row of integers and a block of another type. -/
theorem OwnS.apart {k : IntKind} {e t : TypeId} {base g gv n c : Nat} {w : World} {xs : List Int} {cs : Array Value} (h : OwnS k e base w (some ⟨gv, 0, none⟩) n c xs) (hB : Blk w g t cs) (hne : e ≠ t) : g ≠ gv := by
 intro he;subst he
 rcases h.own.2 with ⟨hv, _⟩ | ⟨g', cap, cur, hv, _, hg, _⟩
 .
  cases hv
 .
  injection hv with hA _ _;injection hA with hA;injection hA with hA;subst hA;unfold Blk at hB;rw [hB] at hg;injection hg with hg;injection hg with _ h2;exact hne h2.symm
/-- The block of a row lies in memory. -/
theorem OwnS.inMem {k : IntKind} {e : TypeId} {base gv n c : Nat} {w : World} {xs : List Int} (h : OwnS k e base w (some ⟨gv, 0, none⟩) n c xs) : gv < w.heap.size := by
 rcases h.own.2 with ⟨hv, _⟩ | ⟨g', cap, cur, hv, _, hg, _⟩
 .
  cases hv
 .
  injection hv with hA _ _;injection hA with hA;injection hA with hA;subst hA;exact (Array.getElem?_eq_some_iff.1 hg).1
theorem bZ (w : World) (g i : Nat) (u : Value) : w.grownBy (w.setCell ⟨g, i, none⟩ u) (some g) :=
 ⟨rfl, rfl, rfl, by simp, fun k _ hk => heap_setCell_other w ⟨g, i, none⟩ k u (fun e => hk (by simp [e]))⟩
theorem pD (g : Nat) (s : Bool) (A _B : Option Addr) (l c _m _k : Nat) (w : World) (a0 : w.cell? ⟨g, 0, none⟩ = some (.bool s)) (a1 : w.cell? ⟨g, 1, none⟩ = some (.slice A l c)) (_hl : l <= 256) : aF Try.prog Try.f131 4 8 25 w [18, 19, 20, 21, 22, 23, 24, 4] [.c (.pointer (some ⟨g, 0, none⟩)), .c (.bool s), .c (.pointer (some ⟨g, 1, none⟩)), .c (.slice A l c), .c (.int .i64 (l : Int)), .p fun v W => ∃ g', v = .slice (some ⟨g', 0, none⟩) l l /\ w.heap.size <= g' /\ OwnS .u32 129 w.heap.size W (some ⟨g', 0, none⟩) l l (List.replicate l 0), .p fun v W => ∃ g', v = .agg #[.bool s, .slice (some ⟨g', 0, none⟩) l l, .slice none 0 0] /\ w.heap.size <= g' /\ OwnS .u32 129 w.heap.size W (some ⟨g', 0, none⟩) l l (List.replicate l 0), .p fun v W => ∃ g', v = .pointer (some ⟨g', 0, none⟩) /\ w.heap.size <= g' /\ Blk W g' 97 #[.bool false, .slice none 0 0, .slice none 0 0]] [(1, .pointer (some ⟨g, 0, none⟩))] := by
 refine aJ [[], [0], [], [2], [3], [4], [1, 5], []] (by kernel_rfl) (by kernel_rfl) rfl ⟨by intro v W W' h hX; obtain ⟨g', h1, h2, h3⟩ := h; exact ⟨g', h1, h2, h3.ext hX⟩, by intro v W W' h hX; obtain ⟨g', h1, h2, h3⟩ := h; exact ⟨g', h1, h2, h3.ext hX⟩, by intro v W W' h hX; obtain ⟨g', h1, h2, h3⟩ := h; exact ⟨g', h1, h2, h3.ext hX⟩, trivial⟩ ?_;simp only [ae, Try.f131, ab, Option.bind_some, Nat.reduceBEq, if_true, if_false, Bool.false_eq_true, Option.getD_some];simp only [List.take_succ_cons, List.take_zero]
 repeat' first | refine ⟨?_, ?_⟩ | fail
 all_goals first | (intro us W b hJ K hK0 hK Qz; simp only [aC, al, am, List.getD_cons_succ, List.getD_cons_zero]) | exact True.intro
 all_goals try (intros; have q0 := Ext.cell hJ a0; have q1 := Ext.cell hJ a1; go_simp; exact hK0 _ rfl)
 .
  intro e22 e1;have hsz := Ext.size hJ;have hmk := fun (W0 : World) => run_make (P := Try.prog) W0 95 129
  obtain ⟨i0, hi0, hz0, hs0, hb0⟩ := pB.info;have hrun := run_make (P := Try.prog) W 95 129 i0 (.int .u32 0) pB.und hi0 hz0 .i64 .i64 (l : Int) (l : Int) (by omega) (by omega) (by rw [hb0]; omega) (by omega);simp only [Int.toNat_natCast] at hrun;clear hmk;go_simp;refine hK _ _ ⟨W.heap.size, rfl, hsz, ?_⟩ ((Ext.refl W).alloc _)
  have hown : (W.alloc (.cells (madeCells #[Value.int .u32 0] l) 129)).ownsRow w.heap.size 129 1 (.slice (some ⟨W.heap.size, 0, none⟩) l l) l (List.replicate l (.int .u32 0)) := by
   refine ⟨by simp, .inr ⟨W.heap.size, l, _, rfl, hsz, heap_alloc_new W _, Nat.le_refl _, by unfold maxLen; omega, by rw [size_madeCells]; simp, ?_⟩⟩;rw [toList_madeCells_one, Nat.mul_one, List.take_replicate, Nat.min_self]
  exact OwnS.made hown
 .
  intro e19 e23 d5 e1;obtain ⟨g', hv1, h2, h3⟩ := d5;rw [hv1] at e23;go_simp;exact hK0 _ ⟨g', rfl, h2, h3⟩
 .
  intro e1;have hsz := Ext.size hJ;go_simp;exact hK _ _ ⟨W.heap.size, rfl, hsz, Blk.new W _ _⟩ ((Ext.refl W).alloc _)
theorem pE (v : Value) (q : Rat) (L : Nat) (w : World) (h : NumX w v q L) (hL : L <= 1099511627775) (hq : FitQW q) :
  Calls Try.prog 131 #[v] w (pC w q) := by
 have HQ := hid hq;clear hq;obtain ⟨s, A1, l1, c1, A2, l2, c2, rfl⟩ := h.open;have hXw : Ext w ((w.alloc (.cells #[.bool s, .slice A1 l1 c1, .slice A2 l2 c2] 217)).alloc (.cells #[.bool false, .slice none 0 0, .slice none 0 0] 97)) := ((Ext.refl w).alloc _).alloc _;have hBA : Blk ((w.alloc (.cells #[.bool s, .slice A1 l1 c1, .slice A2 l2 c2] 217)).alloc (.cells #[.bool false, .slice none 0 0, .slice none 0 0] 97)) w.heap.size 217 #[.bool s, .slice A1 l1 c1, .slice A2 l2 c2] := (Blk.new w _ _).alloc _
 have hBR : Blk ((w.alloc (.cells #[.bool s, .slice A1 l1 c1, .slice A2 l2 c2] 217)).alloc (.cells #[.bool false, .slice none 0 0, .slice none 0 0] 97)) (w.heap.size + 1) 97 #[.bool false, .slice none 0 0, .slice none 0 0] := by
  have := Blk.new (w.alloc (.cells #[.bool s, .slice A1 l1 c1, .slice A2 l2 c2] 217)) 97 #[.bool false, .slice none 0 0, .slice none 0 0]
  simpa using this
 have HH := hid (h.ext hXw);clear h;go_enter Try.func131, Try.ntmps131
 go_wp2_with fail
 generalize (w.alloc _).alloc _ = w1 at hXw hBA hBR HH |-;have HXw := hid hXw;have HBR := hid hBR;clear hXw hBR;refine (cF HH.out hL).mono ?_;rintro e w2 ⟨v2, rfl, hv2, hX2⟩;obtain ⟨B1, m1, k1, B2, m2, k2, rfl, _⟩ := NumV.open hv2;have hB2 := hBA.ext hX2;obtain ⟨a0, a1, a2, f0, f1, f2⟩ := hB2.three;have hNB := NoInts.three hB2;have hv3 := hv2.boxed hNB (decide (q.num < 0)) B1 B2 m1 k1 m2 k2;have hX3 : Ext w (((w2.setCell ⟨w.heap.size, 0, none⟩ (.bool (decide (q.num < 0)))).setCell ⟨w.heap.size, 1, none⟩ (.slice B1 m1 k1)).setCell ⟨w.heap.size, 2, none⟩ (.slice B2 m2 k2)) := Ext.boxed (HXw.out.trans hX2) (Nat.le_refl _) _ _ _
 have hBA3 : Blk (((w2.setCell ⟨w.heap.size, 0, none⟩ (.bool (decide (q.num < 0)))).setCell ⟨w.heap.size, 1, none⟩ (.slice B1 m1 k1)).setCell ⟨w.heap.size, 2, none⟩ (.slice B2 m2 k2)) w.heap.size 217 #[.bool (decide (q.num < 0)), .slice B1 m1 k1, .slice B2 m2 k2] := by
  have := ((hB2.set 0 (.bool (decide (q.num < 0)))).set 1 (.slice B1 m1 k1)).set 2 (.slice B2 m2 k2)
  simpa using this
 have hBR3 : Blk (((w2.setCell ⟨w.heap.size, 0, none⟩ (.bool (decide (q.num < 0)))).setCell ⟨w.heap.size, 1, none⟩ (.slice B1 m1 k1)).setCell ⟨w.heap.size, 2, none⟩ (.slice B2 m2 k2)) (w.heap.size + 1) 97 #[.bool false, .slice none 0 0, .slice none 0 0] :=
  (((HBR.out.ext hX2).far (by simp) _).far (by simp) _).far (by simp) _
 obtain ⟨sg, hsg⟩ : ∃ sg, decide (q.num < 0) = sg := ⟨_, rfl⟩;rw [hsg] at hv3 hX3 hBA3 hBR3 |-;have HSG := hid hsg;obtain ⟨vn, vd, hve, hWn, hWd⟩ := hv3;injection hve with hve;have h1 : .slice B1 m1 k1 = vn := by have := congrArg (fun a => a[1]?) hve; simpa using this
 have h2 : .slice B2 m2 k2 = vd := by have := congrArg (fun a => a[2]?) hve; simpa using this
 subst h1 h2
 have hlm1 : m1 <= 256 ↔ bG q.num.natAbs := by
  obtain ⟨A', l', c', xs', hve', hI', hr', _⟩ := hWn;injection hve' with h1 h2 h3;subst h1 h2 h3;refine jn ⟨fun hk => ?_, fun hf => by have := hf.len (by omega) hr'; rw [hI'.1] at this; exact this⟩;have := (Fit.of_rep (by omega) hr').mono (b := 256) (by omega) (by rw [hI'.1]; exact hk);exact this
 have hlm2 : m2 <= 256 ↔ bG q.den := by
  obtain ⟨A', l', c', xs', hve', hI', hr', _⟩ := hWd;injection hve' with h1 h2 h3;subst h1 h2 h3;refine jn ⟨fun hk => ?_, fun hf => by have := hf.len (by omega) hr'; rw [hI'.1] at this; exact this⟩;have := (Fit.of_rep (by omega) hr').mono (b := 256) (by omega) (by rw [hI'.1]; exact hk);exact this
 obtain ⟨r0, r1, r2, g0, g1, g2⟩ := (HBR.out.ext hX2).three;have HWn := hid hWn;have HWd := hid hWd;have HX3 := hid hX3;have HBA3 := hid hBA3;have HBR3 := hid hBR3;have HLM1 := hid hlm1;have HLM2 := hid hlm2;clear hve hv2 hX2 hB2 hNB hsg hBA hWn hWd hX3 hBA3 hBR3 hlm1 hlm2;have hm1 : m1 <= 256 := HLM1.out.2 HQ.out.num;have hm2 : m2 <= 256 := HLM2.out.2 HQ.out.den
 go_upto_region 4 with (fail)
 generalize ((w2.setCell _ _).setCell _ _).setCell _ _ = w3 at HWn HWd HX3 HBA3 HBR3 |-;clear a0 a1 a2 f0 f1 f2 r0 r1 r2 g0 g1 g2;obtain ⟨a0, a1, a2, _, _, _⟩ := HBA3.out.three;refine pD w.heap.size sg B1 B2 m1 k1 m2 k2 w3 a0 a1 hm1 _ _ (by simp) ⟨rfl, trivial⟩ ?_;rintro W hXW xv5 h5 xv6 h6 xv7 h7;simp only [EndK, ae, Try.f131, ab, Option.bind_some, Nat.reduceBEq, if_true, if_false, Bool.false_eq_true, Option.getD_some, List.drop_succ_cons, List.drop_zero];simp only [Act.put, List.setIfInBounds_toArray, List.set_cons_succ, List.set_cons_zero];obtain ⟨g5, rfl, _, _⟩ := h5;obtain ⟨gn, rfl, hgn, hOn⟩ := h6;obtain ⟨g4, rfl, hg4, hB4⟩ := h7;have hne4 : g4 ≠ gn := hOn.apart hB4 (by decide);obtain ⟨y0, y1, y2, f0, f1, f2⟩ := hB4.three;have hw3 := HX3.out.size;have hga : w.heap.size < w3.heap.size := HBA3.out.lt;have hgr : w.heap.size + 1 < w3.heap.size := HBR3.out.lt
 go_upto_region 5 with (fail)
 have hgw := (((bZ W g4 0 (.bool sg)).trans (bZ _ g4 1 (.slice (some ⟨gn, 0, none⟩) m1 m1))).trans (bZ _ g4 2 (.slice none 0 0)));have hO4 := hOn.other hgw hne4
 have hB4' : Blk (((W.setCell ⟨g4, 0, none⟩ (.bool sg)).setCell ⟨g4, 1, none⟩ (.slice (some ⟨gn, 0, none⟩) m1 m1)).setCell ⟨g4, 2, none⟩ (.slice none 0 0)) g4 97 #[.bool sg, .slice (some ⟨gn, 0, none⟩) m1 m1, .slice none 0 0] := by
  have := ((hB4.set 0 (.bool sg)).set 1 (.slice (some ⟨gn, 0, none⟩) m1 m1)).set 2 (.slice none 0 0)
  simpa using this
 have hX4 := Ext.boxed hXW hg4 (.bool sg) (.slice (some ⟨gn, 0, none⟩) m1 m1) (.slice none 0 0);generalize ((W.setCell _ _).setCell _ _).setCell _ _ = w4 at hO4 hB4' hX4 |-;clear y0 y1 y2 f0 f1 f2 hgw hOn hB4 hXW a0 a1 a2;have HX4 := hid hX4;have HB4 := hid hB4';obtain ⟨a0, a1, a2, _, _, _⟩ := (HBA3.out.ext hX4).three;obtain ⟨y0, y1, y2, f0, f1, f2⟩ := hB4'.three;obtain ⟨_, _, _, xs, hve, hIn, hRn, _, _⟩ := HWn.out.ext hX4;injection hve with e1 e2 e3;subst e1 e2 e3;have HIn := hid hIn;have HRn := hid hRn;clear hIn hRn hX4 hB4';obtain ⟨_, _, _, ys, hve, hId, hRd, hkd, hkm⟩ := HWd.out;injection hve with e1 e2 e3;subst e1 e2 e3;have HId := hid hId;have HRd := hid hRd
 have hcase : Hid (q.den = 1 /\ m2 = 1 /\ (∃ b o, B2 = some ⟨b, o, none⟩ /\ w3.cell? ⟨b, o, none⟩ = some (.int .u32 1)) \/ (q.den ≠ 1 /\ (1 < m2 \/ (m2 = 1 /\ ∃ b o x, B2 = some ⟨b, o, none⟩ /\ w3.cell? ⟨b, o, none⟩ = some (.int .u32 x) /\ (x != 1) = true)))) := by
  by_cases h1 : q.den = 1
  .
   have hys : ys = [1] := by rw [h1] at hRd; exact hRd.unique (by omega) (Rep.one (by omega))
   subst hys;have hm : m2 = 1 := by simpa using hId.1.symm
   subst hm;obtain ⟨b, o, y, rfl, hy, _, hcy⟩ := hId.get (j := 0) (by omega);obtain rfl : 1 = y := by simpa using hy
   rw [Nat.add_zero] at hcy;exact .inl ⟨h1, rfl, b, o, rfl, hcy⟩
  .
   refine .inr ⟨h1, ?_⟩
   have hm0 : 0 < m2 := by
    rcases Nat.eq_zero_or_pos m2 with h | h
    .
     have h2 := hId.1;rw [h] at h2;have := (hRd.pos (by omega)).2 (List.eq_nil_of_length_eq_zero h2);have := q.den_pos;omega
    .
     exact h
   by_cases hm : m2 = 1
   .
    subst hm;obtain ⟨x, rfl, hx, _, _⟩ := eu (by omega) hRd hId.1;obtain ⟨b, o, y, rfl, hy, _, hcy⟩ := hId.get (j := 0) (by omega);obtain rfl : x = y := by simpa using hy
    rw [Nat.add_zero] at hcy;refine .inr ⟨rfl, b, o, x, rfl, hcy, ?_⟩;simp only [bne_iff_ne, ne_eq];intro h2; apply h1; omega
   .
    exact .inl (by omega)
 have HCASE := hid hcase;clear hId hRd hcase
 go_upto_region 6 with (first | (refine eo (o := ⟨some 29, _, _, _, _, _⟩) _ pB rfl _ _ rfl w3.heap.size (some ⟨gn, 0, none⟩) m1 m1 _ rfl hO4.own B1 m1 k1 (xs.map (.int .u32)) rfl (by rw [List.length_map]; exact HIn.out.1) HIn.out.2.2 (ints_oneCell _ _) ?_; intro w5 r5 hown5 hgr5 hr5))
 have hX5 : Ext w3 w5 := HX4.out.grown hgr5 (fun k hk => by simp [Value.ownBlock] at hk; omega)
 have hO5 : OwnS .u32 129 w3.heap.size w5 (some ⟨gn, 0, none⟩) m1 m1 xs := by
  refine ⟨?_, HIn.out.1, HIn.out.2.1⟩
  have e : List.take m1 (xs.map (Value.int .u32)) ++ List.drop m1 ((List.replicate m1 (0 : Int)).map (Value.int .u32)) = xs.map (Value.int .u32) := by
   rw [List.take_of_length_le (by rw [List.length_map, HIn.out.1]; exact Nat.le_refl _), List.drop_eq_nil_of_le (by simp)]; simp
  rw [e] at hown5;exact hown5
 have hB5 : Blk w5 g4 97 #[.bool sg, .slice (some ⟨gn, 0, none⟩) m1 m1, .slice none 0 0] := HB4.out.grown hgr5 (by simp [Value.ownBlock]; exact hne4);have HX5 := hid hX5;have HO5 := hid hO5;have HB5 := hid hB5;clear hown5 hgr5 hr5 hX5 hO5 hB5 a0 a1 a2 y0 y1 y2 f0 f1 f2 hO4;obtain ⟨a0, a1, a2, _, _, _⟩ := (HBA3.out.ext HX5.out).three;obtain ⟨y0, y1, y2, f0, f1, f2⟩ := HB5.out.three;obtain ⟨r0, r1, r2, g0, g1, g2⟩ := (HBR3.out.ext HX5.out).three;have hgr5 := (HBR3.out.ext HX5.out).lt;have hner : w.heap.size + 1 ≠ g4 := by omega
 rcases HCASE.out with ⟨hd1, rfl, b, o, rfl, hcb⟩ | ⟨hd1, hrest⟩
 .
  replace hcb := HX5.out.cell hcb;have HD1 := hid hd1;clear hd1 HCASE;go_wp2;refine bodyPost_ret (v := .tuple #[.agg #[.bool sg, .slice (some ⟨gn, 0, none⟩) m1 m1, .slice none 0 0], .int .i64 0]) (by simp [results, Try.results131, go_sem, *]) rfl ?_;have hNR := NoInts.three (HBR3.out.ext HX5.out);have hI5 := HO5.out.ints;refine ⟨_, rfl, ⟨xs, [], ⟨_, _, _, _, _, _, by rw [HSG.out], ?_, Nat.le_refl _, by omega, Ints.nil, by omega, by omega⟩, HRn.out, .inl ⟨HD1.out, rfl⟩⟩, Ext.boxed (HX3.out.trans HX5.out) (by omega) _ _ _⟩;exact ((hI5.past hNR.cell 0 _).past (hNR.set 0 (ak _)).cell 1 _).past ((hNR.set 0 (ak _)).set 1 (ag _ _ _)).cell 2 _
 .
  have HD1 := hid hd1;clear hd1 HCASE
  rcases hrest with hm | ⟨rfl, b, o, x, rfl, hcb, hx⟩
  .
   have hmb : (1 : Int) < (m2 : Int) := by omega
   have hgn5 : gn < w5.heap.size := HO5.out.inMem;have hg45 : g4 < w5.heap.size := HB5.out.lt
   go_upto_region 8 with (first | (at_make; refine ap _ pB rfl rfl _ _ rfl w5.heap.size _ _ _ _ m2 m2 rfl rfl rfl rfl (Nat.le_refl _) (by omega) (by unfold maxLen; omega) (Nat.le_refl _) ?_; intro w6 hown6 hext6 hsz6; obtain ⟨y0, y1, y2, f0, f1, f2⟩ := (HB5.out.ext hext6).three))
   have hO6d := OwnS.made hown6;obtain ⟨gd, hgd⟩ : ∃ gd, gd = w5.heap.size := ⟨_, rfl⟩;rw [<- hgd] at hO6d |-;have hgd1 : w5.heap.size <= gd := by omega
   have hgd2 : gn < gd := by omega
   have hgd3 : g4 < gd := by omega
   clear hgd;have hg7 := bZ w6 g4 2 (.slice (some ⟨gd, 0, none⟩) m2 m2);have hO7d := hO6d.other hg7 (by omega);have hO7n := (HO5.out.ext hext6).other hg7 hne4
   have hB7 : Blk (w6.setCell ⟨g4, 2, none⟩ (.slice (some ⟨gd, 0, none⟩) m2 m2)) g4 97 #[.bool sg, .slice (some ⟨gn, 0, none⟩) m1 m1, .slice (some ⟨gd, 0, none⟩) m2 m2] := by
    have := (HB5.out.ext hext6).set 2 (.slice (some ⟨gd, 0, none⟩) m2 m2)
    simpa using this
   have hX7 := (HX5.out.trans hext6).setCell (p := ⟨g4, 2, none⟩) hg4 (.slice (some ⟨gd, 0, none⟩) m2 m2);generalize w6.setCell _ _ = w7 at hO7d hO7n hB7 hX7 |-;have HId7 := hid (HId.out.ext hX7);have HX7 := hid hX7;have HO7n := hid hO7n;have HB7 := hid hB7;obtain ⟨a0, a1, a2, _, _, _⟩ := (HBA3.out.ext hX7).three;clear hown6 hext6 hsz6 hO6d hg7 hO7n y0 y1 y2 f0 f1 f2 hX7;obtain ⟨y0, y1, y2, f0, f1, f2⟩ := hB7.three;clear hB7 r0 r1 r2 g0 g1 g2;have hl' : (ys.map (Value.int .u32)).length = m2 := by rw [List.length_map]; exact HId7.out.1
   have hat' : At w7 B2 (ys.map (Value.int .u32)) := HId7.out.2.2;have ho' := hO7d.own
   go_upto_region 9 with (first | (refine eo (o := ⟨some 50, _, _, _, _, _⟩) _ pB rfl _ _ rfl _ _ _ _ _ rfl ho' B2 m2 k2 (ys.map (.int .u32)) rfl hl' hat' (ints_oneCell _ _) ?_; intro w8 r8 hown8 hgr8 hr8))
   clear hl' hat' ho';have hX8 : Ext w3 w8 := HX7.out.grown hgr8 (fun k hk => by simp [Value.ownBlock] at hk; have := HX5.out.size; omega)
   have hO8d : OwnS .u32 129 gd w8 (some ⟨gd, 0, none⟩) m2 m2 ys := by
    refine ⟨?_, HId7.out.1, HId7.out.2.1⟩
    have e : List.take m2 (ys.map (Value.int .u32)) ++ List.drop m2 ((List.replicate m2 (0 : Int)).map (Value.int .u32)) = ys.map (Value.int .u32) := by
     rw [List.take_of_length_le (by rw [List.length_map, HId7.out.1]; exact Nat.le_refl _), List.drop_eq_nil_of_le (by simp)]; simp
    rw [e] at hown8;exact hown8
   have hO8n := HO7n.out.other hgr8 (show gd ≠ gn by omega);have hB8 : Blk w8 g4 97 #[.bool sg, .slice (some ⟨gn, 0, none⟩) m1 m1, .slice (some ⟨gd, 0, none⟩) m2 m2] := HB7.out.grown hgr8 (by simp [Value.ownBlock]; omega);have HX8 := hid hX8;have HO8d := hid hO8d;have HO8n := hid hO8n;have HBR8 := hid (HBR3.out.ext hX8);clear hown8 hgr8 hr8 hO8d hO8n hO7d a0 a1 a2 y0 y1 y2 f0 f1 f2 hX8;obtain ⟨y0, y1, y2, f0, f1, f2⟩ := hB8.three;obtain ⟨r0, r1, r2, g0, g1, g2⟩ := HBR8.out.three;clear hB8;go_wp2;refine bodyPost_ret (v := .tuple #[.agg #[.bool sg, .slice (some ⟨gn, 0, none⟩) m1 m1, .slice (some ⟨gd, 0, none⟩) m2 m2], .int .i64 0]) (by simp [results, Try.results131, go_sem, *]) rfl ?_;have hNR := NoInts.three HBR8.out;refine ⟨_, rfl, ⟨xs, ys, ⟨_, _, _, _, _, _, by rw [HSG.out], ?_, Nat.le_refl _, by omega, ?_, Nat.le_refl _, by omega⟩, HRn.out, .inr ⟨HD1.out, HRd.out⟩⟩, Ext.boxed (HX3.out.trans HX8.out) (by omega) _ _ _⟩
   .
    exact ((HO8n.out.ints.past hNR.cell 0 _).past (hNR.set 0 (ak _)).cell 1 _).past ((hNR.set 0 (ak _)).set 1 (ag _ _ _)).cell 2 _
   .
    exact ((HO8d.out.ints.past hNR.cell 0 _).past (hNR.set 0 (ak _)).cell 1 _).past ((hNR.set 0 (ak _)).set 1 (ag _ _ _)).cell 2 _
  .
   replace hcb := HX5.out.cell hcb;have hgn5 : gn < w5.heap.size := HO5.out.inMem;have hg45 : g4 < w5.heap.size := HB5.out.lt
   go_upto_region 8 with (first | (at_make; refine ap _ pB rfl rfl _ _ rfl w5.heap.size _ _ _ _ 1 1 rfl rfl rfl rfl (Nat.le_refl _) (by omega) (by unfold maxLen; omega) (Nat.le_refl _) ?_; intro w6 hown6 hext6 hsz6; obtain ⟨y0, y1, y2, f0, f1, f2⟩ := (HB5.out.ext hext6).three))
   have hO6d := OwnS.made hown6;obtain ⟨gd, hgd⟩ : ∃ gd, gd = w5.heap.size := ⟨_, rfl⟩;rw [<- hgd] at hO6d |-;have hgd1 : w5.heap.size <= gd := by omega
   have hgd2 : gn < gd := by omega
   have hgd3 : g4 < gd := by omega
   clear hgd;have hg7 := bZ w6 g4 2 (.slice (some ⟨gd, 0, none⟩) 1 1);have hO7d := hO6d.other hg7 (by omega);have hO7n := (HO5.out.ext hext6).other hg7 hne4
   have hB7 : Blk (w6.setCell ⟨g4, 2, none⟩ (.slice (some ⟨gd, 0, none⟩) 1 1)) g4 97 #[.bool sg, .slice (some ⟨gn, 0, none⟩) m1 m1, .slice (some ⟨gd, 0, none⟩) 1 1] := by
    have := (HB5.out.ext hext6).set 2 (.slice (some ⟨gd, 0, none⟩) 1 1)
    simpa using this
   have hX7 := (HX5.out.trans hext6).setCell (p := ⟨g4, 2, none⟩) hg4 (.slice (some ⟨gd, 0, none⟩) 1 1);generalize w6.setCell _ _ = w7 at hO7d hO7n hB7 hX7 |-;have HId7 := hid (HId.out.ext hX7);have HX7 := hid hX7;have HO7n := hid hO7n;have HB7 := hid hB7;obtain ⟨a0, a1, a2, _, _, _⟩ := (HBA3.out.ext hX7).three;clear hown6 hext6 hsz6 hO6d hg7 hO7n y0 y1 y2 f0 f1 f2 hX7;obtain ⟨y0, y1, y2, f0, f1, f2⟩ := hB7.three;clear hB7 r0 r1 r2 g0 g1 g2;have hl' : (ys.map (Value.int .u32)).length = 1 := by rw [List.length_map]; exact HId7.out.1
   have hat' : At w7 (some ⟨b, o, none⟩) (ys.map (Value.int .u32)) := HId7.out.2.2;have ho' := hO7d.own
   go_upto_region 9 with (first | (refine eo (o := ⟨some 50, _, _, _, _, _⟩) _ pB rfl _ _ rfl _ _ _ _ _ rfl ho' (some ⟨b, o, none⟩) 1 k2 (ys.map (.int .u32)) rfl hl' hat' (ints_oneCell _ _) ?_; intro w8 r8 hown8 hgr8 hr8))
   clear hl' hat' ho';have hX8 : Ext w3 w8 := HX7.out.grown hgr8 (fun k hk => by simp [Value.ownBlock] at hk; have := HX5.out.size; omega)
   have hO8d : OwnS .u32 129 gd w8 (some ⟨gd, 0, none⟩) 1 1 ys := by
    refine ⟨?_, HId7.out.1, HId7.out.2.1⟩
    have e : List.take 1 (ys.map (Value.int .u32)) ++ List.drop 1 ((List.replicate 1 (0 : Int)).map (Value.int .u32)) = ys.map (Value.int .u32) := by
     rw [List.take_of_length_le (by rw [List.length_map, HId7.out.1]; exact Nat.le_refl _), List.drop_eq_nil_of_le (by simp)]; simp
    rw [e] at hown8;exact hown8
   have hO8n := HO7n.out.other hgr8 (show gd ≠ gn by omega);have hB8 : Blk w8 g4 97 #[.bool sg, .slice (some ⟨gn, 0, none⟩) m1 m1, .slice (some ⟨gd, 0, none⟩) 1 1] := HB7.out.grown hgr8 (by simp [Value.ownBlock]; omega);have HX8 := hid hX8;have HO8d := hid hO8d;have HO8n := hid hO8n;have HBR8 := hid (HBR3.out.ext hX8);clear hown8 hgr8 hr8 hO8d hO8n hO7d a0 a1 a2 y0 y1 y2 f0 f1 f2 hX8;obtain ⟨y0, y1, y2, f0, f1, f2⟩ := hB8.three;obtain ⟨r0, r1, r2, g0, g1, g2⟩ := HBR8.out.three;clear hB8;go_wp2;refine bodyPost_ret (v := .tuple #[.agg #[.bool sg, .slice (some ⟨gn, 0, none⟩) m1 m1, .slice (some ⟨gd, 0, none⟩) 1 1], .int .i64 0]) (by simp [results, Try.results131, go_sem, *]) rfl ?_;have hNR := NoInts.three HBR8.out;refine ⟨_, rfl, ⟨xs, ys, ⟨_, _, _, _, _, _, by rw [HSG.out], ?_, Nat.le_refl _, by omega, ?_, Nat.le_refl _, by omega⟩, HRn.out, .inr ⟨HD1.out, HRd.out⟩⟩, Ext.boxed (HX3.out.trans HX8.out) (by omega) _ _ _⟩
   .
    exact ((HO8n.out.ints.past hNR.cell 0 _).past (hNR.set 0 (ak _)).cell 1 _).past ((hNR.set 0 (ak _)).set 1 (ag _ _ _)).cell 2 _
   .
    exact ((HO8d.out.ints.past hNR.cell 0 _).past (hNR.set 0 (ak _)).cell 1 _).past ((hNR.set 0 (ak _)).set 1 (ag _ _ _)).cell 2 _
theorem nm (b : Bool) (v : Value) (neg : Bool) (xs ys : List Int) (w : World) (h : RatV w v neg xs ys) (hb : b = true ↔ ¬ SmallR xs ys) :
  Calls Try.prog 141 #[v] w fun e w' => e = .returned (.bool b) /\ Ext w w' := by
 cases b
 .
  have hs : SmallR xs ys := Classical.byContradiction fun h => by simpa using hb.2 h
  exact nl v neg xs ys w h hs.1 hs.2
 .
  exact lk v neg xs ys w h (hb.1 rfl)
/-- The sign of an integer. -/
def lm (n : Int) : Int := if n < 0 then -1 else if 0 < n then 1 else 0
theorem jo (A : Option Addr) (l c : Nat) (w : World)  :
  Calls Try.prog 151 #[.agg #[.bool true, .slice A l c]] w fun e w' => e = .returned (.agg #[.bool false, .slice A l c]) /\ Ext w w' := by
 have HX := hid (((Ext.refl w).alloc (.cells #[.bool true, .slice A l c] 63)).alloc (.cells #[.bool false, .slice A l c] 63))
 skip
 go_enter Try.func151, Try.ntmps151;go_wp2;refine bodyPost_ret (v := .agg #[.bool false, .slice A l c]) (by simp [results, Try.results151, go_sem, *]) rfl ?_;exact ⟨rfl, HX.out⟩
theorem jp (A : Option Addr) (l c : Nat) (w : World) (_hl : 0 < l) :
  Calls Try.prog 151 #[.agg #[.bool false, .slice A l c]] w fun e w' => e = .returned (.agg #[.bool true, .slice A l c]) /\ Ext w w' := by
 have HX := hid (((Ext.refl w).alloc (.cells #[.bool false, .slice A l c] 63)).alloc (.cells #[.bool true, .slice A l c] 63));have hl2 : (0 : Int) < (l : Int) := by omega
 go_enter Try.func151, Try.ntmps151;go_wp2;refine bodyPost_ret (v := .agg #[.bool true, .slice A l c]) (by simp [results, Try.results151, go_sem, *]) rfl ?_;exact ⟨rfl, HX.out⟩
theorem im (A : Option Addr) (l c : Nat) (w : World) (hl : l = 0) :
  Calls Try.prog 151 #[.agg #[.bool false, .slice A l c]] w fun e w' => e = .returned (.agg #[.bool false, .slice A l c]) /\ Ext w w' := by
 have HX := hid (((Ext.refl w).alloc (.cells #[.bool false, .slice A l c] 63)).alloc (.cells #[.bool false, .slice A l c] 63));subst hl;go_enter Try.func151, Try.ntmps151;go_wp2;refine bodyPost_ret (v := .agg #[.bool false, .slice A 0 c]) (by simp [results, Try.results151, go_sem, *]) rfl ?_;exact ⟨rfl, HX.out⟩
theorem ln (A : Option Addr) (l c : Nat) (w : World) (_hl : 0 < l) :
  Calls Try.prog 117 #[.agg #[.bool true, .slice A l c]] w fun e w' => e = .returned (.int .i64 (-1)) /\ Ext w w' := by
 have HX := hid ((Ext.refl w).alloc (.cells #[.bool true, .slice A l c] 63));have hl2 : ((l : Int) == 0) = false := by simp; omega
 go_enter Try.func117, Try.ntmps117;go_wp2;go_ret;exact ⟨rfl, HX.out⟩
theorem lr (A : Option Addr) (l c : Nat) (w : World) (_hl : 0 < l) :
  Calls Try.prog 117 #[.agg #[.bool false, .slice A l c]] w fun e w' => e = .returned (.int .i64 (1)) /\ Ext w w' := by
 have HX := hid ((Ext.refl w).alloc (.cells #[.bool false, .slice A l c] 63));have hl2 : ((l : Int) == 0) = false := by simp; omega
 go_enter Try.func117, Try.ntmps117;go_wp2;go_ret;exact ⟨rfl, HX.out⟩
theorem jq (A : Option Addr) (l c : Nat) (w : World) (hl : l = 0) :
  Calls Try.prog 117 #[.agg #[.bool false, .slice A l c]] w fun e w' => e = .returned (.int .i64 (0)) /\ Ext w w' := by
 have HX := hid ((Ext.refl w).alloc (.cells #[.bool false, .slice A l c] 63));subst hl;go_enter Try.func117, Try.ntmps117;go_wp2;go_ret;exact ⟨rfl, HX.out⟩
theorem IntZ.parts {w : World} {v : Value} {z : Int} (h : IntZ w v z) : ∃ A l c, v = .agg #[.bool (decide (z < 0)), .slice A l c] /\ Z16 w (.slice A l c) z.natAbs /\ (z = 0 ↔ l = 0) := by
 obtain ⟨A, l, c, rfl, hz⟩ := h;have hz' := hz;obtain ⟨A', l', c', xs, e, hI, hr, _⟩ := hz';injection e with e1 e2 e3;subst e1 e2 e3;have hp := hr.pos (by omega);rw [<- List.length_eq_zero_iff, hI.1] at hp;exact ⟨A, l, c, rfl, hz, by rw [<- hp]; omega⟩
theorem ez (v : Value) (z : Int) (w : World) (h : IntZ w v z) : Calls Try.prog 117 #[v] w fun e w' => e = .returned (.int .i64 (lm z)) /\ Ext w w' := by
 obtain ⟨A, l, c, rfl, hz, hl⟩ := h.parts
 rcases Int.lt_trichotomy z 0 with h | h | h
 .
  rw [decide_eq_true h, show lm z = -1 by simp [lm, h]];exact ln A l c w (by rcases Nat.eq_zero_or_pos l with h0 | h0; have := hl.2 h0; omega; exact h0)
 .
  rw [decide_eq_false (by omega), h];exact jq A l c w (hl.1 h)
 .
  rw [decide_eq_false (by omega), show lm z = 1 by simp [lm, h, show ¬ z < 0 by omega]];exact lr A l c w (by rcases Nat.eq_zero_or_pos l with h0 | h0; have := hl.2 h0; omega; exact h0)
theorem dK (v : Value) (z : Int) (w : World) (h : IntZ w v z) : Calls Try.prog 151 #[v] w (lh w (-z)) := by
 obtain ⟨A, l, c, rfl, hz⟩ := h;have hz' := hz;obtain ⟨A', l', c', xs, e, hI, hr, _⟩ := hz';injection e with e1 e2 e3;subst e1 e2 e3;have hp := hr.pos (by omega);rw [<- List.length_eq_zero_iff, hI.1] at hp;have hab : (-z).natAbs = z.natAbs := Int.natAbs_neg z
 rcases Int.lt_trichotomy z 0 with h | h | h
 .
  rw [decide_eq_true h];refine (jo A l c w).mono ?_;rintro e w' ⟨rfl, hX⟩;exact ⟨_, rfl, ⟨A, l, c, by rw [decide_eq_false (by omega)], by rw [hab]; exact hz.ext hX⟩, hX⟩
 .
  rw [decide_eq_false (by omega)];refine (im A l c w (hp.1 (by omega))).mono ?_;rintro e w' ⟨rfl, hX⟩;exact ⟨_, rfl, ⟨A, l, c, by rw [decide_eq_false (by omega)], by rw [hab]; exact hz.ext hX⟩, hX⟩
 .
  rw [decide_eq_false (by omega)];refine (jp A l c w (by rcases Nat.eq_zero_or_pos l with h0 | h0; have := hp.2 h0; omega; exact h0)).mono ?_;rintro e w' ⟨rfl, hX⟩;exact ⟨_, rfl, ⟨A, l, c, by rw [decide_eq_true (by omega)], by rw [hab]; exact hz.ext hX⟩, hX⟩
theorem Z16.two {w : World} {v : Value} {n g : Nat} (h : Z16 w v n) (hN : NoInts w g) (b : Bool) (A : Option Addr) (l c : Nat) : Z16 ((w.setCell ⟨g, 0, none⟩ (.bool b)).setCell ⟨g, 1, none⟩ (.slice A l c)) v n :=
 bN (bN h hN 0 _) (hN.set 0 (ak _)) 1 _
theorem Z16.box3 {w : World} {v : Value} {n g : Nat} (h : Z16 w v n) (hN : NoInts w g) (b : Bool) (A B : Option Addr) (l c m k : Nat) : Z16 (((w.setCell ⟨g, 0, none⟩ (.bool b)).setCell ⟨g, 1, none⟩ (.slice A l c)).setCell ⟨g, 2, none⟩ (.slice B m k)) v n :=
 bN (h.two hN b A l c) ((hN.set 0 (ak _)).set 1 (ag _ _ _)) 2 _
theorem Z16.open {w : World} {v : Value} {n : Nat} (h : Z16 w v n) : ∃ A l c, v = .slice A l c /\ Z16 w (.slice A l c) n /\ (l = 0 ↔ n = 0) := by
 obtain ⟨A, l, c, xs, rfl, hI, hr, h3⟩ := h;have hp := hr.pos (by omega);rw [<- List.length_eq_zero_iff, hI.1] at hp;exact ⟨A, l, c, rfl, ⟨A, l, c, xs, rfl, hI, hr, h3⟩, by rw [<- hp]⟩
/-- What a call returns that makes a sign and limbs. -/
def dY (w : World) (b : Bool) (n : Nat) (e : Ending) (w' : World) : Prop := ∃ A l c, e = .returned (.agg #[.bool b, .slice A l c]) /\ Z16 w' (.slice A l c) n /\ Ext w w'
theorem pF (ga gb L : Nat) (s0 s1 : Bool) (A0 A1 : Option Addr) (l0 c0 l1 c1 n0 n1 : Nat) (w : World) (x0 : w.cell? ⟨ga, 0, none⟩ = some (.bool s0)) (x1 : w.cell? ⟨ga, 1, none⟩ = some (.slice A0 l0 c0)) (_y0 : w.cell? ⟨gb, 0, none⟩ = some (.bool s1)) (y1 : w.cell? ⟨gb, 1, none⟩ = some (.slice A1 l1 c1)) (hx : Z16 w (.slice A0 l0 c0) n0) (hy : Z16 w (.slice A1 l1 c1) n1) (fn : Fit 65536 n0 L) (fm : Fit 65536 n1 L) (hL : L <= 1000000) : aF Try.prog Try.f114 2 7 18 w [11, 12, 13, 14, 15, 16, 17] [.c (.pointer (some ⟨ga, 0, none⟩)), .c (.bool s0), .c (.pointer (some ⟨ga, 1, none⟩)), .c (.slice A0 l0 c0), .c (.pointer (some ⟨gb, 1, none⟩)), .c (.slice A1 l1 c1), .p fun v W => Z16 W v (n0 + n1)] [(2, .pointer (some ⟨ga, 0, none⟩)), (3, .pointer (some ⟨gb, 0, none⟩))] := by
 refine aJ [[], [0], [], [2], [], [4], [3, 5]] (by kernel_rfl) (by kernel_rfl) rfl ⟨by intro v W W' h hX; exact Z16.ext h hX, trivial⟩ ?_;simp only [ae, Try.f114, ab, Option.bind_some, Nat.reduceBEq, if_true, if_false, Bool.false_eq_true, Option.getD_some];simp only [List.take_succ_cons, List.take_zero]
 repeat' first | refine ⟨?_, ?_⟩ | fail
 all_goals first | (intro us W b hJ K hK0 hK Qz; simp only [aC, al, am, List.getD_cons_succ, List.getD_cons_zero]) | exact True.intro
 all_goals try (intros; have q0 := Ext.cell hJ x0; have q1 := Ext.cell hJ x1; have q2 := Ext.cell hJ y1; go_simp; exact hK0 _ rfl)
 .
  intro e14 e16 e2 e3;go_simp;refine (mZ _ _ n0 n1 L _ (Z16.ext hx hJ) (Z16.ext hy hJ) fn fm hL).mono ?_;rintro e w' ⟨v, rfl, hv, hX⟩;exact hK _ _ hv hX
theorem pG (ga gb L : Nat) (s0 s1 : Bool) (A0 A1 : Option Addr) (l0 c0 l1 c1 n0 n1 : Nat) (w : World) (x0 : w.cell? ⟨ga, 0, none⟩ = some (.bool s0)) (x1 : w.cell? ⟨ga, 1, none⟩ = some (.slice A0 l0 c0)) (_y0 : w.cell? ⟨gb, 0, none⟩ = some (.bool s1)) (y1 : w.cell? ⟨gb, 1, none⟩ = some (.slice A1 l1 c1)) (hx : Z16 w (.slice A0 l0 c0) n0) (hy : Z16 w (.slice A1 l1 c1) n1) (fn : Fit 65536 n0 L) (_fm : Fit 65536 n1 L) (hL : L <= 1000000) (hm : n1 <= n0) : aF Try.prog Try.f114 7 7 36 w [29, 30, 31, 32, 33, 34, 35] [.c (.pointer (some ⟨ga, 0, none⟩)), .c (.bool s0), .c (.pointer (some ⟨ga, 1, none⟩)), .c (.slice A0 l0 c0), .c (.pointer (some ⟨gb, 1, none⟩)), .c (.slice A1 l1 c1), .p fun v W => Z16 W v (n0 - n1)] [(2, .pointer (some ⟨ga, 0, none⟩)), (3, .pointer (some ⟨gb, 0, none⟩))] := by
 refine aJ [[], [0], [], [2], [], [4], [3, 5]] (by kernel_rfl) (by kernel_rfl) rfl ⟨by intro v W W' h hX; exact Z16.ext h hX, trivial⟩ ?_;simp only [ae, Try.f114, ab, Option.bind_some, Nat.reduceBEq, if_true, if_false, Bool.false_eq_true, Option.getD_some];simp only [List.take_succ_cons, List.take_zero]
 repeat' first | refine ⟨?_, ?_⟩ | fail
 all_goals first | (intro us W b hJ K hK0 hK Qz; simp only [aC, al, am, List.getD_cons_succ, List.getD_cons_zero]) | exact True.intro
 all_goals try (intros; have q0 := Ext.cell hJ x0; have q1 := Ext.cell hJ x1; have q2 := Ext.cell hJ y1; go_simp; exact hK0 _ rfl)
 .
  intro e32 e34 e2 e3;go_simp;refine (eY _ _ n0 n1 L _ (Z16.ext hx hJ) (Z16.ext hy hJ) fn hL hm).mono ?_;rintro e w' ⟨v, rfl, hv, hX⟩;exact hK _ _ hv hX
theorem pH (ga gb L : Nat) (s0 s1 : Bool) (A0 A1 : Option Addr) (l0 c0 l1 c1 n0 n1 : Nat) (w : World) (_x0 : w.cell? ⟨ga, 0, none⟩ = some (.bool s0)) (x1 : w.cell? ⟨ga, 1, none⟩ = some (.slice A0 l0 c0)) (y0 : w.cell? ⟨gb, 0, none⟩ = some (.bool s1)) (y1 : w.cell? ⟨gb, 1, none⟩ = some (.slice A1 l1 c1)) (hx : Z16 w (.slice A0 l0 c0) n0) (hy : Z16 w (.slice A1 l1 c1) n1) (_fn : Fit 65536 n0 L) (fm : Fit 65536 n1 L) (hL : L <= 1000000) (hm : n0 <= n1) : aF Try.prog Try.f114 8 7 44 w [37, 38, 39, 40, 41, 42, 43] [.c (.pointer (some ⟨gb, 0, none⟩)), .c (.bool s1), .c (.pointer (some ⟨gb, 1, none⟩)), .c (.slice A1 l1 c1), .c (.pointer (some ⟨ga, 1, none⟩)), .c (.slice A0 l0 c0), .p fun v W => Z16 W v (n1 - n0)] [(2, .pointer (some ⟨ga, 0, none⟩)), (3, .pointer (some ⟨gb, 0, none⟩))] := by
 refine aJ [[], [0], [], [2], [], [4], [3, 5]] (by kernel_rfl) (by kernel_rfl) rfl ⟨by intro v W W' h hX; exact Z16.ext h hX, trivial⟩ ?_;simp only [ae, Try.f114, ab, Option.bind_some, Nat.reduceBEq, if_true, if_false, Bool.false_eq_true, Option.getD_some];simp only [List.take_succ_cons, List.take_zero]
 repeat' first | refine ⟨?_, ?_⟩ | fail
 all_goals first | (intro us W b hJ K hK0 hK Qz; simp only [aC, al, am, List.getD_cons_succ, List.getD_cons_zero]) | exact True.intro
 all_goals try (intros; have q0 := Ext.cell hJ y0; have q1 := Ext.cell hJ y1; have q2 := Ext.cell hJ x1; go_simp; exact hK0 _ rfl)
 .
  intro e40 e42 e2 e3;go_simp;refine (eY _ _ n1 n0 L _ (Z16.ext hy hJ) (Z16.ext hx hJ) fm hL hm).mono ?_;rintro e w' ⟨v, rfl, hv, hX⟩;exact hK _ _ hv hX
theorem ls (s0 s1 : Bool) (A0 A1 : Option Addr) (l0 c0 l1 c1 n0 n1 : Nat) (L : Nat) (w : World) (hx : Z16 w (.slice A0 l0 c0) n0) (hy : Z16 w (.slice A1 l1 c1) n1) (fn : Fit 65536 n0 L) (fm : Fit 65536 n1 L) (hL : L <= 1000000) (hs : s0 = s1) :
  Calls Try.prog 114 #[.agg #[.bool s0, .slice A0 l0 c0], .agg #[.bool s1, .slice A1 l1 c1]] w (dY w s0 (n0 + n1)) := by
 have HXX := hid hx;have HYY := hid hy;have HFN := hid fn;have HFM := hid fm;clear hx hy fn fm;have hb : (s0 == s1) = true := by simp [hs]
 have HS := hid hs;clear hs;have hXe : Ext w (((w.alloc (.cells #[.bool s0, .slice A0 l0 c0] 63)).alloc (.cells #[.bool s1, .slice A1 l1 c1] 63)).alloc (.cells #[.bool false, .slice none 0 0] 63)) := ((((Ext.refl w).alloc _).alloc _).alloc _);have kA : Blk (((w.alloc (.cells #[.bool s0, .slice A0 l0 c0] 63)).alloc (.cells #[.bool s1, .slice A1 l1 c1] 63)).alloc (.cells #[.bool false, .slice none 0 0] 63)) w.heap.size 63 #[.bool s0, .slice A0 l0 c0] := Blk.alloc (Blk.alloc (Blk.at_ (by simp)) _) _;have kB : Blk (((w.alloc (.cells #[.bool s0, .slice A0 l0 c0] 63)).alloc (.cells #[.bool s1, .slice A1 l1 c1] 63)).alloc (.cells #[.bool false, .slice none 0 0] 63)) (w.heap.size + 1) 63 #[.bool s1, .slice A1 l1 c1] := Blk.alloc (Blk.at_ (by simp)) _;have kR : Blk (((w.alloc (.cells #[.bool s0, .slice A0 l0 c0] 63)).alloc (.cells #[.bool s1, .slice A1 l1 c1] 63)).alloc (.cells #[.bool false, .slice none 0 0] 63)) (w.heap.size + 2) 63 #[.bool false, .slice none 0 0] := Blk.at_ (by simp);go_enter Try.func114, Try.ntmps114
 go_wp2_with fail
 generalize (((w.alloc _).alloc _).alloc _) = w1 at hXe kA kB kR |-;have HX := hid hXe;clear hXe;have KA := hid kA;clear kA;have KB := hid kB;clear kB;have KR := hid kR;clear kR;replace HXX := hid (HXX.out.ext HX.out);replace HYY := hid (HYY.out.ext HX.out);have cA0 : w1.cell? ⟨w.heap.size, 0, none⟩ = some (.bool s0) := KA.out.cell 0;have cA1 : w1.cell? ⟨w.heap.size, 1, none⟩ = some (.slice A0 l0 c0) := KA.out.cell 1;have cB0 : w1.cell? ⟨(w.heap.size + 1), 0, none⟩ = some (.bool s1) := KB.out.cell 0;have cB1 : w1.cell? ⟨(w.heap.size + 1), 1, none⟩ = some (.slice A1 l1 c1) := KB.out.cell 1
 go_upto_region 2 with (fail)
 clear cA0 cA1 cB0 cB1;refine pF w.heap.size (w.heap.size + 1) L s0 s1 A0 A1 l0 c0 l1 c1 n0 n1 w1 (KA.out.cell 0) (KA.out.cell 1) (KB.out.cell 0) (KB.out.cell 1) HXX.out HYY.out HFN.out HFM.out hL _ _ (by simp) ⟨rfl, rfl, trivial⟩ ?_;rintro w2 hXW xv6 hv;simp only [EndK, ae, Try.f114, ab, Option.bind_some, Nat.reduceBEq, if_true, if_false, Bool.false_eq_true, Option.getD_some, List.drop_succ_cons, List.drop_zero];simp only [Act.put, List.setIfInBounds_toArray, List.set_cons_succ, List.set_cons_zero];replace HX := hid (HX.out.trans hXW);replace HXX := hid (HXX.out.ext hXW);replace HYY := hid (HYY.out.ext hXW);replace KA := hid (KA.out.ext hXW);replace KB := hid (KB.out.ext hXW);replace KR := hid (KR.out.ext hXW);clear hXW;obtain ⟨A9, l9, c9, rfl, hv9, _⟩ := Z16.open hv;have HV := hid (Z16.two hv9 (NoInts.two KR.out) s0 A9 l9 c9);clear hv hv9;have cR0 : w2.cell? ⟨(w.heap.size + 2), 0, none⟩ = some (.bool false) := KR.out.cell 0;have fR0 : w2.frozen? ⟨(w.heap.size + 2), 0, none⟩ = false := KR.out.free 0;have cR1 : w2.cell? ⟨(w.heap.size + 2), 1, none⟩ = some (.slice none 0 0) := KR.out.cell 1;have fR1 : w2.frozen? ⟨(w.heap.size + 2), 1, none⟩ = false := KR.out.free 1;go_wp2;refine bodyPost_ret (v := .agg #[.bool s0, .slice A9 l9 c9]) (by simp [results, Try.results114, go_sem, *]) rfl ?_;exact ⟨_, _, _, rfl, HV.out, HX.out.two (by omega) _ _⟩
theorem pI (s0 s1 : Bool) (A0 A1 : Option Addr) (l0 c0 l1 c1 n0 n1 : Nat) (L : Nat) (w : World) (hx : Z16 w (.slice A0 l0 c0) n0) (hy : Z16 w (.slice A1 l1 c1) n1) (fn : Fit 65536 n0 L) (fm : Fit 65536 n1 L) (_hL : L <= 1000000) (hs : s0 ≠ s1) (hm : n0 = n1) :
  Calls Try.prog 114 #[.agg #[.bool s0, .slice A0 l0 c0], .agg #[.bool s1, .slice A1 l1 c1]] w (dY w false 0) := by
 have HXX := hid hx;have HYY := hid hy;have HFN := hid fn;have HFM := hid fm;clear hx hy fn fm;have hb : (s0 == s1) = false := by simpa using hs
 have HC : Hid (bL n0 n1 = 0) := eP hm;have HM := hid hm;clear hs hm;have hXe : Ext w (((w.alloc (.cells #[.bool s0, .slice A0 l0 c0] 63)).alloc (.cells #[.bool s1, .slice A1 l1 c1] 63)).alloc (.cells #[.bool false, .slice none 0 0] 63)) := ((((Ext.refl w).alloc _).alloc _).alloc _);have kA : Blk (((w.alloc (.cells #[.bool s0, .slice A0 l0 c0] 63)).alloc (.cells #[.bool s1, .slice A1 l1 c1] 63)).alloc (.cells #[.bool false, .slice none 0 0] 63)) w.heap.size 63 #[.bool s0, .slice A0 l0 c0] := Blk.alloc (Blk.alloc (Blk.at_ (by simp)) _) _;have kB : Blk (((w.alloc (.cells #[.bool s0, .slice A0 l0 c0] 63)).alloc (.cells #[.bool s1, .slice A1 l1 c1] 63)).alloc (.cells #[.bool false, .slice none 0 0] 63)) (w.heap.size + 1) 63 #[.bool s1, .slice A1 l1 c1] := Blk.alloc (Blk.at_ (by simp)) _;have kR : Blk (((w.alloc (.cells #[.bool s0, .slice A0 l0 c0] 63)).alloc (.cells #[.bool s1, .slice A1 l1 c1] 63)).alloc (.cells #[.bool false, .slice none 0 0] 63)) (w.heap.size + 2) 63 #[.bool false, .slice none 0 0] := Blk.at_ (by simp);go_enter Try.func114, Try.ntmps114
 go_wp2_with fail
 generalize (((w.alloc _).alloc _).alloc _) = w1 at hXe kA kB kR |-;have HX := hid hXe;clear hXe;have KA := hid kA;clear kA;have KB := hid kB;clear kB;have KR := hid kR;clear kR;replace HXX := hid (HXX.out.ext HX.out);replace HYY := hid (HYY.out.ext HX.out);have cA0 : w1.cell? ⟨w.heap.size, 0, none⟩ = some (.bool s0) := KA.out.cell 0;have cA1 : w1.cell? ⟨w.heap.size, 1, none⟩ = some (.slice A0 l0 c0) := KA.out.cell 1;have cB0 : w1.cell? ⟨(w.heap.size + 1), 0, none⟩ = some (.bool s1) := KB.out.cell 0;have cB1 : w1.cell? ⟨(w.heap.size + 1), 1, none⟩ = some (.slice A1 l1 c1) := KB.out.cell 1
 go_wp2_with fail
 clear cA0 cA1 cB0 cB1;refine (aY _ _ n0 n1 _ HXX.out HYY.out).mono ?_;rw [HC.out];rintro e w2 ⟨rfl, hX⟩;replace hX : Ext w1 w2 := by with_reducible exact hX
 replace HX := hid (HX.out.trans hX);replace HXX := hid (HXX.out.ext hX);replace HYY := hid (HYY.out.ext hX);replace KA := hid (KA.out.ext hX);replace KB := hid (KB.out.ext hX);replace KR := hid (KR.out.ext hX);clear hX;have cR0 : w2.cell? ⟨(w.heap.size + 2), 0, none⟩ = some (.bool false) := KR.out.cell 0;have fR0 : w2.frozen? ⟨(w.heap.size + 2), 0, none⟩ = false := KR.out.free 0;have cR1 : w2.cell? ⟨(w.heap.size + 2), 1, none⟩ = some (.slice none 0 0) := KR.out.cell 1;have fR1 : w2.frozen? ⟨(w.heap.size + 2), 1, none⟩ = false := KR.out.free 1;go_wp2;refine bodyPost_ret (v := .agg #[.bool false, .slice none 0 0]) (by simp [results, Try.results114, go_sem, *]) rfl ?_;exact ⟨_, _, _, rfl, NatV.zero, HX.out.two (by omega) _ _⟩
theorem pJ (s0 s1 : Bool) (A0 A1 : Option Addr) (l0 c0 l1 c1 n0 n1 : Nat) (L : Nat) (w : World) (hx : Z16 w (.slice A0 l0 c0) n0) (hy : Z16 w (.slice A1 l1 c1) n1) (fn : Fit 65536 n0 L) (fm : Fit 65536 n1 L) (hL : L <= 1000000) (hs : s0 ≠ s1) (hm : n1 < n0) :
  Calls Try.prog 114 #[.agg #[.bool s0, .slice A0 l0 c0], .agg #[.bool s1, .slice A1 l1 c1]] w (dY w s0 (n0 - n1)) := by
 have HXX := hid hx;have HYY := hid hy;have HFN := hid fn;have HFM := hid fm;clear hx hy fn fm;have hb : (s0 == s1) = false := by simpa using hs
 have HC : Hid (bL n0 n1 = 1) := dq hm;have HM := hid hm;clear hs hm;have hXe : Ext w (((w.alloc (.cells #[.bool s0, .slice A0 l0 c0] 63)).alloc (.cells #[.bool s1, .slice A1 l1 c1] 63)).alloc (.cells #[.bool false, .slice none 0 0] 63)) := ((((Ext.refl w).alloc _).alloc _).alloc _);have kA : Blk (((w.alloc (.cells #[.bool s0, .slice A0 l0 c0] 63)).alloc (.cells #[.bool s1, .slice A1 l1 c1] 63)).alloc (.cells #[.bool false, .slice none 0 0] 63)) w.heap.size 63 #[.bool s0, .slice A0 l0 c0] := Blk.alloc (Blk.alloc (Blk.at_ (by simp)) _) _;have kB : Blk (((w.alloc (.cells #[.bool s0, .slice A0 l0 c0] 63)).alloc (.cells #[.bool s1, .slice A1 l1 c1] 63)).alloc (.cells #[.bool false, .slice none 0 0] 63)) (w.heap.size + 1) 63 #[.bool s1, .slice A1 l1 c1] := Blk.alloc (Blk.at_ (by simp)) _;have kR : Blk (((w.alloc (.cells #[.bool s0, .slice A0 l0 c0] 63)).alloc (.cells #[.bool s1, .slice A1 l1 c1] 63)).alloc (.cells #[.bool false, .slice none 0 0] 63)) (w.heap.size + 2) 63 #[.bool false, .slice none 0 0] := Blk.at_ (by simp);go_enter Try.func114, Try.ntmps114
 go_wp2_with fail
 generalize (((w.alloc _).alloc _).alloc _) = w1 at hXe kA kB kR |-;have HX := hid hXe;clear hXe;have KA := hid kA;clear kA;have KB := hid kB;clear kB;have KR := hid kR;clear kR;replace HXX := hid (HXX.out.ext HX.out);replace HYY := hid (HYY.out.ext HX.out);have cA0 : w1.cell? ⟨w.heap.size, 0, none⟩ = some (.bool s0) := KA.out.cell 0;have cA1 : w1.cell? ⟨w.heap.size, 1, none⟩ = some (.slice A0 l0 c0) := KA.out.cell 1;have cB0 : w1.cell? ⟨(w.heap.size + 1), 0, none⟩ = some (.bool s1) := KB.out.cell 0;have cB1 : w1.cell? ⟨(w.heap.size + 1), 1, none⟩ = some (.slice A1 l1 c1) := KB.out.cell 1
 go_wp2_with fail
 clear cA0 cA1 cB0 cB1;refine (aY _ _ n0 n1 _ HXX.out HYY.out).mono ?_;rw [HC.out];rintro e w2 ⟨rfl, hX⟩;replace hX : Ext w1 w2 := by with_reducible exact hX
 replace HX := hid (HX.out.trans hX);replace HXX := hid (HXX.out.ext hX);replace HYY := hid (HYY.out.ext hX);replace KA := hid (KA.out.ext hX);replace KB := hid (KB.out.ext hX);replace KR := hid (KR.out.ext hX);clear hX;have cA0 : w2.cell? ⟨w.heap.size, 0, none⟩ = some (.bool s0) := KA.out.cell 0;have cA1 : w2.cell? ⟨w.heap.size, 1, none⟩ = some (.slice A0 l0 c0) := KA.out.cell 1;have cB0 : w2.cell? ⟨(w.heap.size + 1), 0, none⟩ = some (.bool s1) := KB.out.cell 0;have cB1 : w2.cell? ⟨(w.heap.size + 1), 1, none⟩ = some (.slice A1 l1 c1) := KB.out.cell 1
 go_upto_region 7 with (fail)
 clear cA0 cA1 cB0 cB1;refine pG w.heap.size (w.heap.size + 1) L s0 s1 A0 A1 l0 c0 l1 c1 n0 n1 w2 (KA.out.cell 0) (KA.out.cell 1) (KB.out.cell 0) (KB.out.cell 1) HXX.out HYY.out HFN.out HFM.out hL (Nat.le_of_lt HM.out) _ _ (by simp) ⟨rfl, rfl, trivial⟩ ?_;rintro w3 hXW xv6 hv;simp only [EndK, ae, Try.f114, ab, Option.bind_some, Nat.reduceBEq, if_true, if_false, Bool.false_eq_true, Option.getD_some, List.drop_succ_cons, List.drop_zero];simp only [Act.put, List.setIfInBounds_toArray, List.set_cons_succ, List.set_cons_zero];replace HX := hid (HX.out.trans hXW);replace HXX := hid (HXX.out.ext hXW);replace HYY := hid (HYY.out.ext hXW);replace KA := hid (KA.out.ext hXW);replace KB := hid (KB.out.ext hXW);replace KR := hid (KR.out.ext hXW);clear hXW;obtain ⟨A9, l9, c9, rfl, hv9, _⟩ := Z16.open hv;have HV := hid (Z16.two hv9 (NoInts.two KR.out) s0 A9 l9 c9);clear hv hv9;have cR0 : w3.cell? ⟨(w.heap.size + 2), 0, none⟩ = some (.bool false) := KR.out.cell 0;have fR0 : w3.frozen? ⟨(w.heap.size + 2), 0, none⟩ = false := KR.out.free 0;have cR1 : w3.cell? ⟨(w.heap.size + 2), 1, none⟩ = some (.slice none 0 0) := KR.out.cell 1;have fR1 : w3.frozen? ⟨(w.heap.size + 2), 1, none⟩ = false := KR.out.free 1;go_wp2;refine bodyPost_ret (v := .agg #[.bool s0, .slice A9 l9 c9]) (by simp [results, Try.results114, go_sem, *]) rfl ?_;exact ⟨_, _, _, rfl, HV.out, HX.out.two (by omega) _ _⟩
theorem pK (s0 s1 : Bool) (A0 A1 : Option Addr) (l0 c0 l1 c1 n0 n1 : Nat) (L : Nat) (w : World) (hx : Z16 w (.slice A0 l0 c0) n0) (hy : Z16 w (.slice A1 l1 c1) n1) (fn : Fit 65536 n0 L) (fm : Fit 65536 n1 L) (hL : L <= 1000000) (hs : s0 ≠ s1) (hm : n0 < n1) :
  Calls Try.prog 114 #[.agg #[.bool s0, .slice A0 l0 c0], .agg #[.bool s1, .slice A1 l1 c1]] w (dY w s1 (n1 - n0)) := by
 have HXX := hid hx;have HYY := hid hy;have HFN := hid fn;have HFM := hid fm;clear hx hy fn fm;have hb : (s0 == s1) = false := by simpa using hs
 have HC : Hid (bL n0 n1 = -1) := cn hm;have HM := hid hm;clear hs hm;have hXe : Ext w (((w.alloc (.cells #[.bool s0, .slice A0 l0 c0] 63)).alloc (.cells #[.bool s1, .slice A1 l1 c1] 63)).alloc (.cells #[.bool false, .slice none 0 0] 63)) := ((((Ext.refl w).alloc _).alloc _).alloc _);have kA : Blk (((w.alloc (.cells #[.bool s0, .slice A0 l0 c0] 63)).alloc (.cells #[.bool s1, .slice A1 l1 c1] 63)).alloc (.cells #[.bool false, .slice none 0 0] 63)) w.heap.size 63 #[.bool s0, .slice A0 l0 c0] := Blk.alloc (Blk.alloc (Blk.at_ (by simp)) _) _;have kB : Blk (((w.alloc (.cells #[.bool s0, .slice A0 l0 c0] 63)).alloc (.cells #[.bool s1, .slice A1 l1 c1] 63)).alloc (.cells #[.bool false, .slice none 0 0] 63)) (w.heap.size + 1) 63 #[.bool s1, .slice A1 l1 c1] := Blk.alloc (Blk.at_ (by simp)) _;have kR : Blk (((w.alloc (.cells #[.bool s0, .slice A0 l0 c0] 63)).alloc (.cells #[.bool s1, .slice A1 l1 c1] 63)).alloc (.cells #[.bool false, .slice none 0 0] 63)) (w.heap.size + 2) 63 #[.bool false, .slice none 0 0] := Blk.at_ (by simp);go_enter Try.func114, Try.ntmps114
 go_wp2_with fail
 generalize (((w.alloc _).alloc _).alloc _) = w1 at hXe kA kB kR |-;have HX := hid hXe;clear hXe;have KA := hid kA;clear kA;have KB := hid kB;clear kB;have KR := hid kR;clear kR;replace HXX := hid (HXX.out.ext HX.out);replace HYY := hid (HYY.out.ext HX.out);have cA0 : w1.cell? ⟨w.heap.size, 0, none⟩ = some (.bool s0) := KA.out.cell 0;have cA1 : w1.cell? ⟨w.heap.size, 1, none⟩ = some (.slice A0 l0 c0) := KA.out.cell 1;have cB0 : w1.cell? ⟨(w.heap.size + 1), 0, none⟩ = some (.bool s1) := KB.out.cell 0;have cB1 : w1.cell? ⟨(w.heap.size + 1), 1, none⟩ = some (.slice A1 l1 c1) := KB.out.cell 1
 go_wp2_with fail
 clear cA0 cA1 cB0 cB1;refine (aY _ _ n0 n1 _ HXX.out HYY.out).mono ?_;rw [HC.out];rintro e w2 ⟨rfl, hX⟩;replace hX : Ext w1 w2 := by with_reducible exact hX
 replace HX := hid (HX.out.trans hX);replace HXX := hid (HXX.out.ext hX);replace HYY := hid (HYY.out.ext hX);replace KA := hid (KA.out.ext hX);replace KB := hid (KB.out.ext hX);replace KR := hid (KR.out.ext hX);clear hX;have cA0 : w2.cell? ⟨w.heap.size, 0, none⟩ = some (.bool s0) := KA.out.cell 0;have cA1 : w2.cell? ⟨w.heap.size, 1, none⟩ = some (.slice A0 l0 c0) := KA.out.cell 1;have cB0 : w2.cell? ⟨(w.heap.size + 1), 0, none⟩ = some (.bool s1) := KB.out.cell 0;have cB1 : w2.cell? ⟨(w.heap.size + 1), 1, none⟩ = some (.slice A1 l1 c1) := KB.out.cell 1
 go_upto_region 8 with (fail)
 clear cA0 cA1 cB0 cB1;refine pH w.heap.size (w.heap.size + 1) L s0 s1 A0 A1 l0 c0 l1 c1 n0 n1 w2 (KA.out.cell 0) (KA.out.cell 1) (KB.out.cell 0) (KB.out.cell 1) HXX.out HYY.out HFN.out HFM.out hL (Nat.le_of_lt HM.out) _ _ (by simp) ⟨rfl, rfl, trivial⟩ ?_;rintro w3 hXW xv6 hv;simp only [EndK, ae, Try.f114, ab, Option.bind_some, Nat.reduceBEq, if_true, if_false, Bool.false_eq_true, Option.getD_some, List.drop_succ_cons, List.drop_zero];simp only [Act.put, List.setIfInBounds_toArray, List.set_cons_succ, List.set_cons_zero];replace HX := hid (HX.out.trans hXW);replace HXX := hid (HXX.out.ext hXW);replace HYY := hid (HYY.out.ext hXW);replace KA := hid (KA.out.ext hXW);replace KB := hid (KB.out.ext hXW);replace KR := hid (KR.out.ext hXW);clear hXW;obtain ⟨A9, l9, c9, rfl, hv9, _⟩ := Z16.open hv;have HV := hid (Z16.two hv9 (NoInts.two KR.out) s1 A9 l9 c9);clear hv hv9;have cR0 : w3.cell? ⟨(w.heap.size + 2), 0, none⟩ = some (.bool false) := KR.out.cell 0;have fR0 : w3.frozen? ⟨(w.heap.size + 2), 0, none⟩ = false := KR.out.free 0;have cR1 : w3.cell? ⟨(w.heap.size + 2), 1, none⟩ = some (.slice none 0 0) := KR.out.cell 1;have fR1 : w3.frozen? ⟨(w.heap.size + 2), 1, none⟩ = false := KR.out.free 1;go_wp2;refine bodyPost_ret (v := .agg #[.bool s1, .slice A9 l9 c9]) (by simp [results, Try.results114, go_sem, *]) rfl ?_;exact ⟨_, _, _, rfl, HV.out, HX.out.two (by omega) _ _⟩
theorem io (va vb : Value) (x y : Int) (L : Nat) (w : World) (ha : IntZ w va x) (hb : IntZ w vb y) (fn : Fit 65536 x.natAbs L) (fm : Fit 65536 y.natAbs L) (hL : L <= 1000000) :
  Calls Try.prog 114 #[va, vb] w (lh w (x + y)) := by
 obtain ⟨A0, l0, c0, rfl, hx⟩ := ha;obtain ⟨A1, l1, c1, rfl, hy⟩ := hb
 have fin : ∀ (b : Bool) (n : Nat), b = decide (x + y < 0) -> n = (x + y).natAbs -> ∀ e w', dY w b n e w' -> lh w (x + y) e w' := by
  rintro b n rfl rfl e w' ⟨A, l, c, rfl, hz, hX⟩;exact ⟨_, rfl, ⟨A, l, c, rfl, hz⟩, hX⟩
 by_cases hs : decide (x < 0) = decide (y < 0)
 .
  refine (ls _ _ A0 A1 l0 c0 l1 c1 _ _ L w hx hy fn fm hL hs).mono (fin _ _ ?_ ?_)
  .
   by_cases h : x < 0 <;> by_cases k : y < 0 <;> simp [h, k] at hs |- <;> omega
  .
   by_cases h : x < 0 <;> by_cases k : y < 0 <;> simp [h, k] at hs <;> omega
 .
  rcases Nat.lt_trichotomy x.natAbs y.natAbs with h | h | h
  .
   refine (pK _ _ A0 A1 l0 c0 l1 c1 _ _ L w hx hy fn fm hL hs h).mono (fin _ _ ?_ ?_)
   .
    by_cases h : x < 0 <;> by_cases k : y < 0 <;> simp [h, k] at hs |- <;> omega
   .
    by_cases h : x < 0 <;> by_cases k : y < 0 <;> simp [h, k] at hs <;> omega
  .
   refine (pI _ _ A0 A1 l0 c0 l1 c1 _ _ L w hx hy fn fm hL hs h).mono (fin _ _ ?_ ?_)
   .
    by_cases h : x < 0 <;> by_cases k : y < 0 <;> simp [h, k] at hs |- <;> omega
   .
    by_cases h : x < 0 <;> by_cases k : y < 0 <;> simp [h, k] at hs <;> omega
  .
   refine (pJ _ _ A0 A1 l0 c0 l1 c1 _ _ L w hx hy fn fm hL hs h).mono (fin _ _ ?_ ?_)
   .
    by_cases h : x < 0 <;> by_cases k : y < 0 <;> simp [h, k] at hs |- <;> omega
   .
    by_cases h : x < 0 <;> by_cases k : y < 0 <;> simp [h, k] at hs <;> omega
theorem pL (s0 s1 : Bool) (A0 A1 : Option Addr) (l0 c0 l1 c1 n0 n1 : Nat) (L M : Nat) (w : World) (hx : Z16 w (.slice A0 l0 c0) n0) (hy : Z16 w (.slice A1 l1 c1) n1) (fn : Fit 65536 n0 L) (fm : Fit 65536 n1 M) (hL : L <= 1000000) (hM : M <= 1000000) (hs : s0 = s1) :
  Calls Try.prog 113 #[.agg #[.bool s0, .slice A0 l0 c0], .agg #[.bool s1, .slice A1 l1 c1]] w (dY w false (n0 * n1)) := by
 have HXX := hid hx;have HYY := hid hy;have HFN := hid fn;have HFM := hid fm;clear hx hy fn fm;have hb : (s0 != s1) = false := by simp [hs]
 have hb2 : (s0 == s1) = true := by simp [hs]
 have hb3 : decide (s0 = s1) = true := by simp [hs]
 obtain ⟨N, hN⟩ : ∃ N, n0 * n1 = N := ⟨_, rfl⟩;have HN := hid hN

 clear hs hN;have hXe : Ext w (((w.alloc (.cells #[.bool s0, .slice A0 l0 c0] 63)).alloc (.cells #[.bool s1, .slice A1 l1 c1] 63)).alloc (.cells #[.bool false, .slice none 0 0] 63)) := ((((Ext.refl w).alloc _).alloc _).alloc _);have kA : Blk (((w.alloc (.cells #[.bool s0, .slice A0 l0 c0] 63)).alloc (.cells #[.bool s1, .slice A1 l1 c1] 63)).alloc (.cells #[.bool false, .slice none 0 0] 63)) w.heap.size 63 #[.bool s0, .slice A0 l0 c0] := Blk.alloc (Blk.alloc (Blk.at_ (by simp)) _) _;have kB : Blk (((w.alloc (.cells #[.bool s0, .slice A0 l0 c0] 63)).alloc (.cells #[.bool s1, .slice A1 l1 c1] 63)).alloc (.cells #[.bool false, .slice none 0 0] 63)) (w.heap.size + 1) 63 #[.bool s1, .slice A1 l1 c1] := Blk.alloc (Blk.at_ (by simp)) _;have kR : Blk (((w.alloc (.cells #[.bool s0, .slice A0 l0 c0] 63)).alloc (.cells #[.bool s1, .slice A1 l1 c1] 63)).alloc (.cells #[.bool false, .slice none 0 0] 63)) (w.heap.size + 2) 63 #[.bool false, .slice none 0 0] := Blk.at_ (by simp);go_enter Try.func113, Try.ntmps113
 go_wp2_with fail
 generalize (((w.alloc _).alloc _).alloc _) = w1 at hXe kA kB kR |-;have HX := hid hXe;clear hXe;have KA := hid kA;clear kA;have KB := hid kB;clear kB;have KR := hid kR;clear kR;replace HXX := hid (HXX.out.ext HX.out);replace HYY := hid (HYY.out.ext HX.out);have cA0 : w1.cell? ⟨w.heap.size, 0, none⟩ = some (.bool s0) := KA.out.cell 0;have cA1 : w1.cell? ⟨w.heap.size, 1, none⟩ = some (.slice A0 l0 c0) := KA.out.cell 1;have cB0 : w1.cell? ⟨(w.heap.size + 1), 0, none⟩ = some (.bool s1) := KB.out.cell 0;have cB1 : w1.cell? ⟨(w.heap.size + 1), 1, none⟩ = some (.slice A1 l1 c1) := KB.out.cell 1
 go_wp2_with fail
 clear cA0 cA1 cB0 cB1;refine (aZ _ _ n0 n1 L M _ HXX.out HYY.out HFN.out HFM.out hL hM).mono ?_;rw [HN.out];rintro e w2 ⟨v9, rfl, hv, hX⟩;replace hX : Ext w1 w2 := by with_reducible exact hX
 replace HX := hid (HX.out.trans hX);replace HXX := hid (HXX.out.ext hX);replace HYY := hid (HYY.out.ext hX);replace KA := hid (KA.out.ext hX);replace KB := hid (KB.out.ext hX);replace KR := hid (KR.out.ext hX);clear hX;obtain ⟨A9, l9, c9, rfl, hv9, h0⟩ := Z16.open hv;have HV := hid (Z16.two hv9 (NoInts.two KR.out) false A9 l9 c9);clear hv hv9;clear h0;have cA0 : w2.cell? ⟨w.heap.size, 0, none⟩ = some (.bool s0) := KA.out.cell 0;have cA1 : w2.cell? ⟨w.heap.size, 1, none⟩ = some (.slice A0 l0 c0) := KA.out.cell 1;have cB0 : w2.cell? ⟨(w.heap.size + 1), 0, none⟩ = some (.bool s1) := KB.out.cell 0;have cB1 : w2.cell? ⟨(w.heap.size + 1), 1, none⟩ = some (.slice A1 l1 c1) := KB.out.cell 1;have cR0 : w2.cell? ⟨(w.heap.size + 2), 0, none⟩ = some (.bool false) := KR.out.cell 0;have fR0 : w2.frozen? ⟨(w.heap.size + 2), 0, none⟩ = false := KR.out.free 0;have cR1 : w2.cell? ⟨(w.heap.size + 2), 1, none⟩ = some (.slice none 0 0) := KR.out.cell 1;have fR1 : w2.frozen? ⟨(w.heap.size + 2), 1, none⟩ = false := KR.out.free 1;go_wp2;refine bodyPost_ret (v := .agg #[.bool false, .slice A9 l9 c9]) (by simp [results, Try.results113, go_sem, *]) rfl ?_;exact ⟨_, _, _, rfl, by rw [HN.out]; exact HV.out, HX.out.two (by omega) _ _⟩
theorem pM (s0 s1 : Bool) (A0 A1 : Option Addr) (l0 c0 l1 c1 n0 n1 : Nat) (L M : Nat) (w : World) (hx : Z16 w (.slice A0 l0 c0) n0) (hy : Z16 w (.slice A1 l1 c1) n1) (fn : Fit 65536 n0 L) (fm : Fit 65536 n1 M) (hL : L <= 1000000) (hM : M <= 1000000) (hs : s0 ≠ s1) (hz : n0 * n1 ≠ 0) :
  Calls Try.prog 113 #[.agg #[.bool s0, .slice A0 l0 c0], .agg #[.bool s1, .slice A1 l1 c1]] w (dY w true (n0 * n1)) := by
 have HXX := hid hx;have HYY := hid hy;have HFN := hid fn;have HFM := hid fm;clear hx hy fn fm;have hb : (s0 != s1) = true := by simp [hs]
 have hb2 : (s0 == s1) = false := by simp [hs]
 have hb3 : decide (s0 = s1) = false := by simp [hs]
 obtain ⟨N, hN⟩ : ∃ N, n0 * n1 = N := ⟨_, rfl⟩;have HN := hid hN;rw [hN] at hz;clear hs hN;have hXe : Ext w (((w.alloc (.cells #[.bool s0, .slice A0 l0 c0] 63)).alloc (.cells #[.bool s1, .slice A1 l1 c1] 63)).alloc (.cells #[.bool false, .slice none 0 0] 63)) := ((((Ext.refl w).alloc _).alloc _).alloc _);have kA : Blk (((w.alloc (.cells #[.bool s0, .slice A0 l0 c0] 63)).alloc (.cells #[.bool s1, .slice A1 l1 c1] 63)).alloc (.cells #[.bool false, .slice none 0 0] 63)) w.heap.size 63 #[.bool s0, .slice A0 l0 c0] := Blk.alloc (Blk.alloc (Blk.at_ (by simp)) _) _;have kB : Blk (((w.alloc (.cells #[.bool s0, .slice A0 l0 c0] 63)).alloc (.cells #[.bool s1, .slice A1 l1 c1] 63)).alloc (.cells #[.bool false, .slice none 0 0] 63)) (w.heap.size + 1) 63 #[.bool s1, .slice A1 l1 c1] := Blk.alloc (Blk.at_ (by simp)) _;have kR : Blk (((w.alloc (.cells #[.bool s0, .slice A0 l0 c0] 63)).alloc (.cells #[.bool s1, .slice A1 l1 c1] 63)).alloc (.cells #[.bool false, .slice none 0 0] 63)) (w.heap.size + 2) 63 #[.bool false, .slice none 0 0] := Blk.at_ (by simp);go_enter Try.func113, Try.ntmps113
 go_wp2_with fail
 generalize (((w.alloc _).alloc _).alloc _) = w1 at hXe kA kB kR |-;have HX := hid hXe;clear hXe;have KA := hid kA;clear kA;have KB := hid kB;clear kB;have KR := hid kR;clear kR;replace HXX := hid (HXX.out.ext HX.out);replace HYY := hid (HYY.out.ext HX.out);have cA0 : w1.cell? ⟨w.heap.size, 0, none⟩ = some (.bool s0) := KA.out.cell 0;have cA1 : w1.cell? ⟨w.heap.size, 1, none⟩ = some (.slice A0 l0 c0) := KA.out.cell 1;have cB0 : w1.cell? ⟨(w.heap.size + 1), 0, none⟩ = some (.bool s1) := KB.out.cell 0;have cB1 : w1.cell? ⟨(w.heap.size + 1), 1, none⟩ = some (.slice A1 l1 c1) := KB.out.cell 1
 go_wp2_with fail
 clear cA0 cA1 cB0 cB1;refine (aZ _ _ n0 n1 L M _ HXX.out HYY.out HFN.out HFM.out hL hM).mono ?_;rw [HN.out];rintro e w2 ⟨v9, rfl, hv, hX⟩;replace hX : Ext w1 w2 := by with_reducible exact hX
 replace HX := hid (HX.out.trans hX);replace HXX := hid (HXX.out.ext hX);replace HYY := hid (HYY.out.ext hX);replace KA := hid (KA.out.ext hX);replace KB := hid (KB.out.ext hX);replace KR := hid (KR.out.ext hX);clear hX;obtain ⟨A9, l9, c9, rfl, hv9, h0⟩ := Z16.open hv;have HV := hid (Z16.two hv9 (NoInts.two KR.out) true A9 l9 c9);clear hv hv9
 have hl : (0 : Int) < (l9 : Int) := by
  rcases Nat.eq_zero_or_pos l9 with h | h
  .
   exact absurd (h0.1 h) hz
  .
   omega
 have hl' : 0 < l9 := by omega
 clear h0;have cA0 : w2.cell? ⟨w.heap.size, 0, none⟩ = some (.bool s0) := KA.out.cell 0;have cA1 : w2.cell? ⟨w.heap.size, 1, none⟩ = some (.slice A0 l0 c0) := KA.out.cell 1;have cB0 : w2.cell? ⟨(w.heap.size + 1), 0, none⟩ = some (.bool s1) := KB.out.cell 0;have cB1 : w2.cell? ⟨(w.heap.size + 1), 1, none⟩ = some (.slice A1 l1 c1) := KB.out.cell 1;have cR0 : w2.cell? ⟨(w.heap.size + 2), 0, none⟩ = some (.bool false) := KR.out.cell 0;have fR0 : w2.frozen? ⟨(w.heap.size + 2), 0, none⟩ = false := KR.out.free 0;have cR1 : w2.cell? ⟨(w.heap.size + 2), 1, none⟩ = some (.slice none 0 0) := KR.out.cell 1;have fR1 : w2.frozen? ⟨(w.heap.size + 2), 1, none⟩ = false := KR.out.free 1;go_wp2;refine bodyPost_ret (v := .agg #[.bool true, .slice A9 l9 c9]) (by simp [results, Try.results113, go_sem, *]) rfl ?_;exact ⟨_, _, _, rfl, by rw [HN.out]; exact HV.out, HX.out.two (by omega) _ _⟩
theorem pN (s0 s1 : Bool) (A0 A1 : Option Addr) (l0 c0 l1 c1 n0 n1 : Nat) (L M : Nat) (w : World) (hx : Z16 w (.slice A0 l0 c0) n0) (hy : Z16 w (.slice A1 l1 c1) n1) (fn : Fit 65536 n0 L) (fm : Fit 65536 n1 M) (hL : L <= 1000000) (hM : M <= 1000000) (hs : s0 ≠ s1) (hz : n0 * n1 = 0) :
  Calls Try.prog 113 #[.agg #[.bool s0, .slice A0 l0 c0], .agg #[.bool s1, .slice A1 l1 c1]] w (dY w false (n0 * n1)) := by
 have HXX := hid hx;have HYY := hid hy;have HFN := hid fn;have HFM := hid fm;clear hx hy fn fm;have hb : (s0 != s1) = true := by simp [hs]
 have hb2 : (s0 == s1) = false := by simp [hs]
 have hb3 : decide (s0 = s1) = false := by simp [hs]
 obtain ⟨N, hN⟩ : ∃ N, n0 * n1 = N := ⟨_, rfl⟩;have HN := hid hN;rw [hN] at hz;clear hs hN;have hXe : Ext w (((w.alloc (.cells #[.bool s0, .slice A0 l0 c0] 63)).alloc (.cells #[.bool s1, .slice A1 l1 c1] 63)).alloc (.cells #[.bool false, .slice none 0 0] 63)) := ((((Ext.refl w).alloc _).alloc _).alloc _);have kA : Blk (((w.alloc (.cells #[.bool s0, .slice A0 l0 c0] 63)).alloc (.cells #[.bool s1, .slice A1 l1 c1] 63)).alloc (.cells #[.bool false, .slice none 0 0] 63)) w.heap.size 63 #[.bool s0, .slice A0 l0 c0] := Blk.alloc (Blk.alloc (Blk.at_ (by simp)) _) _;have kB : Blk (((w.alloc (.cells #[.bool s0, .slice A0 l0 c0] 63)).alloc (.cells #[.bool s1, .slice A1 l1 c1] 63)).alloc (.cells #[.bool false, .slice none 0 0] 63)) (w.heap.size + 1) 63 #[.bool s1, .slice A1 l1 c1] := Blk.alloc (Blk.at_ (by simp)) _;have kR : Blk (((w.alloc (.cells #[.bool s0, .slice A0 l0 c0] 63)).alloc (.cells #[.bool s1, .slice A1 l1 c1] 63)).alloc (.cells #[.bool false, .slice none 0 0] 63)) (w.heap.size + 2) 63 #[.bool false, .slice none 0 0] := Blk.at_ (by simp);go_enter Try.func113, Try.ntmps113
 go_wp2_with fail
 generalize (((w.alloc _).alloc _).alloc _) = w1 at hXe kA kB kR |-;have HX := hid hXe;clear hXe;have KA := hid kA;clear kA;have KB := hid kB;clear kB;have KR := hid kR;clear kR;replace HXX := hid (HXX.out.ext HX.out);replace HYY := hid (HYY.out.ext HX.out);have cA0 : w1.cell? ⟨w.heap.size, 0, none⟩ = some (.bool s0) := KA.out.cell 0;have cA1 : w1.cell? ⟨w.heap.size, 1, none⟩ = some (.slice A0 l0 c0) := KA.out.cell 1;have cB0 : w1.cell? ⟨(w.heap.size + 1), 0, none⟩ = some (.bool s1) := KB.out.cell 0;have cB1 : w1.cell? ⟨(w.heap.size + 1), 1, none⟩ = some (.slice A1 l1 c1) := KB.out.cell 1
 go_wp2_with fail
 clear cA0 cA1 cB0 cB1;refine (aZ _ _ n0 n1 L M _ HXX.out HYY.out HFN.out HFM.out hL hM).mono ?_;rw [HN.out];rintro e w2 ⟨v9, rfl, hv, hX⟩;replace hX : Ext w1 w2 := by with_reducible exact hX
 replace HX := hid (HX.out.trans hX);replace HXX := hid (HXX.out.ext hX);replace HYY := hid (HYY.out.ext hX);replace KA := hid (KA.out.ext hX);replace KB := hid (KB.out.ext hX);replace KR := hid (KR.out.ext hX);clear hX;obtain ⟨A9, l9, c9, rfl, hv9, h0⟩ := Z16.open hv;have HV := hid (Z16.two hv9 (NoInts.two KR.out) false A9 l9 c9);clear hv hv9;obtain rfl : l9 = 0 := h0.2 hz;clear h0;have cA0 : w2.cell? ⟨w.heap.size, 0, none⟩ = some (.bool s0) := KA.out.cell 0;have cA1 : w2.cell? ⟨w.heap.size, 1, none⟩ = some (.slice A0 l0 c0) := KA.out.cell 1;have cB0 : w2.cell? ⟨(w.heap.size + 1), 0, none⟩ = some (.bool s1) := KB.out.cell 0;have cB1 : w2.cell? ⟨(w.heap.size + 1), 1, none⟩ = some (.slice A1 l1 c1) := KB.out.cell 1;have cR0 : w2.cell? ⟨(w.heap.size + 2), 0, none⟩ = some (.bool false) := KR.out.cell 0;have fR0 : w2.frozen? ⟨(w.heap.size + 2), 0, none⟩ = false := KR.out.free 0;have cR1 : w2.cell? ⟨(w.heap.size + 2), 1, none⟩ = some (.slice none 0 0) := KR.out.cell 1;have fR1 : w2.frozen? ⟨(w.heap.size + 2), 1, none⟩ = false := KR.out.free 1;go_wp2;refine bodyPost_ret (v := .agg #[.bool false, .slice A9 0 c9]) (by simp [results, Try.results113, go_sem, *]) rfl ?_;exact ⟨_, _, _, rfl, by rw [HN.out]; exact HV.out, HX.out.two (by omega) _ _⟩
theorem dj (va vb : Value) (x y : Int) (L M : Nat) (w : World) (ha : IntZ w va x) (hb : IntZ w vb y) (fn : Fit 65536 x.natAbs L) (fm : Fit 65536 y.natAbs M) (hL : L <= 1000000) (hM : M <= 1000000) :
  Calls Try.prog 113 #[va, vb] w (lh w (x * y)) := by
 obtain ⟨A0, l0, c0, rfl, hx⟩ := ha;obtain ⟨A1, l1, c1, rfl, hy⟩ := hb
 have fin : ∀ (b : Bool), b = decide (x * y < 0) -> ∀ e w', dY w b (x.natAbs * y.natAbs) e w' -> lh w (x * y) e w' := by
  rintro b rfl e w' ⟨A, l, c, rfl, hz, hX⟩;exact ⟨_, rfl, ⟨A, l, c, rfl, by rw [Int.natAbs_mul]; exact hz⟩, hX⟩
 by_cases hs : decide (x < 0) = decide (y < 0)
 .
  refine (pL _ _ A0 A1 l0 c0 l1 c1 _ _ L M w hx hy fn fm hL hM hs).mono (fin _ ?_)
  symm
  rw [decide_eq_false_iff_not, Int.not_lt]
  by_cases h : x < 0
  .
   have k : y < 0 := by simpa [h] using hs
   exact Int.le_of_lt (Int.mul_pos_of_neg_of_neg h k)
  .
   have k : ¬ y < 0 := by simpa [h] using hs
   exact Int.mul_nonneg (by omega) (by omega)
 .
  by_cases hz : x.natAbs * y.natAbs = 0
  .
   refine (pN _ _ A0 A1 l0 c0 l1 c1 _ _ L M w hx hy fn fm hL hM hs hz).mono (fin _ ?_);have : x * y = 0 := by rw [<- Int.natAbs_eq_zero, Int.natAbs_mul]; exact hz
   rw [this]; rfl
  .
   refine (pM _ _ A0 A1 l0 c0 l1 c1 _ _ L M w hx hy fn fm hL hM hs hz).mono (fin _ ?_)
   symm
   rw [decide_eq_true_iff];have h1 : x ≠ 0 := fun e => hz (by rw [e]; simp)
   have h2 : y ≠ 0 := fun e => hz (by rw [e]; simp)
   by_cases h : x < 0
   .
    have k : ¬ y < 0 := by simpa [h] using hs
    exact Int.mul_neg_of_neg_of_pos h (by omega)
   .
    have k : y < 0 := by simpa [h] using hs
    exact Int.mul_neg_of_pos_of_neg (by omega) k
theorem Blk.one16 {w : World} {g : Nat} {t : TypeId} (h : Blk w g t #[.int .i64 1]) : Z16 w (.slice (some ⟨g, 0, none⟩) 1 1) 1 :=
 ⟨_, 1, 1, [1], rfl, ⟨rfl, fun x hx => by simp at hx; subst hx; exact ia (by omega), fun _ => ⟨g, 0, rfl, fun j v hv => by
  match j with
  | 0 => rw [h.cell]; simpa using hv
  | j + 1 => simp at hv⟩⟩, Rep.one (by omega), by omega, by omega⟩
end Go.Proofs.Ytikhlcgnlbinfaa
