/- Lemmas of the proof that follows (Measures, part 12): walks of functions by contract, and plain lemmas. Conditions: none. -/
import Derived.Test.YtikhlcgnlbinfaaMeasuresK
namespace Go.Proofs.Ytikhlcgnlbinfaa
open Lib (hid)
open Go.ChangeShapes Go.WideShapes Go.ChangeAt Go.RowKit Go.Joins
/-- The cells of a struct that came in. -/
theorem agg_cellsZ {P : Program} {W : World} {H : Type} {enc : TypeId × Value → H} {t : TypeId} {fs : Array Field} {v : Value} {d : DataW H} {p : List MemPlace} {b base : Nat} {sp : Nat → Bool} {hd : Bool} (hs : P.underlying t = some (.struct fs))
  (hv : Value.okWide P W .any base t v) (h : DataW.Trod enc P W b sp hd t v d p) : ∃ cs fuel z, v = .agg cs ∧ cs.toList.length = P.cellsOf t ∧ DataW.trod enc P W b sp hd fuel t cs.toList = some z := by
 obtain ⟨cs, rfl, hsz⟩ := okWide_struct hs hv
 obtain ⟨fuel, hf⟩ := h
 exact ⟨cs, fuel, _, rfl, by simpa using hsz, by simpa [Value.cells] using hf⟩
theorem csR_mtV {vs : List Value} {ms : List Mt} (h : CsR (fun cs m => cs = m.cells) vs ms) : vs = mtV ms := by
 induction ms generalizing vs with
 | nil => exact h
 | cons m ms ih =>
  obtain ⟨cs, rest, rfl, rfl, h3⟩ := h
  rw [ih h3]; rfl
theorem ratV_of {W : World} {s : Bool} {A B : Option Addr} {l c m k : Nat} {xs ys : List Int} (h : Ints .u32 W A l xs ∧ l ≤ c ∧ c ≤ 9223372036854775807) (k' : Ints .u32 W B m ys ∧ m ≤ k ∧ k ≤ 9223372036854775807) : RatV W (.agg #[.bool s, .slice A l c, .slice B m k]) s xs ys :=
 ⟨A, l, c, B, m, k, rfl, h.1, h.2.1, h.2.2, k'.1, k'.2.1, k'.2.2⟩
theorem listZ7 {α : Type} {cs : List α} (h : cs.length = 7) : ∃ c0 c1 c2 c3 c4 c5 c6, cs = [c0, c1, c2, c3, c4, c5, c6] := by
 match cs, h with
 | [c0, c1, c2, c3, c4, c5, c6], _ => exact ⟨c0, c1, c2, c3, c4, c5, c6, rfl⟩
set_option maxRecDepth 100000 in
set_option maxHeartbeats 1000000 in
theorem mt_el {W : World} {H : Type} {enc : TypeId × Value → H} {fuel : Nat} {cs : List Value} {z : DataW H × List MemPlace} {b : Nat} {sp : Nat → Bool} {hd : Bool} (hl : cs.length = 7) (hf' : DataW.trod enc Try.prog W b sp hd fuel 90 cs = some z) : ∃ m : Mt, cs = m.cells := by
 obtain ⟨c0, c1, c2, c3, c4, c5, c6, rfl⟩ := listZ7 hl
 obtain ⟨xs1, n1, _, _, _, hl1, hg1⟩ := DataW.trod_struct Try.underlying90 hf'
 have g1_0 : DataW.trod enc Try.prog W b sp hd n1 3 [c0] = xs1[0]? := by
  have h := hg1 0 _ rfl
  rw [show Try.prog.cellsOf _ = 1 by kernel_rfl] at h
  exact h
 rw [List.getElem?_eq_getElem (by rw [hl1]; decide)] at g1_0
 obtain ⟨vc0, ec0, _, wc0⟩ := DataW.trod_int Try.underlying3 g1_0
 simp only [List.cons.injEq, and_true] at ec0
 subst ec0
 have g1_1 : DataW.trod enc Try.prog W b sp hd n1 3 [c1] = xs1[1]? := by
  have h := hg1 1 _ rfl
  rw [show Try.prog.cellsOf _ = 1 by kernel_rfl] at h
  exact h
 rw [List.getElem?_eq_getElem (by rw [hl1]; decide)] at g1_1
 obtain ⟨vc1, ec1, _, wc1⟩ := DataW.trod_int Try.underlying3 g1_1
 simp only [List.cons.injEq, and_true] at ec1
 subst ec1
 have g1_2 : DataW.trod enc Try.prog W b sp hd n1 22 [c2, c3, c4] = xs1[2]? := by
  have h := hg1 2 _ rfl
  rw [show Try.prog.cellsOf _ = 3 by kernel_rfl] at h
  exact h
 rw [List.getElem?_eq_getElem (by rw [hl1]; decide)] at g1_2
 obtain ⟨xs4, n4, _, _, _, hl4, hg4⟩ := DataW.trod_array Try.underlying22 g1_2
 have g4_0 : DataW.trod enc Try.prog W b sp hd n4 3 [c2] = xs4[0]? := by
  have h := hg4 0 (by decide)
  rw [show Try.prog.cellsOf _ = 1 by kernel_rfl] at h
  exact h
 rw [List.getElem?_eq_getElem (by rw [hl4]; decide)] at g4_0
 obtain ⟨vc2, ec2, _, wc2⟩ := DataW.trod_int Try.underlying3 g4_0
 simp only [List.cons.injEq, and_true] at ec2
 subst ec2
 have g4_1 : DataW.trod enc Try.prog W b sp hd n4 3 [c3] = xs4[1]? := by
  have h := hg4 1 (by decide)
  rw [show Try.prog.cellsOf _ = 1 by kernel_rfl] at h
  exact h
 rw [List.getElem?_eq_getElem (by rw [hl4]; decide)] at g4_1
 obtain ⟨vc3, ec3, _, wc3⟩ := DataW.trod_int Try.underlying3 g4_1
 simp only [List.cons.injEq, and_true] at ec3
 subst ec3
 have g4_2 : DataW.trod enc Try.prog W b sp hd n4 3 [c4] = xs4[2]? := by
  have h := hg4 2 (by decide)
  rw [show Try.prog.cellsOf _ = 1 by kernel_rfl] at h
  exact h
 rw [List.getElem?_eq_getElem (by rw [hl4]; decide)] at g4_2
 obtain ⟨vc4, ec4, _, wc4⟩ := DataW.trod_int Try.underlying3 g4_2
 simp only [List.cons.injEq, and_true] at ec4
 subst ec4
 have g1_3 : DataW.trod enc Try.prog W b sp hd n1 3 [c5] = xs1[3]? := by
  have h := hg1 3 _ rfl
  rw [show Try.prog.cellsOf _ = 1 by kernel_rfl] at h
  exact h
 rw [List.getElem?_eq_getElem (by rw [hl1]; decide)] at g1_3
 obtain ⟨vc5, ec5, _, wc5⟩ := DataW.trod_int Try.underlying3 g1_3
 simp only [List.cons.injEq, and_true] at ec5
 subst ec5
 have g1_4 : DataW.trod enc Try.prog W b sp hd n1 3 [c6] = xs1[4]? := by
  have h := hg1 4 _ rfl
  rw [show Try.prog.cellsOf _ = 1 by kernel_rfl] at h
  exact h
 rw [List.getElem?_eq_getElem (by rw [hl1]; decide)] at g1_4
 obtain ⟨vc6, ec6, _, wc6⟩ := DataW.trod_int Try.underlying3 g1_4
 simp only [List.cons.injEq, and_true] at ec6
 subst ec6
 exact ⟨⟨vc0, vc1, vc2, vc3, vc4, vc5, vc6⟩, rfl⟩
/-- The cells of three numbers as they come in. -/
def Cs9 (W : World) (cs : List Value) : Prop := ∃ s0 A0 l0 c0 B0 m0 k0 xs0 ys0 s1 A1 l1 c1 B1 m1 k1 xs1 ys1 s2 A2 l2 c2 B2 m2 k2 xs2 ys2, cs = [.bool s0, .slice A0 l0 c0, .slice B0 m0 k0, .bool s1, .slice A1 l1 c1, .slice B1 m1 k1, .bool s2, .slice A2 l2 c2, .slice B2 m2 k2] ∧ RatV W (.agg #[.bool s0, .slice A0 l0 c0, .slice B0 m0 k0]) s0 xs0 ys0 ∧ RatV W (.agg #[.bool s1, .slice A1 l1 c1, .slice B1 m1 k1]) s1 xs1 ys1 ∧ RatV W (.agg #[.bool s2, .slice A2 l2 c2, .slice B2 m2 k2]) s2 xs2 ys2
theorem listZ9 {α : Type} {cs : List α} (h : cs.length = 9) : ∃ c0 c1 c2 c3 c4 c5 c6 c7 c8, cs = [c0, c1, c2, c3, c4, c5, c6, c7, c8] := by
 match cs, h with
 | [c0, c1, c2, c3, c4, c5, c6, c7, c8], _ => exact ⟨c0, c1, c2, c3, c4, c5, c6, c7, c8, rfl⟩
set_option maxRecDepth 100000 in
set_option maxHeartbeats 1000000 in
theorem r9_el {W : World} {H : Type} {enc : TypeId × Value → H} {fuel : Nat} {cs : List Value} {z : DataW H × List MemPlace} {b : Nat} {sp : Nat → Bool} {hd : Bool} (hl : cs.length = 9) (hf' : DataW.trod enc Try.prog W b sp hd fuel 98 cs = some z) : Cs9 W cs := by
 obtain ⟨c0, c1, c2, c3, c4, c5, c6, c7, c8, rfl⟩ := listZ9 hl
 obtain ⟨xs10, n10, _, _, _, hl10, hg10⟩ := DataW.trod_array Try.underlying98 hf'
 have g10_0 : DataW.trod enc Try.prog W b sp hd n10 97 [c0, c1, c2] = xs10[0]? := by
  have h := hg10 0 (by decide)
  rw [show Try.prog.cellsOf _ = 3 by kernel_rfl] at h
  exact h
 rw [List.getElem?_eq_getElem (by rw [hl10]; decide)] at g10_0
 obtain ⟨xs11, n11, _, _, _, hl11, hg11⟩ := DataW.trod_struct Try.underlying97 g10_0
 have g11_0 : DataW.trod enc Try.prog W b sp hd n11 4 [c0] = xs11[0]? := by
  have h := hg11 0 _ rfl
  rw [show Try.prog.cellsOf _ = 1 by kernel_rfl] at h
  exact h
 rw [List.getElem?_eq_getElem (by rw [hl11]; decide)] at g11_0
 obtain ⟨vc0, ec0, _⟩ := DataW.trod_bool Try.underlying4 g11_0
 simp only [List.cons.injEq, and_true] at ec0
 subst ec0
 have g11_1 : DataW.trod enc Try.prog W b sp hd n11 95 [c1] = xs11[1]? := by
  have h := hg11 1 _ rfl
  rw [show Try.prog.cellsOf _ = 1 by kernel_rfl] at h
  exact h
 rw [List.getElem?_eq_getElem (by rw [hl11]; decide)] at g11_1
 obtain ⟨Ac1, lc1, mc1, ec1⟩ := slice_form Try.underlying95 g11_1
 simp only [List.cons.injEq, and_true] at ec1
 subst ec1
 obtain ⟨vc1, wc1⟩ := ints_trod Try.underlying95 Try.underlying129 (by kernel_rfl) g11_1
 have g11_2 : DataW.trod enc Try.prog W b sp hd n11 95 [c2] = xs11[2]? := by
  have h := hg11 2 _ rfl
  rw [show Try.prog.cellsOf _ = 1 by kernel_rfl] at h
  exact h
 rw [List.getElem?_eq_getElem (by rw [hl11]; decide)] at g11_2
 obtain ⟨Ac2, lc2, mc2, ec2⟩ := slice_form Try.underlying95 g11_2
 simp only [List.cons.injEq, and_true] at ec2
 subst ec2
 obtain ⟨vc2, wc2⟩ := ints_trod Try.underlying95 Try.underlying129 (by kernel_rfl) g11_2
 have g10_1 : DataW.trod enc Try.prog W b sp hd n10 97 [c3, c4, c5] = xs10[1]? := by
  have h := hg10 1 (by decide)
  rw [show Try.prog.cellsOf _ = 3 by kernel_rfl] at h
  exact h
 rw [List.getElem?_eq_getElem (by rw [hl10]; decide)] at g10_1
 obtain ⟨xs15, n15, _, _, _, hl15, hg15⟩ := DataW.trod_struct Try.underlying97 g10_1
 have g15_0 : DataW.trod enc Try.prog W b sp hd n15 4 [c3] = xs15[0]? := by
  have h := hg15 0 _ rfl
  rw [show Try.prog.cellsOf _ = 1 by kernel_rfl] at h
  exact h
 rw [List.getElem?_eq_getElem (by rw [hl15]; decide)] at g15_0
 obtain ⟨vc3, ec3, _⟩ := DataW.trod_bool Try.underlying4 g15_0
 simp only [List.cons.injEq, and_true] at ec3
 subst ec3
 have g15_1 : DataW.trod enc Try.prog W b sp hd n15 95 [c4] = xs15[1]? := by
  have h := hg15 1 _ rfl
  rw [show Try.prog.cellsOf _ = 1 by kernel_rfl] at h
  exact h
 rw [List.getElem?_eq_getElem (by rw [hl15]; decide)] at g15_1
 obtain ⟨Ac4, lc4, mc4, ec4⟩ := slice_form Try.underlying95 g15_1
 simp only [List.cons.injEq, and_true] at ec4
 subst ec4
 obtain ⟨vc4, wc4⟩ := ints_trod Try.underlying95 Try.underlying129 (by kernel_rfl) g15_1
 have g15_2 : DataW.trod enc Try.prog W b sp hd n15 95 [c5] = xs15[2]? := by
  have h := hg15 2 _ rfl
  rw [show Try.prog.cellsOf _ = 1 by kernel_rfl] at h
  exact h
 rw [List.getElem?_eq_getElem (by rw [hl15]; decide)] at g15_2
 obtain ⟨Ac5, lc5, mc5, ec5⟩ := slice_form Try.underlying95 g15_2
 simp only [List.cons.injEq, and_true] at ec5
 subst ec5
 obtain ⟨vc5, wc5⟩ := ints_trod Try.underlying95 Try.underlying129 (by kernel_rfl) g15_2
 have g10_2 : DataW.trod enc Try.prog W b sp hd n10 97 [c6, c7, c8] = xs10[2]? := by
  have h := hg10 2 (by decide)
  rw [show Try.prog.cellsOf _ = 3 by kernel_rfl] at h
  exact h
 rw [List.getElem?_eq_getElem (by rw [hl10]; decide)] at g10_2
 obtain ⟨xs19, n19, _, _, _, hl19, hg19⟩ := DataW.trod_struct Try.underlying97 g10_2
 have g19_0 : DataW.trod enc Try.prog W b sp hd n19 4 [c6] = xs19[0]? := by
  have h := hg19 0 _ rfl
  rw [show Try.prog.cellsOf _ = 1 by kernel_rfl] at h
  exact h
 rw [List.getElem?_eq_getElem (by rw [hl19]; decide)] at g19_0
 obtain ⟨vc6, ec6, _⟩ := DataW.trod_bool Try.underlying4 g19_0
 simp only [List.cons.injEq, and_true] at ec6
 subst ec6
 have g19_1 : DataW.trod enc Try.prog W b sp hd n19 95 [c7] = xs19[1]? := by
  have h := hg19 1 _ rfl
  rw [show Try.prog.cellsOf _ = 1 by kernel_rfl] at h
  exact h
 rw [List.getElem?_eq_getElem (by rw [hl19]; decide)] at g19_1
 obtain ⟨Ac7, lc7, mc7, ec7⟩ := slice_form Try.underlying95 g19_1
 simp only [List.cons.injEq, and_true] at ec7
 subst ec7
 obtain ⟨vc7, wc7⟩ := ints_trod Try.underlying95 Try.underlying129 (by kernel_rfl) g19_1
 have g19_2 : DataW.trod enc Try.prog W b sp hd n19 95 [c8] = xs19[2]? := by
  have h := hg19 2 _ rfl
  rw [show Try.prog.cellsOf _ = 1 by kernel_rfl] at h
  exact h
 rw [List.getElem?_eq_getElem (by rw [hl19]; decide)] at g19_2
 obtain ⟨Ac8, lc8, mc8, ec8⟩ := slice_form Try.underlying95 g19_2
 simp only [List.cons.injEq, and_true] at ec8
 subst ec8
 obtain ⟨vc8, wc8⟩ := ints_trod Try.underlying95 Try.underlying129 (by kernel_rfl) g19_2
 exact ⟨vc0, Ac1, lc1, mc1, Ac2, lc2, mc2, vc1, vc2, vc3, Ac4, lc4, mc4, Ac5, lc5, mc5, vc4, vc5, vc6, Ac7, lc7, mc7, Ac8, lc8, mc8, vc7, vc8, rfl, ratV_of wc1 wc2, ratV_of wc4 wc5, ratV_of wc7 wc8⟩
theorem listZ2 {α : Type} {cs : List α} (h : cs.length = 2) : ∃ c0 c1, cs = [c0, c1] := by
 match cs, h with
 | [c0, c1], _ => exact ⟨c0, c1, rfl⟩
set_option maxRecDepth 100000 in
theorem prob_open {W : World} {H : Type} {enc : TypeId × Value → H} {v : Value} {d : DataW H} {p : List MemPlace} {b base : Nat} {sp : Nat → Bool} {hd : Bool} (hv : Value.okWide Try.prog W .any base 76 v) (h : DataW.Trod enc Try.prog W b sp hd 76 v d p) : ∃ (S : Int) (A : Option Addr) (n c : Nat) (ms : List Mt), v = .agg #[.int .i64 S, .slice A n c] ∧ MsAt W A n ms ∧ n ≤ c ∧ c ≤ 9223372036854775807 := by
 obtain ⟨cs, fuel, z, rfl, hl, hf⟩ := agg_cellsZ Try.underlying76 hv h
 obtain ⟨c0, c1, he⟩ := listZ2 (hl.trans (by kernel_rfl))
 rw [he] at hf
 obtain ⟨xs1, n1, _, _, _, hl1, hg1⟩ := DataW.trod_struct Try.underlying76 hf
 have g0 : DataW.trod enc Try.prog W b sp hd n1 3 [c0] = xs1[0]? := by
  have h := hg1 0 _ rfl
  rw [show Try.prog.cellsOf _ = 1 by kernel_rfl] at h
  exact h
 rw [List.getElem?_eq_getElem (by rw [hl1]; decide)] at g0
 have g1 : DataW.trod enc Try.prog W b sp hd n1 74 [c1] = xs1[1]? := by
  have h := hg1 1 _ rfl
  rw [show Try.prog.cellsOf _ = 1 by kernel_rfl] at h
  exact h
 rw [List.getElem?_eq_getElem (by rw [hl1]; decide)] at g1
 obtain ⟨v0, e0, _, w0⟩ := DataW.trod_int Try.underlying3 g0
 simp only [List.cons.injEq, and_true] at e0
 subst e0
 obtain ⟨A, l, m, e1⟩ := slice_form Try.underlying74 g1
 simp only [List.cons.injEq, and_true] at e1
 subst e1
 obtain ⟨ms, vs, h1, h2, h3, h4, h5⟩ := slice_trod (k := 7) (R := fun cs (m : Mt) => cs = m.cells) Try.underlying74 (by kernel_rfl) (fun cs m e => by rw [e]; rfl) (fun fuel cs z hl hz => mt_el hl hz) g1
 rw [csR_mtV h2] at h3
 exact ⟨v0, A, l, m, ms, congrArg Value.agg (Array.toList_inj.1 he), ⟨h1, h3⟩, h4, h5⟩
/-- Shifts as they come in: for each strip three numbers. -/
def ShI (W : World) (A : Option Addr) (n : Nat) : Prop := ∃ vs, CsR (fun cs (_ : Unit) => Cs9 W cs) vs (List.replicate n ()) ∧ At W A vs
set_option maxRecDepth 100000 in
theorem shifts_open {W : World} {H : Type} {enc : TypeId × Value → H} {a : Option Addr} {len cap fuel : Nat} {y : DataW H × List MemPlace} {b : Nat} {sp : Nat → Bool} {hd : Bool} (hf : DataW.trod enc Try.prog W b sp hd fuel 91 [.slice a len cap] = some y) : ShI W a len ∧ len ≤ cap ∧ cap ≤ 9223372036854775807 := by
 obtain ⟨xs, vs, h1, h2, h3, h4, h5⟩ := slice_trod (k := 9) (R := fun cs (_ : Unit) => Cs9 W cs) Try.underlying91 (by kernel_rfl) (fun cs _ e => by obtain ⟨_, _, _, _, _, _, _, _, _, _, _, _, _, _, _, _, _, _, _, _, _, _, _, _, _, _, _, rfl, _⟩ := e; rfl) (fun fuel cs z hl hz => ⟨(), r9_el hl hz⟩) hf
 have : xs = List.replicate len () := by
  rw [← h1]
  exact List.eq_replicate_of_mem fun _ _ => rfl
 subst this
 exact ⟨⟨vs, h2, h3⟩, h4, h5⟩
end Go.Proofs.Ytikhlcgnlbinfaa
namespace Go.Proofs.Ytikhlcgnlbinfaa
open Lib (hid)
open Go.RowKit
/-- Shifts of m strips as they came in: words of each number. -/
def ShV (w : World) (g o m : Nat) (N : Nat → Bool × List Int × List Int) : Prop :=
 ∀ s k, s < m → k < 3 → ∃ A l c B d e, w.cell? ⟨g, o + s * 9 + k * 3, none⟩ = some (.bool (N (3 * s + k)).1) ∧ w.cell? ⟨g, o + s * 9 + k * 3 + 1, none⟩ = some (.slice A l c) ∧ w.cell? ⟨g, o + s * 9 + k * 3 + 2, none⟩ = some (.slice B d e) ∧ (N (3 * s + k)).2.1.length = l ∧ (N (3 * s + k)).2.2.length = d ∧
  RatV w (.agg #[.bool (N (3 * s + k)).1, .slice A l c, .slice B d e]) (N (3 * s + k)).1 (N (3 * s + k)).2.1 (N (3 * s + k)).2.2
theorem ShV.ext {w w' : World} {g o m : Nat} {N : Nat → Bool × List Int × List Int} (h : ShV w g o m N) (he : Ext w w') : ShV w' g o m N := fun s k hs hk => by
 obtain ⟨A, l, c, B, d, e, h0, h1, h2, h3, h4, h5⟩ := h s k hs hk
 exact ⟨A, l, c, B, d, e, Ext.cell he h0, Ext.cell he h1, Ext.cell he h2, h3, h4, h5.ext he⟩
theorem csR_get {w : World} {vs : List Value} {m : Nat} (h : CsR (fun cs (_ : Unit) => Cs9 w cs) vs (List.replicate m ())) {i : Nat} (_hi : i < m) : ∃ cs, Cs9 w cs ∧ cs.length = 9 ∧ ∀ t, t < 9 → vs[i * 9 + t]? = cs[t]? := by
 induction m generalizing vs i with
 | zero => omega
 | succ m ih =>
  obtain ⟨cs, rest, rfl, hc, hr⟩ := h
  have hl : cs.length = 9 := by
   obtain ⟨_, _, _, _, _, _, _, _, _, _, _, _, _, _, _, _, _, _, _, _, _, _, _, _, _, _, _, rfl, _⟩ := hc
   rfl
  cases i with
  | zero => exact ⟨cs, hc, hl, fun t ht => by rw [Nat.zero_mul, Nat.zero_add, List.getElem?_append_left (by omega)]⟩
  | succ i =>
   obtain ⟨cs', h1, h2, h3⟩ := ih hr (i := i) (by omega)
   exact ⟨cs', h1, h2, fun t ht => by rw [List.getElem?_append_right (by omega), ← h3 t ht]; congr 1; omega⟩
theorem RatV.lens {w : World} {s : Bool} {A B : Option Addr} {l c m k : Nat} {xs ys : List Int} {n : Bool} (h : RatV w (.agg #[.bool s, .slice A l c, .slice B m k]) n xs ys) : xs.length = l ∧ ys.length = m := by
 obtain ⟨A', l', c', B', m', k', h1, h2, _, _, h5, _⟩ := h
 simp only [Value.agg.injEq, Array.mk.injEq, List.cons.injEq, Value.slice.injEq, Value.bool.injEq, List.toArray_inj] at h1
 obtain ⟨_, ⟨_, rfl, _⟩, ⟨_, rfl, _⟩, _⟩ := h1
 exact ⟨h2.1, h5.1⟩
theorem shV_one {w : World} {tA : Option Addr} {m : Nat} (h : ShI w tA m) : ∃ g o, (0 < m → tA = some ⟨g, o, none⟩) ∧ ∀ s k, s < m → k < 3 → ∃ (x : Bool × List Int × List Int) (A : Option Addr) (l c : Nat) (B : Option Addr) (d e : Nat), w.cell? ⟨g, o + s * 9 + k * 3, none⟩ = some (.bool x.1) ∧ w.cell? ⟨g, o + s * 9 + k * 3 + 1, none⟩ = some (.slice A l c) ∧ w.cell? ⟨g, o + s * 9 + k * 3 + 2, none⟩ = some (.slice B d e) ∧ x.2.1.length = l ∧ x.2.2.length = d ∧ RatV w (.agg #[.bool x.1, .slice A l c, .slice B d e]) x.1 x.2.1 x.2.2 := by
 obtain ⟨vs, hcs, hAt⟩ := h
 rcases Nat.eq_zero_or_pos m with h0 | h0
 ·
  subst h0
  exact ⟨0, 0, fun h => absurd h (Nat.lt_irrefl _), fun s k hs => by omega⟩
 ·
  have hne : vs ≠ [] := by
   obtain ⟨cs, _, hl, hg⟩ := csR_get hcs h0
   intro e
   subst e
   have := hg 0 (by omega)
   rw [List.getElem?_nil, List.getElem?_eq_getElem (by omega)] at this
   cases this
  obtain ⟨g, o, rfl, hc⟩ := hAt hne
  refine ⟨g, o, fun _ => rfl, fun s k hs hk => ?_⟩
  obtain ⟨cs, ⟨s0, A0, l0, c0, B0, m0, k0, xs0, ys0, s1, A1, l1, c1, B1, m1, k1, xs1, ys1, s2, A2, l2, c2, B2, m2, k2, xs2, ys2, rfl, r0, r1, r2⟩, hl, hg⟩ := csR_get hcs hs
  have cell : ∀ t v, t < 9 → ([.bool s0, .slice A0 l0 c0, .slice B0 m0 k0, .bool s1, .slice A1 l1 c1, .slice B1 m1 k1, .bool s2, .slice A2 l2 c2, .slice B2 m2 k2] : List Value)[t]? = some v → w.cell? ⟨g, o + s * 9 + t, none⟩ = some v := fun t v ht hv => by
   rw [Nat.add_assoc]; exact hc _ _ ((hg t ht).trans hv)
  match k, hk with
  | 0, _ => exact ⟨(s0, xs0, ys0), A0, l0, c0, B0, m0, k0, cell 0 _ (by omega) rfl, cell 1 _ (by omega) rfl, cell 2 _ (by omega) rfl, (RatV.lens r0).1, (RatV.lens r0).2, r0⟩
  | 1, _ => exact ⟨(s1, xs1, ys1), A1, l1, c1, B1, m1, k1, cell 3 _ (by omega) rfl, cell 4 _ (by omega) rfl, cell 5 _ (by omega) rfl, (RatV.lens r1).1, (RatV.lens r1).2, r1⟩
  | 2, _ => exact ⟨(s2, xs2, ys2), A2, l2, c2, B2, m2, k2, cell 6 _ (by omega) rfl, cell 7 _ (by omega) rfl, cell 8 _ (by omega) rfl, (RatV.lens r2).1, (RatV.lens r2).2, r2⟩
theorem shV_of {w : World} {tA : Option Addr} {m : Nat} (h : ShI w tA m) : ∃ g o N, (0 < m → tA = some ⟨g, o, none⟩) ∧ ShV w g o m N := by
 obtain ⟨g, o, hA, hN⟩ := shV_one h
 have hN2 : ∀ j : Nat, ∃ x : Bool × List Int × List Int, j < 3 * m → ∃ (A : Option Addr) (l c : Nat) (B : Option Addr) (d e : Nat), w.cell? ⟨g, o + j / 3 * 9 + j % 3 * 3, none⟩ = some (.bool x.1) ∧ w.cell? ⟨g, o + j / 3 * 9 + j % 3 * 3 + 1, none⟩ = some (.slice A l c) ∧ w.cell? ⟨g, o + j / 3 * 9 + j % 3 * 3 + 2, none⟩ = some (.slice B d e) ∧ x.2.1.length = l ∧ x.2.2.length = d ∧ RatV w (.agg #[.bool x.1, .slice A l c, .slice B d e]) x.1 x.2.1 x.2.2 := fun j => by
  by_cases hj : j < 3 * m
  ·
   obtain ⟨x, hx⟩ := hN (j / 3) (j % 3) (by omega) (Nat.mod_lt _ (by omega))
   exact ⟨x, fun _ => hx⟩
  ·
   exact ⟨(false, [], []), fun h => absurd h hj⟩
 obtain ⟨N, hN3⟩ := Classical.skolem.1 hN2
 refine ⟨g, o, N, hA, fun s k hs hk => ?_⟩
 obtain ⟨A, l, c, B, d, e, h0, h1, h2, h3, h4, h5⟩ := hN3 (3 * s + k) (by omega)
 have e1 : (3 * s + k) / 3 = s := by omega
 have e2 : (3 * s + k) % 3 = k := by omega
 rw [e1, e2] at h0 h1 h2
 exact ⟨A, l, c, B, d, e, h0, h1, h2, h3, h4, h5⟩
/-- A number of a shift has more than four words. -/
def lgN (m : Nat) (N : Nat → Bool × List Int × List Int) : Prop := ∃ j, j < 3 * m ∧ (4 < (N j).2.1.length ∨ 4 < (N j).2.2.length)
set_option maxRecDepth 100000 in
set_option maxHeartbeats 8000000 in
theorem long5_any (m ct gt ot : Nat) (tA : Option Addr) (N : Nat → Bool × List Int × List Int) (bb : Bool) (w : World) (hS : ShV w gt ot m N) (hA : 0 < m → tA = some ⟨gt, ot, none⟩) (_hm : m ≤ 9223372036854775807) (hb : bb = true ↔ 20 < m ∨ lgN m N) :
  Calls Try.prog 55 #[.slice tA m ct] w (fun e w' => e = .returned (.bool bb) ∧ Ext w w') := by
 have HX := hid (Ext.refl w)
 have HS := hid hS
 have HBB := hid hb
 clear hS hb
 go_enter Try.func55, Try.ntmps55
 by_cases h20 : 20 < m
 ·
  have q1 : decide (20 < m) = true := decide_eq_true h20
  have q1b : decide ((20 : Int) < (m : Int)) = true := decide_eq_true (by omega)
  have HF : Hid (bb = true) := hid (HBB.out.2 (.inl h20))
  clear h20
  go_wp2
  go_ret
  exact ⟨by rw [HF.out]; rfl, HX.out⟩
 have q1 : decide (20 < m) = false := decide_eq_false h20
 have q1b : decide ((20 : Int) < (m : Int)) = false := decide_eq_false (by omega)
 go_upto_region 3 with (fail)
 clear q1 q1b
 go_wp2_with fail
 go_loopg [3, 4] m (fun fu iv _ W => ∃ i : Nat, fu = m - i ∧ i ≤ m ∧ iv = .int .i64 (i : Int) ∧ Hid (∀ j, j < 3 * i → ¬ (4 < (N j).2.1.length ∨ 4 < (N j).2.2.length)) ∧ Hid (Ext w W))
 case atStart => exact ⟨0, by omega, by omega, rfl, hid (fun j hj => by omega), HX⟩
 case round =>
  clear HX
  obtain ⟨i, rfl, hi, rfl, HN, HX⟩ := hrel
  by_cases him : i < m
  ·
   have q1 : decide ((i : Int) < (m : Int)) = true := decide_eq_true (by omega)
   have q1b : decide (i < m) = true := decide_eq_true him
   have hAe := hA (by omega)
   subst hAe
   go_wp2_with fail
   go_loopg [4] 3 (fun fu kv W => ∃ k : Nat, fu = 3 - k ∧ k ≤ 3 ∧ kv = .int .i64 (k : Int) ∧ Hid (∀ j, j < 3 * i + k → ¬ (4 < (N j).2.1.length ∨ 4 < (N j).2.2.length)) ∧ Hid (Ext w W))
   case atStart => exact ⟨0, by omega, by omega, rfl, HN, HX⟩
   case round =>
    clear HN HX
    obtain ⟨k, rfl, hk, rfl, HN, HX⟩ := hrel
    by_cases hk3 : k < 3
    ·
     have q2 : decide ((k : Int) < 3) = true := decide_eq_true (by omega)
     have hki : (k : Int) < 3 := by omega
     obtain ⟨A, l, c, B, d, e, y0, y1, y2, hl, hd, _⟩ := (HS.out.ext HX.out) i k him hk3
     have HL := hid (And.intro hl hd)
     clear hl hd
     by_cases c1 : 4 < l
     ·
      have q3 : decide (4 < l) = true := decide_eq_true c1
      have q3b : decide ((4 : Int) < (l : Int)) = true := decide_eq_true (by omega)
      have HF : Hid (bb = true) := hid (HBB.out.2 (.inr ⟨3 * i + k, by omega, .inl (by rw [HL.out.1]; exact c1)⟩))
      clear c1
      go_wp2
      go_ret
      exact ⟨by rw [HF.out]; rfl, HX.out⟩
     have q3 : decide (4 < l) = false := decide_eq_false c1
     have q3b : decide ((4 : Int) < (l : Int)) = false := decide_eq_false (by omega)
     by_cases c2 : 4 < d
     ·
      have q4 : decide (4 < d) = true := decide_eq_true c2
      have q4b : decide ((4 : Int) < (d : Int)) = true := decide_eq_true (by omega)
      have HF : Hid (bb = true) := hid (HBB.out.2 (.inr ⟨3 * i + k, by omega, .inr (by rw [HL.out.2]; exact c2)⟩))
      clear c1 c2
      go_wp2
      go_ret
      exact ⟨by rw [HF.out]; rfl, HX.out⟩
     have q4 : decide (4 < d) = false := decide_eq_false c2
     have q4b : decide ((4 : Int) < (d : Int)) = false := decide_eq_false (by omega)
     have HN2 : Hid (∀ j, j < 3 * i + (k + 1) → ¬ (4 < (N j).2.1.length ∨ 4 < (N j).2.2.length)) := hid (fun j hj => by
      by_cases e : j = 3 * i + k
      ·
       subst e; rw [HL.out.1, HL.out.2]; omega
      ·
       exact HN.out j (by omega))
     clear c1 c2
     go_wp2
     go_roundg (3 - (k + 1))
     case rel => exact ⟨k + 1, rfl, by omega, by go_num, HN2, HX⟩
     case measure => omega
    obtain rfl : k = 3 := by omega
    have q2 : decide (((3 : Nat) : Int) < 3) = false := by decide
    go_wp2
    go_roundg (m - (i + 1))
    case rel => exact ⟨i + 1, rfl, by omega, by go_num, hid (fun j hj => HN.out j (by omega)), HX⟩
    case measure => omega
  obtain rfl : i = m := by omega
  have q1 : decide ((i : Int) < (i : Int)) = false := by simp
  have q1b : decide (i < i) = false := by simp
  have HF : Hid (bb = false) := hid (by
   rcases h : bb with _ | _
   ·
    rfl
   ·
    rcases HBB.out.1 h with h1 | ⟨j, h1, h2⟩
    ·
     exact absurd h1 h20
    ·
     exact absurd h2 (HN.out j h1))
  clear h20
  go_wp2
  go_ret
  exact ⟨by rw [HF.out]; rfl, HX.out⟩
end Go.Proofs.Ytikhlcgnlbinfaa
namespace Go.Proofs.Ytikhlcgnlbinfaa
open Lib (hid)
theorem PP_le {P : Nat} (h : P ≤ BB 52) : P * P ≤ BB 104 := by
 have : BB 104 = BB 52 * BB 52 := BB_add 52 52
 rw [this]
 exact Nat.mul_le_mul h h
theorem res_fit {S : Int} {m : Mt} (hm : VM S m) {n : Nat} (hn : n ≤ 24) {u : Nat → Rat} (ht : Tame n u) : FitQW (res n m u) := by
 obtain ⟨P, h1, h2, h3⟩ := ht
 exact FitQW.of4 ((tame_res hm hn h1 h2 h3 (Nat.le_refl n)).fit h1 h2) (by decide)
theorem misfit_fit {S : Int} {ms : List Mt} (hm : ∀ m ∈ ms, VM S m) (hl : ms.length ≤ 64) {n : Nat} (hn : n ≤ 24) {u : Nat → Rat} (ht : Tame n u) : FitQW (misfit n ms u) := by
 obtain ⟨P, h1, h2, h3⟩ := ht
 exact FitQW.of4 ((tame_misfit hm hl hn h1 h2 h3).fit (Nat.mul_pos h1 h1) (PP_le h2)) (by decide)
theorem slope_fit {S : Int} {ms : List Mt} (hm : ∀ m ∈ ms, VM S m) (hl : ms.length ≤ 64) {n : Nat} (hn : n ≤ 24) {u : Nat → Rat} (ht : Tame n u) (i : Nat) : FitQW (slope n ms u i) := by
 obtain ⟨P, h1, h2, h3⟩ := ht
 exact FitQW.of4 ((tame_slope hm hl hn h1 h2 h3 i).fit h1 h2) (by decide)
end Go.Proofs.Ytikhlcgnlbinfaa
namespace Go.Proofs.Ytikhlcgnlbinfaa
open Lib (hid)
open Go.RowKit
/-- A point within the limits. -/
def nrP (x y z : Int) : Prop := (-268435456 ≤ x ∧ x ≤ 268435456) ∧ (-268435456 ≤ y ∧ y ≤ 268435456) ∧ (-268435456 ≤ z ∧ z ≤ 268435456)
instance (x y z : Int) : Decidable (nrP x y z) := by unfold nrP; infer_instance
/-- The last of three that is not zero is negative. -/
def facS (n : Nat → Int) : Prop := if n 2 = 0 then (if n 1 = 0 then n 0 < 0 else n 1 < 0) else n 2 < 0
instance (n : Nat → Int) : Decidable (facS n) := by unfold facS; infer_instance
/-- A match in a block of its own, its normal a function. -/
def T7 (w : World) (g : Nat) (s o : Int) (f : Nat → Int) (dd wt : Int) : Prop := Blk w g 90 #[.int .i64 s, .int .i64 o, .int .i64 (f 0), .int .i64 (f 1), .int .i64 (f 2), .int .i64 dd, .int .i64 wt]
theorem T7.cell {w : World} {g : Nat} {s o dd wt : Int} {f : Nat → Int} (h : T7 w g s o f dd wt) {k : Nat} (hk : k < 3) : w.cell? ⟨g, 2 + k, none⟩ = some (.int .i64 (f k)) := by
 unfold T7 at h
 match k, hk with
 | 0, _ => exact h.cell 2
 | 1, _ => exact h.cell 3
 | 2, _ => exact h.cell 4
end Go.Proofs.Ytikhlcgnlbinfaa
namespace Go.Proofs.Ytikhlcgnlbinfaa
open Lib (hid)
theorem sgn_int' (z : Int) : sgn (decide (z < 0)) z.natAbs = z := by
 unfold sgn
 by_cases h : z < 0
 ·
  rw [decide_eq_true h]; simp; omega
 ·
  rw [decide_eq_false h]; simp; omega
theorem fitT_mul {n m a b L : Nat} (h : Fit 65536 n a) (k : Fit 65536 m b) (hL : a + b ≤ L) : Fit 65536 (n * m) L := (h.mul (by omega) k).mono (by omega) hL
theorem fitT_mulI {x y : Int} {a b L : Nat} (h : Fit 65536 x.natAbs a) (k : Fit 65536 y.natAbs b) (hL : a + b ≤ L) : Fit 65536 (x * y).natAbs L := by
 rw [Int.natAbs_mul]; exact fitT_mul h k hL
theorem fitT_addI {x y : Int} {a L : Nat} (h : Fit 65536 x.natAbs a) (k : Fit 65536 y.natAbs a) (hL : a + 1 ≤ L) : Fit 65536 (x + y).natAbs L :=
 ((h.add (by omega) k).le (Int.natAbs_add_le x y)).mono (by omega) hL
theorem fitS_add {q r : Rat} {L M : Nat} (h : FitR q L) (k : FitR r M) : FitR (q + r) (L + M + 1) := by
 have e : ratV (decide (q.num * (r.den : Int) + r.num * (q.den : Int) < 0)) (q.num * (r.den : Int) + r.num * (q.den : Int)).natAbs (q.den * r.den) = q + r := by
  unfold ratV; rw [sgn_int']; exact (Rat.add_def' q r).symm
 rw [← e]
 refine fitR_red (Nat.mul_pos q.den_pos r.den_pos) ?_ (fitT_mul h.2 k.2 (by omega))
 exact fitT_addI (fitT_mulI h.1 (by simpa using k.2) (Nat.le_refl _)) (fitT_mulI k.1 (by simpa using h.2) (by omega)) (by omega)
theorem fitS_mul {q r : Rat} {L M : Nat} (h : FitR q L) (k : FitR r M) : FitR (q * r) (L + M) := by
 have e : ratV (decide (q.num * r.num < 0)) (q.num * r.num).natAbs (q.den * r.den) = q * r := by
  unfold ratV; rw [sgn_int']; exact (Rat.mul_def' q r).symm
 rw [← e]
 exact fitR_red (Nat.mul_pos q.den_pos r.den_pos) (fitT_mulI h.1 k.1 (Nat.le_refl _)) (fitT_mul h.2 k.2 (Nat.le_refl _))
end Go.Proofs.Ytikhlcgnlbinfaa
namespace Go.Proofs.Ytikhlcgnlbinfaa
open Lib (hid)
open Go.RowKit
theorem vmr_first (S a b x y z d ww : Int) : (0 ≤ a ∧ a < S ∧ -1 ≤ b ∧ b < S ∧ b ≠ a ∧ -274877906944 ≤ d ∧ d ≤ 274877906944 ∧ 1 ≤ ww ∧ ww ≤ 1000 ∧ ¬ (x = 0 ∧ y = 0 ∧ z = 0)) ∨ (a < 0) ∨ (0 ≤ a ∧ S ≤ a) ∨ (0 ≤ a ∧ a < S ∧ b < -1) ∨ (0 ≤ a ∧ a < S ∧ -1 ≤ b ∧ S ≤ b) ∨ (0 ≤ a ∧ a < S ∧ -1 ≤ b ∧ b < S ∧ b = a) ∨ (0 ≤ a ∧ a < S ∧ -1 ≤ b ∧ b < S ∧ b ≠ a ∧ d < -274877906944) ∨ (0 ≤ a ∧ a < S ∧ -1 ≤ b ∧ b < S ∧ b ≠ a ∧ -274877906944 ≤ d ∧ 274877906944 < d) ∨ (0 ≤ a ∧ a < S ∧ -1 ≤ b ∧ b < S ∧ b ≠ a ∧ -274877906944 ≤ d ∧ d ≤ 274877906944 ∧ ww < 1) ∨ (0 ≤ a ∧ a < S ∧ -1 ≤ b ∧ b < S ∧ b ≠ a ∧ -274877906944 ≤ d ∧ d ≤ 274877906944 ∧ 1 ≤ ww ∧ 1000 < ww) ∨ (0 ≤ a ∧ a < S ∧ -1 ≤ b ∧ b < S ∧ b ≠ a ∧ -274877906944 ≤ d ∧ d ≤ 274877906944 ∧ 1 ≤ ww ∧ ww ≤ 1000 ∧ (x = 0 ∧ y = 0 ∧ z = 0)) := by
 by_cases c0 : 0 ≤ a
 ·
  by_cases c1 : a < S
  ·
   by_cases c2 : -1 ≤ b
   ·
    by_cases c3 : b < S
    ·
     by_cases c4 : b ≠ a
     ·
      by_cases c5 : -274877906944 ≤ d
      ·
       by_cases c6 : d ≤ 274877906944
       ·
        by_cases c7 : 1 ≤ ww
        ·
         by_cases c8 : ww ≤ 1000
         ·
          by_cases c9 : ¬ (x = 0 ∧ y = 0 ∧ z = 0)
          ·
           exact .inl ⟨c0, c1, c2, c3, c4, c5, c6, c7, c8, c9⟩
          ·
           exact .inr (.inr (.inr (.inr (.inr (.inr (.inr (.inr (.inr (.inr (⟨c0, c1, c2, c3, c4, c5, c6, c7, c8, Decidable.not_not.1 c9⟩))))))))))
         ·
          exact .inr (.inr (.inr (.inr (.inr (.inr (.inr (.inr (.inr (.inl ⟨c0, c1, c2, c3, c4, c5, c6, c7, by omega⟩)))))))))
        ·
         exact .inr (.inr (.inr (.inr (.inr (.inr (.inr (.inr (.inl ⟨c0, c1, c2, c3, c4, c5, c6, by omega⟩))))))))
       ·
        exact .inr (.inr (.inr (.inr (.inr (.inr (.inr (.inl ⟨c0, c1, c2, c3, c4, c5, by omega⟩)))))))
      ·
       exact .inr (.inr (.inr (.inr (.inr (.inr (.inl ⟨c0, c1, c2, c3, c4, by omega⟩))))))
     ·
      exact .inr (.inr (.inr (.inr (.inr (.inl ⟨c0, c1, c2, c3, Decidable.not_not.1 c4⟩)))))
    ·
     exact .inr (.inr (.inr (.inr (.inl ⟨c0, c1, c2, by omega⟩))))
   ·
    exact .inr (.inr (.inr (.inl ⟨c0, c1, by omega⟩)))
  ·
   exact .inr (.inr (.inl ⟨c0, by omega⟩))
 ·
  exact .inr (.inl ((by omega)))
set_option maxRecDepth 100000 in
set_option maxHeartbeats 32000000 in
theorem valid5R_any (S : Int) (A : Option Addr) (n c : Nat) (ms : List Mt) (w : World) (h : MsAt w A n ms) :
  Calls Try.prog 42 #[.agg #[.int .i64 S, .slice A n c]] w (fun e w' => e = .returned (.bool (vpB S ms)) ∧ Ext w w') := by
 have HX := hid ((Ext.refl w).alloc (.cells #[.int .i64 S, .slice A n c] 76))
 have HP := hid (Blk.new w 76 #[.int .i64 S, .slice A n c])
 have H := hid h
 have HL := hid h.1
 clear h
 obtain ⟨R, hR⟩ : ∃ R, vpB S ms = R := ⟨_, rfl⟩
 have HR := hid hR
 rw [hR]
 clear hR
 rcases vp_first (S := S) (n := n) with ⟨h1, h2, h3⟩ | h1 | ⟨h1, h2⟩ | ⟨h1, h2, h3⟩
 rotate_left
 ·
  obtain rfl : R = false := by rw [← HR.out]; exact vpB_no (fun h => by have := h.1; omega)
  go_enter Try.func42, Try.ntmps42
  go_wp2
  go_ret
  exact ⟨rfl, HX.out⟩
 ·
  obtain rfl : R = false := by rw [← HR.out]; exact vpB_no (fun h => by have := h.2.1; omega)
  go_enter Try.func42, Try.ntmps42
  go_wp2
  go_ret
  exact ⟨rfl, HX.out⟩
 ·
  obtain rfl : R = false := by rw [← HR.out]; exact vpB_no (fun h => by have := h.2.2.1; have := HL.out; omega)
  go_enter Try.func42, Try.ntmps42
  go_wp2
  go_ret
  exact ⟨rfl, HX.out⟩
 go_enter Try.func42, Try.ntmps42
 go_upto_region 1 with (fail)
 generalize w.alloc (.cells #[.int .i64 S, .slice A n c] 76) = w1 at HX HP ⊢
 have p0 := HP.out.cell 0
 have p1 := HP.out.cell 1
 simp only [List.getElem?_toArray, List.getElem?_cons_zero, List.getElem?_cons_succ] at p0 p1
 go_wp2_with fail
 clear p0 p1
 go_loopg [3] n (fun f iv wr => ∃ k : Nat, f = n - k ∧ k ≤ n ∧ iv = .int .i64 (k : Int) ∧ Hid (∀ m ∈ ms.take k, vmB S m = true) ∧ Hid (Blk wr w.heap.size 76 #[.int .i64 S, .slice A n c]) ∧ Hid (Ext w wr))
 case atStart => exact ⟨0, rfl, by omega, rfl, hid (by simp), HP, HX⟩
 case round =>
  clear HX HP
  obtain ⟨k, rfl, hk, rfl, HV, HP, HX⟩ := hrel
  have p0 := HP.out.cell 0
  have p1 := HP.out.cell 1
  simp only [List.getElem?_toArray, List.getElem?_cons_zero, List.getElem?_cons_succ] at p0 p1
  by_cases hlt : k < n
  ·
   have q1 : decide (k < n) = true := decide_eq_true hlt
   obtain ⟨g, o, ⟨a, b, x, y, z, d, ww⟩, rfl, hm, hmem, x0, x1, x2, x3, x4, x5, x6⟩ := (H.out.ext HX.out).get hlt
   simp only at x0 x1 x2 x3 x4 x5 x6
   have HM := hid hm
   have HME := hid hmem
   clear hm hmem
   go_upto_region 7 with (fail)
   have hXa : Ext wr (wr.alloc (.cells #[.int .i64 (a), .int .i64 (b), .int .i64 (x), .int .i64 (y), .int .i64 (z), .int .i64 (d), .int .i64 (ww)] 90)) := (Ext.refl _).alloc _
   have hB := Blk.new wr 90 #[.int .i64 (a), .int .i64 (b), .int .i64 (x), .int .i64 (y), .int .i64 (z), .int .i64 (d), .int .i64 (ww)]
   replace HX := hid (HX.out.trans hXa)
   replace HP := hid (HP.out.ext hXa)
   clear hXa x0 x1 x2 x3 x4 x5 x6 p0 p1
   generalize wr.heap.size = gm at hB ⊢
   generalize wr.alloc (.cells #[.int .i64 (a), .int .i64 (b), .int .i64 (x), .int .i64 (y), .int .i64 (z), .int .i64 (d), .int .i64 (ww)] 90) = w2 at hB HX HP ⊢
   have HB := hid hB
   clear hB
   have y0 := HB.out.cell 0
   have y1 := HB.out.cell 1
   have y2 := HB.out.cell 2
   have y3 := HB.out.cell 3
   have y4 := HB.out.cell 4
   have y5 := HB.out.cell 5
   have y6 := HB.out.cell 6
   simp only [List.getElem?_toArray, List.getElem?_cons_zero, List.getElem?_cons_succ] at y0 y1 y2 y3 y4 y5 y6
   have p0 := HP.out.cell 0
   simp only [List.getElem?_toArray, List.getElem?_cons_zero] at p0
   rcases vmr_first S a b x y z d ww with ⟨c0, c1, c2, c3, c4, c5, c6, c7, c8, c9⟩ | c0 | ⟨c0, c1⟩ | ⟨c0, c1, c2⟩ | ⟨c0, c1, c2, c3⟩ | ⟨c0, c1, c2, c3, c4⟩ | ⟨c0, c1, c2, c3, c4, c5⟩ | ⟨c0, c1, c2, c3, c4, c5, c6⟩ | ⟨c0, c1, c2, c3, c4, c5, c6, c7⟩ | ⟨c0, c1, c2, c3, c4, c5, c6, c7, c8⟩ | ⟨c0, c1, c2, c3, c4, c5, c6, c7, c8, rfl, rfl, rfl⟩
   rotate_left
   ·
    obtain rfl : R = false := by rw [← HR.out]; exact vpB_no (fun h => by have h := h.2.2.2 _ HME.out; have := h.a0; have := h.aS; have := h.b0; have := h.bS; have := h.ne; have := h.nz; have := h.d1; have := h.d2; have := h.w1; have := h.w2; simp only at *; omega)
    go_wp2
    go_ret
    exact ⟨rfl, HX.out⟩
   ·
    obtain rfl : R = false := by rw [← HR.out]; exact vpB_no (fun h => by have h := h.2.2.2 _ HME.out; have := h.a0; have := h.aS; have := h.b0; have := h.bS; have := h.ne; have := h.nz; have := h.d1; have := h.d2; have := h.w1; have := h.w2; simp only at *; omega)
    go_wp2
    go_ret
    exact ⟨rfl, HX.out⟩
   ·
    obtain rfl : R = false := by rw [← HR.out]; exact vpB_no (fun h => by have h := h.2.2.2 _ HME.out; have := h.a0; have := h.aS; have := h.b0; have := h.bS; have := h.ne; have := h.nz; have := h.d1; have := h.d2; have := h.w1; have := h.w2; simp only at *; omega)
    go_wp2
    go_ret
    exact ⟨rfl, HX.out⟩
   ·
    obtain rfl : R = false := by rw [← HR.out]; exact vpB_no (fun h => by have h := h.2.2.2 _ HME.out; have := h.a0; have := h.aS; have := h.b0; have := h.bS; have := h.ne; have := h.nz; have := h.d1; have := h.d2; have := h.w1; have := h.w2; simp only at *; omega)
    go_wp2
    go_ret
    exact ⟨rfl, HX.out⟩
   ·
    obtain rfl : R = false := by rw [← HR.out]; exact vpB_no (fun h => by have h := h.2.2.2 _ HME.out; have := h.a0; have := h.aS; have := h.b0; have := h.bS; have := h.ne; have := h.nz; have := h.d1; have := h.d2; have := h.w1; have := h.w2; simp only at *; omega)
    subst c4
    have g5 : (b == b) = true := by simp
    go_wp2
    go_ret
    exact ⟨rfl, HX.out⟩
   ·
    obtain rfl : R = false := by rw [← HR.out]; exact vpB_no (fun h => by have h := h.2.2.2 _ HME.out; have := h.a0; have := h.aS; have := h.b0; have := h.bS; have := h.ne; have := h.nz; have := h.d1; have := h.d2; have := h.w1; have := h.w2; simp only at *; omega)
    have g5 : (b == a) = false := by simpa using c4
    go_wp2
    go_ret
    exact ⟨rfl, HX.out⟩
   ·
    obtain rfl : R = false := by rw [← HR.out]; exact vpB_no (fun h => by have h := h.2.2.2 _ HME.out; have := h.a0; have := h.aS; have := h.b0; have := h.bS; have := h.ne; have := h.nz; have := h.d1; have := h.d2; have := h.w1; have := h.w2; simp only at *; omega)
    have g5 : (b == a) = false := by simpa using c4
    go_wp2
    go_ret
    exact ⟨rfl, HX.out⟩
   ·
    obtain rfl : R = false := by rw [← HR.out]; exact vpB_no (fun h => by have h := h.2.2.2 _ HME.out; have := h.a0; have := h.aS; have := h.b0; have := h.bS; have := h.ne; have := h.nz; have := h.d1; have := h.d2; have := h.w1; have := h.w2; simp only at *; omega)
    have g5 : (b == a) = false := by simpa using c4
    go_wp2
    go_ret
    exact ⟨rfl, HX.out⟩
   ·
    obtain rfl : R = false := by rw [← HR.out]; exact vpB_no (fun h => by have h := h.2.2.2 _ HME.out; have := h.a0; have := h.aS; have := h.b0; have := h.bS; have := h.ne; have := h.nz; have := h.d1; have := h.d2; have := h.w1; have := h.w2; simp only at *; omega)
    have g5 : (b == a) = false := by simpa using c4
    go_wp2
    go_ret
    exact ⟨rfl, HX.out⟩
   ·
    obtain rfl : R = false := by rw [← HR.out]; exact vpB_no (fun h => (h.2.2.2 _ HME.out).nz ⟨rfl, rfl, rfl⟩)
    have g5 : (b == a) = false := by simpa using c4
    have g6 : ∀ w, (Op.equalIn 10000 22 (.agg #[.int .i64 0, .int .i64 0, .int .i64 0]) (.agg #[.int .i64 0, .int .i64 0, .int .i64 0])).run Try.prog w = .ok true w := fun w => by rw [run_eq3 9998, decide_eq_true ⟨rfl, rfl, rfl⟩]
    go_wp2
    go_ret
    exact ⟨rfl, HX.out⟩
   have g5 : (b == a) = false := by simpa using c4
   have g6 : ∀ w, (Op.equalIn 10000 22 (.agg #[.int .i64 x, .int .i64 y, .int .i64 z]) (.agg #[.int .i64 0, .int .i64 0, .int .i64 0])).run Try.prog w = .ok false w := fun w => by rw [run_eq3 9998, decide_eq_false c9]
   have HC9 := hid c9
   clear c9
   go_wp2_with fail
   go_loopg [5] 3 (fun f iv wz => ∃ r : Nat, f = 3 - r ∧ r ≤ 3 ∧ iv = .int .i64 (r : Int) ∧ Hid (∀ q, q < r → -100 ≤ pick3 x y z q ∧ pick3 x y z q ≤ 100) ∧ wz = w2)
   case atStart => exact ⟨0, rfl, by omega, rfl, hid (fun q hq => by omega), rfl⟩
   case round =>
    obtain ⟨r, rfl, hr, rfl, HPK, rfl⟩ := hrel
    by_cases hrl : r < 3
    ·
     have q2 : decide (r < 3) = true := decide_eq_true hrl
     obtain ⟨v, hv⟩ : ∃ v, pick3 x y z r = v := ⟨_, rfl⟩
     have yv : wr.cell? ⟨gm, 2 + r, none⟩ = some (.int .i64 v) := by
      rw [← hv]
      match r, hrl with
      | 0, _ => exact y2
      | 1, _ => exact y3
      | 2, _ => exact y4
      | _ + 3, h => omega
     have HVV := hid hv
     have HVB : Hid (vpB S ms = true → -100 ≤ v ∧ v ≤ 100) := hid (fun e => by
      have h := (vpB_iff.1 e).2.2.2 _ HME.out
      have h1 := h.x1; have h2 := h.x2; have h3 := h.y1; have h4 := h.y2; have h5 := h.z1; have h6 := h.z2
      simp only at h1 h2 h3 h4 h5 h6
      rw [← hv]
      unfold pick3; split; omega; split <;> omega)
     clear hv
     by_cases c10 : v < -100
     ·
      obtain rfl : R = false := by
       rw [← HR.out]
       rcases hb : vpB S ms with _ | _
       ·
        rfl
       ·
        have := HVB.out hb; omega
      go_wp2
      go_ret
      exact ⟨rfl, HX.out⟩
     ·
      by_cases c11 : 100 < v
      ·
       obtain rfl : R = false := by
        rw [← HR.out]
        rcases hb : vpB S ms with _ | _
        ·
         rfl
        ·
         have := HVB.out hb; omega
       go_wp2
       go_ret
       exact ⟨rfl, HX.out⟩
      ·
       go_wp2
       go_roundg (3 - (r + 1))
       case rel =>
        refine ⟨r + 1, rfl, by omega, by go_num, hid (fun q hq => ?_), rfl⟩
        rcases Nat.lt_or_ge q r with h | h
        ·
         exact HPK.out q h
        ·
         obtain rfl : q = r := by omega
         rw [HVV.out]; omega
       case measure => omega
    ·
     obtain rfl : r = 3 := by omega
     have HBT : Hid (vmB S ⟨a, b, x, y, z, d, ww⟩ = true) := hid (by
      have e0 := HPK.out 0 (by omega)
      have e1 := HPK.out 1 (by omega)
      have e2 := HPK.out 2 (by omega)
      simp only [pick3] at e0 e1 e2
      simp only [if_true, Nat.reduceEqDiff, if_false, Nat.succ_ne_zero] at e0 e1 e2
      have h9 := HC9.out
      exact vmB_iff.2 ⟨c0, c1, c2, c3, fun e => c4 e.symm, h9, e0.1, e0.2, e1.1, e1.2, e2.1, e2.2, c5, c6, c7, c8⟩)
     clear HPK
     go_wp2
     go_roundg (n - (k + 1))
     case rel =>
      refine ⟨k + 1, rfl, by omega, by go_num, hid (fun m hm => ?_), HP, HX⟩
      rw [List.take_add_one, HM.out] at hm
      rcases List.mem_append.1 hm with h | h
      ·
       exact HV.out m h
      ·
       simp at h; subst h; exact HBT.out
     case measure => omega
  ·
   obtain rfl : k = n := by omega
   have q1 : decide (k < k) = false := by simp
   obtain rfl : R = true := by
    rw [← HR.out]
    refine vpB_iff.2 ⟨h1, h2, by have := HL.out; omega, fun m hm => vmB_iff.1 (HV.out m ?_)⟩
    rw [List.take_of_length_le (by have := HL.out; omega)]
    exact hm
   go_wp2
   go_ret
   exact ⟨rfl, HX.out⟩
theorem fitQ_zero (L : Nat) : FitQ 0 (L + 1) := ⟨Fit.zero (by decide), Fit.one (by decide) (by omega)⟩
theorem solP_fit {S : Int} {ms : List Mt} (h : ∀ m ∈ ms, VM S m) (hl : ms.length ≤ 64) {n : Nat} (hn : n ≤ 24) (j : Nat) : FitQ (solP n ms j) 53 := by
 unfold solP solG
 split
 ·
  rename_i i hp
  have hi := Stage.pivtop n j i hp
  have h2 := redG_top n (tabM ms n) n
  exact redG_fit h hl hn n (Nat.le_refl _) i (by omega) n (Nat.le_refl _)
 ·
  exact fitQ_zero 52
set_option maxRecDepth 100000 in
set_option maxHeartbeats 2000000 in
theorem solveP_ok (S : Nat) (A : Option Addr) (n c : Nat) (ms : List Mt) (w : World) (h : MsAt w A n ms) (hv : VP (S : Int) ms) :
  Calls Try.prog 48 #[.agg #[.int .i64 (S : Int), .slice A n c]] w (fun e w' => ∃ go, e = .returned (.tuple #[.slice (some ⟨go, 0, none⟩) S S, .int .i64 0]) ∧ w.heap.size ≤ go ∧ ShP RatC w' go 0 S (solP (3 * S) ms) ∧ Ext w w') := by
 have HX := hid ((Ext.refl w).alloc (.cells #[.int .i64 (S : Int), .slice A n c] 76))
 have HP := hid (Blk.new w 76 #[.int .i64 (S : Int), .slice A n c])
 have HB := hid (vpB_iff.2 hv)
 have H := hid h
 have HV := hid hv
 clear h hv
 go_enter Try.func48, Try.ntmps48
 go_upto_region 1 with (fail)
 generalize w.alloc (.cells #[.int .i64 (S : Int), .slice A n c] 76) = w1 at HX HP ⊢
 have p0 := HP.out.cell 0
 have p1 := HP.out.cell 1
 simp only [List.getElem?_toArray, List.getElem?_cons_zero, List.getElem?_cons_succ] at p0 p1
 go_wp2_with fail
 refine (valid5_any (S : Int) A n c ms _ (H.out.ext HX.out)).mono ?_
 rw [HB.out]
 rintro e w2 ⟨rfl, hX⟩
 replace HX := hid (HX.out.trans hX)
 replace HP := hid (HP.out.ext hX)
 clear hX p0 p1
 have hS8 : S ≤ 8 := by have := HV.out.2.1; omega
 have HF : Hid (∀ j, j < 3 * S → FitQW (solP (3 * S) ms j)) := hid (fun j _ => FitQW.of4 ((solP_fit HV.out.2.2.2 HV.out.2.2.1 (by omega) j)) (by omega))
 have p0 := HP.out.cell 0
 have p1 := HP.out.cell 1
 simp only [List.getElem?_toArray, List.getElem?_cons_zero, List.getElem?_cons_succ] at p0 p1
 go_wp2_with fail
 refine (solve_ok S A n c ms _ (H.out.ext HX.out) HV.out).mono ?_
 rintro e w3 ⟨go, rfl, hgo, hS, hX⟩
 have HS := hid hS
 have hs := HX.out.size
 replace HX := hid (HX.out.trans hX)
 clear hS hX p0 p1
 go_wp2_with fail
 refine (done_S 53 go 0 S S (solP (3 * S) ms) _ HS.out (by omega) HF.out (by omega)).mono ?_
 rintro e w4 ⟨g2, rfl, hg2, hS2, hX⟩
 have hs3 := HX.out.size
 replace HX := hid (HX.out.trans hX)
 have HS2 := hid hS2
 clear hS2 hX
 go_wp2
 go_ret2
 exact ⟨g2, rfl, by omega, HS2.out, HX.out⟩
set_option maxRecDepth 100000 in
set_option maxHeartbeats 2000000 in
theorem read_r14 (go S ss kk gr : Nat) (sy : Bool) (Ay By : Option Addr) (ly cy my ky : Nat) (q : Rat) (w : World) (x0 : w.cell? ⟨gr, 0, none⟩ = some (.bool sy)) (x1 : w.cell? ⟨gr, 1, none⟩ = some (.slice Ay ly cy)) (x2 : w.cell? ⟨gr, 2, none⟩ = some (.slice By my ky)) (hx : RatG w (.agg #[.bool sy, .slice Ay ly cy, .slice By my ky]) q) (_hs1 : ss < S) (_hk3 : (kk : Int) < 3) (_hk4 : kk < 3) (a : Act) (Q : Exit → Act → World → Prop) (hsize : 43 ≤ a.tmps.size)
  (s6 : a.tmps[6]? = some (.slice (some ⟨go, 0, none⟩) S S))
  (s7 : a.tmps[7]? = some (.int .i64 (ss : Int)))
  (s9 : a.tmps[9]? = some (.int .i64 (kk : Int)))
  (s10 : a.tmps[10]? = some (.pointer (some ⟨gr, 0, none⟩)))
  (hend : ∀ (xv0 xv1 xv2 xv3 xv4 xv5 xv6 : Value) (W : World), (xv0 = .slice (some ⟨go, 0, none⟩) S S) → (xv1 = .int .i64 (ss : Int)) → (xv2 = .int .i64 (kk : Int)) → (xv3 = .agg #[.bool sy, .slice Ay ly cy, .slice By my ky]) → (NumX W xv4 (q) (256)) → (xv5 = .pointer (some ⟨go, ss * 9, none⟩)) → (xv6 = .pointer (some ⟨go, ss * 9 + kk * 3, none⟩)) → Ext w W → wpList Try.prog (rops Try.f126 14).toArray Q ((rops Try.f126 14).drop 7) (((((((a.put (some 36) xv0).put (some 37) xv1).put (some 38) xv2).put (some 39) xv3).put (some 40) xv4).put (some 41) xv5).put (some 42) xv6) W) :
  (Code.region 14 (rops Try.f126 14).toArray true).wp Try.prog Q a w := by
 refine wp_region_k 7 [some 36, some 37, some 38, some 39, some 40, some 41, some 42] [[], [], [], [], [3], [0, 1], [2, 5]] [eqv (.slice (some ⟨go, 0, none⟩) S S), eqv (.int .i64 (ss : Int)), eqv (.int .i64 (kk : Int)), eqv (.agg #[.bool sy, .slice Ay ly cy, .slice By my ky]), fun v W => NumX W v (q) (256), eqv (.pointer (some ⟨go, ss * 9, none⟩)), eqv (.pointer (some ⟨go, ss * 9 + kk * 3, none⟩))] (by kernel_rfl) (by kernel_rfl) rfl (by decide) hsize ⟨monC, monC, monC, monC, by intro v W W' h hX; exact NumX.ext h hX, monC, monC, trivial⟩ ?_ ?_
 ·
  clear hend
  simp only [rops, Try.f126, regOf, Option.bind_some, Nat.reduceBEq, if_true, if_false, Bool.false_eq_true, Option.getD_some]
  simp only [List.take_succ_cons, List.take_zero]
  refine ⟨?_, ?_, ?_, ?_, ?_, ?_, ?_, trivial⟩
  ·
   rintro us W hJ _ b hb hbz K hK0 hK Qz
   have e6 := (hbz 6 (by simp)).trans s6
   clear hb hbz
   go_simp
   exact hK0 _ rfl
  ·
   rintro us W hJ _ b hb hbz K hK0 hK Qz
   have e7 := (hbz 7 (by simp)).trans s7
   clear hb hbz
   go_simp
   exact hK0 _ rfl
  ·
   rintro us W hJ _ b hb hbz K hK0 hK Qz
   have e9 := (hbz 9 (by simp)).trans s9
   clear hb hbz
   go_simp
   exact hK0 _ rfl
  ·
   rintro us W hJ _ b hb hbz K hK0 hK Qz
   have e10 := (hbz 10 (by simp)).trans s10
   clear hb hbz
   have z0 := Ext.cell hJ x0
   have z1 := Ext.cell hJ x1
   have z2 := Ext.cell hJ x2
   go_simp
   exact hK0 _ rfl
  ·
   rintro us W hJ d3 b hb hbz K hK0 hK Qz
   have e39 := slotV (hb 3 39 rfl) d3
   clear hb hbz d3
   go_simp
   refine (ofG (hx.ext hJ)).mono ?_
   rintro e w' ⟨v, rfl, hv, hX⟩
   exact hK _ _ hv hX
  ·
   rintro us W hJ ⟨d0, d1⟩ b hb hbz K hK0 hK Qz
   have e36 := slotV (hb 0 36 rfl) d0
   have e37 := slotV (hb 1 37 rfl) d1
   clear hb hbz d0 d1
   go_simp
   exact hK0 _ rfl
  ·
   rintro us W hJ ⟨d2, d5⟩ b hb hbz K hK0 hK Qz
   have e38 := slotV (hb 2 38 rfl) d2
   have e41 := slotV (hb 5 41 rfl) d5
   clear hb hbz d2 d5
   go_simp
   exact hK0 _ rfl
 ·
  rintro us W ⟨v0, v1, v2, v3, v4, v5, v6, _⟩ hJ
  exact hend _ _ _ _ _ _ _ W v0 v1 v2 v3 v4 v5 v6 hJ
set_option maxRecDepth 100000 in
set_option maxHeartbeats 16000000 in
theorem rdP_inv (S : Int) (A : Option Addr) (n c : Nat) (ms : List Mt) (tv : Value) (w : World) (h : MsAt w A n ms) (hv : ¬ VP S ms)  :
  Calls Try.prog 126 #[.agg #[.int .i64 S, .slice A n c], tv] w (fun e w' => e = .returned (.tuple #[.slice none 0 0, .int .i64 50]) ∧ Ext w w') := by
 have HX := hid ((Ext.refl w).alloc (.cells #[.int .i64 S, .slice A n c] 76))
 have HP := hid (Blk.new w 76 #[.int .i64 S, .slice A n c])
 have HB := hid (vpB_no hv)
 have H := hid h
 have HV := hid hv
 clear h hv
 go_enter Try.func126, Try.ntmps126
 go_upto_region 1 with (fail)
 generalize w.alloc (.cells #[.int .i64 S, .slice A n c] 76) = w1 at HX HP ⊢
 have p0 := HP.out.cell 0
 have p1 := HP.out.cell 1
 simp only [List.getElem?_toArray, List.getElem?_cons_zero, List.getElem?_cons_succ] at p0 p1
 go_wp2_with fail
 refine (valid5_any S A n c ms _ (H.out.ext HX.out)).mono ?_
 rw [HB.out]
 rintro e w2 ⟨rfl, hX⟩
 replace HX := hid (HX.out.trans hX)
 replace HP := hid (HP.out.ext hX)
 clear hX p0 p1
 have p0 := HP.out.cell 0
 simp only [List.getElem?_toArray, List.getElem?_cons_zero] at p0
 clear p0
 go_wp2
 go_ret2
 exact ⟨rfl, HX.out⟩
set_option maxRecDepth 100000 in
set_option maxHeartbeats 16000000 in
theorem rdP_len (S : Nat) (A : Option Addr) (n c : Nat) (ms : List Mt) (At : Option Addr) (m ct : Nat) (w : World) (h : MsAt w A n ms) (hv : VP (S : Int) ms) (_hne : m ≠ S) :
  Calls Try.prog 126 #[.agg #[.int .i64 (S : Int), .slice A n c], .slice At m ct] w (fun e w' => e = .returned (.tuple #[.slice none 0 0, .int .i64 51]) ∧ Ext w w') := by
 have HX := hid ((Ext.refl w).alloc (.cells #[.int .i64 (S : Int), .slice A n c] 76))
 have HP := hid (Blk.new w 76 #[.int .i64 (S : Int), .slice A n c])
 have HB := hid (vpB_iff.2 hv)
 have H := hid h
 have HV := hid hv
 clear h hv
 go_enter Try.func126, Try.ntmps126
 go_upto_region 1 with (fail)
 generalize w.alloc (.cells #[.int .i64 (S : Int), .slice A n c] 76) = w1 at HX HP ⊢
 have p0 := HP.out.cell 0
 have p1 := HP.out.cell 1
 simp only [List.getElem?_toArray, List.getElem?_cons_zero, List.getElem?_cons_succ] at p0 p1
 go_wp2_with fail
 refine (valid5_any (S : Int) A n c ms _ (H.out.ext HX.out)).mono ?_
 rw [HB.out]
 rintro e w2 ⟨rfl, hX⟩
 replace HX := hid (HX.out.trans hX)
 replace HP := hid (HP.out.ext hX)
 clear hX p0 p1
 have p0 := HP.out.cell 0
 simp only [List.getElem?_toArray, List.getElem?_cons_zero] at p0
 have q0 : ((m : Int) != (S : Int)) = true := by simp; omega
 go_wp2
 go_ret2
 exact ⟨rfl, HX.out⟩
set_option maxRecDepth 100000 in
set_option maxHeartbeats 16000000 in
theorem rdP_ok (S : Nat) (A : Option Addr) (n c : Nat) (ms : List Mt) (gt ot ct : Nat) (u : Nat → Rat) (w : World) (h : MsAt w A n ms) (hv : VP (S : Int) ms) (hS : ShP RatG w gt ot S u) :
  Calls Try.prog 126 #[.agg #[.int .i64 (S : Int), .slice A n c], .slice (some ⟨gt, ot, none⟩) S ct] w (fun e w' => ∃ go, e = .returned (.tuple #[.slice (some ⟨go, 0, none⟩) S S, .int .i64 0]) ∧ w.heap.size ≤ go ∧ ShP (fun w v q => NumX w v q 256) w' go 0 S u ∧ Ext w w') := by
 have HX := hid ((Ext.refl w).alloc (.cells #[.int .i64 (S : Int), .slice A n c] 76))
 have HP := hid (Blk.new w 76 #[.int .i64 (S : Int), .slice A n c])
 have HB := hid (vpB_iff.2 hv)
 have H := hid h
 have HV := hid hv
 clear h hv
 go_enter Try.func126, Try.ntmps126
 go_upto_region 1 with (fail)
 generalize w.alloc (.cells #[.int .i64 (S : Int), .slice A n c] 76) = w1 at HX HP ⊢
 have p0 := HP.out.cell 0
 have p1 := HP.out.cell 1
 simp only [List.getElem?_toArray, List.getElem?_cons_zero, List.getElem?_cons_succ] at p0 p1
 go_wp2_with fail
 refine (valid5_any (S : Int) A n c ms _ (H.out.ext HX.out)).mono ?_
 rw [HB.out]
 rintro e w2 ⟨rfl, hX⟩
 replace HX := hid (HX.out.trans hX)
 replace HP := hid (HP.out.ext hX)
 clear hX p0 p1
 have p0 := HP.out.cell 0
 simp only [List.getElem?_toArray, List.getElem?_cons_zero] at p0
 have q0 : ((S : Int) != (S : Int)) = false := by simp
 have hS8 : S ≤ 8 := by have := HV.out.2.1; omega
 have HS := hid hS
 clear hS
 have hsx := HX.out.size
 go_upto_region 6 with (at_make; refine wpList_mkS w2 elS9 rfl _ _ rfl w.heap.size _ _ _ _ S S rfl rfl (by first | rfl | omega) (by first | rfl | omega) (Nat.le_refl _) (by omega) (by unfold maxLen; omega) hsx ?_; intro w4 us hown hz1 hz2 hext hsz)
 have hrow : RowN (fun w v q => NumX w v q 256) 263 9 w.heap.size w4 w2.heap.size S S (3 * S) (fun _ => none) := RowN.make9 hown hz1 hz2
 replace HX := hid (HX.out.trans hext)
 generalize w2.heap.size = go at hrow hsx hsz ⊢
 have HR := hid hrow
 clear hrow hown hz1 hz2 hext p0
 go_wp2_with fail
 go_loopg [24] S (fun f iv wr => ∃ i : Nat, f = S - i ∧ i ≤ S ∧ iv = .int .i64 (i : Int) ∧ Hid (RowN (fun w v q => NumX w v q 256) 263 9 w.heap.size wr go S S (3 * S) (fun j => if j < 3 * i then some (u j) else none)) ∧ Hid (Ext w wr))
 case atStart => exact ⟨0, by omega, by omega, rfl, hid (HR.out.congr (fun j _ => by rw [if_neg (by omega)])), HX⟩
 case round =>
  clear HR HX hsz
  obtain ⟨i, rfl, hi, rfl, HR, HX⟩ := hrel
  by_cases hlt : i < S
  ·
   have q1 : decide (i < S) = true := decide_eq_true hlt
   obtain ⟨s0, A0, l0, c0, B0, m0, k0, a0, b0, d0, e0⟩ := HS.out i 0 hlt (by omega)
   replace a0 := HX.out.cell a0
   replace b0 := HX.out.cell b0
   replace d0 := HX.out.cell d0
   obtain ⟨s1, A1, l1, c1, B1, m1, k1, a1, b1, d1, e1⟩ := HS.out i 1 hlt (by omega)
   replace a1 := HX.out.cell a1
   replace b1 := HX.out.cell b1
   replace d1 := HX.out.cell d1
   obtain ⟨s2, A2, l2, c2, B2, m2, k2, a2, b2, d2, e2⟩ := HS.out i 2 hlt (by omega)
   replace a2 := HX.out.cell a2
   replace b2 := HX.out.cell b2
   replace d2 := HX.out.cell d2
   have HE0 := hid e0
   have HE1 := hid e1
   have HE2 := hid e2
   clear e0 e1 e2
   simp only [Nat.zero_mul, Nat.add_zero, Nat.one_mul] at a0 b0 d0 a1 b1 d1
   have e3 : ot + i * 9 + 3 + 1 = ot + i * 9 + 4 := by omega
   have e4 : ot + i * 9 + 3 + 2 = ot + i * 9 + 5 := by omega
   have e6 : ot + i * 9 + 2 * 3 = ot + i * 9 + 6 := by omega
   have e7 : ot + i * 9 + 2 * 3 + 1 = ot + i * 9 + 7 := by omega
   have e8 : ot + i * 9 + 2 * 3 + 2 = ot + i * 9 + 8 := by omega
   rw [e3] at b1
   rw [e4] at d1
   rw [e7] at b2
   rw [e8] at d2
   rw [e6] at a2
   clear e3 e4 e6 e7 e8
   go_upto_region 9 with (fail)
   have hXa : Ext wr (wr.alloc (.cells #[.bool s0, .slice A0 l0 c0, .slice B0 m0 k0, .bool s1, .slice A1 l1 c1, .slice B1 m1 k1, .bool s2, .slice A2 l2 c2, .slice B2 m2 k2] 98)) := (Ext.refl _).alloc _
   have kB := Blk.new wr 98 #[.bool s0, .slice A0 l0 c0, .slice B0 m0 k0, .bool s1, .slice A1 l1 c1, .slice B1 m1 k1, .bool s2, .slice A2 l2 c2, .slice B2 m2 k2]
   replace HR := hid (HR.out.ext (staysNum 256) hXa)
   replace HX := hid (HX.out.trans hXa)
   clear hXa a0 b0 d0 a1 b1 d1 a2 b2 d2
   generalize wr.heap.size = gv at kB ⊢
   generalize wr.alloc (.cells #[.bool s0, .slice A0 l0 c0, .slice B0 m0 k0, .bool s1, .slice A1 l1 c1, .slice B1 m1 k1, .bool s2, .slice A2 l2 c2, .slice B2 m2 k2] 98) = w5 at kB HR HX ⊢
   have y0 := kB.cell 0
   have y1 := kB.cell 1
   have y2 := kB.cell 2
   have y3 := kB.cell 3
   have y4 := kB.cell 4
   have y5 := kB.cell 5
   have y6 := kB.cell 6
   have y7 := kB.cell 7
   have y8 := kB.cell 8
   simp only [List.getElem?_toArray, List.getElem?_cons_zero, List.getElem?_cons_succ] at y0 y1 y2 y3 y4 y5 y6 y7 y8
   clear kB
   go_wp2_with fail
   clear y0 y1 y2 y3 y4 y5 y6 y7 y8
   go_loopg [30] 3 (fun f kv wr => ∃ k : Nat, f = 3 - k ∧ k ≤ 3 ∧ kv = .int .i64 (k : Int) ∧ Hid (RowN (fun w v q => NumX w v q 256) 263 9 w.heap.size wr go S S (3 * S) (fun j => if j < 3 * i + k then some (u j) else none)) ∧ Hid (Ext w wr))
   case atStart => exact ⟨0, by omega, by omega, rfl, HR, HX⟩
   case round =>
    clear HR HX
    obtain ⟨k, rfl, hk, rfl, HR, HX⟩ := hrel
    by_cases hkl : k < 3
    ·
     have q2 : decide (k < 3) = true := decide_eq_true hkl
     obtain ⟨s9, A9, l9, c9, B9, m9, k9, g1, g2, g3, hq⟩ := pick_agg (P := RatG) (w := wr) (q := fun k => u (3 * i + k)) hkl (HE0.out.ext HX.out) (HE1.out.ext HX.out) (HE2.out.ext HX.out)
     have ik := idx9R (.bool s0) (.slice A0 l0 c0) (.slice B0 m0 k0) (.bool s1) (.slice A1 l1 c1) (.slice B1 m1 k1) (.bool s2) (.slice A2 l2 c2) (.slice B2 m2 k2) hkl
     rw [g1, g2, g3] at ik
     have HQ := hid hq
     clear hq g1 g2 g3
     have hj3 : 3 * i + k < 3 * S := by omega
     go_upto_region 12 with (fail)
     have hXa : Ext wr (wr.alloc (.cells #[.bool s9, .slice A9 l9 c9, .slice B9 m9 k9] 97)) := (Ext.refl _).alloc _
     have kB := Blk.new wr 97 #[.bool s9, .slice A9 l9 c9, .slice B9 m9 k9]
     replace HR := hid (HR.out.ext (staysNum 256) hXa)
     replace HX := hid (HX.out.trans hXa)
     replace HQ := hid (HQ.out.ext hXa)
     clear hXa ik
     generalize wr.heap.size = gn at kB ⊢
     generalize wr.alloc (.cells #[.bool s9, .slice A9 l9 c9, .slice B9 m9 k9] 97) = w6 at kB HR HX HQ ⊢
     have KB := hid kB
     have y0 := kB.cell 0
     have y1 := kB.cell 1
     have y2 := kB.cell 2
     simp only [List.getElem?_toArray, List.getElem?_cons_zero, List.getElem?_cons_succ] at y0 y1 y2
     clear kB
     go_wp2_with fail
     refine (RatL.is HQ.out.small).mono ?_
     rintro e w7 ⟨rfl, hX⟩
     clear y0 y1 y2
     replace HR := hid (HR.out.ext (staysNum 256) hX)
     replace HX := hid (HX.out.trans hX)
     replace HQ := hid (HQ.out.ext hX)
     replace KB := hid (KB.out.ext hX)
     clear hX
     go_upto_region 14 with (fail)
     refine read_r14 go S i k gn s9 A9 B9 l9 c9 m9 k9 _ w7 (KB.out.cell 0) (KB.out.cell 1) (KB.out.cell 2) HQ.out hlt (by omega) hkl _ _ (by simp) rfl rfl rfl rfl ?_
     rintro xv0 xv1 xv2 xv3 xv4 xv5 xv6 W rfl rfl rfl rfl hv rfl rfl hX
     simp only [rops, Try.f126, regOf, Option.bind_some, Nat.reduceBEq, if_true, if_false, Bool.false_eq_true, Option.getD_some, List.drop_succ_cons, List.drop_zero]
     simp only [Act.put, List.setIfInBounds_toArray, List.set_cons_succ, List.set_cons_zero]
     obtain ⟨s4, A4, l4, c4, B4, m4, k4, rfl⟩ := NumX.open hv
     have HV4 := hid hv
     clear hv
     replace HR := hid (HR.out.ext (staysNum 256) hX)
     replace HX := hid (HX.out.trans hX)
     clear hX KB HQ
     have hpj : i * 9 + k * 3 = (3 * i + k) * 3 := by omega
     obtain ⟨s2, A2, l2, c2, B2, m2, k2, z0, z1, z2, _⟩ := HR.out.cells hj3 hpj
     have f0 := HR.out.free (i * 9 + k * 3)
     have f1 := HR.out.free (i * 9 + k * 3 + 1)
     have f2 := HR.out.free (i * 9 + k * 3 + 2)
     have HPUT := hid (HR.out.put (staysNum 256) hj3 hpj HV4.out)
     clear hpj
     go_wp2
     go_roundg (3 - (k + 1))
     case rel =>
      refine ⟨k + 1, rfl, by omega, by go_num, hid (HPUT.out.congr (fun j _ => ?_)), hid (((HX.out.setCell (by simp only; omega) _).setCell (by simp only; omega) _).setCell (by simp only; omega) _)⟩
      by_cases e : j = 3 * i + k
      ·
       rw [if_pos e, e, if_pos (by omega)]
      ·
       rw [if_neg e]
       by_cases h2 : j < 3 * i + k
       ·
        rw [if_pos h2, if_pos (by omega)]
       ·
        rw [if_neg h2, if_neg (by omega)]
     case measure => omega
    ·
     obtain rfl : k = 3 := by omega
     go_wp2
     go_roundg (S - (i + 1))
     case rel => exact ⟨i + 1, rfl, by omega, by go_num, hid (HR.out.congr (fun j _ => by rw [show 3 * (i + 1) = 3 * i + 3 by omega])), HX⟩
     case measure => omega
  ·
   obtain rfl : i = S := by omega
   go_wp2
   go_ret2
   exact ⟨go, rfl, by omega, HR.out.shp (fun j hj => by rw [if_pos hj]), HX.out⟩
theorem misfit_take {n : Nat} {ms : List Mt} {u : Nat → Rat} {k : Nat} {m : Mt} (h : ms[k]? = some m) : misfit n (ms.take (k + 1)) u = misfit n (ms.take k) u + wsq n u m := by
 unfold misfit
 rw [take_snoc h, sumM_append]
 simp only [sumM]
 grind
set_option maxRecDepth 100000 in
set_option maxHeartbeats 2000000 in
theorem misfit_r8 (gs gt ot S ct gm L M : Nat) (ma mb mx my mz md mw : Int) (un : Nat → Rat) (su : Bool) (Au Bu : Option Addr) (lu cu mu ku : Nat) (q : Rat) (w : World) (x0 : w.cell? ⟨gs, 0, none⟩ = some (.bool su)) (x1 : w.cell? ⟨gs, 1, none⟩ = some (.slice Au lu cu)) (x2 : w.cell? ⟨gs, 2, none⟩ = some (.slice Bu mu ku)) (v0 : w.cell? ⟨gm, 0, none⟩ = some (.int .i64 (ma))) (v1 : w.cell? ⟨gm, 1, none⟩ = some (.int .i64 (mb))) (v2 : w.cell? ⟨gm, 2, none⟩ = some (.int .i64 (mx))) (v3 : w.cell? ⟨gm, 3, none⟩ = some (.int .i64 (my))) (v4 : w.cell? ⟨gm, 4, none⟩ = some (.int .i64 (mz))) (v5 : w.cell? ⟨gm, 5, none⟩ = some (.int .i64 (md))) (v6 : w.cell? ⟨gm, 6, none⟩ = some (.int .i64 (mw))) (hS : ShP (fun w v q => NumX w v q L) w gt ot S un) (hm : VM S ⟨ma, mb, mx, my, mz, md, mw⟩) (hx : NumX w (.agg #[.bool su, .slice Au lu cu, .slice Bu mu ku]) q M) (hL : L ≤ 100000) (_hM : M ≤ 1000000000) (a : Act) (Q : Exit → Act → World → Prop) (hsize : 35 ≤ a.tmps.size)
  (s6 : a.tmps[6]? = some (.slice (some ⟨gt, ot, none⟩) S ct))
  (s8 : a.tmps[8]? = some (.pointer (some ⟨gs, 0, none⟩)))
  (s10 : a.tmps[10]? = some (.pointer (some ⟨gm, 0, none⟩)))
  (hend : ∀ (xv0 xv1 xv2 xv3 xv4 xv5 : Value) (W : World), (xv0 = .agg #[.bool su, .slice Au lu cu, .slice Bu mu ku]) → (xv1 = .slice (some ⟨gt, ot, none⟩) S ct) → (xv2 = .agg #[.int .i64 (ma), .int .i64 (mb), .int .i64 (mx), .int .i64 (my), .int .i64 (mz), .int .i64 (md), .int .i64 (mw)]) → (NumX W xv3 (wsq (3 * S) un ⟨ma, mb, mx, my, mz, md, mw⟩) (12 * L + 30)) → (NumX W xv4 (q + wsq (3 * S) un ⟨ma, mb, mx, my, mz, md, mw⟩) (M + (12 * L + 30) + 1)) → (NumX W xv5 (q + wsq (3 * S) un ⟨ma, mb, mx, my, mz, md, mw⟩) (M + (12 * L + 30) + 1)) → Ext w W → wpList Try.prog (rops Try.f50 8).toArray Q ((rops Try.f50 8).drop 6) ((((((a.put (some 29) xv0).put (some 30) xv1).put (some 31) xv2).put (some 32) xv3).put (some 33) xv4).put (some 34) xv5) W) :
  (Code.region 8 (rops Try.f50 8).toArray true).wp Try.prog Q a w := by
 refine wp_region_k 6 [some 29, some 30, some 31, some 32, some 33, some 34] [[], [], [], [1, 2], [0, 3], [4]] [eqv (.agg #[.bool su, .slice Au lu cu, .slice Bu mu ku]), eqv (.slice (some ⟨gt, ot, none⟩) S ct), eqv (.agg #[.int .i64 (ma), .int .i64 (mb), .int .i64 (mx), .int .i64 (my), .int .i64 (mz), .int .i64 (md), .int .i64 (mw)]), fun v W => NumX W v (wsq (3 * S) un ⟨ma, mb, mx, my, mz, md, mw⟩) (12 * L + 30), fun v W => NumX W v (q + wsq (3 * S) un ⟨ma, mb, mx, my, mz, md, mw⟩) (M + (12 * L + 30) + 1), fun v W => NumX W v (q + wsq (3 * S) un ⟨ma, mb, mx, my, mz, md, mw⟩) (M + (12 * L + 30) + 1)] (by kernel_rfl) (by kernel_rfl) rfl (by decide) hsize ⟨monC, monC, monC, by intro v W W' h hX; exact NumX.ext h hX, by intro v W W' h hX; exact NumX.ext h hX, by intro v W W' h hX; exact NumX.ext h hX, trivial⟩ ?_ ?_
 ·
  clear hend
  simp only [rops, Try.f50, regOf, Option.bind_some, Nat.reduceBEq, if_true, if_false, Bool.false_eq_true, Option.getD_some]
  simp only [List.take_succ_cons, List.take_zero]
  refine ⟨?_, ?_, ?_, ?_, ?_, ?_, trivial⟩
  ·
   rintro us W hJ _ b hb hbz K hK0 hK Qz
   have e8 := (hbz 8 (by simp)).trans s8
   clear hb hbz
   have z0 := Ext.cell hJ x0
   have z1 := Ext.cell hJ x1
   have z2 := Ext.cell hJ x2
   go_simp
   exact hK0 _ rfl
  ·
   rintro us W hJ _ b hb hbz K hK0 hK Qz
   have e6 := (hbz 6 (by simp)).trans s6
   clear hb hbz
   go_simp
   exact hK0 _ rfl
  ·
   rintro us W hJ _ b hb hbz K hK0 hK Qz
   have e10 := (hbz 10 (by simp)).trans s10
   clear hb hbz
   have z0 := Ext.cell hJ v0
   have z1 := Ext.cell hJ v1
   have z2 := Ext.cell hJ v2
   have z3 := Ext.cell hJ v3
   have z4 := Ext.cell hJ v4
   have z5 := Ext.cell hJ v5
   have z6 := Ext.cell hJ v6
   go_simp
   exact hK0 _ rfl
  ·
   rintro us W hJ ⟨d1, d2⟩ b hb hbz K hK0 hK Qz
   have e30 := slotV (hb 1 30 rfl) d1
   have e31 := slotV (hb 2 31 rfl) d2
   clear hb hbz d1 d2
   go_simp
   refine (weighted_any (m := ⟨ma, mb, mx, my, mz, md, mw⟩) (hS.ext (growsNum L) hJ) hm hL).mono ?_
   rintro e w' ⟨v, rfl, hv, hX⟩
   exact hK _ _ hv hX
  ·
   rintro us W hJ ⟨d0, d3⟩ b hb hbz K hK0 hK Qz
   have e29 := slotV (hb 0 29 rfl) d0
   have e32 := hb 3 32 rfl
   clear hb hbz d0
   go_simp
   refine (addX (hx.ext hJ) d3 (by omega)).mono ?_
   rintro e w' ⟨v, rfl, hv, hX⟩
   exact hK _ _ hv hX
  ·
   rintro us W hJ d4 b hb hbz K hK0 hK Qz
   have e33 := hb 4 33 rfl
   clear hb hbz
   go_simp
   refine (reducedX d4 (by omega)).mono ?_
   rintro e w' ⟨v, rfl, hv, hX⟩
   exact hK _ _ (hv.numx d4.fit) hX
 ·
  rintro us W ⟨v0, v1, v2, v3, v4, v5, _⟩ hJ
  exact hend _ _ _ _ _ _ W v0 v1 v2 v3 v4 v5 hJ
set_option maxRecDepth 100000 in
set_option maxHeartbeats 16000000 in
theorem misfit_inv (S : Int) (A : Option Addr) (n c : Nat) (ms : List Mt) (tv : Value) (w : World) (h : MsAt w A n ms) (hv : ¬ VP S ms)  :
  Calls Try.prog 50 #[.agg #[.int .i64 S, .slice A n c], tv] w (fun e w' => e = .returned (.tuple #[.agg #[.bool false, .slice none 0 0, .slice none 0 0], .int .i64 50]) ∧ Ext w w') := by
 have H := hid h
 have HV := hid hv
 clear h hv
 have hXe : Ext w ((w.alloc (.cells #[.int .i64 S, .slice A n c] 76)).alloc (.cells #[.bool false, .slice none 0 0, .slice none 0 0] 97)) := ((Ext.refl w).alloc _).alloc _
 have kP : Blk ((w.alloc (.cells #[.int .i64 S, .slice A n c] 76)).alloc (.cells #[.bool false, .slice none 0 0, .slice none 0 0] 97)) w.heap.size 76 #[.int .i64 S, .slice A n c] := Blk.alloc (Blk.new w _ _) _
 have kR : Blk ((w.alloc (.cells #[.int .i64 S, .slice A n c] 76)).alloc (.cells #[.bool false, .slice none 0 0, .slice none 0 0] 97)) (w.heap.size + 1) 97 #[.bool false, .slice none 0 0, .slice none 0 0] := Blk.at_ (by simp)
 go_enter Try.func50, Try.ntmps50
 go_upto_region 1 with (fail)
 generalize (w.alloc (.cells #[.int .i64 S, .slice A n c] 76)).alloc (.cells #[.bool false, .slice none 0 0, .slice none 0 0] 97) = w1 at hXe kP kR ⊢
 have HX := hid hXe
 have HP := hid kP
 have HR := hid kR
 clear hXe kP kR
 have p0 := HP.out.cell 0
 have p1 := HP.out.cell 1
 simp only [List.getElem?_toArray, List.getElem?_cons_zero, List.getElem?_cons_succ] at p0 p1
 go_wp2_with fail
 refine (rdP_inv S A n c ms tv _ (H.out.ext HX.out) HV.out).mono ?_
 rintro e w2 ⟨rfl, hX⟩
 replace HX := hid (HX.out.trans hX)
 replace HR := hid (HR.out.ext hX)
 clear hX p0 p1
 obtain ⟨r0, r1, r2, f0, f1, f2⟩ := HR.out.three
 go_wp2
 refine bodyPost_ret (v := .tuple #[.agg #[.bool false, .slice none 0 0, .slice none 0 0], .int .i64 50]) (by simp [results, Try.results50, go_sem, *]) rfl ?_
 exact ⟨rfl, Ext.boxed HX.out (by omega) _ _ _⟩
set_option maxRecDepth 100000 in
set_option maxHeartbeats 16000000 in
theorem misfit_len (S : Nat) (A : Option Addr) (n c : Nat) (ms : List Mt) (At : Option Addr) (m ct : Nat) (w : World) (h : MsAt w A n ms) (hv : VP (S : Int) ms) (hne : m ≠ S) :
  Calls Try.prog 50 #[.agg #[.int .i64 (S : Int), .slice A n c], .slice At m ct] w (fun e w' => e = .returned (.tuple #[.agg #[.bool false, .slice none 0 0, .slice none 0 0], .int .i64 51]) ∧ Ext w w') := by
 have H := hid h
 have HV := hid hv
 clear h hv
 have hXe : Ext w ((w.alloc (.cells #[.int .i64 (S : Int), .slice A n c] 76)).alloc (.cells #[.bool false, .slice none 0 0, .slice none 0 0] 97)) := ((Ext.refl w).alloc _).alloc _
 have kP : Blk ((w.alloc (.cells #[.int .i64 (S : Int), .slice A n c] 76)).alloc (.cells #[.bool false, .slice none 0 0, .slice none 0 0] 97)) w.heap.size 76 #[.int .i64 (S : Int), .slice A n c] := Blk.alloc (Blk.new w _ _) _
 have kR : Blk ((w.alloc (.cells #[.int .i64 (S : Int), .slice A n c] 76)).alloc (.cells #[.bool false, .slice none 0 0, .slice none 0 0] 97)) (w.heap.size + 1) 97 #[.bool false, .slice none 0 0, .slice none 0 0] := Blk.at_ (by simp)
 go_enter Try.func50, Try.ntmps50
 go_upto_region 1 with (fail)
 generalize (w.alloc (.cells #[.int .i64 (S : Int), .slice A n c] 76)).alloc (.cells #[.bool false, .slice none 0 0, .slice none 0 0] 97) = w1 at hXe kP kR ⊢
 have HX := hid hXe
 have HP := hid kP
 have HR := hid kR
 clear hXe kP kR
 have p0 := HP.out.cell 0
 have p1 := HP.out.cell 1
 simp only [List.getElem?_toArray, List.getElem?_cons_zero, List.getElem?_cons_succ] at p0 p1
 go_wp2_with fail
 refine (rdP_len S A n c ms At m ct _ (H.out.ext HX.out) HV.out hne).mono ?_
 rintro e w2 ⟨rfl, hX⟩
 replace HX := hid (HX.out.trans hX)
 replace HR := hid (HR.out.ext hX)
 clear hX p0 p1
 obtain ⟨r0, r1, r2, f0, f1, f2⟩ := HR.out.three
 go_wp2
 refine bodyPost_ret (v := .tuple #[.agg #[.bool false, .slice none 0 0, .slice none 0 0], .int .i64 51]) (by simp [results, Try.results50, go_sem, *]) rfl ?_
 exact ⟨rfl, Ext.boxed HX.out (by omega) _ _ _⟩
set_option maxRecDepth 100000 in
set_option maxHeartbeats 16000000 in
theorem misfit_ok (S : Nat) (A : Option Addr) (n c : Nat) (ms : List Mt) (gt ot ct : Nat) (u : Nat → Rat) (w : World) (h : MsAt w A n ms) (hv : VP (S : Int) ms) (hS : ShP RatG w gt ot S u) (hf : FitQW (misfit (3 * S) ms u)) :
  Calls Try.prog 50 #[.agg #[.int .i64 (S : Int), .slice A n c], .slice (some ⟨gt, ot, none⟩) S ct] w (fun e w' => ∃ v, e = .returned (.tuple #[v, .int .i64 0]) ∧ RatC w' v (misfit (3 * S) ms u) ∧ Ext w w') := by
 have H := hid h
 have HV := hid hv
 clear h hv
 have hXe : Ext w ((w.alloc (.cells #[.int .i64 (S : Int), .slice A n c] 76)).alloc (.cells #[.bool false, .slice none 0 0, .slice none 0 0] 97)) := ((Ext.refl w).alloc _).alloc _
 have kP : Blk ((w.alloc (.cells #[.int .i64 (S : Int), .slice A n c] 76)).alloc (.cells #[.bool false, .slice none 0 0, .slice none 0 0] 97)) w.heap.size 76 #[.int .i64 (S : Int), .slice A n c] := Blk.alloc (Blk.new w _ _) _
 have kR : Blk ((w.alloc (.cells #[.int .i64 (S : Int), .slice A n c] 76)).alloc (.cells #[.bool false, .slice none 0 0, .slice none 0 0] 97)) (w.heap.size + 1) 97 #[.bool false, .slice none 0 0, .slice none 0 0] := Blk.at_ (by simp)
 go_enter Try.func50, Try.ntmps50
 go_upto_region 1 with (fail)
 generalize (w.alloc (.cells #[.int .i64 (S : Int), .slice A n c] 76)).alloc (.cells #[.bool false, .slice none 0 0, .slice none 0 0] 97) = w1 at hXe kP kR ⊢
 have HX := hid hXe
 have HP := hid kP
 have HR := hid kR
 clear hXe kP kR
 have p0 := HP.out.cell 0
 have p1 := HP.out.cell 1
 simp only [List.getElem?_toArray, List.getElem?_cons_zero, List.getElem?_cons_succ] at p0 p1
 go_wp2_with fail
 have HS0 := hid hS
 have HF := hid hf
 have HVM := hid HV.out.2.2.2
 have HL := hid H.out.1
 have hn64 : n ≤ 64 := by have := HV.out.2.2.1; have := HL.out; omega
 clear hS hf
 refine (rdP_ok S A n c ms gt ot ct u _ (H.out.ext HX.out) HV.out (HS0.out.ext growsG HX.out)).mono ?_
 rintro e w2 ⟨go, rfl, hgo, hS, hX⟩
 have HS := hid hS
 replace HX := hid (HX.out.trans hX)
 replace HP := hid (HP.out.ext hX)
 replace HR := hid (HR.out.ext hX)
 clear hS hX p0 p1 hgo
 go_wp2_with fail
 refine (intX 0 _ (by omega) (by omega)).mono ?_
 rintro e w3 ⟨v3, rfl, hv, hX⟩
 obtain ⟨s0, A0, l0, c0, B0, m0, k0, rfl⟩ := NumX.open hv
 replace HX := hid (HX.out.trans hX)
 replace HP := hid (HP.out.ext hX)
 replace HR := hid (HR.out.ext hX)
 replace HS := hid (HS.out.ext (growsNum 256) hX)
 have HN := hid hv
 clear hv hX
 go_upto_region 5 with (fail)
 have hXa : Ext w3 (w3.alloc (.cells #[.bool s0, .slice A0 l0 c0, .slice B0 m0 k0] 217)) := (Ext.refl _).alloc _
 have kS := Blk.new w3 217 #[.bool s0, .slice A0 l0 c0, .slice B0 m0 k0]
 have hrl := HR.out.lt
 have hgl := HS.out.low (by have := HV.out.1; omega)
 replace HX := hid (HX.out.trans hXa)
 replace HP := hid (HP.out.ext hXa)
 replace HR := hid (HR.out.ext hXa)
 replace HS := hid (HS.out.ext (growsNum 256) hXa)
 replace HN : Hid (NumX _ (.agg #[.bool s0, .slice A0 l0 c0, .slice B0 m0 k0]) (misfit (3 * S) (ms.take 0) u) (2 + 0 * 3103)) := hid (HN.out.ext hXa)
 clear hXa
 generalize w3.alloc (.cells #[.bool s0, .slice A0 l0 c0, .slice B0 m0 k0] 217) = w4 at kS HX HP HR HS HN ⊢
 generalize w3.heap.size = gs at kS hrl hgl ⊢
 have KS := hid kS
 clear kS
 have p1 := HP.out.cell 1
 simp only [List.getElem?_toArray, List.getElem?_cons_zero, List.getElem?_cons_succ] at p1
 go_wp2_with fail
 clear p1
 go_loopg [25] n (fun f iv wr => ∃ (k : Nat) (s0 : Bool) (A0 B0 : Option Addr) (l0 c0 m0 k0 : Nat), f = n - k ∧ k ≤ n ∧ iv = .int .i64 (k : Int) ∧ Hid (NumX wr (.agg #[.bool s0, .slice A0 l0 c0, .slice B0 m0 k0]) (misfit (3 * S) (ms.take k) u) (2 + k * 3103)) ∧ Hid (Blk wr gs 217 #[.bool s0, .slice A0 l0 c0, .slice B0 m0 k0]) ∧ Hid (Blk wr (w.heap.size + 1) 97 #[.bool false, .slice none 0 0, .slice none 0 0]) ∧ Hid (Ext w wr) ∧ Hid (ShP (fun w v q => NumX w v q 256) wr go 0 S u))
 case atStart => exact ⟨0, s0, A0, B0, l0, c0, m0, k0, rfl, by omega, rfl, HN, KS, HR, HX, HS⟩
 case round =>
  clear HN KS HR HX HS
  obtain ⟨k, s0, A0, B0, l0, c0, m0, k0, rfl, hk, rfl, HN, KS, HR, HX, HS⟩ := hrel
  by_cases hlt : k < n
  ·
   have q1 : decide (k < n) = true := decide_eq_true hlt
   obtain ⟨g, o, ⟨a, b, x, y, z, d, ww⟩, rfl, hm, hmem, x0, x1, x2, x3, x4, x5, x6⟩ := (H.out.ext HX.out).get hlt
   simp only at x0 x1 x2 x3 x4 x5 x6
   have HTK := hid (misfit_take (n := 3 * S) (u := u) hm)
   have HMM := hid (HVM.out _ hmem)
   clear hm hmem
   go_upto_region 8 with (fail)
   have hXa : Ext wr (wr.alloc (.cells #[.int .i64 (a), .int .i64 (b), .int .i64 (x), .int .i64 (y), .int .i64 (z), .int .i64 (d), .int .i64 (ww)] 90)) := (Ext.refl _).alloc _
   have kM := Blk.new wr 90 #[.int .i64 (a), .int .i64 (b), .int .i64 (x), .int .i64 (y), .int .i64 (z), .int .i64 (d), .int .i64 (ww)]
   replace HX := hid (HX.out.trans hXa)
   replace HR := hid (HR.out.ext hXa)
   replace KS := hid (KS.out.ext hXa)
   replace HN := hid (HN.out.ext hXa)
   replace HS := hid (HS.out.ext (growsNum 256) hXa)
   clear hXa x0 x1 x2 x3 x4 x5 x6
   generalize wr.heap.size = gm at kM ⊢
   generalize wr.alloc (.cells #[.int .i64 (a), .int .i64 (b), .int .i64 (x), .int .i64 (y), .int .i64 (z), .int .i64 (d), .int .i64 (ww)] 90) = w5 at kM HX HR KS HN HS ⊢
   refine misfit_r8 gs go 0 S S gm 256 (2 + k * 3103) a b x y z d ww u s0 A0 B0 l0 c0 m0 k0 _ w5 (KS.out.cell 0) (KS.out.cell 1) (KS.out.cell 2) (kM.cell 0) (kM.cell 1) (kM.cell 2) (kM.cell 3) (kM.cell 4) (kM.cell 5) (kM.cell 6) HS.out HMM.out HN.out (by omega) (by omega) _ _ (by simp) rfl rfl rfl ?_
   rintro xv0 xv1 xv2 xv3 xv4 xv5 W rfl rfl rfl _ _ hv hX
   simp only [rops, Try.f50, regOf, Option.bind_some, Nat.reduceBEq, if_true, if_false, Bool.false_eq_true, Option.getD_some, List.drop_succ_cons, List.drop_zero]
   simp only [Act.put, List.setIfInBounds_toArray, List.set_cons_succ, List.set_cons_zero]
   clear kM HN
   obtain ⟨s4, A4, l4, c4, B4, m4, k4, rfl⟩ := NumX.open hv
   have HN := hid hv
   replace HX := hid (HX.out.trans hX)
   replace HR := hid (HR.out.ext hX)
   replace KS := hid (KS.out.ext hX)
   replace HS := hid (HS.out.ext (growsNum 256) hX)
   clear hv hX
   obtain ⟨r0, r1, r2, f0, f1, f2⟩ := KS.out.three
   have HNI := hid (NoInts.three KS.out)
   go_wp2
   go_roundg (n - (k + 1))
   case rel =>
    refine ⟨k + 1, s4, A4, B4, l4, c4, m4, k4, rfl, by omega, by go_num, hid ?_, hid (((KS.out.set 0 _).set 1 _).set 2 _), hid (((HR.out.far (by simp only; omega) _).far (by simp only; omega) _).far (by simp only; omega) _), hid (Ext.boxed HX.out (by omega) _ _ _), hid (ShP.keeps (staysNum 256) HS.out ((((Keeps.refl [gs] W).setCell (.inl (by simp)) _).setCell (.inl (by simp)) _).setCell (.inl (by simp)) _) (fun g hg => by simp at hg; subst hg; exact HNI.out) (by simp; omega))⟩
    rw [HTK.out]
    exact (HN.out.mono (show 2 + k * 3103 + (12 * 256 + 30) + 1 ≤ 2 + (k + 1) * 3103 by omega)).boxed HNI.out _ _ _ _ _ _ _
   case measure => omega
  ·
   obtain rfl : k = n := by omega
   have q1 : decide (k < k) = false := by simp
   have HTK : Hid (ms.take k = ms) := hid (List.take_of_length_le (by have := HL.out; omega))
   rw [HTK.out] at HN
   obtain ⟨r0, r1, r2, f0, f1, f2⟩ := KS.out.three
   clear f0 f1 f2
   go_wp2_with fail
   refine (doneG HN.out (by omega) HF.out).mono ?_
   rintro e w5 ⟨v5, rfl, hv, hX⟩
   obtain ⟨s4, A4, l4, c4, B4, m4, k4, rfl⟩ := RatC.open hv
   have HC := hid hv
   replace HX := hid (HX.out.trans hX)
   replace HR := hid (HR.out.ext hX)
   clear hv hX r0 r1 r2
   obtain ⟨r0, r1, r2, f0, f1, f2⟩ := HR.out.three
   have HNI := hid (NoInts.three HR.out)
   go_wp2
   refine bodyPost_ret (v := .tuple #[.agg #[.bool s4, .slice A4 l4 c4, .slice B4 m4 k4], .int .i64 0]) (by simp [results, Try.results50, go_sem, *]) rfl ?_
   exact ⟨_, rfl, staysC _ _ _ _ _ HC.out ((((Keeps.refl [w.heap.size + 1] w5).setCell (.inl (by simp)) _).setCell (.inl (by simp)) _).setCell (.inl (by simp)) _) (fun g hg => by simp at hg; subst hg; exact HNI.out), Ext.boxed HX.out (by omega) _ _ _⟩
def fstM : List Mt := [⟨0, -1, 0, 0, 1, 0, 1⟩, ⟨0, -1, 0, 0, 1, 30, 2⟩]
theorem fst_sol : solP (3 * 1) fstM 2 = ((-20 : Int) : Rat) := by decide +kernel
theorem fst_mis : misfit (3 * 1) fstM (solP (3 * 1) fstM) = ((600 : Int) : Rat) := by decide +kernel
theorem fst_vp : VP ((1 : Nat) : Int) fstM := vpB_iff.1 (by decide +kernel)
theorem fitQ_small' {z : Int} (h0 : -9223372036854775808 ≤ z) (h1 : z ≤ 9223372036854775807) : FitQW ((z : Int) : Rat) := FitQW.of4 (fitQ_small h0 h1) (by omega)
set_option maxRecDepth 100000 in
set_option maxHeartbeats 2000000 in
theorem first_r3 (go : Nat) (su : Bool) (Au Bu : Option Addr) (lu cu mu ku : Nat) (w : World) (x0 : w.cell? ⟨go, 6, none⟩ = some (.bool su)) (x1 : w.cell? ⟨go, 6 + 1, none⟩ = some (.slice Au lu cu)) (x2 : w.cell? ⟨go, 6 + 2, none⟩ = some (.slice Bu mu ku)) (hx : RatC w (.agg #[.bool su, .slice Au lu cu, .slice Bu mu ku]) ((-20 : Int) : Rat)) (a : Act) (Q : Exit → Act → World → Prop) (hsize : 33 ≤ a.tmps.size)
  (s2 : a.tmps[2]? = some (.slice (some ⟨go, 0, none⟩) 1 1))
  (s3 : a.tmps[3]? = some (.int .i64 (0)))
  (hend : ∀ (xv0 xv1 xv2 xv3 xv4 xv5 xv6 xv7 xv8 xv9 xv10 xv11 xv12 xv13 xv14 xv15 : Value) (W : World), (xv0 = .int .i64 (0)) → (xv1 = .bool false) → (xv2 = .bool false) → (xv3 = .slice (some ⟨go, 0, none⟩) 1 1) → (xv4 = .int .i64 (1)) → (xv5 = .bool false) → (xv6 = .bool false) → (xv7 = .bool false) → (xv8 = .slice (some ⟨go, 0, none⟩) 1 1) → (xv9 = .pointer (some ⟨go, 0, none⟩)) → (xv10 = .pointer (some ⟨go, 6, none⟩)) → (xv11 = .agg #[.bool su, .slice Au lu cu, .slice Bu mu ku]) → (QZ W xv12 ((-20 : Int) : Rat)) → (xv13 = .bool true) → (xv14 = .bool false) → (xv15 = .bool false) → Ext w W → wpList Try.prog (rops Try.f39 3).toArray Q ((rops Try.f39 3).drop 16) ((((((((((((((((a.put (some 17) xv0).put (some 18) xv1).put (some 19) xv2).put (some 20) xv3).put (some 21) xv4).put (some 22) xv5).put (some 23) xv6).put (some 24) xv7).put (some 25) xv8).put (some 26) xv9).put (some 27) xv10).put (some 28) xv11).put (some 29) xv12).put (some 30) xv13).put (some 31) xv14).put (some 32) xv15) W) :
  (Code.region 3 (rops Try.f39 3).toArray true).wp Try.prog Q a w := by
 refine wp_region_k 16 [some 17, some 18, some 19, some 20, some 21, some 22, some 23, some 24, some 25, some 26, some 27, some 28, some 29, some 30, some 31, some 32] [[], [0], [1], [2], [2, 3], [2, 4], [2, 5], [6], [7], [7, 8], [7, 9], [7, 10], [7], [7, 11, 12], [7, 13], [7, 14]] [eqv (.int .i64 (0)), eqv (.bool false), eqv (.bool false), eqv (.slice (some ⟨go, 0, none⟩) 1 1), eqv (.int .i64 (1)), eqv (.bool false), eqv (.bool false), eqv (.bool false), eqv (.slice (some ⟨go, 0, none⟩) 1 1), eqv (.pointer (some ⟨go, 0, none⟩)), eqv (.pointer (some ⟨go, 6, none⟩)), eqv (.agg #[.bool su, .slice Au lu cu, .slice Bu mu ku]), fun v W => QZ W v ((-20 : Int) : Rat), eqv (.bool true), eqv (.bool false), eqv (.bool false)] (by kernel_rfl) (by kernel_rfl) rfl (by decide) hsize ⟨monC, monC, monC, monC, monC, monC, monC, monC, monC, monC, monC, monC, by intro v W W' h hX; exact QZ.ext h hX, monC, monC, monC, trivial⟩ ?_ ?_
 ·
  clear hend
  simp only [rops, Try.f39, regOf, Option.bind_some, Nat.reduceBEq, if_true, if_false, Bool.false_eq_true, Option.getD_some]
  simp only [List.take_succ_cons, List.take_zero]
  refine ⟨?_, ?_, ?_, ?_, ?_, ?_, ?_, ?_, ?_, ?_, ?_, ?_, ?_, ?_, ?_, ?_, trivial⟩
  ·
   rintro us W hJ _ b hb hbz K hK0 hK Qz
   have e3 := (hbz 3 (by simp)).trans s3
   clear hb hbz
   go_simp
   exact hK0 _ rfl
  ·
   rintro us W hJ d0 b hb hbz K hK0 hK Qz
   have e17 := slotV (hb 0 17 rfl) d0
   clear hb hbz d0
   go_simp
   exact hK0 _ rfl
  ·
   rintro us W hJ d1 b hb hbz K hK0 hK Qz
   have e18 := slotV (hb 1 18 rfl) d1
   clear hb hbz d1
   go_simp
   exact hK0 _ rfl
  ·
   rintro us W hJ d2 b hb hbz K hK0 hK Qz
   have e2 := (hbz 2 (by simp)).trans s2
   have e19 := slotV (hb 2 19 rfl) d2
   clear hb hbz d2
   go_simp
   exact hK0 _ rfl
  ·
   rintro us W hJ ⟨d2, d3⟩ b hb hbz K hK0 hK Qz
   have e19 := slotV (hb 2 19 rfl) d2
   have e20 := slotV (hb 3 20 rfl) d3
   clear hb hbz d2 d3
   go_simp
   exact hK0 _ rfl
  ·
   rintro us W hJ ⟨d2, d4⟩ b hb hbz K hK0 hK Qz
   have e19 := slotV (hb 2 19 rfl) d2
   have e21 := slotV (hb 4 21 rfl) d4
   clear hb hbz d2 d4
   go_simp
   exact hK0 _ rfl
  ·
   rintro us W hJ ⟨d2, d5⟩ b hb hbz K hK0 hK Qz
   have e19 := slotV (hb 2 19 rfl) d2
   have e22 := slotV (hb 5 22 rfl) d5
   clear hb hbz d2 d5
   go_simp
   exact hK0 _ rfl
  ·
   rintro us W hJ d6 b hb hbz K hK0 hK Qz
   have e23 := slotV (hb 6 23 rfl) d6
   clear hb hbz d6
   go_simp
   exact hK0 _ rfl
  ·
   rintro us W hJ d7 b hb hbz K hK0 hK Qz
   have e2 := (hbz 2 (by simp)).trans s2
   have e24 := slotV (hb 7 24 rfl) d7
   clear hb hbz d7
   go_simp
   exact hK0 _ rfl
  ·
   rintro us W hJ ⟨d7, d8⟩ b hb hbz K hK0 hK Qz
   have e24 := slotV (hb 7 24 rfl) d7
   have e25 := slotV (hb 8 25 rfl) d8
   clear hb hbz d7 d8
   go_simp
   exact hK0 _ rfl
  ·
   rintro us W hJ ⟨d7, d9⟩ b hb hbz K hK0 hK Qz
   have e24 := slotV (hb 7 24 rfl) d7
   have e26 := slotV (hb 9 26 rfl) d9
   clear hb hbz d7 d9
   go_simp
   exact hK0 _ rfl
  ·
   rintro us W hJ ⟨d7, d10⟩ b hb hbz K hK0 hK Qz
   have e24 := slotV (hb 7 24 rfl) d7
   have e27 := slotV (hb 10 27 rfl) d10
   clear hb hbz d7 d10
   have z0 := Ext.cell hJ x0
   have z1 := Ext.cell hJ x1
   have z2 := Ext.cell hJ x2
   go_simp
   exact hK0 _ rfl
  ·
   rintro us W hJ d7 b hb hbz K hK0 hK Qz
   have e24 := slotV (hb 7 24 rfl) d7
   clear hb hbz d7
   go_simp
   refine (whole_any (-20) _ (by omega) (by omega)).mono ?_
   rintro e w' ⟨v, rfl, hv, hX⟩
   exact hK _ _ hv hX
  ·
   rintro us W hJ ⟨d7, d11, d12⟩ b hb hbz K hK0 hK Qz
   have e24 := slotV (hb 7 24 rfl) d7
   have e28 := slotV (hb 11 28 rfl) d11
   have e29 := hb 12 29 rfl
   clear hb hbz d7 d11
   go_simp
   refine (same_any (hx.ext hJ) d12 (fitQ_small' (by omega) (by omega))).mono ?_
   rintro e w' ⟨rfl, hX⟩
   exact hK _ _ rfl hX
  ·
   rintro us W hJ ⟨d7, d13⟩ b hb hbz K hK0 hK Qz
   have e24 := slotV (hb 7 24 rfl) d7
   have e30 := slotV (hb 13 30 rfl) d13
   clear hb hbz d7 d13
   go_simp
   exact hK0 _ rfl
  ·
   rintro us W hJ ⟨d7, d14⟩ b hb hbz K hK0 hK Qz
   have e24 := slotV (hb 7 24 rfl) d7
   have e31 := slotV (hb 14 31 rfl) d14
   clear hb hbz d7 d14
   go_simp
   exact hK0 _ rfl
 ·
  rintro us W ⟨v0, v1, v2, v3, v4, v5, v6, v7, v8, v9, v10, v11, v12, v13, v14, v15, _⟩ hJ
  exact hend _ _ _ _ _ _ _ _ _ _ _ _ _ _ _ _ W v0 v1 v2 v3 v4 v5 v6 v7 v8 v9 v10 v11 v12 v13 v14 v15 hJ
set_option maxRecDepth 100000 in
set_option maxHeartbeats 2000000 in
theorem first_r6 (gx : Nat) (su : Bool) (Au Bu : Option Addr) (lu cu mu ku : Nat) (w : World) (x0 : w.cell? ⟨gx, 0, none⟩ = some (.bool su)) (x1 : w.cell? ⟨gx, 1, none⟩ = some (.slice Au lu cu)) (x2 : w.cell? ⟨gx, 2, none⟩ = some (.slice Bu mu ku)) (hx : RatC w (.agg #[.bool su, .slice Au lu cu, .slice Bu mu ku]) ((600 : Int) : Rat)) (a : Act) (Q : Exit → Act → World → Prop) (hsize : 46 ≤ a.tmps.size)
  (s4 : a.tmps[4]? = some (.pointer (some ⟨gx, 0, none⟩)))
  (s5 : a.tmps[5]? = some (.int .i64 (0)))
  (hend : ∀ (xv0 xv1 xv2 xv3 xv4 xv5 xv6 xv7 : Value) (W : World), (xv0 = .int .i64 (0)) → (xv1 = .bool true) → (xv2 = .bool true) → (xv3 = .agg #[.bool su, .slice Au lu cu, .slice Bu mu ku]) → (QZ W xv4 ((600 : Int) : Rat)) → (xv5 = .bool true) → (xv6 = .bool true) → (xv7 = .bool true) → Ext w W → wpList Try.prog (rops Try.f39 6).toArray Q ((rops Try.f39 6).drop 8) ((((((((a.put (some 39) xv0).put (some 40) xv1).put (some 41) xv2).put (some 42) xv3).put (some 43) xv4).put (some 44) xv5).put (some 45) xv6).put (some 0) xv7) W) :
  (Code.region 6 (rops Try.f39 6).toArray true).wp Try.prog Q a w := by
 refine wp_region_k 8 [some 39, some 40, some 41, some 42, some 43, some 44, some 45, some 0] [[], [0], [1], [2], [2], [2, 3, 4], [2, 5], [6]] [eqv (.int .i64 (0)), eqv (.bool true), eqv (.bool true), eqv (.agg #[.bool su, .slice Au lu cu, .slice Bu mu ku]), fun v W => QZ W v ((600 : Int) : Rat), eqv (.bool true), eqv (.bool true), eqv (.bool true)] (by kernel_rfl) (by kernel_rfl) rfl (by decide) hsize ⟨monC, monC, monC, monC, by intro v W W' h hX; exact QZ.ext h hX, monC, monC, monC, trivial⟩ ?_ ?_
 ·
  clear hend
  simp only [rops, Try.f39, regOf, Option.bind_some, Nat.reduceBEq, if_true, if_false, Bool.false_eq_true, Option.getD_some]
  simp only [List.take_succ_cons, List.take_zero]
  refine ⟨?_, ?_, ?_, ?_, ?_, ?_, ?_, ?_, trivial⟩
  ·
   rintro us W hJ _ b hb hbz K hK0 hK Qz
   have e5 := (hbz 5 (by simp)).trans s5
   clear hb hbz
   go_simp
   exact hK0 _ rfl
  ·
   rintro us W hJ d0 b hb hbz K hK0 hK Qz
   have e39 := slotV (hb 0 39 rfl) d0
   clear hb hbz d0
   go_simp
   exact hK0 _ rfl
  ·
   rintro us W hJ d1 b hb hbz K hK0 hK Qz
   have e40 := slotV (hb 1 40 rfl) d1
   clear hb hbz d1
   go_simp
   exact hK0 _ rfl
  ·
   rintro us W hJ d2 b hb hbz K hK0 hK Qz
   have e4 := (hbz 4 (by simp)).trans s4
   have e41 := slotV (hb 2 41 rfl) d2
   clear hb hbz d2
   have z0 := Ext.cell hJ x0
   have z1 := Ext.cell hJ x1
   have z2 := Ext.cell hJ x2
   go_simp
   exact hK0 _ rfl
  ·
   rintro us W hJ d2 b hb hbz K hK0 hK Qz
   have e41 := slotV (hb 2 41 rfl) d2
   clear hb hbz d2
   go_simp
   refine (whole_any 600 _ (by omega) (by omega)).mono ?_
   rintro e w' ⟨v, rfl, hv, hX⟩
   exact hK _ _ hv hX
  ·
   rintro us W hJ ⟨d2, d3, d4⟩ b hb hbz K hK0 hK Qz
   have e41 := slotV (hb 2 41 rfl) d2
   have e42 := slotV (hb 3 42 rfl) d3
   have e43 := hb 4 43 rfl
   clear hb hbz d2 d3
   go_simp
   refine (same_any (hx.ext hJ) d4 (fitQ_small' (by omega) (by omega))).mono ?_
   rintro e w' ⟨rfl, hX⟩
   exact hK _ _ rfl hX
  ·
   rintro us W hJ ⟨d2, d5⟩ b hb hbz K hK0 hK Qz
   have e41 := slotV (hb 2 41 rfl) d2
   have e44 := slotV (hb 5 44 rfl) d5
   clear hb hbz d2 d5
   go_simp
   exact hK0 _ rfl
  ·
   rintro us W hJ d6 b hb hbz K hK0 hK Qz
   have e45 := slotV (hb 6 45 rfl) d6
   clear hb hbz d6
   go_simp
   exact hK0 _ rfl
 ·
  rintro us W ⟨v0, v1, v2, v3, v4, v5, v6, v7, _⟩ hJ
  exact hend _ _ _ _ _ _ _ _ W v0 v1 v2 v3 v4 v5 v6 v7 hJ
set_option maxRecDepth 100000 in
set_option maxHeartbeats 4000000 in
theorem first_any (w : World) : Calls Try.prog 39 #[] w (fun e w' => e = .returned (.bool true) ∧ Ext w w') := by
 have hXe : Ext w ((w.alloc (.cells #[.int .i64 0, .int .i64 (-1), .int .i64 0, .int .i64 0, .int .i64 1, .int .i64 0, .int .i64 1, .int .i64 0, .int .i64 (-1), .int .i64 0, .int .i64 0, .int .i64 1, .int .i64 30, .int .i64 2] 90)).alloc (.cells #[.int .i64 1, .slice (some ⟨w.heap.size, 0, none⟩) 2 2] 76)) := ((Ext.refl w).alloc _).alloc _
 have kP : Blk ((w.alloc (.cells #[.int .i64 0, .int .i64 (-1), .int .i64 0, .int .i64 0, .int .i64 1, .int .i64 0, .int .i64 1, .int .i64 0, .int .i64 (-1), .int .i64 0, .int .i64 0, .int .i64 1, .int .i64 30, .int .i64 2] 90)).alloc (.cells #[.int .i64 1, .slice (some ⟨w.heap.size, 0, none⟩) 2 2] 76)) (w.heap.size + 1) 76 #[.int .i64 1, .slice (some ⟨w.heap.size, 0, none⟩) 2 2] := Blk.at_ (by simp)
 have hat : At (w.alloc (.cells #[.int .i64 0, .int .i64 (-1), .int .i64 0, .int .i64 0, .int .i64 1, .int .i64 0, .int .i64 1, .int .i64 0, .int .i64 (-1), .int .i64 0, .int .i64 0, .int .i64 1, .int .i64 30, .int .i64 2] 90)) (some ⟨w.heap.size, 0, none⟩) (mtV fstM) := At.new w [.int .i64 0, .int .i64 (-1), .int .i64 0, .int .i64 0, .int .i64 1, .int .i64 0, .int .i64 1, .int .i64 0, .int .i64 (-1), .int .i64 0, .int .i64 0, .int .i64 1, .int .i64 30, .int .i64 2] 90
 have HM : Hid (MsAt (w.alloc (.cells #[.int .i64 0, .int .i64 (-1), .int .i64 0, .int .i64 0, .int .i64 1, .int .i64 0, .int .i64 1, .int .i64 0, .int .i64 (-1), .int .i64 0, .int .i64 0, .int .i64 1, .int .i64 30, .int .i64 2] 90)) (some ⟨w.heap.size, 0, none⟩) 2 fstM) := hid ⟨rfl, hat⟩
 have HM2 := hid (HM.out.ext ((Ext.refl _).alloc (.cells #[.int .i64 1, .slice (some ⟨w.heap.size, 0, none⟩) 2 2] 76)))
 clear hat HM
 go_enter Try.func39, Try.ntmps39
 go_upto_region 2 with (fail)
 generalize ((w.alloc (.cells #[.int .i64 0, .int .i64 (-1), .int .i64 0, .int .i64 0, .int .i64 1, .int .i64 0, .int .i64 1, .int .i64 0, .int .i64 (-1), .int .i64 0, .int .i64 0, .int .i64 1, .int .i64 30, .int .i64 2] 90)).alloc (.cells #[.int .i64 1, .slice (some ⟨w.heap.size, 0, none⟩) 2 2] 76)) = w1 at hXe kP HM2 ⊢
 generalize w.heap.size + 1 = gp at kP ⊢
 generalize w.heap.size = gm at kP HM2 ⊢
 have HX := hid hXe
 have HP := hid kP
 have p0 := kP.cell 0
 have p1 := kP.cell 1
 simp only [List.getElem?_toArray, List.getElem?_cons_zero, List.getElem?_cons_succ] at p0 p1
 clear hXe kP
 go_wp2_with fail
 refine (solveP_ok 1 (some ⟨gm, 0, none⟩) 2 2 fstM _ HM2.out fst_vp).mono ?_
 rintro e w2 ⟨go, rfl, _, hS, hX⟩
 clear p0 p1
 replace HX := hid (HX.out.trans hX)
 replace HP := hid (HP.out.ext hX)
 replace HM2 := hid (HM2.out.ext hX)
 have HS := hid hS
 clear hS hX
 obtain ⟨su, Au, lu, cu, Bu, mu, ku, x0, x1, x2, hx⟩ := HS.out 0 2 (by omega) (by omega)
 simp only [Nat.reduceMul, Nat.reduceAdd] at x0 x1 x2
 rw [show (3 * 0 + 2 : Nat) = 2 from rfl, show (3 : Nat) = 3 * 1 from rfl, fst_sol] at hx
 have HC := hid hx
 have hX0 := hid x0
 have hX1 := hid x1
 have hX2 := hid x2
 clear hx x0 x1 x2
 go_upto_region 3 with (fail)
 refine first_r3 go su Au Bu lu cu mu ku w2 hX0.out hX1.out hX2.out HC.out _ _ (by simp) rfl rfl ?_
 rintro xv0 xv1 xv2 xv3 xv4 xv5 xv6 xv7 xv8 xv9 xv10 xv11 xv12 xv13 xv14 xv15 W rfl rfl rfl rfl rfl rfl rfl rfl rfl rfl rfl rfl _ rfl rfl rfl hX
 simp only [rops, Try.f39, regOf, Option.bind_some, Nat.reduceBEq, if_true, if_false, Bool.false_eq_true, Option.getD_some, List.drop_succ_cons, List.drop_zero]
 simp only [Act.put, List.setIfInBounds_toArray, List.set_cons_succ, List.set_cons_zero]
 clear hX0 hX1 hX2 HC
 replace HX := hid (HX.out.trans hX)
 replace HP := hid (HP.out.ext hX)
 replace HM2 := hid (HM2.out.ext hX)
 replace HS := hid (HS.out.ext growsC hX)
 clear hX
 have p0 := HP.out.cell 0
 have p1 := HP.out.cell 1
 simp only [List.getElem?_toArray, List.getElem?_cons_zero, List.getElem?_cons_succ] at p0 p1
 have HF : Hid (FitQW (misfit (3 * 1) fstM (solP (3 * 1) fstM))) := hid (by rw [fst_mis]; exact fitQ_small' (by omega) (by omega))
 have HFS : Hid (∀ j, FitQW (solP (3 * 1) fstM j)) := hid (fun j => FitQW.of4 (solP_fit fst_vp.2.2.2 fst_vp.2.2.1 (by omega) j) (by omega))
 go_wp2_with fail
 refine (misfit_ok 1 (some ⟨gm, 0, none⟩) 2 2 fstM go 0 1 (solP (3 * 1) fstM) _ HM2.out fst_vp (HS.out.imp2 (fun j v _ h => h.good (HFS.out j))) HF.out).mono ?_
 rintro e w3 ⟨v3, rfl, hv, hX⟩
 rw [fst_mis] at hv
 obtain ⟨s4, A4, l4, c4, B4, m4, k4, rfl⟩ := RatC.open hv
 replace HX := hid (HX.out.trans hX)
 have HC := hid hv
 clear hv hX p0 p1
 go_upto_region 6 with (fail)
 have hXa : Ext w3 (w3.alloc (.cells #[.bool s4, .slice A4 l4 c4, .slice B4 m4 k4] 97)) := (Ext.refl _).alloc _
 have kB := Blk.new w3 97 #[.bool s4, .slice A4 l4 c4, .slice B4 m4 k4]
 replace HX := hid (HX.out.trans hXa)
 replace HC := hid (HC.out.ext hXa)
 clear hXa
 generalize w3.heap.size = gx at kB ⊢
 generalize w3.alloc (.cells #[.bool s4, .slice A4 l4 c4, .slice B4 m4 k4] 97) = w4 at kB HX HC ⊢
 refine first_r6 gx s4 A4 B4 l4 c4 m4 k4 w4 (kB.cell 0) (kB.cell 1) (kB.cell 2) HC.out _ _ (by simp) rfl rfl ?_
 rintro xv0 xv1 xv2 xv3 xv4 xv5 xv6 xv7 W rfl rfl rfl rfl _ rfl rfl rfl hX
 simp only [rops, Try.f39, regOf, Option.bind_some, Nat.reduceBEq, if_true, if_false, Bool.false_eq_true, Option.getD_some, List.drop_succ_cons, List.drop_zero]
 simp only [Act.put, List.setIfInBounds_toArray, List.set_cons_succ, List.set_cons_zero]
 have HX9 := hid (HX.out.trans hX)
 clear kB HC hX
 go_wp2
 go_ret
 exact ⟨rfl, HX9.out⟩
def hvB (S : Int) (ms : List Mt) : Bool := decide (200 < ms.length) || (vpB S ms && decide (4 < S ∨ 16 < ms.length))
theorem hvB_iff {S : Int} {ms : List Mt} : hvB S ms = false ↔ ms.length ≤ 200 ∧ (VP S ms → S ≤ 4 ∧ ms.length ≤ 16) := by
 unfold hvB
 rcases hb : vpB S ms with _ | _
 ·
  have : ¬ VP S ms := fun h => by rw [vpB_iff.2 h] at hb; cases hb
  simp [this]
 ·
  have := vpB_iff.1 hb
  simp [this]
set_option maxRecDepth 100000 in
set_option maxHeartbeats 4000000 in
theorem heavy_any5 (S : Int) (A : Option Addr) (n c : Nat) (ms : List Mt) (w : World) (h : MsAt w A n ms) :
  Calls Try.prog 38 #[.agg #[.int .i64 S, .slice A n c]] w (fun e w' => e = .returned (.bool (hvB S ms)) ∧ Ext w w') := by
 have HX := hid ((Ext.refl w).alloc (.cells #[.int .i64 S, .slice A n c] 76))
 have p0 := (Blk.new w 76 #[.int .i64 S, .slice A n c]).cell 0
 have p1 := (Blk.new w 76 #[.int .i64 S, .slice A n c]).cell 1
 simp only [List.getElem?_toArray, List.getElem?_cons_zero, List.getElem?_cons_succ] at p0 p1
 have H := hid h
 have HL := hid h.1
 obtain ⟨R, hR⟩ : ∃ R, vpB S ms = R := ⟨_, rfl⟩
 obtain ⟨Z, hZ⟩ : ∃ Z, hvB S ms = Z := ⟨_, rfl⟩
 rw [hZ]
 have hZ2 := hZ
 unfold hvB at hZ2
 rw [hR, h.1] at hZ2
 have HR := hid hR
 clear h hR hZ
 by_cases c1 : 200 < n
 ·
  have e : decide (200 < n) = true := decide_eq_true c1
  rw [e, Bool.true_or] at hZ2
  subst hZ2
  clear e
  go_enter Try.func38, Try.ntmps38
  go_wp2
  go_ret
  exact ⟨rfl, HX.out⟩
 ·
  have e : decide (200 < n) = false := decide_eq_false c1
  rw [e, Bool.false_or] at hZ2
  clear e
  have HZ := hid hZ2
  clear hZ2
  have g1 : decide (200 < (n : Int)) = false := decide_eq_false (by omega)
  go_enter Try.func38, Try.ntmps38
  go_wp2_with fail
  refine (valid5R_any S A n c ms _ (H.out.ext HX.out)).mono ?_
  rw [HR.out]
  rintro e w1 ⟨rfl, hX⟩
  have p0' := hX.cell p0
  have p1' := hX.cell p1
  replace HX := hid (HX.out.trans hX)
  clear hX p0 p1
  by_cases c2 : R = true
  ·
   subst c2
   have hZ2 := HZ.out
   rw [Bool.true_and] at hZ2
   clear HZ
   by_cases c3 : 4 < S
   ·
    have e : decide (4 < S ∨ 16 < n) = true := decide_eq_true (.inl c3)
    rw [e] at hZ2
    subst hZ2
    clear e
    go_wp2
    go_ret
    exact ⟨rfl, HX.out⟩
   ·
    have g2 : decide (4 < S) = false := decide_eq_false c3
    by_cases c4 : 16 < n
    ·
     have g3 : decide (16 < (n : Int)) = true := decide_eq_true (by omega)
     have e : decide (4 < S ∨ 16 < n) = true := decide_eq_true (.inr c4)
     rw [e] at hZ2
     subst hZ2
     clear e
     go_wp2
     go_ret
     exact ⟨rfl, HX.out⟩
    ·
     have g3 : decide (16 < (n : Int)) = false := decide_eq_false (by omega)
     have e : decide (4 < S ∨ 16 < n) = false := decide_eq_false (by omega)
     rw [e] at hZ2
     subst hZ2
     clear e
     go_wp2
     go_ret
     exact ⟨rfl, HX.out⟩
  ·
   obtain rfl : R = false := by simpa using c2
   have hZ2 := HZ.out
   rw [Bool.false_and] at hZ2
   clear HZ
   subst hZ2
   go_wp2
   go_ret
   exact ⟨rfl, HX.out⟩
theorem Blk.put3 {W : World} {g : Nat} {T : TypeId} {z0 z1 z2 x0 x1 x2 v : Value} (h : Blk W g T #[z0, z1, z2]) (hu : v = .agg #[x0, x1, x2]) : Blk (((W.setCell ⟨g, 0, none⟩ x0).setCell ⟨g, 1, none⟩ x1).setCell ⟨g, 2, none⟩ x2) g T (aggOf v) := by
 subst hu; exact ((h.set 0 _).set 1 _).set 2 _
theorem fitR_small {n : Int} (h0 : -9223372036854775808 ≤ n) (h1 : n ≤ 9223372036854775807) : FitR ((n : Int) : Rat) 4 := by
 have h := fitR_double (fitQ_small h0 h1)
 rw [show 2 * 2 = 4 from rfl] at h
 exact h
end Go.Proofs.Ytikhlcgnlbinfaa
