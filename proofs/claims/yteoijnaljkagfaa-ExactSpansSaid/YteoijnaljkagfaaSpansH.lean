/- Lemmas of the proof that follows (Spans, part 8): walks of functions by contract, and plain lemmas. Conditions: none. -/
import Derived.Test.YteoijnaljkagfaaSpansG
namespace Go.Proofs.Yteoijnaljkagfaa
open Go.RowKit

/-- A value that denotes a number and is not large. -/
def RatG (w : World) (v : Value) (q : Rat) : Prop := ∃ neg xs ys, RatV w v neg xs ys ∧ SmallR xs ys ∧ ratOf neg xs ys = q
theorem RatG.ext {w w' : World} {v : Value} {q : Rat} (h : RatG w v q) (he : Ext w w') : RatG w' v q := by
  obtain ⟨neg, xs, ys, h1, h2, h3⟩ := h
  exact ⟨neg, xs, ys, h1.ext he, h2, h3⟩
theorem RatG.fit {w : World} {v : Value} {q : Rat} (h : RatG w v q) : FitQ q 256 := by
  obtain ⟨neg, xs, ys, h1, h2, rfl⟩ := h
  exact h2.fit
theorem Rep.wN {xs : List Int} {n : Nat} (h : Rep 4294967296 xs n) : wN xs = n := by
  have := h.2.2
  unfold Go.Proofs.Yteoijnaljkagfaa.wN; omega
theorem RatC.good {w : World} {v : Value} {q : Rat} (h : RatC w v q) (hf : FitQW q) : RatG w v q := by
  obtain ⟨xs, ys, h1, h2, h3⟩ := h
  have e1 := h2.wN
  have e2 : wD ys = q.den ∧ FitW (wN ys) := by
    rcases h3 with ⟨hd, rfl⟩ | ⟨hd, hr⟩
    · have : wN [] = 0 := by simp [wN, val]
      refine ⟨by unfold wD; rw [this, hd]; rfl, ?_⟩
      rw [this]; exact ⟨Fit.zero (by omega)⟩
    · have e := hr.wN
      have := q.den_pos
      refine ⟨by unfold wD; rw [e, if_neg (by omega)], ?_⟩
      rw [e]; exact hf.den
  refine ⟨_, xs, ys, h1, ⟨by rw [e1]; exact hf.num, e2.2⟩, ?_⟩
  unfold ratOf
  rw [e1, e2.1, ratV_self]
theorem RatG.open {w : World} {v : Value} {q : Rat} (h : RatG w v q) : ∃ s A l c B m k, v = .agg #[.bool s, .slice A l c, .slice B m k] := by
  obtain ⟨neg, xs, ys, ⟨A, l, c, B, m, k, rfl, _⟩, _⟩ := h
  exact ⟨_, _, _, _, _, _, _, rfl⟩

section
variable {w : World} {v : Value} {q : Rat}
theorem textG (h : RatG w v q) : Calls Try.prog 37 #[v] w (fun e w' => ∃ b, e = .returned (.tuple #[.string b, .int .i64 0]) ∧ TextB (decide (q.num < 0)) q.num.natAbs q.den b ∧ Ext w w') := by
  obtain ⟨neg, xs, ys, h1, h2, rfl⟩ := h
  exact etext_ok v neg xs ys w h1 h2
theorem ceilG (h : RatG w v q) (h0 : -1152921504606846976 ≤ (-q).floor) (h1 : (-q).floor ≤ 1152921504606846976) : Calls Try.prog 29 #[v] w (RetE w (.int .i64 (-(-q).floor)) 0) := by
  obtain ⟨neg, xs, ys, k1, k2, rfl⟩ := h
  exact eceil_ok v neg xs ys w k1 k2 h0 h1
end

theorem q46 : (((4 : Int) : Rat) / ((6 : Int) : Rat)).num = 2 ∧ (((4 : Int) : Rat) / ((6 : Int) : Rat)).den = 3 := by decide +kernel
theorem q46_fl : (-(((4 : Int) : Rat) / ((6 : Int) : Rat))).floor = -1 := by decide +kernel
theorem q46_fit : FitQW (((4 : Int) : Rat) / ((6 : Int) : Rat)) := by
  refine ⟨⟨?_⟩, ⟨?_⟩⟩
  · rw [q46.1]; exact (show Fit 4294967296 2 1 by unfold Fit; omega).mono (by omega) (by omega)
  · rw [q46.2]; exact (show Fit 4294967296 3 1 by unfold Fit; omega).mono (by omega) (by omega)
theorem dec_digit (n : Nat) (h0 : 0 < n) (h1 : n < 10) : Dec n [48 + (n : Int)] := .inr ⟨by omega, [(n : Int)], Rep.small (B := 10) (x := (n : Int)) (by omega) (by omega), rfl⟩
theorem q46_text {b : ByteArray} (h : TextB false 2 3 b) : b = ⟨#[50, 47, 51]⟩ :=
  h.unique ⟨[50], [51], dec_digit 2 (by omega) (by omega), dec_digit 3 (by omega) (by omega), by decide +kernel⟩

set_option maxRecDepth 100000 in
set_option maxHeartbeats 2000000 in
theorem first_any (w : World) : Calls Try.prog 20 #[] w fun e w' => e = .returned (.bool true) ∧ Ext w w' := by
  go_enter Try.func20, Try.ntmps20
  go_wp2_with fail
  refine (eratio_ok 4 6 _ (by omega) (by omega) (by omega) (by omega) (by omega)).mono ?_
  rintro e w1 ⟨v1, rfl, hv1, hX1⟩
  have hg := hv1.good q46_fit
  obtain ⟨s, A, l, c, B, m, k, rfl⟩ := hg.open
  have hXa : Ext w1 (w1.alloc (.cells #[.bool s, .slice A l c, .slice B m k] 33)) := (Ext.refl w1).alloc _
  have HX2 := Lib.hid (hX1.trans hXa)
  have HG := Lib.hid (hg.ext hXa)
  have HB := Lib.hid (Blk.new w1 33 #[.bool s, .slice A l c, .slice B m k])
  clear hX1 hv1 hg hXa
  go_upto_region 2 with (fail)
  generalize w1.alloc (.cells #[.bool s, .slice A l c, .slice B m k] 33) = w2 at HX2 HB HG ⊢
  obtain ⟨x0, x1, x2, _, _, _⟩ := HB.out.three
  go_wp2_with fail
  refine (textG HG.out).mono ?_
  rintro e w3 ⟨b, rfl, hb, hX3⟩
  rw [q46.1, q46.2] at hb
  obtain rfl := q46_text hb
  have HX3 := Lib.hid (HX2.out.trans hX3)
  have HG3 := Lib.hid (HG.out.ext hX3)
  have HB3 := Lib.hid (HB.out.ext hX3)
  clear hX3 hb x0 x1 x2
  obtain ⟨x0, x1, x2, _, _, _⟩ := HB3.out.three
  go_wp2_with fail
  refine (ceilG HG3.out (by rw [q46_fl]; omega) (by rw [q46_fl]; omega)).mono ?_
  rw [q46_fl]
  rintro e w4 ⟨rfl, hX4⟩
  have HX4 := Lib.hid (HX3.out.trans hX4)
  clear hX4
  go_wp2_with fail
  refine (turn_any 0 0 1 0 0 1 _).mono ?_
  rw [show turnI (0, 0) (1, 0) (0, 1) = 1 by decide, show turnE (0, 0) (1, 0) (0, 1) = 0 by decide]
  rintro e w5 ⟨rfl, hX5⟩
  have HX5 := Lib.hid (HX4.out.trans hX5)
  clear hX5
  go_wp2
  go_ret
  exact ⟨rfl, HX5.out⟩
end Go.Proofs.Yteoijnaljkagfaa
namespace Go.Proofs.Yteoijnaljkagfaa
open Go.RowKit

/-- A value that denotes a number, and whether it is large. -/
def RatL (w : World) (v : Value) (big : Bool) : Prop := ∃ neg xs ys, RatV w v neg xs ys ∧ (big = true ↔ ¬ SmallR xs ys)
theorem RatL.ext {w w' : World} {v : Value} {b : Bool} (h : RatL w v b) (he : Ext w w') : RatL w' v b := by
  obtain ⟨neg, xs, ys, h1, h2⟩ := h
  exact ⟨neg, xs, ys, h1.ext he, h2⟩
theorem RatG.small {w : World} {v : Value} {q : Rat} (h : RatG w v q) : RatL w v false := by
  obtain ⟨neg, xs, ys, h1, h2, _⟩ := h
  exact ⟨neg, xs, ys, h1, by simp [h2]⟩
theorem RatL.is {w : World} {v : Value} {b : Bool} (h : RatL w v b) : Calls Try.prog 116 #[v] w fun e w' => e = .returned (.bool b) ∧ Ext w w' := by
  obtain ⟨neg, xs, ys, h1, h2⟩ := h
  exact large_is b v neg xs ys w h1 h2
theorem RatV.cases {w : World} {v : Value} {neg : Bool} {xs ys : List Int} (h : RatV w v neg xs ys) : RatL w v true ∨ (RatL w v false ∧ RatG w v (ratOf neg xs ys)) := by
  by_cases hs : SmallR xs ys
  · exact .inr ⟨⟨neg, xs, ys, h, by simp [hs]⟩, ⟨neg, xs, ys, h, hs, rfl⟩⟩
  · exact .inl ⟨neg, xs, ys, h, by simp [hs]⟩

end Go.Proofs.Yteoijnaljkagfaa
namespace Go.Proofs.Yteoijnaljkagfaa
open Go.RowKit

theorem pow_double (m : Nat) : (65536 : Int) ^ (2 * m) = 4294967296 ^ m := by rw [Int.pow_mul]; rfl
theorem fit_double {n L : Nat} : Fit 65536 n (2 * L) ↔ Fit 4294967296 n L := by unfold Fit; rw [pow_double]
theorem fitR_double {q : Rat} {L : Nat} (h : FitQ q L) : FitR q (2 * L) := ⟨fit_double.2 h.1, fit_double.2 h.2⟩
theorem Blk.at2 {W : World} {g : Nat} {T : TypeId} {x y : Value} (h : Blk W g T #[x, y]) : At W (some ⟨g, 0, none⟩) [x, y] := fun _ => ⟨g, 0, rfl, fun j v hv => by rw [h.cell]; simpa using hv⟩
end Go.Proofs.Yteoijnaljkagfaa
namespace Go.Proofs.Yteoijnaljkagfaa
open Go.RowKit

/-- Some numbers in a block. -/
def RatsAt (w : World) (g n : Nat) : Prop := ∀ j, j < n → ∃ A l c xs B m k ys, w.cell? ⟨g, j * 3 + 1, none⟩ = some (.slice A l c) ∧ w.cell? ⟨g, j * 3 + 2, none⟩ = some (.slice B m k) ∧ Ints .u32 w A l xs ∧ Ints .u32 w B m ys ∧ l ≤ 9223372036854775807 ∧ m ≤ 9223372036854775807
theorem RatsAt.ext {w w' : World} {g n : Nat} (h : RatsAt w g n) (he : Ext w w') : RatsAt w' g n := fun j hj => by
  obtain ⟨A, l, c, xs, B, m, k, ys, h1, h2, h3, h4, h5⟩ := h j hj
  exact ⟨A, l, c, xs, B, m, k, ys, he.cell h1, he.cell h2, h3.ext he, h4.ext he, h5⟩


end Go.Proofs.Yteoijnaljkagfaa
namespace Go.Proofs.Yteoijnaljkagfaa
open Go.RowKit

/-- An integer as an end of a span, and its error. -/
def endV (z : Int) : Int := if -1152921504606846976 ≤ z ∧ z ≤ 1152921504606846976 then z else 0
def endE (z : Int) : Int := if -1152921504606846976 ≤ z ∧ z ≤ 1152921504606846976 then 0 else 3
theorem end_in {z : Int} (h : -1152921504606846976 ≤ z ∧ z ≤ 1152921504606846976) : endV z = z ∧ endE z = 0 := ⟨if_pos h, if_pos h⟩
theorem end_out {z : Int} (h : ¬ (-1152921504606846976 ≤ z ∧ z ≤ 1152921504606846976)) : endV z = 0 ∧ endE z = 3 := ⟨if_neg h, if_neg h⟩
theorem fit_in {z : Int} (h : -4611686018427387904 ≤ z ∧ z ≤ 4611686018427387904) : fitI z = z ∧ fitB z = true := ⟨by rw [fitI, if_pos h], decide_eq_true h⟩
theorem fit_out {z : Int} (h : ¬ (-4611686018427387904 ≤ z ∧ z ≤ 4611686018427387904)) : fitI z = 0 ∧ fitB z = false := ⟨by rw [fitI, if_neg h], decide_eq_false h⟩
set_option maxRecDepth 100000 in
set_option maxHeartbeats 2000000 in
theorem rend_in (s : Bool) (A : Option Addr) (l c : Nat) (z : Int) (w : World) (hx : IntZ w (.agg #[.bool s, .slice A l c]) z) (hz : -1152921504606846976 ≤ z ∧ z ≤ 1152921504606846976) :
    Calls Try.prog 88 #[.agg #[.bool s, .slice A l c]] w (fun e w' => e = .returned (.tuple #[.int .i64 z, .int .i64 0]) ∧ Ext w w') := by
  have HXX := Lib.hid hx
  clear hx
  obtain ⟨e1, e2⟩ := fit_in (z := z) (by omega)
  have E1 := Lib.hid e1
  have E2 := Lib.hid e2
  clear e1 e2
  have hXe : Ext w (w.alloc (.cells #[.bool s, .slice A l c] 40)) := ((Ext.refl w).alloc _)
  have kA : Blk (w.alloc (.cells #[.bool s, .slice A l c] 40)) w.heap.size 40 #[.bool s, .slice A l c] := Blk.at_ (by simp)
  go_enter Try.func88, Try.ntmps88
  go_wp2_with fail
  generalize (w.alloc (.cells #[.bool s, .slice A l c] 40)) = w1 at hXe kA ⊢
  have HX := Lib.hid hXe
  clear hXe
  have KA := Lib.hid kA
  clear kA
  replace HXX := Lib.hid (HXX.out.ext HX.out)
  have cA0 : w1.cell? ⟨w.heap.size, 0, none⟩ = some (.bool s) := KA.out.cell 0
  have cA1 : w1.cell? ⟨w.heap.size, 1, none⟩ = some (.slice A l c) := KA.out.cell 1
  obtain ⟨hz0, hz1⟩ := hz
  have hz2 : ¬ z < -1152921504606846976 := by omega
  have hz3 : ¬ 1152921504606846976 < z := by omega
  go_wp2_with fail
  clear cA0 cA1
  refine (zfits_any _ z _ HXX.out).mono ?_
  rw [E1.out, E2.out]
  rintro e w2 ⟨rfl, hX⟩
  replace hX : Ext w1 w2 := by with_reducible exact hX
  replace HX := Lib.hid (HX.out.trans hX)
  replace KA := Lib.hid (KA.out.ext hX)
  clear hX
  go_wp2
  go_ret2
  exact ⟨rfl, HX.out⟩

set_option maxRecDepth 100000 in
set_option maxHeartbeats 2000000 in
theorem rend_mid (s : Bool) (A : Option Addr) (l c : Nat) (z : Int) (w : World) (hx : IntZ w (.agg #[.bool s, .slice A l c]) z) (hz : z < -1152921504606846976 ∨ 1152921504606846976 < z) (hf : -4611686018427387904 ≤ z ∧ z ≤ 4611686018427387904) :
    Calls Try.prog 88 #[.agg #[.bool s, .slice A l c]] w (fun e w' => e = .returned (.tuple #[.int .i64 0, .int .i64 3]) ∧ Ext w w') := by
  have HXX := Lib.hid hx
  clear hx
  obtain ⟨e1, e2⟩ := fit_in hf
  have E1 := Lib.hid e1
  have E2 := Lib.hid e2
  clear e1 e2
  have hXe : Ext w (w.alloc (.cells #[.bool s, .slice A l c] 40)) := ((Ext.refl w).alloc _)
  have kA : Blk (w.alloc (.cells #[.bool s, .slice A l c] 40)) w.heap.size 40 #[.bool s, .slice A l c] := Blk.at_ (by simp)
  go_enter Try.func88, Try.ntmps88
  go_wp2_with fail
  generalize (w.alloc (.cells #[.bool s, .slice A l c] 40)) = w1 at hXe kA ⊢
  have HX := Lib.hid hXe
  clear hXe
  have KA := Lib.hid kA
  clear kA
  replace HXX := Lib.hid (HXX.out.ext HX.out)
  have cA0 : w1.cell? ⟨w.heap.size, 0, none⟩ = some (.bool s) := KA.out.cell 0
  have cA1 : w1.cell? ⟨w.heap.size, 1, none⟩ = some (.slice A l c) := KA.out.cell 1
  rcases hz with hz | hz
  · go_wp2_with fail
    clear cA0 cA1
    refine (zfits_any _ z _ HXX.out).mono ?_
    rw [E1.out, E2.out]
    rintro e w2 ⟨rfl, hX⟩
    replace hX : Ext w1 w2 := by with_reducible exact hX
    replace HX := Lib.hid (HX.out.trans hX)
    replace KA := Lib.hid (KA.out.ext hX)
    clear hX
    go_wp2
    go_ret2
    exact ⟨rfl, HX.out⟩
  · go_wp2_with fail
    clear cA0 cA1
    refine (zfits_any _ z _ HXX.out).mono ?_
    rw [E1.out, E2.out]
    rintro e w2 ⟨rfl, hX⟩
    replace hX : Ext w1 w2 := by with_reducible exact hX
    replace HX := Lib.hid (HX.out.trans hX)
    replace KA := Lib.hid (KA.out.ext hX)
    clear hX
    have hz2 : ¬ z < -1152921504606846976 := by omega
    go_wp2
    go_ret2
    exact ⟨rfl, HX.out⟩

set_option maxRecDepth 100000 in
set_option maxHeartbeats 2000000 in
theorem rend_far (s : Bool) (A : Option Addr) (l c : Nat) (z : Int) (w : World) (hx : IntZ w (.agg #[.bool s, .slice A l c]) z) (hf : ¬ (-4611686018427387904 ≤ z ∧ z ≤ 4611686018427387904)) :
    Calls Try.prog 88 #[.agg #[.bool s, .slice A l c]] w (fun e w' => e = .returned (.tuple #[.int .i64 0, .int .i64 3]) ∧ Ext w w') := by
  have HXX := Lib.hid hx
  clear hx
  obtain ⟨e1, e2⟩ := fit_out hf
  have E1 := Lib.hid e1
  have E2 := Lib.hid e2
  clear e1 e2
  have hXe : Ext w (w.alloc (.cells #[.bool s, .slice A l c] 40)) := ((Ext.refl w).alloc _)
  have kA : Blk (w.alloc (.cells #[.bool s, .slice A l c] 40)) w.heap.size 40 #[.bool s, .slice A l c] := Blk.at_ (by simp)
  go_enter Try.func88, Try.ntmps88
  go_wp2_with fail
  generalize (w.alloc (.cells #[.bool s, .slice A l c] 40)) = w1 at hXe kA ⊢
  have HX := Lib.hid hXe
  clear hXe
  have KA := Lib.hid kA
  clear kA
  replace HXX := Lib.hid (HXX.out.ext HX.out)
  have cA0 : w1.cell? ⟨w.heap.size, 0, none⟩ = some (.bool s) := KA.out.cell 0
  have cA1 : w1.cell? ⟨w.heap.size, 1, none⟩ = some (.slice A l c) := KA.out.cell 1
  go_wp2_with fail
  clear cA0 cA1
  refine (zfits_any _ z _ HXX.out).mono ?_
  rw [E1.out, E2.out]
  rintro e w2 ⟨rfl, hX⟩
  replace hX : Ext w1 w2 := by with_reducible exact hX
  replace HX := Lib.hid (HX.out.trans hX)
  replace KA := Lib.hid (KA.out.ext hX)
  clear hX
  go_wp2
  go_ret2
  exact ⟨rfl, HX.out⟩

theorem rend_any {w : World} {v : Value} {z : Int} (h : IntZ w v z) : Calls Try.prog 88 #[v] w fun e w' => e = .returned (.tuple #[.int .i64 (endV z), .int .i64 (endE z)]) ∧ Ext w w' := by
  obtain ⟨A, l, c, rfl, hz⟩ := h
  by_cases hr : -1152921504606846976 ≤ z ∧ z ≤ 1152921504606846976
  · rw [(end_in hr).1, (end_in hr).2]; exact rend_in _ A l c z w ⟨A, l, c, rfl, hz⟩ hr
  · rw [(end_out hr).1, (end_out hr).2]
    by_cases hf : -4611686018427387904 ≤ z ∧ z ≤ 4611686018427387904
    · exact rend_mid _ A l c z w ⟨A, l, c, rfl, hz⟩ (by omega) hf
    · exact rend_far _ A l c z w ⟨A, l, c, rfl, hz⟩ hf

end Go.Proofs.Yteoijnaljkagfaa
namespace Go.Proofs.Yteoijnaljkagfaa
open Go.RowKit

theorem fitQ_int {n : Int} {L : Nat} (h : Fit 4294967296 n.natAbs L) (hL : 0 < L) : FitQ ((n : Int) : Rat) L := by
  refine ⟨by rw [Rat.num_intCast]; exact h, ?_⟩
  rw [Rat.den_intCast]
  exact Fit.one (by omega) hL
theorem fitQ_small {n : Int} (h0 : -9223372036854775808 ≤ n) (h1 : n ≤ 9223372036854775807) : FitQ ((n : Int) : Rat) 2 := by
  refine fitQ_int ?_ (by omega)
  unfold Fit
  have : (4294967296 : Int) ^ 2 = 18446744073709551616 := by decide
  omega
end Go.Proofs.Yteoijnaljkagfaa
namespace Go.Proofs.Yteoijnaljkagfaa
open Go.RowKit

/-- A result of the program, with its error. -/
def ResX (w : World) (v : Value) (er : Int) (q : Rat) : Prop := (er = 0 ∧ RatC w v q ∧ FitQW q) ∨ (er ≠ 0 ∧ v = zeroR)
theorem ResX.ext {w w' : World} {v : Value} {er : Int} {q : Rat} (h : ResX w v er q) (he : Ext w w') : ResX w' v er q := by
  rcases h with ⟨h1, h2, h3⟩ | h
  · exact .inl ⟨h1, h2.ext he, h3⟩
  · exact .inr h
theorem ResX.open {w : World} {v : Value} {er : Int} {q : Rat} (h : ResX w v er q) : ∃ s A l c B m k, v = .agg #[.bool s, .slice A l c, .slice B m k] := by
  rcases h with ⟨_, h, _⟩ | ⟨_, rfl⟩
  · exact h.open
  · exact ⟨_, _, _, _, _, _, _, rfl⟩
/-- A result of the reference, with its error. -/
def ResQ (w : World) (v : Value) (er : Int) (q : Rat) : Prop := ∃ s A l c B m k, v = .agg #[.bool s, .slice A l c, .slice B m k] ∧ (er = 0 → QZ w v q)
theorem ResQ.ext {w w' : World} {v : Value} {er : Int} {q : Rat} (h : ResQ w v er q) (he : Ext w w') : ResQ w' v er q := by
  obtain ⟨s, A, l, c, B, m, k, h1, h2⟩ := h
  exact ⟨s, A, l, c, B, m, k, h1, fun h => (h2 h).ext he⟩
theorem ResQ.open {w : World} {v : Value} {er : Int} {q : Rat} (h : ResQ w v er q) : ∃ s A l c B m k, v = .agg #[.bool s, .slice A l c, .slice B m k] := by
  obtain ⟨s, A, l, c, B, m, k, h1, h2⟩ := h
  exact ⟨s, A, l, c, B, m, k, h1⟩
section
variable {w : World} {va vb : Value} {q r : Rat} {er : Int}
end

end Go.Proofs.Yteoijnaljkagfaa
namespace Go.Proofs.Yteoijnaljkagfaa
open Go.RowKit

/-- A span is valid. -/
def okS (lo hi : Int) : Bool := decide (-1152921504606846976 ≤ lo ∧ lo ≤ hi ∧ hi ≤ 1152921504606846976)
theorem okS_cases (lo hi : Int) : (okS lo hi = true ∧ -1152921504606846976 ≤ lo ∧ lo ≤ hi ∧ hi ≤ 1152921504606846976) ∨ (okS lo hi = false ∧ (lo < -1152921504606846976 ∨ (-1152921504606846976 ≤ lo ∧ hi < lo) ∨ (-1152921504606846976 ≤ lo ∧ lo ≤ hi ∧ 1152921504606846976 < hi))) := by
  by_cases hb : okS lo hi = true
  · have hb' := hb
    simp only [okS, decide_eq_true_eq] at hb'
    exact .inl ⟨hb, hb'⟩
  · refine .inr ⟨by simpa using hb, ?_⟩
    simp only [okS, decide_eq_true_eq] at hb; omega
theorem okS_in {lo hi : Int} (h : okS lo hi = true) : -1152921504606846976 ≤ lo ∧ lo ≤ hi ∧ hi ≤ 1152921504606846976 := by simpa [okS] using h

set_option maxHeartbeats 1000000 in
theorem valid_any (x y : Int) (w : World) : Calls Try.prog 52 #[.agg #[.int .i64 x, .int .i64 y]] w fun e w' => e = .returned (.bool (okS x y)) ∧ Ext w w' := by
  have HX := Lib.hid ((Ext.refl w).alloc (.cells #[.int .i64 x, .int .i64 y] 62))
  rcases okS_cases x y with ⟨hb, b1, b2, b3⟩ | ⟨hb, b1 | ⟨b1, b2⟩ | ⟨b1, b2, b3⟩⟩
  all_goals
    rw [hb]
    clear hb
    go_enter Try.func52, Try.ntmps52
    go_wp2
    go_ret
    refine ⟨?_, HX.out⟩
    first
    | rfl
    | (show Ending.returned (.bool (decide (y ≤ 1152921504606846976))) = Ending.returned (.bool false); rw [decide_eq_false (by omega)])
set_option maxHeartbeats 1000000 in
theorem both_any (a b c d : Int) (w : World) : Calls Try.prog 95 #[.agg #[.int .i64 a, .int .i64 b], .agg #[.int .i64 c, .int .i64 d]] w fun e w' => e = .returned (.bool (okS a b && okS c d)) ∧ Ext w w' := by
  obtain ⟨p, hp⟩ : ∃ p, okS a b = p := ⟨_, rfl⟩
  rw [hp]
  have HP := Lib.hid hp
  clear hp
  have hXw : Ext w ((w.alloc (.cells #[.int .i64 a, .int .i64 b] 62)).alloc (.cells #[.int .i64 c, .int .i64 d] 62)) := ((Ext.refl w).alloc _).alloc _
  have k2 := Blk.new (w.alloc (.cells #[.int .i64 a, .int .i64 b] 62)) 62 #[.int .i64 c, .int .i64 d]
  rw [show (w.alloc (.cells #[.int .i64 a, .int .i64 b] 62)).heap.size = w.heap.size + 1 by simp] at k2
  go_enter Try.func95, Try.ntmps95
  go_wp2_with fail
  generalize ((w.alloc (.cells #[.int .i64 a, .int .i64 b] 62)).alloc (.cells #[.int .i64 c, .int .i64 d] 62)) = w1 at hXw k2 ⊢
  refine (valid_any a b _).mono ?_
  rw [HP.out]
  rintro e w2 ⟨rfl, hX2⟩
  have x1 := (k2.ext hX2).cell 0
  have x2 := (k2.ext hX2).cell 1
  simp only [List.getElem?_toArray, List.getElem?_cons_zero, List.getElem?_cons_succ] at x1 x2
  have HX2 := Lib.hid (hXw.trans hX2)
  clear hXw hX2 k2
  cases p
  · go_wp2
    go_ret
    exact ⟨rfl, HX2.out⟩
  · go_wp2_with fail
    refine (valid_any c d _).mono ?_
    rintro e w3 ⟨rfl, hX3⟩
    have HX3 := Lib.hid (HX2.out.trans hX3)
    clear hX3
    go_wp2
    go_ret
    exact ⟨rfl, HX3.out⟩


set_option maxHeartbeats 1000000 in
theorem span_ok (lo hi : Int) (w : World) (h0 : -1152921504606846976 ≤ lo) (h1 : hi ≤ 1152921504606846976) : Calls Try.prog 96 #[.int .i64 lo, .int .i64 hi] w (RetE w (.agg #[.int .i64 lo, .int .i64 hi]) 0) := by
  have HX := Lib.hid ((Ext.refl w).alloc (.cells #[.int .i64 lo, .int .i64 hi] 62))
  go_enter Try.func96, Try.ntmps96
  go_wp2
  refine bodyPost_ret (v := .tuple #[.agg #[.int .i64 lo, .int .i64 hi], .int .i64 0]) (by simp [results, Try.results96, go_sem, *]) rfl ?_
  exact ⟨rfl, HX.out⟩
set_option maxHeartbeats 1000000 in
theorem span_no (lo hi : Int) (w : World) (h : lo < -1152921504606846976 ∨ 1152921504606846976 < hi) : Calls Try.prog 96 #[.int .i64 lo, .int .i64 hi] w (RetE w (.agg #[.int .i64 0, .int .i64 0]) 3) := by
  have HX := Lib.hid ((Ext.refl w).alloc (.cells #[.int .i64 0, .int .i64 0] 62))
  have h' : lo < -1152921504606846976 ∨ (-1152921504606846976 ≤ lo ∧ 1152921504606846976 < hi) := by omega
  rcases h' with h1 | ⟨h1, h2⟩
  all_goals
    go_enter Try.func96, Try.ntmps96
    go_wp2
    refine bodyPost_ret (v := .tuple #[.agg #[.int .i64 0, .int .i64 0], .int .i64 3]) (by simp [results, Try.results96, go_sem, *]) rfl ?_
    exact ⟨rfl, HX.out⟩
end Go.Proofs.Yteoijnaljkagfaa
namespace Go.Proofs.Yteoijnaljkagfaa
open Go.RowKit

/-- What Meet returns. -/
def RetM (w : World) (v : Value) (b : Bool) (n : Int) (e : Ending) (w' : World) : Prop := e = .returned (.tuple #[v, .bool b, .int .i64 n]) ∧ Ext w w'

set_option maxRecDepth 100000 in
set_option maxHeartbeats 2000000 in
theorem ehull_bad (a b c d : Int) (w : World) (hn : (okS a b && okS c d) = false) :
    Calls Try.prog 42 #[.agg #[.int .i64 a, .int .i64 b], .agg #[.int .i64 c, .int .i64 d]] w (RetE w (.agg #[.int .i64 (0), .int .i64 (0)]) 2) := by
  have HB := Lib.hid hn
  clear hn
  have hXe : Ext w (((w.alloc (.cells #[.int .i64 a, .int .i64 b] 62)).alloc (.cells #[.int .i64 c, .int .i64 d] 62)).alloc (.cells #[.int .i64 0, .int .i64 0] 62)) := ((((Ext.refl w).alloc _).alloc _).alloc _)
  have kA : Blk (((w.alloc (.cells #[.int .i64 a, .int .i64 b] 62)).alloc (.cells #[.int .i64 c, .int .i64 d] 62)).alloc (.cells #[.int .i64 0, .int .i64 0] 62)) w.heap.size 62 #[.int .i64 a, .int .i64 b] := Blk.alloc (Blk.alloc (Blk.at_ (by simp)) _) _
  have kB : Blk (((w.alloc (.cells #[.int .i64 a, .int .i64 b] 62)).alloc (.cells #[.int .i64 c, .int .i64 d] 62)).alloc (.cells #[.int .i64 0, .int .i64 0] 62)) (w.heap.size + 1) 62 #[.int .i64 c, .int .i64 d] := Blk.alloc (Blk.at_ (by simp)) _
  have kR : Blk (((w.alloc (.cells #[.int .i64 a, .int .i64 b] 62)).alloc (.cells #[.int .i64 c, .int .i64 d] 62)).alloc (.cells #[.int .i64 0, .int .i64 0] 62)) (w.heap.size + 2) 62 #[.int .i64 0, .int .i64 0] := Blk.at_ (by simp)
  go_enter Try.func42, Try.ntmps42
  go_wp2_with fail
  generalize (((w.alloc (.cells #[.int .i64 a, .int .i64 b] 62)).alloc (.cells #[.int .i64 c, .int .i64 d] 62)).alloc (.cells #[.int .i64 0, .int .i64 0] 62)) = w1 at hXe kA kB kR ⊢
  have HX := Lib.hid hXe
  clear hXe
  have KA := Lib.hid kA
  clear kA
  have KB := Lib.hid kB
  clear kB
  have KR := Lib.hid kR
  clear kR
  refine (both_any a b c d _).mono ?_
  rw [HB.out]
  rintro e w2 ⟨rfl, hX⟩
  replace HX := Lib.hid (HX.out.trans hX)
  replace KA := Lib.hid (KA.out.ext hX)
  replace KB := Lib.hid (KB.out.ext hX)
  replace KR := Lib.hid (KR.out.ext hX)
  clear hX
  have cA0 : w2.cell? ⟨w.heap.size, 0, none⟩ = some (.int .i64 a) := KA.out.cell 0
  have cA1 : w2.cell? ⟨w.heap.size, 1, none⟩ = some (.int .i64 b) := KA.out.cell 1
  have cB0 : w2.cell? ⟨(w.heap.size + 1), 0, none⟩ = some (.int .i64 c) := KB.out.cell 0
  have cB1 : w2.cell? ⟨(w.heap.size + 1), 1, none⟩ = some (.int .i64 d) := KB.out.cell 1
  have cR0 : w2.cell? ⟨(w.heap.size + 2), 0, none⟩ = some (.int .i64 0) := KR.out.cell 0
  have fR0 : w2.frozen? ⟨(w.heap.size + 2), 0, none⟩ = false := KR.out.free 0
  have cR1 : w2.cell? ⟨(w.heap.size + 2), 1, none⟩ = some (.int .i64 0) := KR.out.cell 1
  have fR1 : w2.frozen? ⟨(w.heap.size + 2), 1, none⟩ = false := KR.out.free 1
  go_wp2
  refine bodyPost_ret (v := .tuple #[.agg #[.int .i64 (0), .int .i64 (0)], .int .i64 2]) (by simp [results, Try.results42, go_sem, *]) rfl ?_
  exact ⟨rfl, HX.out.two (by omega) _ _⟩

set_option maxRecDepth 100000 in
set_option maxHeartbeats 2000000 in
theorem eplus_bad (a b c d : Int) (w : World) (hn : (okS a b && okS c d) = false) :
    Calls Try.prog 54 #[.agg #[.int .i64 a, .int .i64 b], .agg #[.int .i64 c, .int .i64 d]] w (RetE w (.agg #[.int .i64 (0), .int .i64 (0)]) 2) := by
  have HB := Lib.hid hn
  clear hn
  have hXe : Ext w (((w.alloc (.cells #[.int .i64 a, .int .i64 b] 62)).alloc (.cells #[.int .i64 c, .int .i64 d] 62)).alloc (.cells #[.int .i64 0, .int .i64 0] 62)) := ((((Ext.refl w).alloc _).alloc _).alloc _)
  have kA : Blk (((w.alloc (.cells #[.int .i64 a, .int .i64 b] 62)).alloc (.cells #[.int .i64 c, .int .i64 d] 62)).alloc (.cells #[.int .i64 0, .int .i64 0] 62)) w.heap.size 62 #[.int .i64 a, .int .i64 b] := Blk.alloc (Blk.alloc (Blk.at_ (by simp)) _) _
  have kB : Blk (((w.alloc (.cells #[.int .i64 a, .int .i64 b] 62)).alloc (.cells #[.int .i64 c, .int .i64 d] 62)).alloc (.cells #[.int .i64 0, .int .i64 0] 62)) (w.heap.size + 1) 62 #[.int .i64 c, .int .i64 d] := Blk.alloc (Blk.at_ (by simp)) _
  have kR : Blk (((w.alloc (.cells #[.int .i64 a, .int .i64 b] 62)).alloc (.cells #[.int .i64 c, .int .i64 d] 62)).alloc (.cells #[.int .i64 0, .int .i64 0] 62)) (w.heap.size + 2) 62 #[.int .i64 0, .int .i64 0] := Blk.at_ (by simp)
  go_enter Try.func54, Try.ntmps54
  go_wp2_with fail
  generalize (((w.alloc (.cells #[.int .i64 a, .int .i64 b] 62)).alloc (.cells #[.int .i64 c, .int .i64 d] 62)).alloc (.cells #[.int .i64 0, .int .i64 0] 62)) = w1 at hXe kA kB kR ⊢
  have HX := Lib.hid hXe
  clear hXe
  have KA := Lib.hid kA
  clear kA
  have KB := Lib.hid kB
  clear kB
  have KR := Lib.hid kR
  clear kR
  refine (both_any a b c d _).mono ?_
  rw [HB.out]
  rintro e w2 ⟨rfl, hX⟩
  replace HX := Lib.hid (HX.out.trans hX)
  replace KA := Lib.hid (KA.out.ext hX)
  replace KB := Lib.hid (KB.out.ext hX)
  replace KR := Lib.hid (KR.out.ext hX)
  clear hX
  have cA0 : w2.cell? ⟨w.heap.size, 0, none⟩ = some (.int .i64 a) := KA.out.cell 0
  have cA1 : w2.cell? ⟨w.heap.size, 1, none⟩ = some (.int .i64 b) := KA.out.cell 1
  have cB0 : w2.cell? ⟨(w.heap.size + 1), 0, none⟩ = some (.int .i64 c) := KB.out.cell 0
  have cB1 : w2.cell? ⟨(w.heap.size + 1), 1, none⟩ = some (.int .i64 d) := KB.out.cell 1
  have cR0 : w2.cell? ⟨(w.heap.size + 2), 0, none⟩ = some (.int .i64 0) := KR.out.cell 0
  have fR0 : w2.frozen? ⟨(w.heap.size + 2), 0, none⟩ = false := KR.out.free 0
  have cR1 : w2.cell? ⟨(w.heap.size + 2), 1, none⟩ = some (.int .i64 0) := KR.out.cell 1
  have fR1 : w2.frozen? ⟨(w.heap.size + 2), 1, none⟩ = false := KR.out.free 1
  go_wp2
  refine bodyPost_ret (v := .tuple #[.agg #[.int .i64 (0), .int .i64 (0)], .int .i64 2]) (by simp [results, Try.results54, go_sem, *]) rfl ?_
  exact ⟨rfl, HX.out.two (by omega) _ _⟩

set_option maxRecDepth 100000 in
set_option maxHeartbeats 2000000 in
theorem eminus_bad (a b c d : Int) (w : World) (hn : (okS a b && okS c d) = false) :
    Calls Try.prog 55 #[.agg #[.int .i64 a, .int .i64 b], .agg #[.int .i64 c, .int .i64 d]] w (RetE w (.agg #[.int .i64 (0), .int .i64 (0)]) 2) := by
  have HB := Lib.hid hn
  clear hn
  have hXe : Ext w (((w.alloc (.cells #[.int .i64 a, .int .i64 b] 62)).alloc (.cells #[.int .i64 c, .int .i64 d] 62)).alloc (.cells #[.int .i64 0, .int .i64 0] 62)) := ((((Ext.refl w).alloc _).alloc _).alloc _)
  have kA : Blk (((w.alloc (.cells #[.int .i64 a, .int .i64 b] 62)).alloc (.cells #[.int .i64 c, .int .i64 d] 62)).alloc (.cells #[.int .i64 0, .int .i64 0] 62)) w.heap.size 62 #[.int .i64 a, .int .i64 b] := Blk.alloc (Blk.alloc (Blk.at_ (by simp)) _) _
  have kB : Blk (((w.alloc (.cells #[.int .i64 a, .int .i64 b] 62)).alloc (.cells #[.int .i64 c, .int .i64 d] 62)).alloc (.cells #[.int .i64 0, .int .i64 0] 62)) (w.heap.size + 1) 62 #[.int .i64 c, .int .i64 d] := Blk.alloc (Blk.at_ (by simp)) _
  have kR : Blk (((w.alloc (.cells #[.int .i64 a, .int .i64 b] 62)).alloc (.cells #[.int .i64 c, .int .i64 d] 62)).alloc (.cells #[.int .i64 0, .int .i64 0] 62)) (w.heap.size + 2) 62 #[.int .i64 0, .int .i64 0] := Blk.at_ (by simp)
  go_enter Try.func55, Try.ntmps55
  go_wp2_with fail
  generalize (((w.alloc (.cells #[.int .i64 a, .int .i64 b] 62)).alloc (.cells #[.int .i64 c, .int .i64 d] 62)).alloc (.cells #[.int .i64 0, .int .i64 0] 62)) = w1 at hXe kA kB kR ⊢
  have HX := Lib.hid hXe
  clear hXe
  have KA := Lib.hid kA
  clear kA
  have KB := Lib.hid kB
  clear kB
  have KR := Lib.hid kR
  clear kR
  refine (both_any a b c d _).mono ?_
  rw [HB.out]
  rintro e w2 ⟨rfl, hX⟩
  replace HX := Lib.hid (HX.out.trans hX)
  replace KA := Lib.hid (KA.out.ext hX)
  replace KB := Lib.hid (KB.out.ext hX)
  replace KR := Lib.hid (KR.out.ext hX)
  clear hX
  have cA0 : w2.cell? ⟨w.heap.size, 0, none⟩ = some (.int .i64 a) := KA.out.cell 0
  have cA1 : w2.cell? ⟨w.heap.size, 1, none⟩ = some (.int .i64 b) := KA.out.cell 1
  have cB0 : w2.cell? ⟨(w.heap.size + 1), 0, none⟩ = some (.int .i64 c) := KB.out.cell 0
  have cB1 : w2.cell? ⟨(w.heap.size + 1), 1, none⟩ = some (.int .i64 d) := KB.out.cell 1
  have cR0 : w2.cell? ⟨(w.heap.size + 2), 0, none⟩ = some (.int .i64 0) := KR.out.cell 0
  have fR0 : w2.frozen? ⟨(w.heap.size + 2), 0, none⟩ = false := KR.out.free 0
  have cR1 : w2.cell? ⟨(w.heap.size + 2), 1, none⟩ = some (.int .i64 0) := KR.out.cell 1
  have fR1 : w2.frozen? ⟨(w.heap.size + 2), 1, none⟩ = false := KR.out.free 1
  go_wp2
  refine bodyPost_ret (v := .tuple #[.agg #[.int .i64 (0), .int .i64 (0)], .int .i64 2]) (by simp [results, Try.results55, go_sem, *]) rfl ?_
  exact ⟨rfl, HX.out.two (by omega) _ _⟩

set_option maxRecDepth 100000 in
set_option maxHeartbeats 2000000 in
theorem ehull_ok (a b c d : Int) (w : World) (hab : okS a b = true) (hcd : okS c d = true) :
    Calls Try.prog 42 #[.agg #[.int .i64 a, .int .i64 b], .agg #[.int .i64 c, .int .i64 d]] w (RetE w (.agg #[.int .i64 (min a c), .int .i64 (max b d)]) 0) := by
  obtain ⟨a0, a1, a2⟩ := okS_in hab
  obtain ⟨c0, c1, c2⟩ := okS_in hcd
  have HB : Hid ((okS a b && okS c d) = true) := by show _ = _; rw [hab, hcd]; rfl
  clear hab hcd
  have hXe : Ext w (((w.alloc (.cells #[.int .i64 a, .int .i64 b] 62)).alloc (.cells #[.int .i64 c, .int .i64 d] 62)).alloc (.cells #[.int .i64 0, .int .i64 0] 62)) := ((((Ext.refl w).alloc _).alloc _).alloc _)
  have kA : Blk (((w.alloc (.cells #[.int .i64 a, .int .i64 b] 62)).alloc (.cells #[.int .i64 c, .int .i64 d] 62)).alloc (.cells #[.int .i64 0, .int .i64 0] 62)) w.heap.size 62 #[.int .i64 a, .int .i64 b] := Blk.alloc (Blk.alloc (Blk.at_ (by simp)) _) _
  have kB : Blk (((w.alloc (.cells #[.int .i64 a, .int .i64 b] 62)).alloc (.cells #[.int .i64 c, .int .i64 d] 62)).alloc (.cells #[.int .i64 0, .int .i64 0] 62)) (w.heap.size + 1) 62 #[.int .i64 c, .int .i64 d] := Blk.alloc (Blk.at_ (by simp)) _
  have kR : Blk (((w.alloc (.cells #[.int .i64 a, .int .i64 b] 62)).alloc (.cells #[.int .i64 c, .int .i64 d] 62)).alloc (.cells #[.int .i64 0, .int .i64 0] 62)) (w.heap.size + 2) 62 #[.int .i64 0, .int .i64 0] := Blk.at_ (by simp)
  go_enter Try.func42, Try.ntmps42
  go_wp2_with fail
  generalize (((w.alloc (.cells #[.int .i64 a, .int .i64 b] 62)).alloc (.cells #[.int .i64 c, .int .i64 d] 62)).alloc (.cells #[.int .i64 0, .int .i64 0] 62)) = w1 at hXe kA kB kR ⊢
  have HX := Lib.hid hXe
  clear hXe
  have KA := Lib.hid kA
  clear kA
  have KB := Lib.hid kB
  clear kB
  have KR := Lib.hid kR
  clear kR
  refine (both_any a b c d _).mono ?_
  rw [HB.out]
  rintro e w2 ⟨rfl, hX⟩
  replace HX := Lib.hid (HX.out.trans hX)
  replace KA := Lib.hid (KA.out.ext hX)
  replace KB := Lib.hid (KB.out.ext hX)
  replace KR := Lib.hid (KR.out.ext hX)
  clear hX
  have cA0 : w2.cell? ⟨w.heap.size, 0, none⟩ = some (.int .i64 a) := KA.out.cell 0
  have cA1 : w2.cell? ⟨w.heap.size, 1, none⟩ = some (.int .i64 b) := KA.out.cell 1
  have cB0 : w2.cell? ⟨(w.heap.size + 1), 0, none⟩ = some (.int .i64 c) := KB.out.cell 0
  have cB1 : w2.cell? ⟨(w.heap.size + 1), 1, none⟩ = some (.int .i64 d) := KB.out.cell 1
  have cR0 : w2.cell? ⟨(w.heap.size + 2), 0, none⟩ = some (.int .i64 0) := KR.out.cell 0
  have fR0 : w2.frozen? ⟨(w.heap.size + 2), 0, none⟩ = false := KR.out.free 0
  have cR1 : w2.cell? ⟨(w.heap.size + 2), 1, none⟩ = some (.int .i64 0) := KR.out.cell 1
  have fR1 : w2.frozen? ⟨(w.heap.size + 2), 1, none⟩ = false := KR.out.free 1
  go_wp2_with fail
  clear cA0 cA1 cB0 cB1 cR0 fR0 cR1 fR1
  refine (span_ok _ _ _ (by omega) (by omega)).mono ?_
  rintro e w3 ⟨rfl, hX⟩
  replace HX := Lib.hid (HX.out.trans hX)
  replace KA := Lib.hid (KA.out.ext hX)
  replace KB := Lib.hid (KB.out.ext hX)
  replace KR := Lib.hid (KR.out.ext hX)
  clear hX
  have cA0 : w3.cell? ⟨w.heap.size, 0, none⟩ = some (.int .i64 a) := KA.out.cell 0
  have cA1 : w3.cell? ⟨w.heap.size, 1, none⟩ = some (.int .i64 b) := KA.out.cell 1
  have cB0 : w3.cell? ⟨(w.heap.size + 1), 0, none⟩ = some (.int .i64 c) := KB.out.cell 0
  have cB1 : w3.cell? ⟨(w.heap.size + 1), 1, none⟩ = some (.int .i64 d) := KB.out.cell 1
  have cR0 : w3.cell? ⟨(w.heap.size + 2), 0, none⟩ = some (.int .i64 0) := KR.out.cell 0
  have fR0 : w3.frozen? ⟨(w.heap.size + 2), 0, none⟩ = false := KR.out.free 0
  have cR1 : w3.cell? ⟨(w.heap.size + 2), 1, none⟩ = some (.int .i64 0) := KR.out.cell 1
  have fR1 : w3.frozen? ⟨(w.heap.size + 2), 1, none⟩ = false := KR.out.free 1
  go_wp2
  refine bodyPost_ret (v := .tuple #[.agg #[.int .i64 (min a c), .int .i64 (max b d)], .int .i64 0]) (by simp [results, Try.results42, go_sem, *]) rfl ?_
  exact ⟨rfl, HX.out.two (by omega) _ _⟩

set_option maxRecDepth 100000 in
set_option maxHeartbeats 2000000 in
theorem eplus_ok (a b c d : Int) (w : World) (hab : okS a b = true) (hcd : okS c d = true) (h0 : -1152921504606846976 ≤ a + c) (h1 : b + d ≤ 1152921504606846976) :
    Calls Try.prog 54 #[.agg #[.int .i64 a, .int .i64 b], .agg #[.int .i64 c, .int .i64 d]] w (RetE w (.agg #[.int .i64 (a + c), .int .i64 (b + d)]) 0) := by
  obtain ⟨a0, a1, a2⟩ := okS_in hab
  obtain ⟨c0, c1, c2⟩ := okS_in hcd
  have HB : Hid ((okS a b && okS c d) = true) := by show _ = _; rw [hab, hcd]; rfl
  clear hab hcd
  have hXe : Ext w (((w.alloc (.cells #[.int .i64 a, .int .i64 b] 62)).alloc (.cells #[.int .i64 c, .int .i64 d] 62)).alloc (.cells #[.int .i64 0, .int .i64 0] 62)) := ((((Ext.refl w).alloc _).alloc _).alloc _)
  have kA : Blk (((w.alloc (.cells #[.int .i64 a, .int .i64 b] 62)).alloc (.cells #[.int .i64 c, .int .i64 d] 62)).alloc (.cells #[.int .i64 0, .int .i64 0] 62)) w.heap.size 62 #[.int .i64 a, .int .i64 b] := Blk.alloc (Blk.alloc (Blk.at_ (by simp)) _) _
  have kB : Blk (((w.alloc (.cells #[.int .i64 a, .int .i64 b] 62)).alloc (.cells #[.int .i64 c, .int .i64 d] 62)).alloc (.cells #[.int .i64 0, .int .i64 0] 62)) (w.heap.size + 1) 62 #[.int .i64 c, .int .i64 d] := Blk.alloc (Blk.at_ (by simp)) _
  have kR : Blk (((w.alloc (.cells #[.int .i64 a, .int .i64 b] 62)).alloc (.cells #[.int .i64 c, .int .i64 d] 62)).alloc (.cells #[.int .i64 0, .int .i64 0] 62)) (w.heap.size + 2) 62 #[.int .i64 0, .int .i64 0] := Blk.at_ (by simp)
  go_enter Try.func54, Try.ntmps54
  go_wp2_with fail
  generalize (((w.alloc (.cells #[.int .i64 a, .int .i64 b] 62)).alloc (.cells #[.int .i64 c, .int .i64 d] 62)).alloc (.cells #[.int .i64 0, .int .i64 0] 62)) = w1 at hXe kA kB kR ⊢
  have HX := Lib.hid hXe
  clear hXe
  have KA := Lib.hid kA
  clear kA
  have KB := Lib.hid kB
  clear kB
  have KR := Lib.hid kR
  clear kR
  refine (both_any a b c d _).mono ?_
  rw [HB.out]
  rintro e w2 ⟨rfl, hX⟩
  replace HX := Lib.hid (HX.out.trans hX)
  replace KA := Lib.hid (KA.out.ext hX)
  replace KB := Lib.hid (KB.out.ext hX)
  replace KR := Lib.hid (KR.out.ext hX)
  clear hX
  have cA0 : w2.cell? ⟨w.heap.size, 0, none⟩ = some (.int .i64 a) := KA.out.cell 0
  have cA1 : w2.cell? ⟨w.heap.size, 1, none⟩ = some (.int .i64 b) := KA.out.cell 1
  have cB0 : w2.cell? ⟨(w.heap.size + 1), 0, none⟩ = some (.int .i64 c) := KB.out.cell 0
  have cB1 : w2.cell? ⟨(w.heap.size + 1), 1, none⟩ = some (.int .i64 d) := KB.out.cell 1
  have cR0 : w2.cell? ⟨(w.heap.size + 2), 0, none⟩ = some (.int .i64 0) := KR.out.cell 0
  have fR0 : w2.frozen? ⟨(w.heap.size + 2), 0, none⟩ = false := KR.out.free 0
  have cR1 : w2.cell? ⟨(w.heap.size + 2), 1, none⟩ = some (.int .i64 0) := KR.out.cell 1
  have fR1 : w2.frozen? ⟨(w.heap.size + 2), 1, none⟩ = false := KR.out.free 1
  go_wp2_with fail
  clear cA0 cA1 cB0 cB1 cR0 fR0 cR1 fR1
  refine (span_ok _ _ _ (by omega) (by omega)).mono ?_
  rintro e w3 ⟨rfl, hX⟩
  replace HX := Lib.hid (HX.out.trans hX)
  replace KA := Lib.hid (KA.out.ext hX)
  replace KB := Lib.hid (KB.out.ext hX)
  replace KR := Lib.hid (KR.out.ext hX)
  clear hX
  have cA0 : w3.cell? ⟨w.heap.size, 0, none⟩ = some (.int .i64 a) := KA.out.cell 0
  have cA1 : w3.cell? ⟨w.heap.size, 1, none⟩ = some (.int .i64 b) := KA.out.cell 1
  have cB0 : w3.cell? ⟨(w.heap.size + 1), 0, none⟩ = some (.int .i64 c) := KB.out.cell 0
  have cB1 : w3.cell? ⟨(w.heap.size + 1), 1, none⟩ = some (.int .i64 d) := KB.out.cell 1
  have cR0 : w3.cell? ⟨(w.heap.size + 2), 0, none⟩ = some (.int .i64 0) := KR.out.cell 0
  have fR0 : w3.frozen? ⟨(w.heap.size + 2), 0, none⟩ = false := KR.out.free 0
  have cR1 : w3.cell? ⟨(w.heap.size + 2), 1, none⟩ = some (.int .i64 0) := KR.out.cell 1
  have fR1 : w3.frozen? ⟨(w.heap.size + 2), 1, none⟩ = false := KR.out.free 1
  go_wp2
  refine bodyPost_ret (v := .tuple #[.agg #[.int .i64 (a + c), .int .i64 (b + d)], .int .i64 0]) (by simp [results, Try.results54, go_sem, *]) rfl ?_
  exact ⟨rfl, HX.out.two (by omega) _ _⟩

set_option maxRecDepth 100000 in
set_option maxHeartbeats 2000000 in
theorem eplus_out (a b c d : Int) (w : World) (hab : okS a b = true) (hcd : okS c d = true) (h0 : a + c < -1152921504606846976 ∨ 1152921504606846976 < b + d) :
    Calls Try.prog 54 #[.agg #[.int .i64 a, .int .i64 b], .agg #[.int .i64 c, .int .i64 d]] w (RetE w (.agg #[.int .i64 (0), .int .i64 (0)]) 3) := by
  obtain ⟨a0, a1, a2⟩ := okS_in hab
  obtain ⟨c0, c1, c2⟩ := okS_in hcd
  have HB : Hid ((okS a b && okS c d) = true) := by show _ = _; rw [hab, hcd]; rfl
  clear hab hcd
  have hXe : Ext w (((w.alloc (.cells #[.int .i64 a, .int .i64 b] 62)).alloc (.cells #[.int .i64 c, .int .i64 d] 62)).alloc (.cells #[.int .i64 0, .int .i64 0] 62)) := ((((Ext.refl w).alloc _).alloc _).alloc _)
  have kA : Blk (((w.alloc (.cells #[.int .i64 a, .int .i64 b] 62)).alloc (.cells #[.int .i64 c, .int .i64 d] 62)).alloc (.cells #[.int .i64 0, .int .i64 0] 62)) w.heap.size 62 #[.int .i64 a, .int .i64 b] := Blk.alloc (Blk.alloc (Blk.at_ (by simp)) _) _
  have kB : Blk (((w.alloc (.cells #[.int .i64 a, .int .i64 b] 62)).alloc (.cells #[.int .i64 c, .int .i64 d] 62)).alloc (.cells #[.int .i64 0, .int .i64 0] 62)) (w.heap.size + 1) 62 #[.int .i64 c, .int .i64 d] := Blk.alloc (Blk.at_ (by simp)) _
  have kR : Blk (((w.alloc (.cells #[.int .i64 a, .int .i64 b] 62)).alloc (.cells #[.int .i64 c, .int .i64 d] 62)).alloc (.cells #[.int .i64 0, .int .i64 0] 62)) (w.heap.size + 2) 62 #[.int .i64 0, .int .i64 0] := Blk.at_ (by simp)
  go_enter Try.func54, Try.ntmps54
  go_wp2_with fail
  generalize (((w.alloc (.cells #[.int .i64 a, .int .i64 b] 62)).alloc (.cells #[.int .i64 c, .int .i64 d] 62)).alloc (.cells #[.int .i64 0, .int .i64 0] 62)) = w1 at hXe kA kB kR ⊢
  have HX := Lib.hid hXe
  clear hXe
  have KA := Lib.hid kA
  clear kA
  have KB := Lib.hid kB
  clear kB
  have KR := Lib.hid kR
  clear kR
  refine (both_any a b c d _).mono ?_
  rw [HB.out]
  rintro e w2 ⟨rfl, hX⟩
  replace HX := Lib.hid (HX.out.trans hX)
  replace KA := Lib.hid (KA.out.ext hX)
  replace KB := Lib.hid (KB.out.ext hX)
  replace KR := Lib.hid (KR.out.ext hX)
  clear hX
  have cA0 : w2.cell? ⟨w.heap.size, 0, none⟩ = some (.int .i64 a) := KA.out.cell 0
  have cA1 : w2.cell? ⟨w.heap.size, 1, none⟩ = some (.int .i64 b) := KA.out.cell 1
  have cB0 : w2.cell? ⟨(w.heap.size + 1), 0, none⟩ = some (.int .i64 c) := KB.out.cell 0
  have cB1 : w2.cell? ⟨(w.heap.size + 1), 1, none⟩ = some (.int .i64 d) := KB.out.cell 1
  have cR0 : w2.cell? ⟨(w.heap.size + 2), 0, none⟩ = some (.int .i64 0) := KR.out.cell 0
  have fR0 : w2.frozen? ⟨(w.heap.size + 2), 0, none⟩ = false := KR.out.free 0
  have cR1 : w2.cell? ⟨(w.heap.size + 2), 1, none⟩ = some (.int .i64 0) := KR.out.cell 1
  have fR1 : w2.frozen? ⟨(w.heap.size + 2), 1, none⟩ = false := KR.out.free 1
  go_wp2_with fail
  clear cA0 cA1 cB0 cB1 cR0 fR0 cR1 fR1
  refine (span_no _ _ _ h0).mono ?_
  rintro e w3 ⟨rfl, hX⟩
  replace HX := Lib.hid (HX.out.trans hX)
  replace KA := Lib.hid (KA.out.ext hX)
  replace KB := Lib.hid (KB.out.ext hX)
  replace KR := Lib.hid (KR.out.ext hX)
  clear hX
  have cA0 : w3.cell? ⟨w.heap.size, 0, none⟩ = some (.int .i64 a) := KA.out.cell 0
  have cA1 : w3.cell? ⟨w.heap.size, 1, none⟩ = some (.int .i64 b) := KA.out.cell 1
  have cB0 : w3.cell? ⟨(w.heap.size + 1), 0, none⟩ = some (.int .i64 c) := KB.out.cell 0
  have cB1 : w3.cell? ⟨(w.heap.size + 1), 1, none⟩ = some (.int .i64 d) := KB.out.cell 1
  have cR0 : w3.cell? ⟨(w.heap.size + 2), 0, none⟩ = some (.int .i64 0) := KR.out.cell 0
  have fR0 : w3.frozen? ⟨(w.heap.size + 2), 0, none⟩ = false := KR.out.free 0
  have cR1 : w3.cell? ⟨(w.heap.size + 2), 1, none⟩ = some (.int .i64 0) := KR.out.cell 1
  have fR1 : w3.frozen? ⟨(w.heap.size + 2), 1, none⟩ = false := KR.out.free 1
  go_wp2
  refine bodyPost_ret (v := .tuple #[.agg #[.int .i64 (0), .int .i64 (0)], .int .i64 3]) (by simp [results, Try.results54, go_sem, *]) rfl ?_
  exact ⟨rfl, HX.out.two (by omega) _ _⟩

set_option maxRecDepth 100000 in
set_option maxHeartbeats 2000000 in
theorem eminus_ok (a b c d : Int) (w : World) (hab : okS a b = true) (hcd : okS c d = true) (h0 : -1152921504606846976 ≤ a - d) (h1 : b - c ≤ 1152921504606846976) :
    Calls Try.prog 55 #[.agg #[.int .i64 a, .int .i64 b], .agg #[.int .i64 c, .int .i64 d]] w (RetE w (.agg #[.int .i64 (a - d), .int .i64 (b - c)]) 0) := by
  obtain ⟨a0, a1, a2⟩ := okS_in hab
  obtain ⟨c0, c1, c2⟩ := okS_in hcd
  have HB : Hid ((okS a b && okS c d) = true) := by show _ = _; rw [hab, hcd]; rfl
  clear hab hcd
  have hXe : Ext w (((w.alloc (.cells #[.int .i64 a, .int .i64 b] 62)).alloc (.cells #[.int .i64 c, .int .i64 d] 62)).alloc (.cells #[.int .i64 0, .int .i64 0] 62)) := ((((Ext.refl w).alloc _).alloc _).alloc _)
  have kA : Blk (((w.alloc (.cells #[.int .i64 a, .int .i64 b] 62)).alloc (.cells #[.int .i64 c, .int .i64 d] 62)).alloc (.cells #[.int .i64 0, .int .i64 0] 62)) w.heap.size 62 #[.int .i64 a, .int .i64 b] := Blk.alloc (Blk.alloc (Blk.at_ (by simp)) _) _
  have kB : Blk (((w.alloc (.cells #[.int .i64 a, .int .i64 b] 62)).alloc (.cells #[.int .i64 c, .int .i64 d] 62)).alloc (.cells #[.int .i64 0, .int .i64 0] 62)) (w.heap.size + 1) 62 #[.int .i64 c, .int .i64 d] := Blk.alloc (Blk.at_ (by simp)) _
  have kR : Blk (((w.alloc (.cells #[.int .i64 a, .int .i64 b] 62)).alloc (.cells #[.int .i64 c, .int .i64 d] 62)).alloc (.cells #[.int .i64 0, .int .i64 0] 62)) (w.heap.size + 2) 62 #[.int .i64 0, .int .i64 0] := Blk.at_ (by simp)
  go_enter Try.func55, Try.ntmps55
  go_wp2_with fail
  generalize (((w.alloc (.cells #[.int .i64 a, .int .i64 b] 62)).alloc (.cells #[.int .i64 c, .int .i64 d] 62)).alloc (.cells #[.int .i64 0, .int .i64 0] 62)) = w1 at hXe kA kB kR ⊢
  have HX := Lib.hid hXe
  clear hXe
  have KA := Lib.hid kA
  clear kA
  have KB := Lib.hid kB
  clear kB
  have KR := Lib.hid kR
  clear kR
  refine (both_any a b c d _).mono ?_
  rw [HB.out]
  rintro e w2 ⟨rfl, hX⟩
  replace HX := Lib.hid (HX.out.trans hX)
  replace KA := Lib.hid (KA.out.ext hX)
  replace KB := Lib.hid (KB.out.ext hX)
  replace KR := Lib.hid (KR.out.ext hX)
  clear hX
  have cA0 : w2.cell? ⟨w.heap.size, 0, none⟩ = some (.int .i64 a) := KA.out.cell 0
  have cA1 : w2.cell? ⟨w.heap.size, 1, none⟩ = some (.int .i64 b) := KA.out.cell 1
  have cB0 : w2.cell? ⟨(w.heap.size + 1), 0, none⟩ = some (.int .i64 c) := KB.out.cell 0
  have cB1 : w2.cell? ⟨(w.heap.size + 1), 1, none⟩ = some (.int .i64 d) := KB.out.cell 1
  have cR0 : w2.cell? ⟨(w.heap.size + 2), 0, none⟩ = some (.int .i64 0) := KR.out.cell 0
  have fR0 : w2.frozen? ⟨(w.heap.size + 2), 0, none⟩ = false := KR.out.free 0
  have cR1 : w2.cell? ⟨(w.heap.size + 2), 1, none⟩ = some (.int .i64 0) := KR.out.cell 1
  have fR1 : w2.frozen? ⟨(w.heap.size + 2), 1, none⟩ = false := KR.out.free 1
  go_wp2_with fail
  clear cA0 cA1 cB0 cB1 cR0 fR0 cR1 fR1
  refine (span_ok _ _ _ (by omega) (by omega)).mono ?_
  rintro e w3 ⟨rfl, hX⟩
  replace HX := Lib.hid (HX.out.trans hX)
  replace KA := Lib.hid (KA.out.ext hX)
  replace KB := Lib.hid (KB.out.ext hX)
  replace KR := Lib.hid (KR.out.ext hX)
  clear hX
  have cA0 : w3.cell? ⟨w.heap.size, 0, none⟩ = some (.int .i64 a) := KA.out.cell 0
  have cA1 : w3.cell? ⟨w.heap.size, 1, none⟩ = some (.int .i64 b) := KA.out.cell 1
  have cB0 : w3.cell? ⟨(w.heap.size + 1), 0, none⟩ = some (.int .i64 c) := KB.out.cell 0
  have cB1 : w3.cell? ⟨(w.heap.size + 1), 1, none⟩ = some (.int .i64 d) := KB.out.cell 1
  have cR0 : w3.cell? ⟨(w.heap.size + 2), 0, none⟩ = some (.int .i64 0) := KR.out.cell 0
  have fR0 : w3.frozen? ⟨(w.heap.size + 2), 0, none⟩ = false := KR.out.free 0
  have cR1 : w3.cell? ⟨(w.heap.size + 2), 1, none⟩ = some (.int .i64 0) := KR.out.cell 1
  have fR1 : w3.frozen? ⟨(w.heap.size + 2), 1, none⟩ = false := KR.out.free 1
  go_wp2
  refine bodyPost_ret (v := .tuple #[.agg #[.int .i64 (a - d), .int .i64 (b - c)], .int .i64 0]) (by simp [results, Try.results55, go_sem, *]) rfl ?_
  exact ⟨rfl, HX.out.two (by omega) _ _⟩

set_option maxRecDepth 100000 in
set_option maxHeartbeats 2000000 in
theorem eminus_out (a b c d : Int) (w : World) (hab : okS a b = true) (hcd : okS c d = true) (h0 : a - d < -1152921504606846976 ∨ 1152921504606846976 < b - c) :
    Calls Try.prog 55 #[.agg #[.int .i64 a, .int .i64 b], .agg #[.int .i64 c, .int .i64 d]] w (RetE w (.agg #[.int .i64 (0), .int .i64 (0)]) 3) := by
  obtain ⟨a0, a1, a2⟩ := okS_in hab
  obtain ⟨c0, c1, c2⟩ := okS_in hcd
  have HB : Hid ((okS a b && okS c d) = true) := by show _ = _; rw [hab, hcd]; rfl
  clear hab hcd
  have hXe : Ext w (((w.alloc (.cells #[.int .i64 a, .int .i64 b] 62)).alloc (.cells #[.int .i64 c, .int .i64 d] 62)).alloc (.cells #[.int .i64 0, .int .i64 0] 62)) := ((((Ext.refl w).alloc _).alloc _).alloc _)
  have kA : Blk (((w.alloc (.cells #[.int .i64 a, .int .i64 b] 62)).alloc (.cells #[.int .i64 c, .int .i64 d] 62)).alloc (.cells #[.int .i64 0, .int .i64 0] 62)) w.heap.size 62 #[.int .i64 a, .int .i64 b] := Blk.alloc (Blk.alloc (Blk.at_ (by simp)) _) _
  have kB : Blk (((w.alloc (.cells #[.int .i64 a, .int .i64 b] 62)).alloc (.cells #[.int .i64 c, .int .i64 d] 62)).alloc (.cells #[.int .i64 0, .int .i64 0] 62)) (w.heap.size + 1) 62 #[.int .i64 c, .int .i64 d] := Blk.alloc (Blk.at_ (by simp)) _
  have kR : Blk (((w.alloc (.cells #[.int .i64 a, .int .i64 b] 62)).alloc (.cells #[.int .i64 c, .int .i64 d] 62)).alloc (.cells #[.int .i64 0, .int .i64 0] 62)) (w.heap.size + 2) 62 #[.int .i64 0, .int .i64 0] := Blk.at_ (by simp)
  go_enter Try.func55, Try.ntmps55
  go_wp2_with fail
  generalize (((w.alloc (.cells #[.int .i64 a, .int .i64 b] 62)).alloc (.cells #[.int .i64 c, .int .i64 d] 62)).alloc (.cells #[.int .i64 0, .int .i64 0] 62)) = w1 at hXe kA kB kR ⊢
  have HX := Lib.hid hXe
  clear hXe
  have KA := Lib.hid kA
  clear kA
  have KB := Lib.hid kB
  clear kB
  have KR := Lib.hid kR
  clear kR
  refine (both_any a b c d _).mono ?_
  rw [HB.out]
  rintro e w2 ⟨rfl, hX⟩
  replace HX := Lib.hid (HX.out.trans hX)
  replace KA := Lib.hid (KA.out.ext hX)
  replace KB := Lib.hid (KB.out.ext hX)
  replace KR := Lib.hid (KR.out.ext hX)
  clear hX
  have cA0 : w2.cell? ⟨w.heap.size, 0, none⟩ = some (.int .i64 a) := KA.out.cell 0
  have cA1 : w2.cell? ⟨w.heap.size, 1, none⟩ = some (.int .i64 b) := KA.out.cell 1
  have cB0 : w2.cell? ⟨(w.heap.size + 1), 0, none⟩ = some (.int .i64 c) := KB.out.cell 0
  have cB1 : w2.cell? ⟨(w.heap.size + 1), 1, none⟩ = some (.int .i64 d) := KB.out.cell 1
  have cR0 : w2.cell? ⟨(w.heap.size + 2), 0, none⟩ = some (.int .i64 0) := KR.out.cell 0
  have fR0 : w2.frozen? ⟨(w.heap.size + 2), 0, none⟩ = false := KR.out.free 0
  have cR1 : w2.cell? ⟨(w.heap.size + 2), 1, none⟩ = some (.int .i64 0) := KR.out.cell 1
  have fR1 : w2.frozen? ⟨(w.heap.size + 2), 1, none⟩ = false := KR.out.free 1
  go_wp2_with fail
  clear cA0 cA1 cB0 cB1 cR0 fR0 cR1 fR1
  refine (span_no _ _ _ h0).mono ?_
  rintro e w3 ⟨rfl, hX⟩
  replace HX := Lib.hid (HX.out.trans hX)
  replace KA := Lib.hid (KA.out.ext hX)
  replace KB := Lib.hid (KB.out.ext hX)
  replace KR := Lib.hid (KR.out.ext hX)
  clear hX
  have cA0 : w3.cell? ⟨w.heap.size, 0, none⟩ = some (.int .i64 a) := KA.out.cell 0
  have cA1 : w3.cell? ⟨w.heap.size, 1, none⟩ = some (.int .i64 b) := KA.out.cell 1
  have cB0 : w3.cell? ⟨(w.heap.size + 1), 0, none⟩ = some (.int .i64 c) := KB.out.cell 0
  have cB1 : w3.cell? ⟨(w.heap.size + 1), 1, none⟩ = some (.int .i64 d) := KB.out.cell 1
  have cR0 : w3.cell? ⟨(w.heap.size + 2), 0, none⟩ = some (.int .i64 0) := KR.out.cell 0
  have fR0 : w3.frozen? ⟨(w.heap.size + 2), 0, none⟩ = false := KR.out.free 0
  have cR1 : w3.cell? ⟨(w.heap.size + 2), 1, none⟩ = some (.int .i64 0) := KR.out.cell 1
  have fR1 : w3.frozen? ⟨(w.heap.size + 2), 1, none⟩ = false := KR.out.free 1
  go_wp2
  refine bodyPost_ret (v := .tuple #[.agg #[.int .i64 (0), .int .i64 (0)], .int .i64 3]) (by simp [results, Try.results55, go_sem, *]) rfl ?_
  exact ⟨rfl, HX.out.two (by omega) _ _⟩

set_option maxRecDepth 100000 in
set_option maxHeartbeats 2000000 in
theorem egap_bad (a b c d : Int) (w : World) (hn : (okS a b && okS c d) = false) :
    Calls Try.prog 44 #[.agg #[.int .i64 a, .int .i64 b], .agg #[.int .i64 c, .int .i64 d]] w (fun e w' => e = .returned (.tuple #[.int .i64 0, .int .i64 2]) ∧ Ext w w') := by
  have HB := Lib.hid hn
  clear hn
  have hXe : Ext w ((w.alloc (.cells #[.int .i64 a, .int .i64 b] 62)).alloc (.cells #[.int .i64 c, .int .i64 d] 62)) := (((Ext.refl w).alloc _).alloc _)
  have kA : Blk ((w.alloc (.cells #[.int .i64 a, .int .i64 b] 62)).alloc (.cells #[.int .i64 c, .int .i64 d] 62)) w.heap.size 62 #[.int .i64 a, .int .i64 b] := Blk.alloc (Blk.at_ (by simp)) _
  have kB : Blk ((w.alloc (.cells #[.int .i64 a, .int .i64 b] 62)).alloc (.cells #[.int .i64 c, .int .i64 d] 62)) (w.heap.size + 1) 62 #[.int .i64 c, .int .i64 d] := Blk.at_ (by simp)
  go_enter Try.func44, Try.ntmps44
  go_wp2_with fail
  generalize ((w.alloc (.cells #[.int .i64 a, .int .i64 b] 62)).alloc (.cells #[.int .i64 c, .int .i64 d] 62)) = w1 at hXe kA kB ⊢
  have HX := Lib.hid hXe
  clear hXe
  have KA := Lib.hid kA
  clear kA
  have KB := Lib.hid kB
  clear kB
  refine (both_any a b c d _).mono ?_
  rw [HB.out]
  rintro e w2 ⟨rfl, hX⟩
  replace HX := Lib.hid (HX.out.trans hX)
  replace KA := Lib.hid (KA.out.ext hX)
  replace KB := Lib.hid (KB.out.ext hX)
  clear hX
  have cA0 : w2.cell? ⟨w.heap.size, 0, none⟩ = some (.int .i64 a) := KA.out.cell 0
  have cA1 : w2.cell? ⟨w.heap.size, 1, none⟩ = some (.int .i64 b) := KA.out.cell 1
  have cB0 : w2.cell? ⟨(w.heap.size + 1), 0, none⟩ = some (.int .i64 c) := KB.out.cell 0
  have cB1 : w2.cell? ⟨(w.heap.size + 1), 1, none⟩ = some (.int .i64 d) := KB.out.cell 1
  go_wp2
  go_ret2
  exact ⟨rfl, HX.out⟩

set_option maxRecDepth 100000 in
set_option maxHeartbeats 2000000 in
theorem egap_ok (a b c d : Int) (w : World) (hab : okS a b = true) (hcd : okS c d = true) :
    Calls Try.prog 44 #[.agg #[.int .i64 a, .int .i64 b], .agg #[.int .i64 c, .int .i64 d]] w (fun e w' => e = .returned (.tuple #[.int .i64 (max 0 (max (a - d) (c - b))), .int .i64 0]) ∧ Ext w w') := by
  obtain ⟨a0, a1, a2⟩ := okS_in hab
  obtain ⟨c0, c1, c2⟩ := okS_in hcd
  have HB : Hid ((okS a b && okS c d) = true) := by show _ = _; rw [hab, hcd]; rfl
  clear hab hcd
  have hXe : Ext w ((w.alloc (.cells #[.int .i64 a, .int .i64 b] 62)).alloc (.cells #[.int .i64 c, .int .i64 d] 62)) := (((Ext.refl w).alloc _).alloc _)
  have kA : Blk ((w.alloc (.cells #[.int .i64 a, .int .i64 b] 62)).alloc (.cells #[.int .i64 c, .int .i64 d] 62)) w.heap.size 62 #[.int .i64 a, .int .i64 b] := Blk.alloc (Blk.at_ (by simp)) _
  have kB : Blk ((w.alloc (.cells #[.int .i64 a, .int .i64 b] 62)).alloc (.cells #[.int .i64 c, .int .i64 d] 62)) (w.heap.size + 1) 62 #[.int .i64 c, .int .i64 d] := Blk.at_ (by simp)
  go_enter Try.func44, Try.ntmps44
  go_wp2_with fail
  generalize ((w.alloc (.cells #[.int .i64 a, .int .i64 b] 62)).alloc (.cells #[.int .i64 c, .int .i64 d] 62)) = w1 at hXe kA kB ⊢
  have HX := Lib.hid hXe
  clear hXe
  have KA := Lib.hid kA
  clear kA
  have KB := Lib.hid kB
  clear kB
  refine (both_any a b c d _).mono ?_
  rw [HB.out]
  rintro e w2 ⟨rfl, hX⟩
  replace HX := Lib.hid (HX.out.trans hX)
  replace KA := Lib.hid (KA.out.ext hX)
  replace KB := Lib.hid (KB.out.ext hX)
  clear hX
  have cA0 : w2.cell? ⟨w.heap.size, 0, none⟩ = some (.int .i64 a) := KA.out.cell 0
  have cA1 : w2.cell? ⟨w.heap.size, 1, none⟩ = some (.int .i64 b) := KA.out.cell 1
  have cB0 : w2.cell? ⟨(w.heap.size + 1), 0, none⟩ = some (.int .i64 c) := KB.out.cell 0
  have cB1 : w2.cell? ⟨(w.heap.size + 1), 1, none⟩ = some (.int .i64 d) := KB.out.cell 1
  go_wp2
  all_goals
    go_ret2
    exact ⟨ret_ii (by omega) rfl, HX.out⟩

set_option maxRecDepth 100000 in
set_option maxHeartbeats 2000000 in
theorem emeet_bad (a b c d : Int) (w : World) (hn : (okS a b && okS c d) = false) :
    Calls Try.prog 43 #[.agg #[.int .i64 a, .int .i64 b], .agg #[.int .i64 c, .int .i64 d]] w (RetM w (.agg #[.int .i64 (0), .int .i64 (0)]) false 2) := by
  have HB := Lib.hid hn
  clear hn
  have hXe : Ext w (((w.alloc (.cells #[.int .i64 a, .int .i64 b] 62)).alloc (.cells #[.int .i64 c, .int .i64 d] 62)).alloc (.cells #[.int .i64 0, .int .i64 0] 62)) := ((((Ext.refl w).alloc _).alloc _).alloc _)
  have kA : Blk (((w.alloc (.cells #[.int .i64 a, .int .i64 b] 62)).alloc (.cells #[.int .i64 c, .int .i64 d] 62)).alloc (.cells #[.int .i64 0, .int .i64 0] 62)) w.heap.size 62 #[.int .i64 a, .int .i64 b] := Blk.alloc (Blk.alloc (Blk.at_ (by simp)) _) _
  have kB : Blk (((w.alloc (.cells #[.int .i64 a, .int .i64 b] 62)).alloc (.cells #[.int .i64 c, .int .i64 d] 62)).alloc (.cells #[.int .i64 0, .int .i64 0] 62)) (w.heap.size + 1) 62 #[.int .i64 c, .int .i64 d] := Blk.alloc (Blk.at_ (by simp)) _
  have kR : Blk (((w.alloc (.cells #[.int .i64 a, .int .i64 b] 62)).alloc (.cells #[.int .i64 c, .int .i64 d] 62)).alloc (.cells #[.int .i64 0, .int .i64 0] 62)) (w.heap.size + 2) 62 #[.int .i64 0, .int .i64 0] := Blk.at_ (by simp)
  go_enter Try.func43, Try.ntmps43
  go_wp2_with fail
  generalize (((w.alloc (.cells #[.int .i64 a, .int .i64 b] 62)).alloc (.cells #[.int .i64 c, .int .i64 d] 62)).alloc (.cells #[.int .i64 0, .int .i64 0] 62)) = w1 at hXe kA kB kR ⊢
  have HX := Lib.hid hXe
  clear hXe
  have KA := Lib.hid kA
  clear kA
  have KB := Lib.hid kB
  clear kB
  have KR := Lib.hid kR
  clear kR
  refine (both_any a b c d _).mono ?_
  rw [HB.out]
  rintro e w2 ⟨rfl, hX⟩
  replace HX := Lib.hid (HX.out.trans hX)
  replace KA := Lib.hid (KA.out.ext hX)
  replace KB := Lib.hid (KB.out.ext hX)
  replace KR := Lib.hid (KR.out.ext hX)
  clear hX
  have cA0 : w2.cell? ⟨w.heap.size, 0, none⟩ = some (.int .i64 a) := KA.out.cell 0
  have cA1 : w2.cell? ⟨w.heap.size, 1, none⟩ = some (.int .i64 b) := KA.out.cell 1
  have cB0 : w2.cell? ⟨(w.heap.size + 1), 0, none⟩ = some (.int .i64 c) := KB.out.cell 0
  have cB1 : w2.cell? ⟨(w.heap.size + 1), 1, none⟩ = some (.int .i64 d) := KB.out.cell 1
  have cR0 : w2.cell? ⟨(w.heap.size + 2), 0, none⟩ = some (.int .i64 0) := KR.out.cell 0
  have fR0 : w2.frozen? ⟨(w.heap.size + 2), 0, none⟩ = false := KR.out.free 0
  have cR1 : w2.cell? ⟨(w.heap.size + 2), 1, none⟩ = some (.int .i64 0) := KR.out.cell 1
  have fR1 : w2.frozen? ⟨(w.heap.size + 2), 1, none⟩ = false := KR.out.free 1
  go_wp2
  refine bodyPost_ret (v := .tuple #[.agg #[.int .i64 (0), .int .i64 (0)], .bool false, .int .i64 2]) (by simp [results, Try.results43, go_sem, *]) rfl ?_
  exact ⟨rfl, HX.out.two (by omega) _ _⟩

set_option maxRecDepth 100000 in
set_option maxHeartbeats 2000000 in
theorem emeet_ok (a b c d : Int) (w : World) (hab : okS a b = true) (hcd : okS c d = true) (hm : max a c ≤ min b d) :
    Calls Try.prog 43 #[.agg #[.int .i64 a, .int .i64 b], .agg #[.int .i64 c, .int .i64 d]] w (RetM w (.agg #[.int .i64 (max a c), .int .i64 (min b d)]) true 0) := by
  obtain ⟨a0, a1, a2⟩ := okS_in hab
  obtain ⟨c0, c1, c2⟩ := okS_in hcd
  have HB : Hid ((okS a b && okS c d) = true) := by show _ = _; rw [hab, hcd]; rfl
  clear hab hcd
  have hXe : Ext w (((w.alloc (.cells #[.int .i64 a, .int .i64 b] 62)).alloc (.cells #[.int .i64 c, .int .i64 d] 62)).alloc (.cells #[.int .i64 0, .int .i64 0] 62)) := ((((Ext.refl w).alloc _).alloc _).alloc _)
  have kA : Blk (((w.alloc (.cells #[.int .i64 a, .int .i64 b] 62)).alloc (.cells #[.int .i64 c, .int .i64 d] 62)).alloc (.cells #[.int .i64 0, .int .i64 0] 62)) w.heap.size 62 #[.int .i64 a, .int .i64 b] := Blk.alloc (Blk.alloc (Blk.at_ (by simp)) _) _
  have kB : Blk (((w.alloc (.cells #[.int .i64 a, .int .i64 b] 62)).alloc (.cells #[.int .i64 c, .int .i64 d] 62)).alloc (.cells #[.int .i64 0, .int .i64 0] 62)) (w.heap.size + 1) 62 #[.int .i64 c, .int .i64 d] := Blk.alloc (Blk.at_ (by simp)) _
  have kR : Blk (((w.alloc (.cells #[.int .i64 a, .int .i64 b] 62)).alloc (.cells #[.int .i64 c, .int .i64 d] 62)).alloc (.cells #[.int .i64 0, .int .i64 0] 62)) (w.heap.size + 2) 62 #[.int .i64 0, .int .i64 0] := Blk.at_ (by simp)
  go_enter Try.func43, Try.ntmps43
  go_wp2_with fail
  generalize (((w.alloc (.cells #[.int .i64 a, .int .i64 b] 62)).alloc (.cells #[.int .i64 c, .int .i64 d] 62)).alloc (.cells #[.int .i64 0, .int .i64 0] 62)) = w1 at hXe kA kB kR ⊢
  have HX := Lib.hid hXe
  clear hXe
  have KA := Lib.hid kA
  clear kA
  have KB := Lib.hid kB
  clear kB
  have KR := Lib.hid kR
  clear kR
  refine (both_any a b c d _).mono ?_
  rw [HB.out]
  rintro e w2 ⟨rfl, hX⟩
  replace HX := Lib.hid (HX.out.trans hX)
  replace KA := Lib.hid (KA.out.ext hX)
  replace KB := Lib.hid (KB.out.ext hX)
  replace KR := Lib.hid (KR.out.ext hX)
  clear hX
  have cA0 : w2.cell? ⟨w.heap.size, 0, none⟩ = some (.int .i64 a) := KA.out.cell 0
  have cA1 : w2.cell? ⟨w.heap.size, 1, none⟩ = some (.int .i64 b) := KA.out.cell 1
  have cB0 : w2.cell? ⟨(w.heap.size + 1), 0, none⟩ = some (.int .i64 c) := KB.out.cell 0
  have cB1 : w2.cell? ⟨(w.heap.size + 1), 1, none⟩ = some (.int .i64 d) := KB.out.cell 1
  have cR0 : w2.cell? ⟨(w.heap.size + 2), 0, none⟩ = some (.int .i64 0) := KR.out.cell 0
  have fR0 : w2.frozen? ⟨(w.heap.size + 2), 0, none⟩ = false := KR.out.free 0
  have cR1 : w2.cell? ⟨(w.heap.size + 2), 1, none⟩ = some (.int .i64 0) := KR.out.cell 1
  have fR1 : w2.frozen? ⟨(w.heap.size + 2), 1, none⟩ = false := KR.out.free 1
  go_wp2_with fail
  go_quiet (fail)
  go_wp2
  refine bodyPost_ret (v := .tuple #[.agg #[.int .i64 (max a c), .int .i64 (min b d)], .bool true, .int .i64 0]) (by simp [results, Try.results43, go_sem, *]) rfl ?_
  exact ⟨rfl, (HX.out.drewN _).two (by omega) _ _⟩

set_option maxRecDepth 100000 in
set_option maxHeartbeats 2000000 in
theorem emeet_no (a b c d : Int) (w : World) (hab : okS a b = true) (hcd : okS c d = true) (hm : min b d < max a c) :
    Calls Try.prog 43 #[.agg #[.int .i64 a, .int .i64 b], .agg #[.int .i64 c, .int .i64 d]] w (RetM w (.agg #[.int .i64 (0), .int .i64 (0)]) false 0) := by
  obtain ⟨a0, a1, a2⟩ := okS_in hab
  obtain ⟨c0, c1, c2⟩ := okS_in hcd
  have HB : Hid ((okS a b && okS c d) = true) := by show _ = _; rw [hab, hcd]; rfl
  clear hab hcd
  have hXe : Ext w (((w.alloc (.cells #[.int .i64 a, .int .i64 b] 62)).alloc (.cells #[.int .i64 c, .int .i64 d] 62)).alloc (.cells #[.int .i64 0, .int .i64 0] 62)) := ((((Ext.refl w).alloc _).alloc _).alloc _)
  have kA : Blk (((w.alloc (.cells #[.int .i64 a, .int .i64 b] 62)).alloc (.cells #[.int .i64 c, .int .i64 d] 62)).alloc (.cells #[.int .i64 0, .int .i64 0] 62)) w.heap.size 62 #[.int .i64 a, .int .i64 b] := Blk.alloc (Blk.alloc (Blk.at_ (by simp)) _) _
  have kB : Blk (((w.alloc (.cells #[.int .i64 a, .int .i64 b] 62)).alloc (.cells #[.int .i64 c, .int .i64 d] 62)).alloc (.cells #[.int .i64 0, .int .i64 0] 62)) (w.heap.size + 1) 62 #[.int .i64 c, .int .i64 d] := Blk.alloc (Blk.at_ (by simp)) _
  have kR : Blk (((w.alloc (.cells #[.int .i64 a, .int .i64 b] 62)).alloc (.cells #[.int .i64 c, .int .i64 d] 62)).alloc (.cells #[.int .i64 0, .int .i64 0] 62)) (w.heap.size + 2) 62 #[.int .i64 0, .int .i64 0] := Blk.at_ (by simp)
  go_enter Try.func43, Try.ntmps43
  go_wp2_with fail
  generalize (((w.alloc (.cells #[.int .i64 a, .int .i64 b] 62)).alloc (.cells #[.int .i64 c, .int .i64 d] 62)).alloc (.cells #[.int .i64 0, .int .i64 0] 62)) = w1 at hXe kA kB kR ⊢
  have HX := Lib.hid hXe
  clear hXe
  have KA := Lib.hid kA
  clear kA
  have KB := Lib.hid kB
  clear kB
  have KR := Lib.hid kR
  clear kR
  refine (both_any a b c d _).mono ?_
  rw [HB.out]
  rintro e w2 ⟨rfl, hX⟩
  replace HX := Lib.hid (HX.out.trans hX)
  replace KA := Lib.hid (KA.out.ext hX)
  replace KB := Lib.hid (KB.out.ext hX)
  replace KR := Lib.hid (KR.out.ext hX)
  clear hX
  have cA0 : w2.cell? ⟨w.heap.size, 0, none⟩ = some (.int .i64 a) := KA.out.cell 0
  have cA1 : w2.cell? ⟨w.heap.size, 1, none⟩ = some (.int .i64 b) := KA.out.cell 1
  have cB0 : w2.cell? ⟨(w.heap.size + 1), 0, none⟩ = some (.int .i64 c) := KB.out.cell 0
  have cB1 : w2.cell? ⟨(w.heap.size + 1), 1, none⟩ = some (.int .i64 d) := KB.out.cell 1
  have cR0 : w2.cell? ⟨(w.heap.size + 2), 0, none⟩ = some (.int .i64 0) := KR.out.cell 0
  have fR0 : w2.frozen? ⟨(w.heap.size + 2), 0, none⟩ = false := KR.out.free 0
  have cR1 : w2.cell? ⟨(w.heap.size + 2), 1, none⟩ = some (.int .i64 0) := KR.out.cell 1
  have fR1 : w2.frozen? ⟨(w.heap.size + 2), 1, none⟩ = false := KR.out.free 1
  go_wp2_with fail
  go_quiet (fail)
  go_wp2
  refine bodyPost_ret (v := .tuple #[.agg #[.int .i64 (0), .int .i64 (0)], .bool false, .int .i64 0]) (by simp [results, Try.results43, go_sem, *]) rfl ?_
  exact ⟨rfl, (HX.out.drewN _).two (by omega) _ _⟩

end Go.Proofs.Yteoijnaljkagfaa
namespace Go.Proofs.Yteoijnaljkagfaa
open Go.RowKit
theorem ret_ib {a c : Int} {b d : Bool} (h : a = c) (k : b = d) : Ending.returned (.tuple #[.int .i64 a, .bool b]) = .returned (.tuple #[.int .i64 c, .bool d]) := by rw [h, k]
end Go.Proofs.Yteoijnaljkagfaa
namespace Go.Proofs.Yteoijnaljkagfaa
open Go.RowKit

set_option maxHeartbeats 1000000 in
theorem mul64_nat (x y : Nat) (hx : x < 18446744073709551616) (hy : y < 18446744073709551616) (w : World) :
    Calls Try.prog 130 #[.int .u64 x, .int .u64 y] w fun e w' => e = .returned (.tuple #[.int .u64 ((x * y / 18446744073709551616 : Nat) : Int), .int .u64 ((x * y % 18446744073709551616 : Nat) : Int)]) ∧ w' = w := by
  obtain ⟨bd, bt, bw, hhi⟩ := Lib.mul64_hi x y hx hy
  have ba := Lib.half_mul_le (a := x / 4294967296) (b := y / 4294967296) (by omega) (by omega)
  have bb := Lib.half_mul_le (a := x / 4294967296) (b := y % 4294967296) (by omega) (by omega)
  have bc := Lib.half_mul_le (a := x % 4294967296) (b := y / 4294967296) (by omega) (by omega)
  have ba' : x / 4294967296 * (y / 4294967296) < 18446744073709551616 := by omega
  have bb' : x / 4294967296 * (y % 4294967296) < 18446744073709551616 := by omega
  have bc' : x % 4294967296 * (y / 4294967296) < 18446744073709551616 := by omega
  have bh1 : x / 4294967296 * (y / 4294967296) + (x / 4294967296 * (y % 4294967296) + x % 4294967296 * (y % 4294967296) / 4294967296) / 4294967296 < 18446744073709551616 := by omega
  have bh : x / 4294967296 * (y / 4294967296) + (x / 4294967296 * (y % 4294967296) + x % 4294967296 * (y % 4294967296) / 4294967296) / 4294967296 + ((x / 4294967296 * (y % 4294967296) + x % 4294967296 * (y % 4294967296) / 4294967296) % 4294967296 + x % 4294967296 * (y / 4294967296)) / 4294967296 < 18446744073709551616 := by omega
  go_enter Try.func130, Try.ntmps130
  go_wp2
  simp only [Mul64.maskN x hx, Mul64.maskN y hy, Mul64.divN, Mul64.mulN, Mul64.addN, Mul64.wrapN _ bd, Mul64.wrapN _ bb', Mul64.wrapN _ bt, Mul64.maskN _ bt, Mul64.wrapN _ bc', Mul64.wrapN _ bw, Mul64.wrapN _ ba', Mul64.wrapN _ bh1, Mul64.wrapN _ bh, Mul64.wrapM (x * y)]
  rw [hhi]
  go_ret2
  exact ⟨rfl, rfl⟩
theorem mul64_small (X Y : Int) (hX : 0 ≤ X ∧ X ≤ 1152921504606846976) (hY : 0 ≤ Y ∧ Y ≤ 1152921504606846976) (h : X * Y ≤ 1152921504606846976) (w : World) :
    Calls Try.prog 130 #[.int .u64 X, .int .u64 Y] w fun e w' => e = .returned (.tuple #[.int .u64 0, .int .u64 (X * Y)]) ∧ w = w' := by
  have c := mul64_nat X.toNat Y.toNat (by omega) (by omega) w
  have e1 : ((X.toNat : Nat) : Int) = X := by omega
  have e2 : ((Y.toNat : Nat) : Int) = Y := by omega
  have e3 : ((X.toNat * Y.toNat : Nat) : Int) = X * Y := by rw [Int.natCast_mul, e1, e2]
  have e4 : X.toNat * Y.toNat / 18446744073709551616 = 0 := by omega
  have e5 : X.toNat * Y.toNat % 18446744073709551616 = X.toNat * Y.toNat := by omega
  rw [e1, e2, e4, e5, e3] at c
  exact c.mono fun _ _ ⟨h1, h2⟩ => ⟨h1, h2.symm⟩
theorem mul64_big (X Y : Int) (hX : 0 ≤ X ∧ X ≤ 1152921504606846976) (hY : 0 ≤ Y ∧ Y ≤ 1152921504606846976) (h : 1152921504606846976 < X * Y) (w : World) :
    Calls Try.prog 130 #[.int .u64 X, .int .u64 Y] w fun e w' => ∃ hi lo : Int, e = .returned (.tuple #[.int .u64 hi, .int .u64 lo]) ∧ (0 < hi ∨ (hi = 0 ∧ 1152921504606846976 < lo)) ∧ w = w' := by
  have c := mul64_nat X.toNat Y.toNat (by omega) (by omega) w
  have e1 : ((X.toNat : Nat) : Int) = X := by omega
  have e2 : ((Y.toNat : Nat) : Int) = Y := by omega
  have e3 : ((X.toNat * Y.toNat : Nat) : Int) = X * Y := by rw [Int.natCast_mul, e1, e2]
  rw [e1, e2] at c
  refine c.mono fun _ _ ⟨h1, h2⟩ => ⟨_, _, h1, ?_, h2.symm⟩
  omega

/-- A number within a span's limits. -/
def inN (n : Int) : Bool := decide (-1152921504606846976 ≤ n ∧ n ≤ 1152921504606846976)
theorem inN_yes {n : Int} (h : inN n = true) : -1152921504606846976 ≤ n ∧ n ≤ 1152921504606846976 := by simpa [inN] using h
theorem inN_no {n : Int} (h : inN n = false) : n < -1152921504606846976 ∨ 1152921504606846976 < n := by
  simp only [inN, decide_eq_false_iff_not] at h; omega
theorem abs_mul {x y : Int} (hx : x < 0 ∨ 0 ≤ x) (hy : y < 0 ∨ 0 ≤ y) : max x (-x) * max y (-y) = if (x < 0) = (y < 0) then x * y else -(x * y) := by
  rcases hx with hx | hx <;> rcases hy with hy | hy
  · rw [show max x (-x) = -x by omega, show max y (-y) = -y by omega, Int.neg_mul_neg]; simp [hx, hy]
  · rw [show max x (-x) = -x by omega, show max y (-y) = y by omega, Int.neg_mul]; simp [hx, show ¬ y < 0 by omega]
  · rw [show max x (-x) = x by omega, show max y (-y) = -y by omega, Int.mul_neg]; simp [hy, show ¬ x < 0 by omega]
  · rw [show max x (-x) = x by omega, show max y (-y) = y by omega]; simp [show ¬ x < 0 by omega, show ¬ y < 0 by omega]

set_option maxHeartbeats 2000000 in
theorem product_any (x y : Int) (w : World) (x0 : -1152921504606846976 ≤ x) (x1 : x ≤ 1152921504606846976) (y0 : -1152921504606846976 ≤ y) (y1 : y ≤ 1152921504606846976) :
    Calls Try.prog 103 #[.int .i64 x, .int .i64 y] w fun e w' => e = .returned (.tuple #[.int .i64 (bif inN (x * y) then x * y else 0), .bool (inN (x * y))]) ∧ w = w' := by
  have hab := abs_mul (x := x) (y := y) (by omega) (by omega)
  have hX : 0 ≤ max x (-x) ∧ max x (-x) ≤ 1152921504606846976 := by omega
  have hY : 0 ≤ max y (-y) ∧ max y (-y) ≤ 1152921504606846976 := by omega
  have hpos : 0 ≤ max x (-x) * max y (-y) := Int.mul_nonneg hX.1 hY.1
  have HX := Lib.hid hX
  have HY := Lib.hid hY
  obtain ⟨mx0, mx1⟩ := hX
  obtain ⟨my0, my1⟩ := hY
  obtain ⟨pxy, hpxy⟩ : ∃ q, x * y = q := ⟨_, rfl⟩
  rw [hpxy] at hab ⊢
  rcases hN : inN pxy with _ | _
  · have hN' := inN_no hN
    have hbig : 1152921504606846976 < max x (-x) * max y (-y) := by rw [hab]; rw [hab] at hpos; split at hpos <;> simp_all <;> omega
    have HB := Lib.hid hbig
    clear hab hpos hN hN' hpxy hbig
    rcases (show x < 0 ∨ ¬ x < 0 by omega) with hx | hx <;> rcases (show y < 0 ∨ ¬ y < 0 by omega) with hy | hy
    all_goals
      go_enter Try.func103, Try.ntmps103
      go_wp2_with fail
      refine (mul64_big _ _ HX.out HY.out HB.out _).mono ?_
      rintro e _ ⟨hi, lo, rfl, hor, rfl⟩
      rcases hor with hor | ⟨rfl, hor⟩
      all_goals
        go_wp2
        go_ret2
        exact ⟨rfl, rfl⟩
  · have hN' := inN_yes hN
    have hsm : max x (-x) * max y (-y) ≤ 1152921504606846976 := by rw [hab]; split <;> omega
    obtain ⟨n0, n1⟩ := hN'
    have HS := Lib.hid hsm
    rcases (show x < 0 ∨ ¬ x < 0 by omega) with hx | hx <;> rcases (show y < 0 ∨ ¬ y < 0 by omega) with hy | hy
    all_goals
      simp only [hx, hy, if_true, if_false, eq_self, eq_iff_iff, false_iff, iff_false, not_true_eq_false, not_false_eq_true] at hab
      have HAB := Lib.hid hab
      have HQ := Lib.hid hab
      have hp0 : 0 ≤ max x (-x) * max y (-y) := hpos
      clear hab hpos hN hpxy hsm
      go_enter Try.func103, Try.ntmps103
      go_wp2_with fail
      refine (mul64_small _ _ HX.out HY.out HS.out _).mono ?_
      rintro e _ ⟨rfl, rfl⟩
      rw [HAB.out] at hp0 ⊢
      go_wp2
      go_ret2
      exact ⟨ret_ib (by simp) rfl, rfl⟩

/-- The products of the ends. -/
def tp (a b c d : Int) (n : Nat) : Int := if n = 0 then a * c else if n = 1 then a * d else if n = 2 then b * c else b * d
def tlo (a b c d : Int) : Nat → Int
  | 0 => 1152921504606846976
  | n + 1 => min (tlo a b c d n) (tp a b c d n)
def thi (a b c d : Int) : Nat → Int
  | 0 => -1152921504606846976
  | n + 1 => max (thi a b c d n) (tp a b c d n)
def tok (a b c d : Int) : Bool := inN (tp a b c d 0) && inN (tp a b c d 1) && inN (tp a b c d 2) && inN (tp a b c d 3)
def tokN (a b c d : Int) (n : Nat) : Prop := ∀ k, k < n → inN (tp a b c d k) = true
theorem tok_yes {a b c d : Int} (h : tokN a b c d 4) : tok a b c d = true := by
  simp [tok, h 0 (by omega), h 1 (by omega), h 2 (by omega), h 3 (by omega)]
theorem tok_no {a b c d : Int} {n : Nat} (hn : n < 4) (h : inN (tp a b c d n) = false) : tok a b c d = false := by
  rcases (show n = 0 ∨ n = 1 ∨ n = 2 ∨ n = 3 by omega) with rfl | rfl | rfl | rfl <;> simp [tok, h]
theorem tokN_succ {a b c d : Int} {n : Nat} (h : tokN a b c d n) (k : inN (tp a b c d n) = true) : tokN a b c d (n + 1) := fun j hj => by
  rcases (show j < n ∨ j = n by omega) with h1 | rfl
  · exact h j h1
  · exact k
/-- What Times returns. -/
def timesV (a b c d : Int) : Value := bif tok a b c d then .agg #[.int .i64 (tlo a b c d 4), .int .i64 (thi a b c d 4)] else .agg #[.int .i64 0, .int .i64 0]
def timesE (a b c d : Int) : Int := bif tok a b c d then 0 else 3

set_option maxRecDepth 100000 in
set_option maxHeartbeats 2000000 in
theorem times_any (a b c d : Int) (w : World) (hab : okS a b = true) (hcd : okS c d = true) :
    Calls Try.prog 56 #[.agg #[.int .i64 (a), .int .i64 (b)], .agg #[.int .i64 (c), .int .i64 (d)]] w (RetE w (timesV a b c d) (timesE a b c d)) := by
  obtain ⟨a0, a1, a2⟩ := okS_in hab
  obtain ⟨c0, c1, c2⟩ := okS_in hcd
  have HB : Hid ((okS a b && okS c d) = true) := by show _ = _; rw [hab, hcd]; rfl
  clear hab hcd
  have iab0 : ∀ w, (Instr.index 120 (.agg #[.int .i64 a, .int .i64 b]) (.int .i64 0)).run Try.prog w = .ok (.int .i64 a) w := fun _ => by kernel_rfl
  have iab1 : ∀ w, (Instr.index 120 (.agg #[.int .i64 a, .int .i64 b]) (.int .i64 1)).run Try.prog w = .ok (.int .i64 b) w := fun _ => by kernel_rfl
  have icd0 : ∀ w, (Instr.index 120 (.agg #[.int .i64 c, .int .i64 d]) (.int .i64 0)).run Try.prog w = .ok (.int .i64 c) w := fun _ => by kernel_rfl
  have icd1 : ∀ w, (Instr.index 120 (.agg #[.int .i64 c, .int .i64 d]) (.int .i64 1)).run Try.prog w = .ok (.int .i64 d) w := fun _ => by kernel_rfl
  obtain ⟨V, hV⟩ : ∃ V, timesV a b c d = V := ⟨_, rfl⟩
  obtain ⟨Er, hE⟩ : ∃ E, timesE a b c d = E := ⟨_, rfl⟩
  rw [hV, hE]
  have HV := Lib.hid hV
  have HE := Lib.hid hE
  clear hV hE
  have hXe : Ext w (((w.alloc (.cells #[.int .i64 a, .int .i64 b] 62)).alloc (.cells #[.int .i64 c, .int .i64 d] 62)).alloc (.cells #[.int .i64 0, .int .i64 0] 62)) := ((((Ext.refl w).alloc _).alloc _).alloc _)
  have kA : Blk (((w.alloc (.cells #[.int .i64 a, .int .i64 b] 62)).alloc (.cells #[.int .i64 c, .int .i64 d] 62)).alloc (.cells #[.int .i64 0, .int .i64 0] 62)) w.heap.size 62 #[.int .i64 a, .int .i64 b] := Blk.alloc (Blk.alloc (Blk.at_ (by simp)) _) _
  have kB : Blk (((w.alloc (.cells #[.int .i64 a, .int .i64 b] 62)).alloc (.cells #[.int .i64 c, .int .i64 d] 62)).alloc (.cells #[.int .i64 0, .int .i64 0] 62)) (w.heap.size + 1) 62 #[.int .i64 c, .int .i64 d] := Blk.alloc (Blk.at_ (by simp)) _
  have kR : Blk (((w.alloc (.cells #[.int .i64 a, .int .i64 b] 62)).alloc (.cells #[.int .i64 c, .int .i64 d] 62)).alloc (.cells #[.int .i64 0, .int .i64 0] 62)) (w.heap.size + 2) 62 #[.int .i64 0, .int .i64 0] := Blk.at_ (by simp)
  go_enter Try.func56, Try.ntmps56
  go_wp2_with fail
  generalize (((w.alloc (.cells #[.int .i64 a, .int .i64 b] 62)).alloc (.cells #[.int .i64 c, .int .i64 d] 62)).alloc (.cells #[.int .i64 0, .int .i64 0] 62)) = w1 at hXe kA kB kR ⊢
  have HX := Lib.hid hXe
  clear hXe
  have KA := Lib.hid kA
  clear kA
  have KB := Lib.hid kB
  clear kB
  have KR := Lib.hid kR
  clear kR
  refine (both_any a b c d _).mono ?_
  rw [HB.out]
  rintro e w2 ⟨rfl, hX⟩
  replace HX := Lib.hid (HX.out.trans hX)
  replace KA := Lib.hid (KA.out.ext hX)
  replace KB := Lib.hid (KB.out.ext hX)
  replace KR := Lib.hid (KR.out.ext hX)
  clear hX
  have cA0 : w2.cell? ⟨w.heap.size, 0, none⟩ = some (.int .i64 a) := KA.out.cell 0
  have cA1 : w2.cell? ⟨w.heap.size, 1, none⟩ = some (.int .i64 b) := KA.out.cell 1
  have cB0 : w2.cell? ⟨(w.heap.size + 1), 0, none⟩ = some (.int .i64 c) := KB.out.cell 0
  have cB1 : w2.cell? ⟨(w.heap.size + 1), 1, none⟩ = some (.int .i64 d) := KB.out.cell 1
  have cR0 : w2.cell? ⟨(w.heap.size + 2), 0, none⟩ = some (.int .i64 0) := KR.out.cell 0
  have cR1 : w2.cell? ⟨(w.heap.size + 2), 1, none⟩ = some (.int .i64 0) := KR.out.cell 1
  go_upto_region 4 with (fail)
  clear cA0 cA1 cB0 cB1 cR0 cR1
  have hXa : Ext w2 (w2.alloc (.cells #[.int .i64 1152921504606846976, .int .i64 (-1152921504606846976)] 62)) := (Ext.refl _).alloc _
  have kZ := Blk.new w2 62 #[.int .i64 1152921504606846976, .int .i64 (-1152921504606846976)]
  have zA := KA.out.lt
  have zB := KB.out.lt
  have zR := KR.out.lt
  replace HX := Lib.hid (HX.out.trans hXa)
  replace KA := Lib.hid (KA.out.ext hXa)
  replace KB := Lib.hid (KB.out.ext hXa)
  replace KR := Lib.hid (KR.out.ext hXa)
  generalize (w2.alloc (.cells #[.int .i64 1152921504606846976, .int .i64 (-1152921504606846976)] 62)) = w3 at HX KA KB KR kZ ⊢
  have KZ := Lib.hid kZ
  clear kZ hXa
  have cA0 : w3.cell? ⟨w.heap.size, 0, none⟩ = some (.int .i64 a) := KA.out.cell 0
  have cA1 : w3.cell? ⟨w.heap.size, 1, none⟩ = some (.int .i64 b) := KA.out.cell 1
  have cB0 : w3.cell? ⟨(w.heap.size + 1), 0, none⟩ = some (.int .i64 c) := KB.out.cell 0
  have cB1 : w3.cell? ⟨(w.heap.size + 1), 1, none⟩ = some (.int .i64 d) := KB.out.cell 1
  have cR0 : w3.cell? ⟨(w.heap.size + 2), 0, none⟩ = some (.int .i64 0) := KR.out.cell 0
  have cR1 : w3.cell? ⟨(w.heap.size + 2), 1, none⟩ = some (.int .i64 0) := KR.out.cell 1
  have cZ0 : w3.cell? ⟨w2.heap.size, 0, none⟩ = some (.int .i64 1152921504606846976) := KZ.out.cell 0
  have cZ1 : w3.cell? ⟨w2.heap.size, 1, none⟩ = some (.int .i64 (-1152921504606846976)) := KZ.out.cell 1
  have hgz : w.heap.size + 2 < w2.heap.size := by omega
  obtain ⟨gz, hgq⟩ : ∃ g, w2.heap.size = g := ⟨_, rfl⟩
  rw [hgq] at hgz KZ cZ0 cZ1 ⊢
  clear hgq zA zB zR
  go_wp2_with fail
  clear cA0 cA1 cB0 cB1 cR0 cR1 cZ0 cZ1
  go_loopg [24] 2 (fun g' i wr => ∃ k : Nat, g' = 2 - k ∧ k ≤ 2 ∧ i = .int .i64 (k : Int) ∧ Hid (tokN a b c d (2 * k)) ∧ Hid (Blk wr (w.heap.size + 1) 62 #[.int .i64 c, .int .i64 d]) ∧ Hid (Blk wr (w.heap.size + 2) 62 #[.int .i64 0, .int .i64 0]) ∧ Hid (Blk wr gz 62 #[.int .i64 (tlo a b c d (2 * k)), .int .i64 (thi a b c d (2 * k))]) ∧ Hid (Ext w wr))
  case atStart => exact ⟨0, rfl, by omega, rfl, fun k hk => by omega, KB.out, KR.out, KZ.out, HX.out⟩
  case round =>
    clear KA KB KR KZ HX
    obtain ⟨k, rfl, hk, rfl, hT, KB, KR, KZ, HX⟩ := hrel
    rcases (show k = 2 ∨ k = 0 ∨ k = 1 by omega) with rfl | hk01
    · have c0 : wr.cell? ⟨gz, 0, none⟩ = some (.int .i64 (tlo a b c d 4)) := KZ.out.cell 0
      have c1 : wr.cell? ⟨gz, 1, none⟩ = some (.int .i64 (thi a b c d 4)) := KZ.out.cell 1
      have r0 : wr.cell? ⟨w.heap.size + 2, 0, none⟩ = some (.int .i64 0) := KR.out.cell 0
      have r1 : wr.cell? ⟨w.heap.size + 2, 1, none⟩ = some (.int .i64 0) := KR.out.cell 1
      have f0 : wr.frozen? ⟨w.heap.size + 2, 0, none⟩ = false := KR.out.free 0
      have f1 : wr.frozen? ⟨w.heap.size + 2, 1, none⟩ = false := KR.out.free 1
      have ht := tok_yes hT.out
      have hv := HV.out
      have he := HE.out
      simp only [timesV, timesE, ht, cond_true] at hv he
      subst hv he
      clear HV HE ht hT iab0 iab1 icd0 icd1
      generalize tlo a b c d 4 = lo at *
      generalize thi a b c d 4 = hi at *
      go_wp2
      refine bodyPost_ret (v := .tuple #[.agg #[.int .i64 lo, .int .i64 hi], .int .i64 0]) (by simp [results, Try.results56, go_sem, *]) rfl ?_
      exact ⟨rfl, HX.out.two (by omega) _ _⟩
    · obtain ⟨x, hx0, hx1, hxt⟩ : ∃ x : Int, -1152921504606846976 ≤ x ∧ x ≤ 1152921504606846976 ∧ Hid ((∀ w, (Instr.index 120 (.agg #[.int .i64 a, .int .i64 b]) (.int .i64 (k : Int))).run Try.prog w = .ok (.int .i64 x) w) ∧ tp a b c d (2 * k) = x * c ∧ tp a b c d (2 * k + 1) = x * d) := by
        rcases hk01 with rfl | rfl
        · exact ⟨a, by omega, by omega, iab0, by simp [tp], by simp [tp]⟩
        · exact ⟨b, by omega, by omega, iab1, by simp [tp], by simp [tp]⟩
      have ix := hxt.out.1
      have hlt : k < 2 := by omega
      have hkb : decide ((k : Int) < 2) = true := decide_eq_true (by omega)
      have b0 : wr.cell? ⟨w.heap.size + 1, 0, none⟩ = some (.int .i64 c) := KB.out.cell 0
      have b1 : wr.cell? ⟨w.heap.size + 1, 1, none⟩ = some (.int .i64 d) := KB.out.cell 1
      clear iab0 iab1
      go_wp2_with fail
      clear b0 b1
      obtain ⟨wo, rfl⟩ : ∃ wo : World, wo = wr := ⟨_, rfl⟩
      go_loopg [32] 2 (fun g' i wr => ∃ m : Nat, g' = 2 - m ∧ m ≤ 2 ∧ i = .int .i64 (m : Int) ∧ Hid (tokN a b c d (2 * k + m)) ∧ Hid (Blk wr (w.heap.size + 1) 62 #[.int .i64 c, .int .i64 d]) ∧ Hid (Blk wr (w.heap.size + 2) 62 #[.int .i64 0, .int .i64 0]) ∧ Hid (Blk wr gz 62 #[.int .i64 (tlo a b c d (2 * k + m)), .int .i64 (thi a b c d (2 * k + m))]) ∧ Hid (Ext w wr))
      case atStart => exact ⟨0, rfl, by omega, rfl, hT, KB, KR, KZ, HX⟩
      case round =>
        clear hT KB KR KZ HX
        obtain ⟨m, rfl, hm, rfl, hT, KB, KR, KZ, HX⟩ := hrel
        rcases (show m = 2 ∨ m < 2 by omega) with rfl | hm2
        · go_wp2
          go_roundg (2 - (k + 1))
          case rel => exact ⟨k + 1, rfl, by omega, by go_num, hT, KB, KR, KZ, HX⟩
          case measure => omega
        · obtain ⟨y, hy0, hy1, hyt⟩ : ∃ y : Int, -1152921504606846976 ≤ y ∧ y ≤ 1152921504606846976 ∧ Hid ((∀ w, (Instr.index 120 (.agg #[.int .i64 c, .int .i64 d]) (.int .i64 (m : Int))).run Try.prog w = .ok (.int .i64 y) w) ∧ tp a b c d (2 * k + m) = x * y) := by
            rcases (show m = 0 ∨ m = 1 by omega) with rfl | rfl
            · exact ⟨c, by omega, by omega, icd0, hxt.out.2.1⟩
            · exact ⟨d, by omega, by omega, icd1, hxt.out.2.2⟩
          have iy := hyt.out.1
          clear icd0 icd1 ix
          go_wp2_with fail
          refine (product_any x y _ hx0 hx1 hy0 hy1).mono ?_
          rintro e _ ⟨rfl, rfl⟩
          have hp := hyt.out.2
          rw [← hp]
          rcases hN : inN (tp a b c d (2 * k + m)) with _ | _
          · have ht := tok_no (show 2 * k + m < 4 by omega) hN
            have hv := HV.out
            have he := HE.out
            simp only [timesV, timesE, ht, cond_false] at hv he
            subst hv he
            have r0 : wr.cell? ⟨w.heap.size + 2, 0, none⟩ = some (.int .i64 0) := KR.out.cell 0
            have r1 : wr.cell? ⟨w.heap.size + 2, 1, none⟩ = some (.int .i64 0) := KR.out.cell 1
            have f0 : wr.frozen? ⟨w.heap.size + 2, 0, none⟩ = false := KR.out.free 0
            have f1 : wr.frozen? ⟨w.heap.size + 2, 1, none⟩ = false := KR.out.free 1
            clear HV HE ht hp hN hT
            go_wp2
            refine bodyPost_ret (v := .tuple #[.agg #[.int .i64 0, .int .i64 0], .int .i64 3]) (by simp [results, Try.results56, go_sem, *]) rfl ?_
            exact ⟨rfl, HX.out.two (by omega) _ _⟩
          · have HT' := Lib.hid (tokN_succ hT.out hN)
            have hlo : min (tlo a b c d (2 * k + m)) (tp a b c d (2 * k + m)) = tlo a b c d (2 * k + (m + 1)) := rfl
            have hhi : max (thi a b c d (2 * k + m)) (tp a b c d (2 * k + m)) = thi a b c d (2 * k + (m + 1)) := rfl
            have HLO := Lib.hid hlo
            have HHI := Lib.hid hhi
            clear hlo hhi hp hN
            generalize tlo a b c d (2 * k + m) = lo at KZ HLO
            generalize thi a b c d (2 * k + m) = hi at KZ HHI
            generalize tp a b c d (2 * k + m) = pr at HLO HHI ⊢
            have z0 : wr.cell? ⟨gz, 0, none⟩ = some (.int .i64 lo) := KZ.out.cell 0
            have z1 : wr.cell? ⟨gz, 1, none⟩ = some (.int .i64 hi) := KZ.out.cell 1
            have f0 : wr.frozen? ⟨gz, 0, none⟩ = false := KZ.out.free 0
            have f1 : wr.frozen? ⟨gz, 1, none⟩ = false := KZ.out.free 1
            go_wp2
            go_roundg (2 - (m + 1))
            case rel => exact ⟨m + 1, rfl, by omega, by go_num, HT', (KB.out.far (show w.heap.size + 1 ≠ gz by omega) _).far (show w.heap.size + 1 ≠ gz by omega) _, (KR.out.far (show w.heap.size + 2 ≠ gz by omega) _).far (show w.heap.size + 2 ≠ gz by omega) _, by rw [← HLO.out, ← HHI.out]; exact (KZ.out.set 0 _).set 1 _, HX.out.two (by omega) _ _⟩
            case measure => omega

end Go.Proofs.Yteoijnaljkagfaa
