/- Lemmas of the proof that follows (Moves, part 9): walks of functions by contract, and plain lemmas. Conditions: none. -/
import Derived.Test.YtikhlcgnlbinfaaMovesH
namespace Go.Proofs.Ytikhlcgnlbinfaa
open Lib (hid)
open Go.RowKit
theorem fit512' {n : Nat} (h : Fit 65536 n 512) : Fit 4294967296 n 256 := by
 have h2 := h
 rw [show 512 = 2 * 256 from rfl] at h2
 exact fit_double.1 h2
theorem nm_of_low {B : Int} {xs : List Int} (_hB : 1 < B) (hd : Dg B xs) (hne : xs ≠ []) (h : B ^ (xs.length - 1) ≤ val B xs) : Nm xs := by
 rcases List.eq_nil_or_concat xs with e | ⟨ys, x, e⟩
 ·
  exact absurd e hne
 ·
  subst e
  rw [List.concat_eq_append] at *
  by_cases hx : x = 0
  ·
   exfalso
   subst hx
   rw [val_snoc, Int.mul_zero, Int.add_zero] at h
   have h2 := val_lt (B := B) (by omega) (show Dg B ys from fun y hy => hd y (by simp [hy]))
   simp at h
   omega
  ·
   exact Nm.snoc hx
theorem words_step {out xs : List Int} {k : Nat} {x y : Int} (hx : xs[2 * k]? = some x) (hy : xs.getD (2 * k + 1) 0 = y) (hl : out.length = k) (hv : val 4294967296 out = val 65536 (xs.take (2 * k))) :
  val 4294967296 (out ++ [x + y * 65536]) = val 65536 (xs.take (2 * (k + 1))) := by
 rw [val_snoc, hl, hv, show 2 * (k + 1) = 2 * k + 1 + 1 by omega, val_take_next, val_take_next, hy, getD_some hx, Int.pow_succ, pow_double]
 grind
theorem words_end {out xs : List Int} {k n : Nat} (hr : Rep 65536 xs n) (hl : out.length = k) (hk : xs.length ≤ 2 * k) (hk2 : 2 * k ≤ xs.length + 1) (hd : Dg 4294967296 out) (hv : val 4294967296 out = val 65536 (xs.take (2 * k))) : Rep 4294967296 out n := by
 rw [List.take_of_length_le hk, hr.2.2] at hv
 refine ⟨hd, ?_, hv⟩
 by_cases h0 : xs = []
 ·
  subst h0
  have : out = [] := List.eq_nil_of_length_eq_zero (by simp at hk2; omega)
  subst this; exact Nm.nil
 ·
  have hxl : 0 < xs.length := List.length_pos_iff.2 h0
  refine nm_of_low (by omega) hd (by intro e; rw [e] at hl; simp at hl; omega) ?_
  have h1 := nm_low (B := 65536) (by omega) hr.1 hr.2.1 h0
  rw [hr.2.2] at h1
  rw [hv, hl]
  have h2 : (4294967296 : Int) ^ (k - 1) ≤ 65536 ^ (xs.length - 1) := by
   rw [← pow_double]
   exact pow_le (B := 65536) (by omega) (by omega)
  omega
theorem len_512 {xs : List Int} {n : Nat} (hr : Rep 65536 xs n) : xs.length ≤ 512 ↔ FitW n := by
 constructor
 ·
  intro h
  have h1 := (Fit.of_rep (B := 65536) (by omega) hr).mono (by omega) h
  exact ⟨fit512' h1⟩
 ·
  intro h
  have h1 := fit512 h.1
  exact h1.len (by omega) hr
set_option maxRecDepth 100000 in
set_option maxHeartbeats 1000000 in
theorem words_no (va : Value) (n : Nat) (w : World) (ha : Z16 w va n) (hf : ¬ FitW n) :
  Calls Try.prog 190 #[va] w (fun e w' => e = .returned (.tuple #[.slice none 0 0, .bool false]) ∧ Ext w w') := by
 obtain ⟨A, l, c, xs, rfl, hI, hr, hc1, hc2⟩ := ha
 have h := len_512 hr
 rw [hI.1] at h
 have hl : ¬ l ≤ 512 := fun hl => hf (h.1 hl)
 have hl2 : (512 : Int) < (l : Int) := by omega
 clear h hI hr hf
 go_enter Try.func190, Try.ntmps190
 go_wp2
 go_ret2
 exact ⟨rfl, Ext.refl _⟩
set_option maxRecDepth 100000 in
set_option maxHeartbeats 2000000 in
theorem words_yes (va : Value) (n : Nat) (w : World) (ha : Z16 w va n) (hf : FitW n) :
  Calls Try.prog 190 #[va] w (fun e w' => ∃ v, e = .returned (.tuple #[v, .bool true]) ∧ W32 w' v n ∧ Ext w w') := by
 obtain ⟨A, l, c, xs, rfl, hI, hr, hc1, hc2⟩ := ha
 have h := len_512 hr
 rw [hI.1] at h
 have hl : l ≤ 512 := h.2 hf
 have hl2 : ¬ (512 : Int) < (l : Int) := by omega
 have H := hid hI
 have HL : Hid (xs.length = l) := hI.1
 have HR := hid hr
 clear h hI hr hf
 go_enter Try.func190, Try.ntmps190
 go_wp2
 go_loopg [4, 5] (l + 2) (fun g s4 s5 wr => ∃ (k t : Nat) (out : List Int), g = l + 2 - t ∧ Hid (t = 2 * k) ∧ t ≤ l + 1 ∧ s5 = .int .i64 (t : Int) ∧ Hid (wr.ownsRow w.heap.size 129 1 s4 k (out.map (.int .u32))) ∧ Hid (Dg 4294967296 out) ∧ Hid (out.length = k) ∧ Hid (val 4294967296 out = val 65536 (xs.take (2 * k))) ∧ Hid (Ext w wr))
 case atStart => exact ⟨0, 0, [], rfl, rfl, by omega, rfl, World.ownsRow_nil _ _ _ _, Dg.nil, rfl, rfl, Ext.refl w⟩
 case round =>
  obtain ⟨k, t, out, rfl, HT, hk, rfl, HO, HD, HLO, HI, HX⟩ := hrel
  obtain ⟨A2, c2, rfl⟩ := own_slice HO.out
  by_cases hlt : t < l
  ·
   have hkl : (t : Int) < (l : Int) := by omega
   have hk0 : (0 : Int) ≤ (t : Int) := by omega
   obtain ⟨bw, ow, x, rfl, hx, hwf, hc⟩ := (H.out.ext HX.out).get (j := t) (by omega)
   obtain ⟨hx0, hx1⟩ := HR.out.1.get hx
   have hw1 : IntKind.u32.wrap x = x := by rw [IntKind.wrap_u32]; omega
   have hown := HO.out
   have hkb : k ≤ 512 := by have := HT.out; omega
   rw [HT.out] at hx
   have HXX := hid hx
   clear hx hwf
   by_cases hod : t + 1 < l
   ·
    have hkl1 : (t : Int) + 1 < (l : Int) := by omega
    obtain ⟨bw', ow', y, hA, hy, hwf', hd⟩ := (H.out.ext HX.out).get (j := t + 1) (by omega)
    injection hA with hA
    injection hA with e1 e2
    subst e1 e2
    obtain ⟨hy0, hy1⟩ := HR.out.1.get hy
    have hw2 : IntKind.u32.wrap y = y := by rw [IntKind.wrap_u32]; omega
    have hw3 : IntKind.u32.wrap (y * 65536) = y * 65536 := by rw [IntKind.wrap_u32]; omega
    have hw4 : IntKind.u32.wrap (x + y * 65536) = x + y * 65536 := by rw [IntKind.wrap_u32]; omega
    have hk1 : (0 : Int) ≤ (t : Int) + 1 := by omega
    rw [HT.out] at hy
    have HST := hid (words_step HXX.out (getD_some hy) HLO.out HI.out)
    have HDD := hid (HD.out.append (Dg.one (B := 4294967296) (x := x + y * 65536) (by omega)))
    clear hy hwf'
    go_wp2_with (at_builtin; refine wpList_app _ elU rfl _ _ rfl w.heap.size _ k _ rfl (hown.alloc _) _ 1 1 [.int .u32 (x + y * 65536)] rfl rfl (At.new _ [_] _) (by simp [Value.oneCell']) (by omega) (by unfold maxLen; omega) (by have := HX.out.size; simp; omega) ?_; intro v1 w1 hown1 hgr1 _; have HO1 := hid hown1; have HX1 := hid (Ext.push HX.out HO.out hgr1); clear hown1 hgr1)
    go_roundg (l + 2 - (t + 2))
    case rel => exact ⟨k + 1, t + 2, out ++ [x + y * 65536], rfl, (by have := HT.out; show _ = _; omega), by omega, by go_num, by rw [List.map_append]; exact HO1.out, HDD.out, by rw [List.length_append, HLO.out]; rfl, HST.out, HX1.out⟩
    case measure => omega
   ·
    have hkl1 : ¬ (t : Int) + 1 < (l : Int) := by omega
    have hy : xs.getD (2 * k + 1) 0 = 0 := getD_none (by rw [HL.out]; have := HT.out; omega)
    have HST := hid (words_step HXX.out hy HLO.out HI.out)
    rw [Int.zero_mul, Int.add_zero] at HST
    have HDD := hid (HD.out.append (Dg.one (B := 4294967296) (x := x) (by omega)))
    clear hy
    go_wp2_with (at_builtin; refine wpList_app _ elU rfl _ _ rfl w.heap.size _ k _ rfl (hown.alloc _) _ 1 1 [.int .u32 x] rfl rfl (At.new _ [_] _) (by simp [Value.oneCell']) (by omega) (by unfold maxLen; omega) (by have := HX.out.size; simp; omega) ?_; intro v1 w1 hown1 hgr1 _; have HO1 := hid hown1; have HX1 := hid (Ext.push HX.out HO.out hgr1); clear hown1 hgr1)
    go_roundg (l + 2 - (t + 2))
    case rel => exact ⟨k + 1, t + 2, out ++ [x], rfl, (by have := HT.out; show _ = _; omega), by omega, by go_num, by rw [List.map_append]; exact HO1.out, HDD.out, by rw [List.length_append, HLO.out]; rfl, HST.out, HX1.out⟩
    case measure => omega
  ·
   have hkl : ¬ (t : Int) < (l : Int) := by omega
   have HOS : Hid (OwnS .u32 129 w.heap.size wr A2 k c2 out) := ⟨HO.out, HLO.out, fun x hx => wf32 (HD.out x hx)⟩
   have HE : Hid (Rep 4294967296 out n) := words_end HR.out HLO.out (by rw [HL.out]; have := HT.out; omega) (by rw [HL.out]; have := HT.out; omega) HD.out HI.out
   go_wp2
   go_ret2
   exact ⟨_, rfl, HOS.out.natv HE.out, HX.out⟩
theorem words_b (b : Bool) (va : Value) (n : Nat) (w : World) (ha : Z16 w va n) (hf : b = true ↔ FitW n) :
  Calls Try.prog 190 #[va] w (fun e w' => ∃ v, e = .returned (.tuple #[v, .bool b]) ∧ (b = true → W32 w' v n) ∧ Ext w w') := by
 cases b
 ·
  refine (words_no va n w ha (fun h => by have := hf.2 h; cases this)).mono ?_
  rintro e w' ⟨rfl, hX⟩
  exact ⟨_, rfl, (fun h => by cases h), hX⟩
 ·
  refine (words_yes va n w ha (hf.1 rfl)).mono ?_
  rintro e w' ⟨v, rfl, hz, hX⟩
  exact ⟨v, rfl, fun _ => hz, hX⟩
theorem den16_one {w : World} {A : Option Addr} {l c d : Nat} (h : Z16 w (.slice A l c) d) (hd : d = 1) : l = 1 ∧ ∃ b o x, A = some ⟨b, o, none⟩ ∧ w.cell? ⟨b, o, none⟩ = some (.int .i64 x) ∧ (x == 1) = true := by
 obtain ⟨A', l', c', xs, e, hI, hr, hc⟩ := h
 injection e with e1 e2 e3
 subst e1 e2 e3
 obtain rfl : xs = [1] := by rw [hd] at hr; exact hr.unique (by omega) (Rep.one (by omega))
 obtain rfl : l = 1 := by simpa using hI.1.symm
 obtain ⟨b, o, y, rfl, hy, _, hcy⟩ := hI.get (j := 0) (by omega)
 obtain rfl : 1 = y := by simpa using hy
 exact ⟨rfl, b, o, 1, rfl, by simpa using hcy, by simp⟩
theorem den16_ne {w : World} {A : Option Addr} {l c d : Nat} (h : Z16 w (.slice A l c) d) (hl : l = 1) (_hd : d ≠ 1) : ∃ b o x, A = some ⟨b, o, none⟩ ∧ w.cell? ⟨b, o, none⟩ = some (.int .i64 x) ∧ (x == 1) = false := by
 obtain ⟨A', l', c', xs, e, hI, hr, hc⟩ := h
 injection e with e1 e2 e3
 subst e1 e2 e3 hl
 obtain ⟨y, rfl⟩ : ∃ y, xs = [y] := List.length_eq_one_iff.1 hI.1
 obtain ⟨b, o, x, rfl, hx, _, hcx⟩ := hI.get (j := 0) (by omega)
 obtain rfl : y = x := by simpa using hx
 obtain ⟨h1, h2⟩ := hr.single (by omega)
 refine ⟨b, o, y, rfl, by simpa using hcx, ?_⟩
 simp only [beq_eq_false_iff_ne, ne_eq]
 omega
set_option maxRecDepth 100000 in
set_option maxHeartbeats 2000000 in
theorem rout_one (s0 : Bool) (A0 B0 : Option Addr) (l0 c0 m0 k0 : Nat) (n d : Nat) (w : World) (hI : Z16 w (.slice A0 l0 c0) n) (hJ : Z16 w (.slice B0 m0 k0) d) (ha : FitW n) (hb : FitW d) (hd : d = 1) :
  Calls Try.prog 139 #[.agg #[.bool s0, .slice A0 l0 c0, .slice B0 m0 k0]] w (fun e w' => ∃ A9 l9 c9 B9 m9 k9, e = .returned (.tuple #[.agg #[.bool s0, .slice A9 l9 c9, .slice B9 m9 k9], .int .i64 0]) ∧ W32 w' (.slice A9 l9 c9) n ∧ (B9 = none ∧ m9 = 0 ∧ k9 = 0) ∧ Ext w w') := by
 have H0 := hid ha
 have H1 := hid hb
 clear ha hb
 have HI := hid hI
 have HJ := hid hJ
 obtain ⟨hm, b1, o1, x1, hB, hc1, hx1⟩ := den16_one hJ hd
 subst hB
 subst hm
 clear hI hJ
 have hXe : Ext w ((w.alloc (.cells #[.bool s0, .slice A0 l0 c0, .slice (some ⟨b1, o1, none⟩) 1 k0] 65)).alloc (.cells #[.bool false, .slice none 0 0, .slice none 0 0] 97)) := (((Ext.refl w).alloc _).alloc _)
 have kA : Blk ((w.alloc (.cells #[.bool s0, .slice A0 l0 c0, .slice (some ⟨b1, o1, none⟩) 1 k0] 65)).alloc (.cells #[.bool false, .slice none 0 0, .slice none 0 0] 97)) w.heap.size 65 #[.bool s0, .slice A0 l0 c0, .slice (some ⟨b1, o1, none⟩) 1 k0] := Blk.alloc (Blk.at_ (by simp)) _
 have kR : Blk ((w.alloc (.cells #[.bool s0, .slice A0 l0 c0, .slice (some ⟨b1, o1, none⟩) 1 k0] 65)).alloc (.cells #[.bool false, .slice none 0 0, .slice none 0 0] 97)) (w.heap.size + 1) 97 #[.bool false, .slice none 0 0, .slice none 0 0] := Blk.at_ (by simp)
 go_enter Try.func139, Try.ntmps139
 go_wp2_with fail
 generalize ((w.alloc (.cells #[.bool s0, .slice A0 l0 c0, .slice (some ⟨b1, o1, none⟩) 1 k0] 65)).alloc (.cells #[.bool false, .slice none 0 0, .slice none 0 0] 97)) = w1 at hXe kA kR ⊢
 have HX := hid hXe
 clear hXe
 have KA := hid kA
 clear kA
 have KR := hid kR
 clear kR
 replace HI := hid (HI.out.ext HX.out)
 replace HJ := hid (HJ.out.ext HX.out)
 have hc0 := hc1
 clear hc1
 have cA0 : w1.cell? ⟨w.heap.size, 0, none⟩ = some (.bool s0) := KA.out.cell 0
 have cA1 : w1.cell? ⟨w.heap.size, 1, none⟩ = some (.slice A0 l0 c0) := KA.out.cell 1
 have cA2 : w1.cell? ⟨w.heap.size, 2, none⟩ = some (.slice (some ⟨b1, o1, none⟩) 1 k0) := KA.out.cell 2
 go_wp2_with fail
 clear cA0 cA1 cA2
 refine (words_b true _ n _ HI.out ⟨fun _ => H0.out, fun _ => rfl⟩).mono ?_
 rintro e w2 ⟨v7, rfl, h7, hX⟩
 replace hX : Ext w1 w2 := by with_reducible exact hX
 replace HX := hid (HX.out.trans hX)
 replace HI := hid (HI.out.ext hX)
 replace HJ := hid (HJ.out.ext hX)
 replace KA := hid (KA.out.ext hX)
 replace KR := hid (KR.out.ext hX)
 clear hX
 have HV7 : Hid (W32 w2 v7 n) := h7 rfl
 clear h7
 have cA0 : w2.cell? ⟨w.heap.size, 0, none⟩ = some (.bool s0) := KA.out.cell 0
 have cA1 : w2.cell? ⟨w.heap.size, 1, none⟩ = some (.slice A0 l0 c0) := KA.out.cell 1
 have cA2 : w2.cell? ⟨w.heap.size, 2, none⟩ = some (.slice (some ⟨b1, o1, none⟩) 1 k0) := KA.out.cell 2
 go_wp2_with fail
 clear cA0 cA1 cA2
 refine (words_b true _ d _ HJ.out ⟨fun _ => H1.out, fun _ => rfl⟩).mono ?_
 rintro e w3 ⟨v8, rfl, h8, hX⟩
 replace hX : Ext w2 w3 := by with_reducible exact hX
 replace HX := hid (HX.out.trans hX)
 replace HI := hid (HI.out.ext hX)
 replace HJ := hid (HJ.out.ext hX)
 replace HV7 := hid (HV7.out.ext hX)
 replace KA := hid (KA.out.ext hX)
 replace KR := hid (KR.out.ext hX)
 clear hX
 have HV8 := hid (h8 rfl)
 clear h8
 obtain ⟨A7, l7, c7, rfl, hv7, _⟩ := W32.open HV7.out
 obtain ⟨A8, l8, c8, rfl, hv8, _⟩ := W32.open HV8.out
 clear HV7 HV8
 have HU7 := hid (W32.boxed hv7 (NoInts.three KR.out) s0 A7 none l7 c7 0 0)
 have HU8 := hid (W32.boxed hv8 (NoInts.three KR.out) s0 A7 none l7 c7 0 0)
 clear hv7 hv8
 have hc2 := HX.out.cell hc0
 clear hc0
 have cA0 : w3.cell? ⟨w.heap.size, 0, none⟩ = some (.bool s0) := KA.out.cell 0
 have cA1 : w3.cell? ⟨w.heap.size, 1, none⟩ = some (.slice A0 l0 c0) := KA.out.cell 1
 have cA2 : w3.cell? ⟨w.heap.size, 2, none⟩ = some (.slice (some ⟨b1, o1, none⟩) 1 k0) := KA.out.cell 2
 have cR0 : w3.cell? ⟨(w.heap.size + 1), 0, none⟩ = some (.bool false) := KR.out.cell 0
 have fR0 : w3.frozen? ⟨(w.heap.size + 1), 0, none⟩ = false := KR.out.free 0
 have cR1 : w3.cell? ⟨(w.heap.size + 1), 1, none⟩ = some (.slice none 0 0) := KR.out.cell 1
 have fR1 : w3.frozen? ⟨(w.heap.size + 1), 1, none⟩ = false := KR.out.free 1
 have cR2 : w3.cell? ⟨(w.heap.size + 1), 2, none⟩ = some (.slice none 0 0) := KR.out.cell 2
 have fR2 : w3.frozen? ⟨(w.heap.size + 1), 2, none⟩ = false := KR.out.free 2
 go_wp2
 refine bodyPost_ret (v := .tuple #[.agg #[.bool s0, .slice A7 l7 c7, .slice none 0 0], .int .i64 0]) (by simp [results, Try.results139, go_sem, *]) rfl ?_
 exact ⟨_, _, _, _, _, _, rfl, HU7.out, ⟨rfl, rfl, rfl⟩, Ext.boxed HX.out (by omega) _ _ _⟩
set_option maxRecDepth 100000 in
set_option maxHeartbeats 2000000 in
theorem rout_len (s0 : Bool) (A0 B0 : Option Addr) (l0 c0 m0 k0 : Nat) (n d : Nat) (w : World) (hI : Z16 w (.slice A0 l0 c0) n) (hJ : Z16 w (.slice B0 m0 k0) d) (ha : FitW n) (hb : FitW d) (hd : m0 ≠ 1) :
  Calls Try.prog 139 #[.agg #[.bool s0, .slice A0 l0 c0, .slice B0 m0 k0]] w (fun e w' => ∃ A9 l9 c9 B9 m9 k9, e = .returned (.tuple #[.agg #[.bool s0, .slice A9 l9 c9, .slice B9 m9 k9], .int .i64 0]) ∧ W32 w' (.slice A9 l9 c9) n ∧ W32 w' (.slice B9 m9 k9) d ∧ Ext w w') := by
 have H0 := hid ha
 have H1 := hid hb
 clear ha hb
 have hb1 : ((m0 : Int) == 1) = false := by simp; omega
 clear hd
 have HI := hid hI
 have HJ := hid hJ
 clear hI hJ
 have hXe : Ext w ((w.alloc (.cells #[.bool s0, .slice A0 l0 c0, .slice B0 m0 k0] 65)).alloc (.cells #[.bool false, .slice none 0 0, .slice none 0 0] 97)) := (((Ext.refl w).alloc _).alloc _)
 have kA : Blk ((w.alloc (.cells #[.bool s0, .slice A0 l0 c0, .slice B0 m0 k0] 65)).alloc (.cells #[.bool false, .slice none 0 0, .slice none 0 0] 97)) w.heap.size 65 #[.bool s0, .slice A0 l0 c0, .slice B0 m0 k0] := Blk.alloc (Blk.at_ (by simp)) _
 have kR : Blk ((w.alloc (.cells #[.bool s0, .slice A0 l0 c0, .slice B0 m0 k0] 65)).alloc (.cells #[.bool false, .slice none 0 0, .slice none 0 0] 97)) (w.heap.size + 1) 97 #[.bool false, .slice none 0 0, .slice none 0 0] := Blk.at_ (by simp)
 go_enter Try.func139, Try.ntmps139
 go_wp2_with fail
 generalize ((w.alloc (.cells #[.bool s0, .slice A0 l0 c0, .slice B0 m0 k0] 65)).alloc (.cells #[.bool false, .slice none 0 0, .slice none 0 0] 97)) = w1 at hXe kA kR ⊢
 have HX := hid hXe
 clear hXe
 have KA := hid kA
 clear kA
 have KR := hid kR
 clear kR
 replace HI := hid (HI.out.ext HX.out)
 replace HJ := hid (HJ.out.ext HX.out)
 have cA0 : w1.cell? ⟨w.heap.size, 0, none⟩ = some (.bool s0) := KA.out.cell 0
 have cA1 : w1.cell? ⟨w.heap.size, 1, none⟩ = some (.slice A0 l0 c0) := KA.out.cell 1
 have cA2 : w1.cell? ⟨w.heap.size, 2, none⟩ = some (.slice B0 m0 k0) := KA.out.cell 2
 go_wp2_with fail
 clear cA0 cA1 cA2
 refine (words_b true _ n _ HI.out ⟨fun _ => H0.out, fun _ => rfl⟩).mono ?_
 rintro e w2 ⟨v7, rfl, h7, hX⟩
 replace hX : Ext w1 w2 := by with_reducible exact hX
 replace HX := hid (HX.out.trans hX)
 replace HI := hid (HI.out.ext hX)
 replace HJ := hid (HJ.out.ext hX)
 replace KA := hid (KA.out.ext hX)
 replace KR := hid (KR.out.ext hX)
 clear hX
 have HV7 : Hid (W32 w2 v7 n) := h7 rfl
 clear h7
 have cA0 : w2.cell? ⟨w.heap.size, 0, none⟩ = some (.bool s0) := KA.out.cell 0
 have cA1 : w2.cell? ⟨w.heap.size, 1, none⟩ = some (.slice A0 l0 c0) := KA.out.cell 1
 have cA2 : w2.cell? ⟨w.heap.size, 2, none⟩ = some (.slice B0 m0 k0) := KA.out.cell 2
 go_wp2_with fail
 clear cA0 cA1 cA2
 refine (words_b true _ d _ HJ.out ⟨fun _ => H1.out, fun _ => rfl⟩).mono ?_
 rintro e w3 ⟨v8, rfl, h8, hX⟩
 replace hX : Ext w2 w3 := by with_reducible exact hX
 replace HX := hid (HX.out.trans hX)
 replace HI := hid (HI.out.ext hX)
 replace HJ := hid (HJ.out.ext hX)
 replace HV7 := hid (HV7.out.ext hX)
 replace KA := hid (KA.out.ext hX)
 replace KR := hid (KR.out.ext hX)
 clear hX
 have HV8 := hid (h8 rfl)
 clear h8
 obtain ⟨A7, l7, c7, rfl, hv7, _⟩ := W32.open HV7.out
 obtain ⟨A8, l8, c8, rfl, hv8, _⟩ := W32.open HV8.out
 clear HV7 HV8
 have HU7 := hid (W32.boxed hv7 (NoInts.three KR.out) s0 A7 A8 l7 c7 l8 c8)
 have HU8 := hid (W32.boxed hv8 (NoInts.three KR.out) s0 A7 A8 l7 c7 l8 c8)
 clear hv7 hv8
 have cA0 : w3.cell? ⟨w.heap.size, 0, none⟩ = some (.bool s0) := KA.out.cell 0
 have cA1 : w3.cell? ⟨w.heap.size, 1, none⟩ = some (.slice A0 l0 c0) := KA.out.cell 1
 have cA2 : w3.cell? ⟨w.heap.size, 2, none⟩ = some (.slice B0 m0 k0) := KA.out.cell 2
 have cR0 : w3.cell? ⟨(w.heap.size + 1), 0, none⟩ = some (.bool false) := KR.out.cell 0
 have fR0 : w3.frozen? ⟨(w.heap.size + 1), 0, none⟩ = false := KR.out.free 0
 have cR1 : w3.cell? ⟨(w.heap.size + 1), 1, none⟩ = some (.slice none 0 0) := KR.out.cell 1
 have fR1 : w3.frozen? ⟨(w.heap.size + 1), 1, none⟩ = false := KR.out.free 1
 have cR2 : w3.cell? ⟨(w.heap.size + 1), 2, none⟩ = some (.slice none 0 0) := KR.out.cell 2
 have fR2 : w3.frozen? ⟨(w.heap.size + 1), 2, none⟩ = false := KR.out.free 2
 go_wp2
 refine bodyPost_ret (v := .tuple #[.agg #[.bool s0, .slice A7 l7 c7, .slice A8 l8 c8], .int .i64 0]) (by simp [results, Try.results139, go_sem, *]) rfl ?_
 exact ⟨_, _, _, _, _, _, rfl, HU7.out, HU8.out, Ext.boxed HX.out (by omega) _ _ _⟩
set_option maxRecDepth 100000 in
set_option maxHeartbeats 2000000 in
theorem rout_den (s0 : Bool) (A0 B0 : Option Addr) (l0 c0 m0 k0 : Nat) (n d : Nat) (w : World) (hI : Z16 w (.slice A0 l0 c0) n) (hJ : Z16 w (.slice B0 m0 k0) d) (ha : FitW n) (hb : FitW d) (hm : m0 = 1) (hd : d ≠ 1) :
  Calls Try.prog 139 #[.agg #[.bool s0, .slice A0 l0 c0, .slice B0 m0 k0]] w (fun e w' => ∃ A9 l9 c9 B9 m9 k9, e = .returned (.tuple #[.agg #[.bool s0, .slice A9 l9 c9, .slice B9 m9 k9], .int .i64 0]) ∧ W32 w' (.slice A9 l9 c9) n ∧ W32 w' (.slice B9 m9 k9) d ∧ Ext w w') := by
 have H0 := hid ha
 have H1 := hid hb
 clear ha hb
 have HI := hid hI
 have HJ := hid hJ
 obtain ⟨b1, o1, x1, hB, hc1, hx1⟩ := den16_ne hJ hm hd
 subst hB
 subst hm
 clear hI hJ
 have hXe : Ext w ((w.alloc (.cells #[.bool s0, .slice A0 l0 c0, .slice (some ⟨b1, o1, none⟩) 1 k0] 65)).alloc (.cells #[.bool false, .slice none 0 0, .slice none 0 0] 97)) := (((Ext.refl w).alloc _).alloc _)
 have kA : Blk ((w.alloc (.cells #[.bool s0, .slice A0 l0 c0, .slice (some ⟨b1, o1, none⟩) 1 k0] 65)).alloc (.cells #[.bool false, .slice none 0 0, .slice none 0 0] 97)) w.heap.size 65 #[.bool s0, .slice A0 l0 c0, .slice (some ⟨b1, o1, none⟩) 1 k0] := Blk.alloc (Blk.at_ (by simp)) _
 have kR : Blk ((w.alloc (.cells #[.bool s0, .slice A0 l0 c0, .slice (some ⟨b1, o1, none⟩) 1 k0] 65)).alloc (.cells #[.bool false, .slice none 0 0, .slice none 0 0] 97)) (w.heap.size + 1) 97 #[.bool false, .slice none 0 0, .slice none 0 0] := Blk.at_ (by simp)
 go_enter Try.func139, Try.ntmps139
 go_wp2_with fail
 generalize ((w.alloc (.cells #[.bool s0, .slice A0 l0 c0, .slice (some ⟨b1, o1, none⟩) 1 k0] 65)).alloc (.cells #[.bool false, .slice none 0 0, .slice none 0 0] 97)) = w1 at hXe kA kR ⊢
 have HX := hid hXe
 clear hXe
 have KA := hid kA
 clear kA
 have KR := hid kR
 clear kR
 replace HI := hid (HI.out.ext HX.out)
 replace HJ := hid (HJ.out.ext HX.out)
 have hc0 := hc1
 clear hc1
 have cA0 : w1.cell? ⟨w.heap.size, 0, none⟩ = some (.bool s0) := KA.out.cell 0
 have cA1 : w1.cell? ⟨w.heap.size, 1, none⟩ = some (.slice A0 l0 c0) := KA.out.cell 1
 have cA2 : w1.cell? ⟨w.heap.size, 2, none⟩ = some (.slice (some ⟨b1, o1, none⟩) 1 k0) := KA.out.cell 2
 go_wp2_with fail
 clear cA0 cA1 cA2
 refine (words_b true _ n _ HI.out ⟨fun _ => H0.out, fun _ => rfl⟩).mono ?_
 rintro e w2 ⟨v7, rfl, h7, hX⟩
 replace hX : Ext w1 w2 := by with_reducible exact hX
 replace HX := hid (HX.out.trans hX)
 replace HI := hid (HI.out.ext hX)
 replace HJ := hid (HJ.out.ext hX)
 replace KA := hid (KA.out.ext hX)
 replace KR := hid (KR.out.ext hX)
 clear hX
 have HV7 : Hid (W32 w2 v7 n) := h7 rfl
 clear h7
 have cA0 : w2.cell? ⟨w.heap.size, 0, none⟩ = some (.bool s0) := KA.out.cell 0
 have cA1 : w2.cell? ⟨w.heap.size, 1, none⟩ = some (.slice A0 l0 c0) := KA.out.cell 1
 have cA2 : w2.cell? ⟨w.heap.size, 2, none⟩ = some (.slice (some ⟨b1, o1, none⟩) 1 k0) := KA.out.cell 2
 go_wp2_with fail
 clear cA0 cA1 cA2
 refine (words_b true _ d _ HJ.out ⟨fun _ => H1.out, fun _ => rfl⟩).mono ?_
 rintro e w3 ⟨v8, rfl, h8, hX⟩
 replace hX : Ext w2 w3 := by with_reducible exact hX
 replace HX := hid (HX.out.trans hX)
 replace HI := hid (HI.out.ext hX)
 replace HJ := hid (HJ.out.ext hX)
 replace HV7 := hid (HV7.out.ext hX)
 replace KA := hid (KA.out.ext hX)
 replace KR := hid (KR.out.ext hX)
 clear hX
 have HV8 := hid (h8 rfl)
 clear h8
 obtain ⟨A7, l7, c7, rfl, hv7, _⟩ := W32.open HV7.out
 obtain ⟨A8, l8, c8, rfl, hv8, _⟩ := W32.open HV8.out
 clear HV7 HV8
 have HU7 := hid (W32.boxed hv7 (NoInts.three KR.out) s0 A7 A8 l7 c7 l8 c8)
 have HU8 := hid (W32.boxed hv8 (NoInts.three KR.out) s0 A7 A8 l7 c7 l8 c8)
 clear hv7 hv8
 have hc2 := HX.out.cell hc0
 clear hc0
 have cA0 : w3.cell? ⟨w.heap.size, 0, none⟩ = some (.bool s0) := KA.out.cell 0
 have cA1 : w3.cell? ⟨w.heap.size, 1, none⟩ = some (.slice A0 l0 c0) := KA.out.cell 1
 have cA2 : w3.cell? ⟨w.heap.size, 2, none⟩ = some (.slice (some ⟨b1, o1, none⟩) 1 k0) := KA.out.cell 2
 have cR0 : w3.cell? ⟨(w.heap.size + 1), 0, none⟩ = some (.bool false) := KR.out.cell 0
 have fR0 : w3.frozen? ⟨(w.heap.size + 1), 0, none⟩ = false := KR.out.free 0
 have cR1 : w3.cell? ⟨(w.heap.size + 1), 1, none⟩ = some (.slice none 0 0) := KR.out.cell 1
 have fR1 : w3.frozen? ⟨(w.heap.size + 1), 1, none⟩ = false := KR.out.free 1
 have cR2 : w3.cell? ⟨(w.heap.size + 1), 2, none⟩ = some (.slice none 0 0) := KR.out.cell 2
 have fR2 : w3.frozen? ⟨(w.heap.size + 1), 2, none⟩ = false := KR.out.free 2
 go_wp2
 refine bodyPost_ret (v := .tuple #[.agg #[.bool s0, .slice A7 l7 c7, .slice A8 l8 c8], .int .i64 0]) (by simp [results, Try.results139, go_sem, *]) rfl ?_
 exact ⟨_, _, _, _, _, _, rfl, HU7.out, HU8.out, Ext.boxed HX.out (by omega) _ _ _⟩
theorem rout_yes {w : World} {v : Value} {q : Rat} (h : QZ w v q) (hf : FitQW q) : Calls Try.prog 139 #[v] w (RetC w q) := by
 obtain ⟨b, A, l, c, B, m, k, rfl, rfl, h1, h2⟩ := h
 by_cases hd : q.den = 1
 ·
  refine (rout_one _ A B l c m k _ _ w h1 h2 hf.1 hf.2 hd).mono ?_
  rintro e w' ⟨A9, l9, c9, B9, m9, k9, rfl, ⟨A', l', c', xs, e, hI, hr, hc⟩, ⟨rfl, rfl, rfl⟩, hX⟩
  injection e with e1 e2 e3
  subst e1 e2 e3
  exact ⟨_, rfl, ⟨xs, [], ⟨_, _, _, _, _, _, rfl, hI, hc.1, hc.2, Ints.nil, by omega, by omega⟩, hr, .inl ⟨hd, rfl⟩⟩, hX⟩
 ·
  have fin : ∀ e w', (∃ A9 l9 c9 B9 m9 k9, e = .returned (.tuple #[.agg #[.bool (decide (q.num < 0)), .slice A9 l9 c9, .slice B9 m9 k9], .int .i64 0]) ∧ W32 w' (.slice A9 l9 c9) q.num.natAbs ∧ W32 w' (.slice B9 m9 k9) q.den ∧ Ext w w') → RetC w q e w' := by
   rintro e w' ⟨A9, l9, c9, B9, m9, k9, rfl, ⟨A', l', c', xs, e, hI, hr, hc⟩, ⟨B', m', k', ys, e', hJ, hs, hk⟩, hX⟩
   injection e with e1 e2 e3
   subst e1 e2 e3
   injection e' with e1 e2 e3
   subst e1 e2 e3
   exact ⟨_, rfl, ⟨xs, ys, ⟨_, _, _, _, _, _, rfl, hI, hc.1, hc.2, hJ, hk.1, hk.2⟩, hr, .inr ⟨hd, hs⟩⟩, hX⟩
  by_cases hm : m = 1
  ·
   exact (rout_den _ A B l c m k _ _ w h1 h2 hf.1 hf.2 hm hd).mono fin
  ·
   exact (rout_len _ A B l c m k _ _ w h1 h2 hf.1 hf.2 hm).mono fin
theorem ratC_two {w : World} {s s' : Bool} {A B A' B' : Option Addr} {l c m k l' c' m' k' : Nat} {q : Rat} (h : RatC w (.agg #[.bool s, .slice A l c, .slice B m k]) q) (h' : RatC w (.agg #[.bool s', .slice A' l' c', .slice B' m' k']) q) :
  s' = s ∧ l' = l ∧ m' = m ∧ ∃ xs ys, Ints .u32 w A l xs ∧ Ints .u32 w A' l xs ∧ Ints .u32 w B m ys ∧ Ints .u32 w B' m ys ∧ l ≤ 9223372036854775807 ∧ m ≤ 9223372036854775807 := by
 obtain ⟨xs, ys, ⟨A1, l1, c1, B1, m1, k1, e, h1, h2, h3, h4, h5, h6⟩, hx, hy⟩ := h
 obtain ⟨xs', ys', ⟨A2, l2, c2, B2, m2, k2, e', g1, g2, g3, g4, g5, g6⟩, hx', hy'⟩ := h'
 simp only [Value.agg.injEq, Array.mk.injEq, List.cons.injEq, Value.bool.injEq, Value.slice.injEq, and_true] at e e'
 obtain ⟨rfl, ⟨rfl, rfl, rfl⟩, rfl, rfl, rfl⟩ := e
 obtain ⟨rfl, ⟨rfl, rfl, rfl⟩, rfl, rfl, rfl⟩ := e'
 obtain rfl := hx.unique (by omega) hx'
 have hyy : ys = ys' := by
  rcases hy with ⟨a, b⟩ | ⟨a, b⟩ <;> rcases hy' with ⟨a', b'⟩ | ⟨a', b'⟩
  ·
   rw [b, b']
  ·
   exact absurd a a'
  ·
   exact absurd a' a
  ·
   exact b.unique (by omega) b'
 subst hyy
 have e1 := h1.1
 have e2 := g1.1
 have e3 := h4.1
 have e4 := g4.1
 have z1 : l' = l := by omega
 have z2 : m' = m := by omega
 subst z1 z2
 exact ⟨rfl, rfl, rfl, xs, ys, h1, g1, h4, g4, by omega, by omega⟩
set_option maxRecDepth 100000 in
set_option maxHeartbeats 2000000 in
theorem same_v (s0 s1 : Bool) (A0 B0 A1 B1 : Option Addr) (l0 c0 m0 k0 l1 c1 m1 k1 : Nat) (q : Rat) (w : World) (hx : RatC w (.agg #[.bool s0, .slice A0 l0 c0, .slice B0 m0 k0]) q) (hy : QZ w (.agg #[.bool s1, .slice A1 l1 c1, .slice B1 m1 k1]) q) (hf : FitQW q) :
  Calls Try.prog 59 #[.agg #[.bool s0, .slice A0 l0 c0, .slice B0 m0 k0], .agg #[.bool s1, .slice A1 l1 c1, .slice B1 m1 k1]] w (fun e w' => e = .returned (.bool true) ∧ Ext w w') := by
 have HXX := hid hx
 have HYY := hid hy
 have HF := hid hf
 clear hx hy hf
 have hXe : Ext w ((w.alloc (.cells #[.bool s0, .slice A0 l0 c0, .slice B0 m0 k0] 97)).alloc (.cells #[.bool s1, .slice A1 l1 c1, .slice B1 m1 k1] 65)) := (((Ext.refl w).alloc _).alloc _)
 have kA : Blk ((w.alloc (.cells #[.bool s0, .slice A0 l0 c0, .slice B0 m0 k0] 97)).alloc (.cells #[.bool s1, .slice A1 l1 c1, .slice B1 m1 k1] 65)) w.heap.size 97 #[.bool s0, .slice A0 l0 c0, .slice B0 m0 k0] := Blk.alloc (Blk.at_ (by simp)) _
 have kB : Blk ((w.alloc (.cells #[.bool s0, .slice A0 l0 c0, .slice B0 m0 k0] 97)).alloc (.cells #[.bool s1, .slice A1 l1 c1, .slice B1 m1 k1] 65)) (w.heap.size + 1) 65 #[.bool s1, .slice A1 l1 c1, .slice B1 m1 k1] := Blk.at_ (by simp)
 go_enter Try.func59, Try.ntmps59
 go_wp2_with fail
 generalize ((w.alloc (.cells #[.bool s0, .slice A0 l0 c0, .slice B0 m0 k0] 97)).alloc (.cells #[.bool s1, .slice A1 l1 c1, .slice B1 m1 k1] 65)) = w1 at hXe kA kB ⊢
 have HX := hid hXe
 clear hXe
 have KA := hid kA
 clear kA
 have KB := hid kB
 clear kB
 replace HXX := hid (HXX.out.ext HX.out)
 replace HYY := hid (HYY.out.ext HX.out)
 have cB0 : w1.cell? ⟨(w.heap.size + 1), 0, none⟩ = some (.bool s1) := KB.out.cell 0
 have cB1 : w1.cell? ⟨(w.heap.size + 1), 1, none⟩ = some (.slice A1 l1 c1) := KB.out.cell 1
 have cB2 : w1.cell? ⟨(w.heap.size + 1), 2, none⟩ = some (.slice B1 m1 k1) := KB.out.cell 2
 go_wp2_with fail
 clear cB0 cB1 cB2
 refine (rout_yes HYY.out HF.out).mono ?_
 rintro e w2 ⟨v9, rfl, h9, hX⟩
 replace hX : Ext w1 w2 := by with_reducible exact hX
 replace HX := hid (HX.out.trans hX)
 replace HXX := hid (HXX.out.ext hX)
 replace HYY := hid (HYY.out.ext hX)
 replace KA := hid (KA.out.ext hX)
 replace KB := hid (KB.out.ext hX)
 clear hX
 obtain ⟨s9, A9, l9, c9, B9, m9, k9, rfl⟩ := h9.open
 obtain ⟨rfl, rfl, rfl, xs, ys, x0, x9, y0, y9, hl0, hm0⟩ := ratC_two HXX.out h9
 have X0 := hid x0
 have X1 := hid x9
 have Y0 := hid y0
 have Y1 := hid y9
 clear x0 x9 y0 y9 h9
 clear HXX
 clear HYY
 clear KB
 go_upto_region 2 with (fail)
 have hXa : Ext w2 (w2.alloc (.cells #[.bool s9, .slice A9 l9 c9, .slice B9 m9 k9] 97)) := (Ext.refl _).alloc _
 have kY := Blk.new w2 97 #[.bool s9, .slice A9 l9 c9, .slice B9 m9 k9]
 have zA := KA.out.lt
 have zg := HX.out.size
 replace HX := hid (HX.out.trans hXa)
 replace X0 := hid (X0.out.ext hXa)
 replace X1 := hid (X1.out.ext hXa)
 replace Y0 := hid (Y0.out.ext hXa)
 replace Y1 := hid (Y1.out.ext hXa)
 replace KA := hid (KA.out.ext hXa)
 generalize (w2.alloc (.cells #[.bool s9, .slice A9 l9 c9, .slice B9 m9 k9] 97)) = w3 at HX X0 X1 Y0 Y1 KA kY ⊢
 have KY := hid kY
 clear kY hXa
 obtain ⟨gy, hgy⟩ : ∃ g, w2.heap.size = g := ⟨_, rfl⟩
 rw [hgy] at KY ⊢
 clear hgy
 have cA0 : w3.cell? ⟨w.heap.size, 0, none⟩ = some (.bool s9) := KA.out.cell 0
 have cA1 : w3.cell? ⟨w.heap.size, 1, none⟩ = some (.slice A0 l9 c0) := KA.out.cell 1
 have cA2 : w3.cell? ⟨w.heap.size, 2, none⟩ = some (.slice B0 m9 k0) := KA.out.cell 2
 have cY0 : w3.cell? ⟨gy, 0, none⟩ = some (.bool s9) := KY.out.cell 0
 have cY1 : w3.cell? ⟨gy, 1, none⟩ = some (.slice A9 l9 c9) := KY.out.cell 1
 have cY2 : w3.cell? ⟨gy, 2, none⟩ = some (.slice B9 m9 k9) := KY.out.cell 2
 go_wp2_with fail
 clear cA0 cA1 cA2 cY0 cY1 cY2
 go_loopg [7] l9 (fun g' i wr => ∃ k : Nat, g' = l9 - k ∧ k ≤ l9 ∧ i = .int .i64 (k : Int) ∧ Hid (Blk wr w.heap.size 97 #[.bool s9, .slice A0 l9 c0, .slice B0 m9 k0]) ∧ Hid (Blk wr gy 97 #[.bool s9, .slice A9 l9 c9, .slice B9 m9 k9]) ∧ Hid (Ext w3 wr) ∧ Hid (Ext w wr))
 case atStart => exact ⟨0, rfl, by omega, rfl, KA.out, KY.out, Ext.refl _, HX.out⟩
 case round =>
  clear KA KY HX
  obtain ⟨k, rfl, hk, rfl, KA, KY, HE, HX⟩ := hrel
  have cA0 : wr.cell? ⟨w.heap.size, 1, none⟩ = some (.slice A0 l9 c0) := KA.out.cell 1
  have cA1 : wr.cell? ⟨w.heap.size, 2, none⟩ = some (.slice B0 m9 k0) := KA.out.cell 2
  have cB0 : wr.cell? ⟨gy, 1, none⟩ = some (.slice A9 l9 c9) := KY.out.cell 1
  have cB1 : wr.cell? ⟨gy, 2, none⟩ = some (.slice B9 m9 k9) := KY.out.cell 2
  by_cases hlt : k < l9
  ·
   have hI : (k : Int) < (l9 : Int) := by omega
   have h0 : (0 : Int) ≤ (k : Int) := by omega
   obtain ⟨b0, o0, x0, hA0, hx0, hw0, hc0⟩ := X0.out.get hlt
   obtain ⟨b1, o1, x1, hA1, hx1, hw1, hc1⟩ := X1.out.get hlt
   have hxx : x1 = x0 := by rw [hx0] at hx1; injection hx1 with h; exact h.symm
   subst hxx
   subst hA0 hA1
   have d0 := HE.out.cell hc0
   have d1 := HE.out.cell hc1
   obtain ⟨u0, u1⟩ := u32_bounds hw0
   clear hx0 hx1 hw0 hw1 hc0 hc1
   go_wp2
   go_quiet (fail)
   go_wp2
   go_roundg (l9 - (k + 1))
   case rel => exact ⟨k + 1, rfl, by omega, by go_num, KA.out.drewN _, KY.out.drewN _, HE.out.drewN _, HX.out.drewN _⟩
   case measure => omega
  ·
   obtain rfl : l9 = k := by omega
   go_wp2_with fail
   obtain ⟨wo, rfl⟩ : ∃ wo : World, wo = wr := ⟨_, rfl⟩
   clear cA0 cA1 cB0 cB1
   go_loopg [8] m9 (fun g' i wr => ∃ k : Nat, g' = m9 - k ∧ k ≤ m9 ∧ i = .int .i64 (k : Int) ∧ Hid (Blk wr w.heap.size 97 #[.bool s9, .slice A0 l9 c0, .slice B0 m9 k0]) ∧ Hid (Blk wr gy 97 #[.bool s9, .slice A9 l9 c9, .slice B9 m9 k9]) ∧ Hid (Ext w3 wr) ∧ Hid (Ext w wr))
   case atStart => exact ⟨0, rfl, by omega, rfl, KA.out, KY.out, HE.out, HX.out⟩
   case round =>
    clear KA KY HX HE
    obtain ⟨k, rfl, hk, rfl, KA, KY, HE, HX⟩ := hrel
    have cA0 : wr.cell? ⟨w.heap.size, 1, none⟩ = some (.slice A0 l9 c0) := KA.out.cell 1
    have cA1 : wr.cell? ⟨w.heap.size, 2, none⟩ = some (.slice B0 m9 k0) := KA.out.cell 2
    have cB0 : wr.cell? ⟨gy, 1, none⟩ = some (.slice A9 l9 c9) := KY.out.cell 1
    have cB1 : wr.cell? ⟨gy, 2, none⟩ = some (.slice B9 m9 k9) := KY.out.cell 2
    by_cases hlt : k < m9
    ·
     have hI : (k : Int) < (m9 : Int) := by omega
     have h0 : (0 : Int) ≤ (k : Int) := by omega
     obtain ⟨b0, o0, x0, hA0, hx0, hw0, hc0⟩ := Y0.out.get hlt
     obtain ⟨b1, o1, x1, hA1, hx1, hw1, hc1⟩ := Y1.out.get hlt
     have hxx : x1 = x0 := by rw [hx0] at hx1; injection hx1 with h; exact h.symm
     subst hxx
     subst hA0 hA1
     have d0 := HE.out.cell hc0
     have d1 := HE.out.cell hc1
     obtain ⟨u0, u1⟩ := u32_bounds hw0
     clear hx0 hx1 hw0 hw1 hc0 hc1
     go_wp2
     go_quiet (fail)
     go_wp2
     go_roundg (m9 - (k + 1))
     case rel => exact ⟨k + 1, rfl, by omega, by go_num, KA.out.drewN _, KY.out.drewN _, HE.out.drewN _, HX.out.drewN _⟩
     case measure => omega
    ·
     obtain rfl : m9 = k := by omega
     go_wp2
     go_ret
     exact ⟨rfl, HX.out⟩
theorem same_any {w : World} {vx va : Value} {q : Rat} (h : RatC w vx q) (k : QZ w va q) (hf : FitQW q) : Calls Try.prog 59 #[vx, va] w fun e w' => e = .returned (.bool true) ∧ Ext w w' := by
 obtain ⟨s0, A0, l0, c0, B0, m0, k0, rfl⟩ := h.open
 obtain ⟨s1, A1, l1, c1, B1, m1, k1, rfl⟩ := k.open
 exact same_v s0 s1 A0 B0 A1 B1 l0 c0 m0 k0 l1 c1 m1 k1 q w h k hf
/-- An integer as an end of a span, and its error. -/
def endV (z : Int) : Int := if -1152921504606846976 ≤ z ∧ z ≤ 1152921504606846976 then z else 0
def endE (z : Int) : Int := if -1152921504606846976 ≤ z ∧ z ≤ 1152921504606846976 then 0 else 3
theorem end_in {z : Int} (h : -1152921504606846976 ≤ z ∧ z ≤ 1152921504606846976) : endV z = z ∧ endE z = 0 := ⟨if_pos h, if_pos h⟩
theorem end_out {z : Int} (h : ¬ (-1152921504606846976 ≤ z ∧ z ≤ 1152921504606846976)) : endV z = 0 ∧ endE z = 3 := ⟨if_neg h, if_neg h⟩
theorem fit_in {z : Int} (h : -4611686018427387904 ≤ z ∧ z ≤ 4611686018427387904) : fitI z = z ∧ fitB z = true := ⟨by rw [fitI, if_pos h], decide_eq_true h⟩
theorem fit_out {z : Int} (h : ¬ (-4611686018427387904 ≤ z ∧ z ≤ 4611686018427387904)) : fitI z = 0 ∧ fitB z = false := ⟨by rw [fitI, if_neg h], decide_eq_false h⟩
set_option maxRecDepth 100000 in
set_option maxHeartbeats 2000000 in
theorem rend_in (s : Bool) (A : Option Addr) (l c : Nat) (z : Int) (w : World) (hx : IntZ w (.agg #[.bool s, .slice A l c]) z) (hz : -1152921504606846976 ≤ z ∧ z ≤ 1152921504606846976) :
  Calls Try.prog 166 #[.agg #[.bool s, .slice A l c]] w (fun e w' => e = .returned (.tuple #[.int .i64 z, .int .i64 0]) ∧ Ext w w') := by
 have HXX := hid hx
 clear hx
 obtain ⟨e1, e2⟩ := fit_in (z := z) (by omega)
 have E1 := hid e1
 have E2 := hid e2
 clear e1 e2
 have hXe : Ext w (w.alloc (.cells #[.bool s, .slice A l c] 63)) := ((Ext.refl w).alloc _)
 have kA : Blk (w.alloc (.cells #[.bool s, .slice A l c] 63)) w.heap.size 63 #[.bool s, .slice A l c] := Blk.at_ (by simp)
 go_enter Try.func166, Try.ntmps166
 go_wp2_with fail
 generalize (w.alloc (.cells #[.bool s, .slice A l c] 63)) = w1 at hXe kA ⊢
 have HX := hid hXe
 clear hXe
 have KA := hid kA
 clear kA
 replace HXX := hid (HXX.out.ext HX.out)
 have cA0 : w1.cell? ⟨w.heap.size, 0, none⟩ = some (.bool s) := KA.out.cell 0
 have cA1 : w1.cell? ⟨w.heap.size, 1, none⟩ = some (.slice A l c) := KA.out.cell 1
 obtain ⟨hz0, hz1⟩ := hz
 have hz2 : ¬ z < -1152921504606846976 := by omega
 have hz3 : ¬ 1152921504606846976 < z := by omega
 go_wp2_with fail
 clear cA0 cA1
 refine (zfits_any _ z _ HXX.out).mono ?_
 rw [E1.out, E2.out]
 rintro e w2 ⟨rfl, hX⟩
 replace hX : Ext w1 w2 := by with_reducible exact hX
 replace HX := hid (HX.out.trans hX)
 replace KA := hid (KA.out.ext hX)
 clear hX
 go_wp2
 go_ret2
 exact ⟨rfl, HX.out⟩
set_option maxRecDepth 100000 in
set_option maxHeartbeats 2000000 in
theorem rend_mid (s : Bool) (A : Option Addr) (l c : Nat) (z : Int) (w : World) (hx : IntZ w (.agg #[.bool s, .slice A l c]) z) (hz : z < -1152921504606846976 ∨ 1152921504606846976 < z) (hf : -4611686018427387904 ≤ z ∧ z ≤ 4611686018427387904) :
  Calls Try.prog 166 #[.agg #[.bool s, .slice A l c]] w (fun e w' => e = .returned (.tuple #[.int .i64 0, .int .i64 3]) ∧ Ext w w') := by
 have HXX := hid hx
 clear hx
 obtain ⟨e1, e2⟩ := fit_in hf
 have E1 := hid e1
 have E2 := hid e2
 clear e1 e2
 have hXe : Ext w (w.alloc (.cells #[.bool s, .slice A l c] 63)) := ((Ext.refl w).alloc _)
 have kA : Blk (w.alloc (.cells #[.bool s, .slice A l c] 63)) w.heap.size 63 #[.bool s, .slice A l c] := Blk.at_ (by simp)
 go_enter Try.func166, Try.ntmps166
 go_wp2_with fail
 generalize (w.alloc (.cells #[.bool s, .slice A l c] 63)) = w1 at hXe kA ⊢
 have HX := hid hXe
 clear hXe
 have KA := hid kA
 clear kA
 replace HXX := hid (HXX.out.ext HX.out)
 have cA0 : w1.cell? ⟨w.heap.size, 0, none⟩ = some (.bool s) := KA.out.cell 0
 have cA1 : w1.cell? ⟨w.heap.size, 1, none⟩ = some (.slice A l c) := KA.out.cell 1
 rcases hz with hz | hz
 ·
  go_wp2_with fail
  clear cA0 cA1
  refine (zfits_any _ z _ HXX.out).mono ?_
  rw [E1.out, E2.out]
  rintro e w2 ⟨rfl, hX⟩
  replace hX : Ext w1 w2 := by with_reducible exact hX
  replace HX := hid (HX.out.trans hX)
  replace KA := hid (KA.out.ext hX)
  clear hX
  go_wp2
  go_ret2
  exact ⟨rfl, HX.out⟩
 ·
  go_wp2_with fail
  clear cA0 cA1
  refine (zfits_any _ z _ HXX.out).mono ?_
  rw [E1.out, E2.out]
  rintro e w2 ⟨rfl, hX⟩
  replace hX : Ext w1 w2 := by with_reducible exact hX
  replace HX := hid (HX.out.trans hX)
  replace KA := hid (KA.out.ext hX)
  clear hX
  have hz2 : ¬ z < -1152921504606846976 := by omega
  go_wp2
  go_ret2
  exact ⟨rfl, HX.out⟩
set_option maxRecDepth 100000 in
set_option maxHeartbeats 2000000 in
theorem rend_far (s : Bool) (A : Option Addr) (l c : Nat) (z : Int) (w : World) (hx : IntZ w (.agg #[.bool s, .slice A l c]) z) (hf : ¬ (-4611686018427387904 ≤ z ∧ z ≤ 4611686018427387904)) :
  Calls Try.prog 166 #[.agg #[.bool s, .slice A l c]] w (fun e w' => e = .returned (.tuple #[.int .i64 0, .int .i64 3]) ∧ Ext w w') := by
 have HXX := hid hx
 clear hx
 obtain ⟨e1, e2⟩ := fit_out hf
 have E1 := hid e1
 have E2 := hid e2
 clear e1 e2
 have hXe : Ext w (w.alloc (.cells #[.bool s, .slice A l c] 63)) := ((Ext.refl w).alloc _)
 have kA : Blk (w.alloc (.cells #[.bool s, .slice A l c] 63)) w.heap.size 63 #[.bool s, .slice A l c] := Blk.at_ (by simp)
 go_enter Try.func166, Try.ntmps166
 go_wp2_with fail
 generalize (w.alloc (.cells #[.bool s, .slice A l c] 63)) = w1 at hXe kA ⊢
 have HX := hid hXe
 clear hXe
 have KA := hid kA
 clear kA
 replace HXX := hid (HXX.out.ext HX.out)
 have cA0 : w1.cell? ⟨w.heap.size, 0, none⟩ = some (.bool s) := KA.out.cell 0
 have cA1 : w1.cell? ⟨w.heap.size, 1, none⟩ = some (.slice A l c) := KA.out.cell 1
 go_wp2_with fail
 clear cA0 cA1
 refine (zfits_any _ z _ HXX.out).mono ?_
 rw [E1.out, E2.out]
 rintro e w2 ⟨rfl, hX⟩
 replace hX : Ext w1 w2 := by with_reducible exact hX
 replace HX := hid (HX.out.trans hX)
 replace KA := hid (KA.out.ext hX)
 clear hX
 go_wp2
 go_ret2
 exact ⟨rfl, HX.out⟩
theorem rend_any {w : World} {v : Value} {z : Int} (h : IntZ w v z) : Calls Try.prog 166 #[v] w fun e w' => e = .returned (.tuple #[.int .i64 (endV z), .int .i64 (endE z)]) ∧ Ext w w' := by
 obtain ⟨A, l, c, rfl, hz⟩ := h
 by_cases hr : -1152921504606846976 ≤ z ∧ z ≤ 1152921504606846976
 ·
  rw [(end_in hr).1, (end_in hr).2]; exact rend_in _ A l c z w ⟨A, l, c, rfl, hz⟩ hr
 ·
  rw [(end_out hr).1, (end_out hr).2]
  by_cases hf : -4611686018427387904 ≤ z ∧ z ≤ 4611686018427387904
  ·
   exact rend_mid _ A l c z w ⟨A, l, c, rfl, hz⟩ (by omega) hf
  ·
   exact rend_far _ A l c z w ⟨A, l, c, rfl, hz⟩ hf
theorem fitQ_int {n : Int} {L : Nat} (h : Fit 4294967296 n.natAbs L) (hL : 0 < L) : FitQ ((n : Int) : Rat) L := by
 refine ⟨by rw [Rat.num_intCast]; exact h, ?_⟩
 rw [Rat.den_intCast]
 exact Fit.one (by omega) hL
theorem fitQ_small {n : Int} (_h0 : -9223372036854775808 ≤ n) (_h1 : n ≤ 9223372036854775807) : FitQ ((n : Int) : Rat) 2 := by
 refine fitQ_int ?_ (by omega)
 unfold Fit
 have : (4294967296 : Int) ^ 2 = 18446744073709551616 := by decide
 omega
section
variable {w : World} {va vb : Value} {q r : Rat} {er : Int}
theorem fitR_512 (h : FitQ q 256) : FitR q 512 := by
 have h2 := fitR_double h
 rw [show 2 * 256 = 512 from rfl] at h2
 exact h2
end
/-- A span is valid. -/
def okS (lo hi : Int) : Bool := decide (-1152921504606846976 ≤ lo ∧ lo ≤ hi ∧ hi ≤ 1152921504606846976)
theorem okS_cases (lo hi : Int) : (okS lo hi = true ∧ -1152921504606846976 ≤ lo ∧ lo ≤ hi ∧ hi ≤ 1152921504606846976) ∨ (okS lo hi = false ∧ (lo < -1152921504606846976 ∨ (-1152921504606846976 ≤ lo ∧ hi < lo) ∨ (-1152921504606846976 ≤ lo ∧ lo ≤ hi ∧ 1152921504606846976 < hi))) := by
 by_cases hb : okS lo hi = true
 ·
  have hb' := hb
  simp only [okS, decide_eq_true_eq] at hb'
  exact .inl ⟨hb, hb'⟩
 ·
  refine .inr ⟨by simpa using hb, ?_⟩
  simp only [okS, decide_eq_true_eq] at hb; omega
set_option maxHeartbeats 1000000 in
theorem valid_any (x y : Int) (w : World) : Calls Try.prog 91 #[.agg #[.int .i64 x, .int .i64 y]] w fun e w' => e = .returned (.bool (okS x y)) ∧ Ext w w' := by
 have HX := hid ((Ext.refl w).alloc (.cells #[.int .i64 x, .int .i64 y] 31))
 rcases okS_cases x y with ⟨hb, b1, b2, b3⟩ | ⟨hb, b1 | ⟨b1, b2⟩ | ⟨b1, b2, b3⟩⟩
 all_goals
  rw [hb]
  clear hb
  go_enter Try.func91, Try.ntmps91
  go_wp2
  go_ret
  refine ⟨?_, HX.out⟩
  first
  | rfl
  | (show Ending.returned (.bool (decide (y ≤ 1152921504606846976))) = Ending.returned (.bool false); rw [decide_eq_false (by omega)])
end Go.Proofs.Ytikhlcgnlbinfaa
