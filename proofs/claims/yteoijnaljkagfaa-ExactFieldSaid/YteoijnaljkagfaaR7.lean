/- Walks: Of, Large of rational numbers (program). -/
import Derived.Test.YteoijnaljkagfaaR6
namespace Go.Proofs.Yteoijnaljkagfaa
open Go.RowKit

/-- A value that is a number of the interface: a sign and two lists of words. -/
def RatV (w : World) (v : Value) (neg : Bool) (xs ys : List Int) : Prop :=
  ∃ A l c B m k, v = .agg #[.bool neg, .slice A l c, .slice B m k] ∧ Ints .u32 w A l xs ∧ l ≤ c ∧ c ≤ 9223372036854775807 ∧ Ints .u32 w B m ys ∧ m ≤ k ∧ k ≤ 9223372036854775807
theorem RatV.ext {w w' : World} {v : Value} {neg : Bool} {xs ys : List Int} (h : RatV w v neg xs ys) (he : Ext w w') : RatV w' v neg xs ys := by
  obtain ⟨A, l, c, B, m, k, h1, h2, h3, h4, h5, h6⟩ := h
  exact ⟨A, l, c, B, m, k, h1, h2.ext he, h3, h4, h5.ext he, h6⟩
/-- What the words denote. -/
def wN (xs : List Int) : Nat := (val 4294967296 xs).toNat
def wD (ys : List Int) : Nat := if wN ys = 0 then 1 else wN ys
def ratOf (neg : Bool) (xs ys : List Int) : Rat := ratV neg (wN xs) (wD ys)
theorem wD_pos (ys : List Int) : 0 < wD ys := by unfold wD; split <;> omega
theorem wN_val {w : World} {A : Option Addr} {l : Nat} {xs : List Int} (h : Ints .u32 w A l xs) : val 4294967296 xs = (wN xs : Int) := by
  have := val_nonneg (B := 4294967296) (by omega) (dg32 h); unfold wN; omega
theorem norm_len {w : World} {A : Option Addr} {l m : Nat} {xs : List Int} (h : Ints .u32 w A l xs) (hm : m ≤ l) (hN : Nm (xs.take m)) (hv : val 4294967296 (xs.take m) = val 4294967296 xs) (K : Nat) : m ≤ K ↔ Fit 4294967296 (wN xs) K := by
  have hr : Rep 4294967296 (xs.take m) (wN xs) := Rep.of_take (dg32 h) hv hN (wN_val h)
  have hl : (xs.take m).length = m := by rw [List.length_take, h.1]; omega
  constructor
  · intro hk
    have := hr.lt (by omega)
    rw [hl] at this
    have h2 := pow_le (B := 4294967296) (by omega) hk
    unfold Fit; omega
  · intro hf
    have := hf.len (by omega) hr
    omega
theorem norm_nil {w : World} {A : Option Addr} {l m : Nat} {xs : List Int} (h : Ints .u32 w A l xs) (hm : m ≤ l) (hN : Nm (xs.take m)) (hv : val 4294967296 (xs.take m) = val 4294967296 xs) : m = 0 ↔ wN xs = 0 := by
  have hr : Rep 4294967296 (xs.take m) (wN xs) := Rep.of_take (dg32 h) hv hN (wN_val h)
  have hl : (xs.take m).length = m := by rw [List.length_take, h.1]; omega
  rw [hr.pos (by omega), ← List.length_eq_zero_iff, hl]

set_option maxRecDepth 100000 in
set_option maxHeartbeats 2000000 in
theorem of_r4 (g : Nat) (neg : Bool) (A B : Option Addr) (l c m k : Nat) (xs : List Int) (D L : Nat) (w : World) (a0 : w.cell? ⟨g, 0, none⟩ = some (.bool neg)) (a1 : w.cell? ⟨g, 1, none⟩ = some (.slice A l c)) (hI : Ints .u32 w A l xs) (hlc : l ≤ c) (hcm : c ≤ 9223372036854775807) (hd : W32 w (.slice B m k) D) (hD : 0 < D) (fN : Fit 4294967296 (wN xs) L) (fD : Fit 4294967296 D L) (hL : L ≤ 1099511627775) (a : Act) (Q : Exit → Act → World → Prop) (hsize : 19 ≤ a.tmps.size)
    (s1 : a.tmps[1]? = some (.pointer (some ⟨g, 0, none⟩)))
    (s3 : a.tmps[3]? = some (.slice B m k))
    (hend : ∀ (xv0 xv1 xv2 xv3 xv4 xv5 xv6 xv7 : Value) (W : World), (xv0 = .pointer (some ⟨g, 0, none⟩)) → (xv1 = .bool neg) → (xv2 = .pointer (some ⟨g, 1, none⟩)) → (xv3 = .slice A l c) → (W32 W xv4 (wN xs)) → (xv5 = .slice B m k) → (NumV W xv6 neg (wN xs) D) → (NumQ W xv7 (ratV neg (wN xs) D)) → Ext w W → wpList Try.prog (rops Try.f85 4).toArray Q ((rops Try.f85 4).drop 8) ((((((((a.put (some 11) xv0).put (some 12) xv1).put (some 13) xv2).put (some 14) xv3).put (some 15) xv4).put (some 16) xv5).put (some 17) xv6).put (some 18) xv7) W) :
    (Code.region 4 (rops Try.f85 4).toArray true).wp Try.prog Q a w := by
  have hmono : ∀ (W W' : World) (j : Nat) (u : Value), Ext W W' → (fun (i : Nat) (v : Value) (W : World) => match i with
    | 0 => v = .pointer (some ⟨g, 0, none⟩)
    | 1 => v = .bool neg
    | 2 => v = .pointer (some ⟨g, 1, none⟩)
    | 3 => v = .slice A l c
    | 4 => W32 W v (wN xs)
    | 5 => v = .slice B m k
    | 6 => NumV W v neg (wN xs) D
    | 7 => NumQ W v (ratV neg (wN xs) D)
    | _ => True) j u W → (fun (i : Nat) (v : Value) (W : World) => match i with
    | 0 => v = .pointer (some ⟨g, 0, none⟩)
    | 1 => v = .bool neg
    | 2 => v = .pointer (some ⟨g, 1, none⟩)
    | 3 => v = .slice A l c
    | 4 => W32 W v (wN xs)
    | 5 => v = .slice B m k
    | 6 => NumV W v neg (wN xs) D
    | 7 => NumQ W v (ratV neg (wN xs) D)
    | _ => True) j u W' := by
    intro W W' j u hX h
    match j, h with
    | 0, h => exact h
    | 1, h => exact h
    | 2, h => exact h
    | 3, h => exact h
    | 4, h => exact W32.ext h hX
    | 5, h => exact h
    | 6, h => exact NumV.ext h hX
    | 7, h => exact NumQ.ext h hX
    | _ + 8, h => exact h
  have hsz : ∀ d, some d ∈ ([some 11, some 12, some 13, some 14, some 15, some 16, some 17, some 18] : List (Option Tmp)) → d < a.tmps.size := slots_lt (by decide) hsize
  refine wp_region_j 8 [some 11, some 12, some 13, some 14, some 15, some 16, some 17, some 18] [[], [0], [], [2], [3], [], [1, 4, 5], [6]] [[], [], [], [], [], [], [], []] (fun (i : Nat) (v : Value) (W : World) => match i with
    | 0 => v = .pointer (some ⟨g, 0, none⟩)
    | 1 => v = .bool neg
    | 2 => v = .pointer (some ⟨g, 1, none⟩)
    | 3 => v = .slice A l c
    | 4 => W32 W v (wN xs)
    | 5 => v = .slice B m k
    | 6 => NumV W v neg (wN xs) D
    | 7 => NumQ W v (ratV neg (wN xs) D)
    | _ => True) (fun _ W => Ext w W) (by kernel_rfl) (by kernel_rfl) hsz (fun _ _ _ _ h => h) ((Ext.refl w).drew) ?_ ?_
  · clear hend
    simp only [rops, Try.f85, regOf, Option.bind_some, Nat.reduceBEq, if_true, if_false, Bool.false_eq_true, Option.getD_some]
    simp only [List.take_succ_cons, List.take_zero]
    refine ⟨?_, ?_, ?_, ?_, ?_, ?_, ?_, ?_, trivial⟩
    · intro done us W hJ hdep haft hnot b hb hb' K hK Q'
      have e1 := (hb' 1 (by simp)).trans s1
      clear hb hb'
      go_simp
      exact hK _ _ rfl (fun _ _ _ h => h) hJ
    · intro done us W hJ hdep haft hnot b hb hb' K hK Q'
      simp only [List.getD_cons_succ, List.getD_cons_zero, List.mem_cons, List.not_mem_nil, or_false, forall_eq] at hdep
      have e11 := hb 0 11 rfl
      have d0 := hdep
      rw [d0.1] at e11
      clear hb hb' hdep d0
      have q := Ext.cell hJ a0
      go_simp
      exact hK _ _ rfl (fun _ _ _ h => h) hJ
    · intro done us W hJ hdep haft hnot b hb hb' K hK Q'
      have e1 := (hb' 1 (by simp)).trans s1
      clear hb hb'
      go_simp
      exact hK _ _ rfl (fun _ _ _ h => h) hJ
    · intro done us W hJ hdep haft hnot b hb hb' K hK Q'
      simp only [List.getD_cons_succ, List.getD_cons_zero, List.mem_cons, List.not_mem_nil, or_false, forall_eq] at hdep
      have e13 := hb 2 13 rfl
      have d2 := hdep
      rw [d2.1] at e13
      clear hb hb' hdep d2
      have q := Ext.cell hJ a1
      go_simp
      exact hK _ _ rfl (fun _ _ _ h => h) hJ
    · intro done us W hJ hdep haft hnot b hb hb' K hK Q'
      simp only [List.getD_cons_succ, List.getD_cons_zero, List.mem_cons, List.not_mem_nil, or_false, forall_eq] at hdep
      have e14 := hb 3 14 rfl
      have d3 := hdep
      rw [d3.1] at e14
      clear hb hb' hdep d3
      go_simp
      refine (norm_any A l c xs _ (Ints.ext hI hJ) hlc hcm).mono ?_
      rintro e w' ⟨q, hq, hN, hv, rfl, rfl⟩
      exact hK _ _ (RetNorm.natv (N := wN xs) (Ints.ext hI hJ) hq hN hv (wN_val hI) hlc hcm) (fun _ _ _ h => h) hJ
    · intro done us W hJ hdep haft hnot b hb hb' K hK Q'
      have e3 := (hb' 3 (by simp)).trans s3
      clear hb hb'
      go_simp
      exact hK _ _ rfl (fun _ _ _ h => h) hJ
    · intro done us W hJ hdep haft hnot b hb hb' K hK Q'
      simp only [List.getD_cons_succ, List.getD_cons_zero, List.mem_cons, List.not_mem_nil, or_false, forall_eq_or_imp, forall_eq] at hdep
      have e12 := hb 1 12 rfl
      have e15 := hb 4 15 rfl
      have e16 := hb 5 16 rfl
      have d1 := hdep.1
      have d4 := hdep.2.1
      have d5 := hdep.2.2
      rw [d1.1] at e12
      rw [d5.1] at e16
      clear hb hb' hdep d1 d5
      obtain ⟨P1, q1, r1, hv1, g1, _⟩ := W32.open d4.1
      rw [hv1] at e15
      go_simp
      exact hK _ _ ⟨_, _, rfl, g1, W32.ext hd hJ⟩ (fun _ _ _ h => h) hJ
    · intro done us W hJ hdep haft hnot b hb hb' K hK Q'
      simp only [List.getD_cons_succ, List.getD_cons_zero, List.mem_cons, List.not_mem_nil, or_false, forall_eq] at hdep
      have e17 := hb 6 17 rfl
      have d6 := hdep
      clear hb hb' hdep 
      go_simp
      refine (reducedX ⟨_, _, _, d6.1, hD, rfl, fN, fD⟩ hL).mono ?_
      rintro e w' ⟨v, rfl, hv, hX⟩
      exact hK _ _ hv (fun j u _ h => hmono _ _ j u hX h) (Ext.trans hJ hX)
  · intro us W hV hJ
    exact hend (us 0) (us 1) (us 2) (us 3) (us 4) (us 5) (us 6) (us 7) W (hV 0 (by omega)) (hV 1 (by omega)) (hV 2 (by omega)) (hV 3 (by omega)) (hV 4 (by omega)) (hV 5 (by omega)) (hV 6 (by omega)) (hV 7 (by omega)) hJ

set_option maxRecDepth 100000 in
set_option maxHeartbeats 2000000 in
theorem of_any (v : Value) (neg : Bool) (xs ys : List Int) (L : Nat) (w : World) (h : RatV w v neg xs ys) (fN : Fit 4294967296 (wN xs) L) (fD : Fit 4294967296 (wD ys) L) (hL : L ≤ 1099511627775) :
    Calls Try.prog 85 #[v] w (RetQ2 w (ratOf neg xs ys)) := by
  obtain ⟨A, l, c, B, m, k, rfl, hA, hlc, hcm, hB, hmk, hkm⟩ := h
  have hXw : Ext w ((w.alloc (.cells #[.bool neg, .slice A l c, .slice B m k] 33)).alloc (.cells #[.bool false, .slice none 0 0, .slice none 0 0] 96)) := ((Ext.refl w).alloc _).alloc _
  have hBA : Blk ((w.alloc (.cells #[.bool neg, .slice A l c, .slice B m k] 33)).alloc (.cells #[.bool false, .slice none 0 0, .slice none 0 0] 96)) w.heap.size 33 #[.bool neg, .slice A l c, .slice B m k] := (Blk.new w _ _).alloc _
  have hBR : Blk ((w.alloc (.cells #[.bool neg, .slice A l c, .slice B m k] 33)).alloc (.cells #[.bool false, .slice none 0 0, .slice none 0 0] 96)) (w.heap.size + 1) 96 #[.bool false, .slice none 0 0, .slice none 0 0] := by
    have := Blk.new (w.alloc (.cells #[.bool neg, .slice A l c, .slice B m k] 33)) 96 #[.bool false, .slice none 0 0, .slice none 0 0]
    simpa using this
  have HQE : Hid (ratOf neg xs ys = ratV neg (wN xs) (wD ys)) := rfl
  have HIA := Lib.hid (hA.ext hXw)
  have HIB := Lib.hid (hB.ext hXw)
  clear hA hB
  go_enter Try.func85, Try.ntmps85
  go_wp2_with fail
  generalize (w.alloc (.cells #[.bool neg, .slice A l c, .slice B m k] 33)).alloc (.cells #[.bool false, .slice none 0 0, .slice none 0 0] 96) = w1 at hXw hBA hBR HIA HIB ⊢
  have HXw := Lib.hid hXw
  have HBA := Lib.hid hBA
  have HBR := Lib.hid hBR
  obtain ⟨a0, a1, a2, _, _, _⟩ := hBA.three
  clear hXw hBA hBR
  refine (norm_any B m k ys _ HIB.out hmk hkm).mono ?_
  rintro e w' ⟨q, hq, hN, hv, rfl, rfl⟩
  have hnil := norm_nil HIB.out hq hN hv
  have hWB := RetNorm.natv (N := wN ys) (c := k) HIB.out hq hN hv (wN_val HIB.out) hmk hkm
  by_cases hz : wN ys = 0
  · obtain rfl : q = 0 := hnil.2 hz
    have HD1 : Hid (wD ys = 1) := by show _ = _; unfold wD; rw [if_pos hz]
    have HDP : Hid (0 < 1) := Nat.one_pos
    rw [HD1.out] at fD HQE
    clear hnil hWB hz hN hv hq
    go_wp2_with fail
    have hXo : Ext w1 (w1.alloc (.cells #[.int .u32 1] 79)) := (Ext.refl w1).alloc _
    have hD : W32 (w1.alloc (.cells #[.int .u32 1] 79)) (.slice (some ⟨w1.heap.size, 0, none⟩) 1 1) 1 := W32.one w1 _
    replace HIA := Lib.hid (HIA.out.ext hXo)
    replace HBA := Lib.hid (HBA.out.ext hXo)
    replace HBR := Lib.hid (HBR.out.ext hXo)
    replace HXw := Lib.hid (HXw.out.trans hXo)
    obtain ⟨N1, hN1⟩ : ∃ N1, N1 = w1.heap.size := ⟨_, rfl⟩
    rw [← hN1] at hD ⊢
    generalize w1.alloc (.cells #[.int .u32 1] 79) = w2 at *
    obtain ⟨a0, a1, a2, _, _, _⟩ := HBA.out.three
    have HD := Lib.hid hD
    clear hD hXo hN1
    refine of_r4 w.heap.size neg A (some ⟨N1, 0, none⟩) l c 1 1 xs _ L w2 a0 a1 HIA.out hlc hcm HD.out HDP.out fN fD hL _ _ (by simp) rfl rfl ?_
    rintro xv0 xv1 xv2 xv3 xv4 xv5 xv6 xv7 W rfl rfl rfl rfl h4 rfl h6 h7 hXW
    simp only [rops, Try.f85, regOf, Option.bind_some, Nat.reduceBEq, if_true, if_false, Bool.false_eq_true, Option.getD_some, List.drop_succ_cons, List.drop_zero]
    simp only [Act.put, List.setIfInBounds_toArray, List.set_cons_succ, List.set_cons_zero]
    obtain ⟨P1, q1, r1, P2, q2, r2, rfl, g1, g2, _, _⟩ := NumV.open h7
    obtain ⟨y0, y1, y2, f0, f1', f2'⟩ := (HBR.out.ext hXW).three
    have HNB := Lib.hid (NoInts.three (HBR.out.ext hXW))
    have G7 := Lib.hid h7
    have HXW := Lib.hid hXW
    clear h4 h6 h7 hXW a0 a1 a2 g1 g2
    go_wp2
    refine bodyPost_ret (v := .agg #[.bool _, .slice P1 q1 r1, .slice P2 q2 r2]) (by simp [results, Try.results85, go_sem, *]; rfl) rfl ?_
    rw [HQE.out]
    exact ⟨_, rfl, NumQ.boxed G7.out HNB.out _ _ _ _ _ _ _, Ext.boxed (HXw.out.trans HXW.out) (by omega) _ _ _⟩
  · have hq0 : ((q : Int) == 0) = false := by
      have : q ≠ 0 := fun h => hz (hnil.1 h)
      simp; omega
    have HD1 : Hid (wD ys = wN ys) := by show _ = _; unfold wD; rw [if_neg hz]
    have HDP : Hid (0 < wN ys) := by show 0 < wN ys; omega
    rw [HD1.out] at fD HQE
    have HD := Lib.hid hWB
    clear hnil hWB hz hN hv
    go_wp2_with fail
    refine of_r4 w.heap.size neg A B l c q k xs _ L w1 a0 a1 HIA.out hlc hcm HD.out HDP.out fN fD hL _ _ (by simp) rfl rfl ?_
    rintro xv0 xv1 xv2 xv3 xv4 xv5 xv6 xv7 W rfl rfl rfl rfl h4 rfl h6 h7 hXW
    simp only [rops, Try.f85, regOf, Option.bind_some, Nat.reduceBEq, if_true, if_false, Bool.false_eq_true, Option.getD_some, List.drop_succ_cons, List.drop_zero]
    simp only [Act.put, List.setIfInBounds_toArray, List.set_cons_succ, List.set_cons_zero]
    obtain ⟨P1, q1, r1, P2, q2, r2, rfl, g1, g2, _, _⟩ := NumV.open h7
    obtain ⟨y0, y1, y2, f0, f1', f2'⟩ := (HBR.out.ext hXW).three
    have HNB := Lib.hid (NoInts.three (HBR.out.ext hXW))
    have G7 := Lib.hid h7
    have HXW := Lib.hid hXW
    clear h4 h6 h7 hXW a0 a1 a2 g1 g2
    go_wp2
    refine bodyPost_ret (v := .agg #[.bool _, .slice P1 q1 r1, .slice P2 q2 r2]) (by simp [results, Try.results85, go_sem, *]; rfl) rfl ?_
    rw [HQE.out]
    exact ⟨_, rfl, NumQ.boxed G7.out HNB.out _ _ _ _ _ _ _, Ext.boxed (HXw.out.trans HXW.out) (by omega) _ _ _⟩
/-- At most as many words as the interface lets. -/
structure FitW (n : Nat) : Prop where
  fit : Fit 4294967296 n 256
theorem fitW {n m : Nat} (h : m ≤ 256 ↔ Fit 4294967296 n 256) : m ≤ 256 ↔ FitW n := h.trans ⟨fun h => ⟨h⟩, fun h => h.fit⟩


set_option maxRecDepth 100000 in
set_option maxHeartbeats 1000000 in
theorem large_no (v : Value) (neg : Bool) (xs ys : List Int) (w : World) (h : RatV w v neg xs ys) (f1 : FitW (wN xs)) (f2 : FitW (wN ys)) :
    Calls Try.prog 116 #[v] w fun e w' => e = .returned (.bool false) ∧ Ext w w' := by
  obtain ⟨A, l, c, B, m, k, rfl, hA, hlc, hcm, hB, hmk, hkm⟩ := h
  have hXw : Ext w (w.alloc (.cells #[.bool neg, .slice A l c, .slice B m k] 33)) := (Ext.refl w).alloc _
  have HIA := Lib.hid (hA.ext hXw)
  have HIB := Lib.hid (hB.ext hXw)
  have HXw := Lib.hid hXw
  have HF1 := Lib.hid f1
  clear hA hB hXw f1
  have HF2 := Lib.hid f2
  clear f2
  go_enter Try.func116, Try.ntmps116
  go_wp2_with fail
  refine (norm_any A l c xs _ HIA.out hlc hcm).mono ?_
  rintro e w' ⟨q, hq, hN, hv, rfl, rfl⟩
  have hlen : q ≤ 256 ↔ FitW (wN xs) := fitW (norm_len HIA.out hq hN hv 256)
  have hq1 : q ≤ 256 := hlen.2 HF1.out
  clear hlen hN hv
  go_wp2_with fail
  refine (norm_any B m k ys _ HIB.out hmk hkm).mono ?_
  rintro e w' ⟨q2, hq2, hN, hv, rfl, rfl⟩
  have hlen : q2 ≤ 256 ↔ FitW (wN ys) := fitW (norm_len HIB.out hq2 hN hv 256)
  have hq3 : q2 ≤ 256 := hlen.2 HF2.out
  clear hlen hN hv
  go_wp2
  go_ret
  exact ⟨by first | rfl | (simp; done) | (simp; omega), HXw.out⟩


set_option maxRecDepth 100000 in
set_option maxHeartbeats 1000000 in
theorem large_num (v : Value) (neg : Bool) (xs ys : List Int) (w : World) (h : RatV w v neg xs ys) (f1 : ¬ FitW (wN xs)) :
    Calls Try.prog 116 #[v] w fun e w' => e = .returned (.bool true) ∧ Ext w w' := by
  obtain ⟨A, l, c, B, m, k, rfl, hA, hlc, hcm, hB, hmk, hkm⟩ := h
  have hXw : Ext w (w.alloc (.cells #[.bool neg, .slice A l c, .slice B m k] 33)) := (Ext.refl w).alloc _
  have HIA := Lib.hid (hA.ext hXw)
  have HIB := Lib.hid (hB.ext hXw)
  have HXw := Lib.hid hXw
  have HF1 := Lib.hid f1
  clear hA hB hXw f1

  go_enter Try.func116, Try.ntmps116
  go_wp2_with fail
  refine (norm_any A l c xs _ HIA.out hlc hcm).mono ?_
  rintro e w' ⟨q, hq, hN, hv, rfl, rfl⟩
  have hlen : q ≤ 256 ↔ FitW (wN xs) := fitW (norm_len HIA.out hq hN hv 256)
  have hq1 : 256 < q := by
    rcases Nat.lt_or_ge 256 q with h | h
    · exact h
    · exact absurd (hlen.1 h) HF1.out
  clear hlen hN hv
  go_wp2
  go_ret
  exact ⟨by first | rfl | (simp; done) | (simp; omega), HXw.out⟩


set_option maxRecDepth 100000 in
set_option maxHeartbeats 1000000 in
theorem large_den (v : Value) (neg : Bool) (xs ys : List Int) (w : World) (h : RatV w v neg xs ys) (f1 : FitW (wN xs)) (f2 : ¬ FitW (wN ys)) :
    Calls Try.prog 116 #[v] w fun e w' => e = .returned (.bool true) ∧ Ext w w' := by
  obtain ⟨A, l, c, B, m, k, rfl, hA, hlc, hcm, hB, hmk, hkm⟩ := h
  have hXw : Ext w (w.alloc (.cells #[.bool neg, .slice A l c, .slice B m k] 33)) := (Ext.refl w).alloc _
  have HIA := Lib.hid (hA.ext hXw)
  have HIB := Lib.hid (hB.ext hXw)
  have HXw := Lib.hid hXw
  have HF1 := Lib.hid f1
  clear hA hB hXw f1
  have HF2 := Lib.hid f2
  clear f2
  go_enter Try.func116, Try.ntmps116
  go_wp2_with fail
  refine (norm_any A l c xs _ HIA.out hlc hcm).mono ?_
  rintro e w' ⟨q, hq, hN, hv, rfl, rfl⟩
  have hlen : q ≤ 256 ↔ FitW (wN xs) := fitW (norm_len HIA.out hq hN hv 256)
  have hq1 : q ≤ 256 := hlen.2 HF1.out
  clear hlen hN hv
  go_wp2_with fail
  refine (norm_any B m k ys _ HIB.out hmk hkm).mono ?_
  rintro e w' ⟨q2, hq2, hN, hv, rfl, rfl⟩
  have hlen : q2 ≤ 256 ↔ FitW (wN ys) := fitW (norm_len HIB.out hq2 hN hv 256)
  have hq3 : 256 < q2 := by
    rcases Nat.lt_or_ge 256 q2 with h | h
    · exact h
    · exact absurd (hlen.1 h) HF2.out
  clear hlen hN hv
  go_wp2
  go_ret
  exact ⟨by first | rfl | (simp; done) | (simp; omega), HXw.out⟩


/-- Both lists are not too long. -/
def SmallR (xs ys : List Int) : Prop := FitW (wN xs) ∧ FitW (wN ys)
theorem large_yes (v : Value) (neg : Bool) (xs ys : List Int) (w : World) (h : RatV w v neg xs ys) (hs : ¬ SmallR xs ys) :
    Calls Try.prog 116 #[v] w fun e w' => e = .returned (.bool true) ∧ Ext w w' := by
  by_cases h1 : FitW (wN xs)
  · exact large_den v neg xs ys w h h1 fun h2 => hs ⟨h1, h2⟩
  · exact large_num v neg xs ys w h h1
theorem SmallR.den {xs ys : List Int} (h : SmallR xs ys) : FitW (wD ys) := by
  unfold wD
  split
  · exact ⟨Fit.one (by omega) (by omega)⟩
  · exact h.2
end Go.Proofs.Yteoijnaljkagfaa
