/- The operations on rational numbers (program) in words of rational numbers; walks of Sub and Cmp. -/
import Derived.Test.YteoijnaljkagfaaR4
namespace Go.Proofs.Yteoijnaljkagfaa
open Go.RowKit

/-- A value that is the rational number q, perhaps not in lowest terms, of at most L words above and below. -/
def NumX (w : World) (v : Value) (q : Rat) (L : Nat) : Prop := ∃ s n d, NumV w v s n d ∧ 0 < d ∧ ratV s n d = q ∧ Fit 4294967296 n L ∧ Fit 4294967296 d L
/-- The same in lowest terms. -/
def NumQ (w : World) (v : Value) (q : Rat) : Prop := NumV w v (decide (q.num < 0)) q.num.natAbs q.den
theorem NumX.ext {w w' : World} {v : Value} {q : Rat} {L : Nat} (h : NumX w v q L) (he : Ext w w') : NumX w' v q L := by
  obtain ⟨s, n, d, h1, h2⟩ := h
  exact ⟨s, n, d, h1.ext he, h2⟩
theorem NumQ.ext {w w' : World} {v : Value} {q : Rat} (h : NumQ w v q) (he : Ext w w') : NumQ w' v q := NumV.ext h he
theorem NumX.mono {w : World} {v : Value} {q : Rat} {L M : Nat} (h : NumX w v q L) (hl : L ≤ M) : NumX w v q M := by
  obtain ⟨s, n, d, h1, h2, h3, h4, h5⟩ := h
  exact ⟨s, n, d, h1, h2, h3, h4.mono (by omega) hl, h5.mono (by omega) hl⟩
theorem NumQ.numx {w : World} {v : Value} {q : Rat} {L : Nat} (h : NumQ w v q) (hf : FitQ q L) : NumX w v q L := ⟨_, _, _, h, q.den_pos, ratV_self q, hf.1, hf.2⟩
theorem NumX.fit {w : World} {v : Value} {q : Rat} {L : Nat} (h : NumX w v q L) : FitQ q L := by
  obtain ⟨s, n, d, _, h2, h3, h4, h5⟩ := h
  rw [← h3]; exact fit_red h2 h4 h5
theorem FitQ.mono {q : Rat} {L M : Nat} (h : FitQ q L) (hl : L ≤ M) : FitQ q M := ⟨h.1.mono (by omega) hl, h.2.mono (by omega) hl⟩

def RetX (w : World) (q : Rat) (L : Nat) (e : Ending) (w' : World) : Prop := ∃ v, e = .returned v ∧ NumX w' v q L ∧ Ext w w'
def RetQ2 (w : World) (q : Rat) (e : Ending) (w' : World) : Prop := ∃ v, e = .returned v ∧ NumQ w' v q ∧ Ext w w'

section
variable {va vb : Value} {a b : Rat} {L M : Nat} {w : World}
theorem intX (x : Int) (w : World) (h0 : -9223372036854775808 ≤ x) (h1 : x ≤ 9223372036854775807) : Calls Try.prog 75 #[.int .i64 x] w (RetX w (x : Rat) 2) := by
  refine (int_any x w h0 h1).mono ?_
  rintro e w' ⟨v, rfl, hv, hX⟩
  refine ⟨v, rfl, ⟨_, _, _, hv, by omega, ratV_int x, ?_, Fit.one (by omega) (by omega)⟩, hX⟩
  unfold Fit
  have : (4294967296 : Int) ^ 2 = 18446744073709551616 := by decide
  omega
theorem reducedX (h : NumX w va a L) (hL : L ≤ 1099511627775) : Calls Try.prog 112 #[va] w (RetQ2 w a) := by
  obtain ⟨s, n, d, h1, h2, h3, h4, h5⟩ := h
  refine (reduced_any va s n d L w h1 h2 h4 h5 hL).mono ?_
  rintro e w' ⟨v, rfl, hv, hX⟩
  refine ⟨v, rfl, ?_, hX⟩
  unfold NumQ
  rw [← h3, (ratV_neg s n d h2).1, (ratV_neg s n d h2).2, (ratV_red s n d h2).2]
  exact hv
theorem negX (h : NumX w va a L) : Calls Try.prog 86 #[va] w (RetX w (-a) L) := by
  obtain ⟨s, n, d, h1, h2, h3, h4, h5⟩ := h
  refine (neg_any va s n d w h1).mono ?_
  rintro e w' ⟨v, rfl, hv, hX⟩
  exact ⟨v, rfl, ⟨_, _, _, hv, h2, by rw [← ratV_opp, h3], h4, h5⟩, hX⟩
theorem negQ (h : NumQ w va a) : Calls Try.prog 86 #[va] w (RetQ2 w (-a)) := by
  refine (neg_any va _ _ _ w h).mono ?_
  rintro e w' ⟨v, rfl, hv, hX⟩
  refine ⟨v, rfl, ?_, hX⟩
  unfold NumQ
  rw [Rat.neg_num, Rat.neg_den, Int.natAbs_neg]
  have : decide (-a.num < 0) = nz (!decide (a.num < 0)) a.num.natAbs := by
    unfold nz
    by_cases h1 : a.num < 0
    · simp [h1]; omega
    · by_cases h2 : a.num = 0
      · simp [h2]
      · have h3 : -a.num < 0 := by omega
        simp only [h3, h1, decide_true, decide_false, Bool.not_false, Bool.true_and]
        exact (decide_eq_true (by omega)).symm
  rw [this]
  exact hv
theorem signX (h : NumX w va a L) : Calls Try.prog 91 #[va] w fun e w' => e = .returned (.int .i64 (sgnQ a)) ∧ Ext w w' := by
  obtain ⟨s, n, d, h1, h2, h3, h4, h5⟩ := h
  rw [← h3]
  exact sign_any va s n d w h1 h2
theorem mulX (ha : NumX w va a L) (hb : NumX w vb b M) (hL : L ≤ 1099511627776) (hM : M ≤ 1099511627776) : Calls Try.prog 98 #[va, vb] w (RetX w (a * b) (L + M)) := by
  obtain ⟨s, n, d, h1, h2, h3, h4, h5⟩ := ha
  obtain ⟨t, m, e, g1, g2, g3, g4, g5⟩ := hb
  refine (rmul_any va vb s t n d m e L M w h1 g1 h4 h5 g4 g5 hL hM).mono ?_
  rintro e' w' ⟨v, rfl, hv, hX⟩
  exact ⟨v, rfl, ⟨_, _, _, hv, Nat.mul_pos h2 g2, by rw [← ratV_mul, h3, g3], h4.mul (by omega) g4, h5.mul (by omega) g5⟩, hX⟩
theorem divX (ha : NumX w va a L) (hb : NumX w vb b M) (hz : b ≠ 0) (hL : L ≤ 1099511627776) (hM : M ≤ 1099511627776) : Calls Try.prog 76 #[va, vb] w (RetX w (a / b) (L + M)) := by
  obtain ⟨s, n, d, h1, h2, h3, h4, h5⟩ := ha
  obtain ⟨t, m, e, g1, g2, g3, g4, g5⟩ := hb
  have hm : 0 < m := by
    rcases Nat.eq_zero_or_pos m with h | h
    · exfalso; apply hz; rw [← g3]; exact (ratV_zero t m e g2).2 h
    · exact h
  refine (rdiv_any va vb s t n d m e L M w h1 g1 h4 h5 g4 g5 hL hM).mono ?_
  rintro e' w' ⟨v, rfl, hv, hX⟩
  exact ⟨v, rfl, ⟨_, _, _, hv, Nat.mul_pos h2 hm, by rw [← ratV_div h2 hm, h3, g3], h4.mul (by omega) g5, h5.mul (by omega) g4⟩, hX⟩
theorem addX (ha : NumX w va a L) (hb : NumX w vb b M) (hLM : L + M ≤ 1099511627776) : Calls Try.prog 99 #[va, vb] w (RetX w (a + b) (L + M + 1)) := by
  obtain ⟨s, n, d, h1, h2, h3, h4, h5⟩ := ha
  obtain ⟨t, m, e, g1, g2, g3, g4, g5⟩ := hb
  have fx := h4.mul (by omega) g5
  have fy := g4.mul (by omega) h5
  rw [Nat.add_comm M L] at fy
  have fd := (h5.mul (by omega) g5).mono (b := L + M + 1) (by omega) (by omega)
  by_cases hst : s = t
  · refine (radd_same va vb s t n d m e L M w h1 g1 h4 h5 g4 g5 hLM hst).mono ?_
    rintro e' w' ⟨v, rfl, hv, hX⟩
    exact ⟨v, rfl, ⟨_, _, _, hv, Nat.mul_pos h2 g2, by rw [← ratV_add_same h2 g2 hst, h3, g3], fx.add (by omega) fy, fd⟩, hX⟩
  · rcases Nat.lt_or_ge (n * e) (m * d) with hl | hl
    · refine (radd_lt va vb s t n d m e L M w h1 g1 h4 h5 g4 g5 hLM hst hl).mono ?_
      rintro e' w' ⟨v, rfl, hv, hX⟩
      exact ⟨v, rfl, ⟨_, _, _, hv, Nat.mul_pos h2 g2, by rw [← ratV_add_lt h2 g2 hst (Nat.le_of_lt hl), h3, g3], (fy.le (Nat.sub_le _ _)).mono (by omega) (by omega), fd⟩, hX⟩
    · refine (radd_ge va vb s t n d m e L M w h1 g1 h4 h5 g4 g5 hLM hst hl).mono ?_
      rintro e' w' ⟨v, rfl, hv, hX⟩
      exact ⟨v, rfl, ⟨_, _, _, hv, Nat.mul_pos h2 g2, by rw [← ratV_add_ge h2 g2 hst hl, h3, g3], (fx.le (Nat.sub_le _ _)).mono (by omega) (by omega), fd⟩, hX⟩
end
theorem NumX.open {w : World} {v : Value} {q : Rat} {L : Nat} (h : NumX w v q L) : ∃ s A1 l1 c1 A2 l2 c2, v = .agg #[.bool s, .slice A1 l1 c1, .slice A2 l2 c2] := by
  obtain ⟨s, n, d, h1, _⟩ := h
  obtain ⟨A1, l1, c1, A2, l2, c2, hv, _⟩ := h1.open
  exact ⟨s, A1, l1, c1, A2, l2, c2, hv⟩
theorem NumX.boxed {w : World} {v : Value} {q : Rat} {L g : Nat} (h : NumX w v q L) (hg : NoInts w g) (b : Bool) (A1 A2 : Option Addr) (l1 c1 l2 c2 : Nat) :
    NumX (((w.setCell ⟨g, 0, none⟩ (.bool b)).setCell ⟨g, 1, none⟩ (.slice A1 l1 c1)).setCell ⟨g, 2, none⟩ (.slice A2 l2 c2)) v q L := by
  obtain ⟨s, n, d, ⟨vn, vd, hv, h1, h2⟩, h3⟩ := h
  exact ⟨s, n, d, ⟨vn, vd, hv, h1.boxed hg _ _ _ _ _ _ _, h2.boxed hg _ _ _ _ _ _ _⟩, h3⟩
theorem NumQ.boxed {w : World} {v : Value} {q : Rat} {g : Nat} (h : NumQ w v q) (hg : NoInts w g) (b : Bool) (A1 A2 : Option Addr) (l1 c1 l2 c2 : Nat) :
    NumQ (((w.setCell ⟨g, 0, none⟩ (.bool b)).setCell ⟨g, 1, none⟩ (.slice A1 l1 c1)).setCell ⟨g, 2, none⟩ (.slice A2 l2 c2)) v q := by
  obtain ⟨vn, vd, hv, h1, h2⟩ := h
  exact ⟨vn, vd, hv, h1.boxed hg _ _ _ _ _ _ _, h2.boxed hg _ _ _ _ _ _ _⟩

set_option maxRecDepth 100000 in
set_option maxHeartbeats 2000000 in
theorem rsub_r1 (ga gb : Nat) (s t : Bool) (A1 A2 B1 B2 : Option Addr) (l1 c1 l2 c2 m1 k1 m2 k2 L M : Nat) (q r : Rat) (w : World) (a0 : w.cell? ⟨ga, 0, none⟩ = some (.bool s)) (a1 : w.cell? ⟨ga, 1, none⟩ = some (.slice A1 l1 c1)) (a2 : w.cell? ⟨ga, 2, none⟩ = some (.slice A2 l2 c2)) (b0 : w.cell? ⟨gb, 0, none⟩ = some (.bool t)) (b1 : w.cell? ⟨gb, 1, none⟩ = some (.slice B1 m1 k1)) (b2 : w.cell? ⟨gb, 2, none⟩ = some (.slice B2 m2 k2)) (hq : NumX w (.agg #[.bool s, .slice A1 l1 c1, .slice A2 l2 c2]) q L) (hr : NumX w (.agg #[.bool t, .slice B1 m1 k1, .slice B2 m2 k2]) r M) (hLM : L + M ≤ 1099511627776) (a : Act) (Q : Exit → Act → World → Prop) (hsize : 9 ≤ a.tmps.size)
    (s2 : a.tmps[2]? = some (.pointer (some ⟨ga, 0, none⟩)))
    (s3 : a.tmps[3]? = some (.pointer (some ⟨gb, 0, none⟩)))
    (hend : ∀ (xv0 xv1 xv2 xv3 : Value) (W : World), (xv0 = .agg #[.bool s, .slice A1 l1 c1, .slice A2 l2 c2]) → (xv1 = .agg #[.bool t, .slice B1 m1 k1, .slice B2 m2 k2]) → (NumX W xv2 (-r) M) → (NumX W xv3 (q - r) (L + M + 1)) → Ext w W → wpList Try.prog (rops Try.f102 1).toArray Q ((rops Try.f102 1).drop 4) ((((a.put (some 5) xv0).put (some 6) xv1).put (some 7) xv2).put (some 8) xv3) W) :
    (Code.region 1 (rops Try.f102 1).toArray true).wp Try.prog Q a w := by
  have hmono : ∀ (W W' : World) (j : Nat) (u : Value), Ext W W' → (fun (i : Nat) (v : Value) (W : World) => match i with
    | 0 => v = .agg #[.bool s, .slice A1 l1 c1, .slice A2 l2 c2]
    | 1 => v = .agg #[.bool t, .slice B1 m1 k1, .slice B2 m2 k2]
    | 2 => NumX W v (-r) M
    | 3 => NumX W v (q - r) (L + M + 1)
    | _ => True) j u W → (fun (i : Nat) (v : Value) (W : World) => match i with
    | 0 => v = .agg #[.bool s, .slice A1 l1 c1, .slice A2 l2 c2]
    | 1 => v = .agg #[.bool t, .slice B1 m1 k1, .slice B2 m2 k2]
    | 2 => NumX W v (-r) M
    | 3 => NumX W v (q - r) (L + M + 1)
    | _ => True) j u W' := by
    intro W W' j u hX h
    match j, h with
    | 0, h => exact h
    | 1, h => exact h
    | 2, h => exact NumX.ext h hX
    | 3, h => exact NumX.ext h hX
    | _ + 4, h => exact h
  have hsz : ∀ d, some d ∈ ([some 5, some 6, some 7, some 8] : List (Option Tmp)) → d < a.tmps.size := slots_lt (by decide) hsize
  refine wp_region_j 4 [some 5, some 6, some 7, some 8] [[], [], [1], [0, 2]] [[], [], [], []] (fun (i : Nat) (v : Value) (W : World) => match i with
    | 0 => v = .agg #[.bool s, .slice A1 l1 c1, .slice A2 l2 c2]
    | 1 => v = .agg #[.bool t, .slice B1 m1 k1, .slice B2 m2 k2]
    | 2 => NumX W v (-r) M
    | 3 => NumX W v (q - r) (L + M + 1)
    | _ => True) (fun _ W => Ext w W) (by kernel_rfl) (by kernel_rfl) hsz (fun _ _ _ _ h => h) ((Ext.refl w).drew) ?_ ?_
  · clear hend
    simp only [rops, Try.f102, regOf, Option.bind_some, Nat.reduceBEq, if_true, if_false, Bool.false_eq_true, Option.getD_some]
    simp only [List.take_succ_cons, List.take_zero]
    refine ⟨?_, ?_, ?_, ?_, trivial⟩
    · intro done us W hJ hdep haft hnot b hb hb' K hK Q'
      have e2 := (hb' 2 (by simp)).trans s2
      clear hb hb'
      have q0 := Ext.cell hJ a0
      have q1 := Ext.cell hJ a1
      have q2 := Ext.cell hJ a2
      go_simp
      exact hK _ _ rfl (fun _ _ _ h => h) hJ
    · intro done us W hJ hdep haft hnot b hb hb' K hK Q'
      have e3 := (hb' 3 (by simp)).trans s3
      clear hb hb'
      have q0 := Ext.cell hJ b0
      have q1 := Ext.cell hJ b1
      have q2 := Ext.cell hJ b2
      go_simp
      exact hK _ _ rfl (fun _ _ _ h => h) hJ
    · intro done us W hJ hdep haft hnot b hb hb' K hK Q'
      simp only [List.getD_cons_succ, List.getD_cons_zero, List.mem_cons, List.not_mem_nil, or_false, forall_eq] at hdep
      have e6 := hb 1 6 rfl
      have d1 := hdep
      rw [d1.1] at e6
      clear hb hb' hdep d1
      go_simp
      refine (negX (NumX.ext hr hJ)).mono ?_
      rintro e w' ⟨v, rfl, hv, hX⟩
      exact hK _ _ hv (fun j u _ h => hmono _ _ j u hX h) (Ext.trans hJ hX)
    · intro done us W hJ hdep haft hnot b hb hb' K hK Q'
      simp only [List.getD_cons_succ, List.getD_cons_zero, List.mem_cons, List.not_mem_nil, or_false, forall_eq_or_imp, forall_eq] at hdep
      have e5 := hb 0 5 rfl
      have e7 := hb 2 7 rfl
      have d0 := hdep.1
      have d2 := hdep.2
      rw [d0.1] at e5
      clear hb hb' hdep d0
      have hA := addX (NumX.ext hq hJ) d2.1 hLM
      rw [← Rat.sub_eq_add_neg] at hA
      go_simp
      refine (hA).mono ?_
      rintro e w' ⟨v, rfl, hv, hX⟩
      exact hK _ _ hv (fun j u _ h => hmono _ _ j u hX h) (Ext.trans hJ hX)
  · intro us W hV hJ
    exact hend (us 0) (us 1) (us 2) (us 3) W (hV 0 (by omega)) (hV 1 (by omega)) (hV 2 (by omega)) (hV 3 (by omega)) hJ

set_option maxRecDepth 100000 in
set_option maxHeartbeats 1000000 in
theorem subX {va vb : Value} {q r : Rat} {L M : Nat} {w : World} (ha : NumX w va q L) (hb : NumX w vb r M) (hLM : L + M ≤ 1099511627776) : Calls Try.prog 102 #[va, vb] w (RetX w (q - r) (L + M + 1)) := by
  obtain ⟨s, A1, l1, c1, A2, l2, c2, rfl⟩ := ha.open
  obtain ⟨t, B1, m1, k1, B2, m2, k2, rfl⟩ := hb.open
  have HA := Lib.hid ha
  have HB := Lib.hid hb
  clear ha hb
  go_enter Try.func102, Try.ntmps102
  go_wp2_with fail
  have hXw : Ext w (((w.alloc (.cells #[.bool s, .slice A1 l1 c1, .slice A2 l2 c2] 96)).alloc (.cells #[.bool t, .slice B1 m1 k1, .slice B2 m2 k2] 96)).alloc (.cells #[.bool false, .slice none 0 0, .slice none 0 0] 96)) := (((Ext.refl w).alloc _).alloc _).alloc _
  have hBA : Blk (((w.alloc (.cells #[.bool s, .slice A1 l1 c1, .slice A2 l2 c2] 96)).alloc (.cells #[.bool t, .slice B1 m1 k1, .slice B2 m2 k2] 96)).alloc (.cells #[.bool false, .slice none 0 0, .slice none 0 0] 96)) w.heap.size 96 #[.bool s, .slice A1 l1 c1, .slice A2 l2 c2] := ((Blk.new w _ _).alloc _).alloc _
  have hBB : Blk (((w.alloc (.cells #[.bool s, .slice A1 l1 c1, .slice A2 l2 c2] 96)).alloc (.cells #[.bool t, .slice B1 m1 k1, .slice B2 m2 k2] 96)).alloc (.cells #[.bool false, .slice none 0 0, .slice none 0 0] 96)) (w.heap.size + 1) 96 #[.bool t, .slice B1 m1 k1, .slice B2 m2 k2] := by
    have := (Blk.new (w.alloc (.cells #[.bool s, .slice A1 l1 c1, .slice A2 l2 c2] 96)) 96 #[.bool t, .slice B1 m1 k1, .slice B2 m2 k2]).alloc (.cells #[.bool false, .slice none 0 0, .slice none 0 0] 96)
    simpa using this
  have hBR : Blk (((w.alloc (.cells #[.bool s, .slice A1 l1 c1, .slice A2 l2 c2] 96)).alloc (.cells #[.bool t, .slice B1 m1 k1, .slice B2 m2 k2] 96)).alloc (.cells #[.bool false, .slice none 0 0, .slice none 0 0] 96)) (w.heap.size + 1 + 1) 96 #[.bool false, .slice none 0 0, .slice none 0 0] := by
    have := Blk.new ((w.alloc (.cells #[.bool s, .slice A1 l1 c1, .slice A2 l2 c2] 96)).alloc (.cells #[.bool t, .slice B1 m1 k1, .slice B2 m2 k2] 96)) 96 #[.bool false, .slice none 0 0, .slice none 0 0]
    simpa using this
  generalize ((w.alloc (.cells #[.bool s, .slice A1 l1 c1, .slice A2 l2 c2] 96)).alloc (.cells #[.bool t, .slice B1 m1 k1, .slice B2 m2 k2] 96)).alloc (.cells #[.bool false, .slice none 0 0, .slice none 0 0] 96) = w1 at hXw hBA hBB hBR ⊢
  obtain ⟨a0, a1, a2, _, _, _⟩ := hBA.three
  obtain ⟨b0, b1, b2, _, _, _⟩ := hBB.three
  have HXw := Lib.hid hXw
  have HBA := Lib.hid hBA
  have HBB := Lib.hid hBB
  have HBR := Lib.hid hBR
  replace HA := Lib.hid (HA.out.ext hXw)
  replace HB := Lib.hid (HB.out.ext hXw)
  clear hXw hBA hBB hBR
  refine rsub_r1 w.heap.size (w.heap.size + 1) s t A1 A2 B1 B2 l1 c1 l2 c2 m1 k1 m2 k2 L M q r w1 a0 a1 a2 b0 b1 b2 HA.out HB.out hLM _ _ (by simp) rfl rfl ?_
  rintro xv0 xv1 xv2 xv3 W rfl rfl h2 h3 hXW
  simp only [rops, Try.f102, regOf, Option.bind_some, Nat.reduceBEq, if_true, if_false, Bool.false_eq_true, Option.getD_some, List.drop_succ_cons, List.drop_zero]
  simp only [Act.put, List.setIfInBounds_toArray, List.set_cons_succ, List.set_cons_zero]
  obtain ⟨u, P1, q1, r1, P2, q2, r2, rfl⟩ := NumX.open h3
  obtain ⟨y0, y1, y2, f0, f1', f2'⟩ := (HBR.out.ext hXW).three
  have HNB := Lib.hid (NoInts.three (HBR.out.ext hXW))
  have G3 := Lib.hid h3
  have HXW := Lib.hid hXW
  clear h2 h3 hXW a0 a1 a2 b0 b1 b2
  go_wp2
  refine bodyPost_ret (v := .agg #[.bool u, .slice P1 q1 r1, .slice P2 q2 r2]) (by simp [results, Try.results102, go_sem, *]) rfl ?_
  exact ⟨_, rfl, G3.out.boxed HNB.out _ _ _ _ _ _ _, Ext.boxed (HXw.out.trans HXW.out) (by omega) _ _ _⟩


set_option maxRecDepth 100000 in
set_option maxHeartbeats 1000000 in
theorem cmpX {va vb : Value} {q r : Rat} {L M : Nat} {w : World} (ha : NumX w va q L) (hb : NumX w vb r M) (hLM : L + M ≤ 1099511627776) : Calls Try.prog 101 #[va, vb] w fun e w' => e = .returned (.int .i64 (sgnQ (q - r))) ∧ Ext w w' := by
  obtain ⟨s, A1, l1, c1, A2, l2, c2, rfl⟩ := ha.open
  obtain ⟨t, B1, m1, k1, B2, m2, k2, rfl⟩ := hb.open
  have HA := Lib.hid ha
  have HB := Lib.hid hb
  have hXw : Ext w ((w.alloc (.cells #[.bool s, .slice A1 l1 c1, .slice A2 l2 c2] 96)).alloc (.cells #[.bool t, .slice B1 m1 k1, .slice B2 m2 k2] 96)) := ((Ext.refl w).alloc _).alloc _
  have HXw := Lib.hid hXw
  clear ha hb hXw
  go_enter Try.func101, Try.ntmps101
  go_wp2_with fail
  refine (subX (HA.out.ext HXw.out) (HB.out.ext HXw.out) hLM).mono ?_
  rintro e w1 ⟨v, rfl, hv, hX⟩
  have HV := Lib.hid hv
  have HX := Lib.hid hX
  clear hv hX
  go_wp2_with fail
  refine (signX HV.out).mono ?_
  rintro e w2 ⟨rfl, hX2⟩
  have HX2 := Lib.hid hX2
  clear hX2
  go_wp2
  go_ret
  exact ⟨rfl, (HXw.out.trans HX.out).trans HX2.out⟩
end Go.Proofs.Yteoijnaljkagfaa
