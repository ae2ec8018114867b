/- Walks: Neg, Sign, Reduced of rational numbers (program). -/
import Derived.Test.YteoijnaljkagfaaR1
namespace Go.Proofs.Yteoijnaljkagfaa
open Go.RowKit

theorem NumV.open {w : World} {v : Value} {s : Bool} {n d : Nat} (h : NumV w v s n d) : ∃ A1 l1 c1 A2 l2 c2, v = .agg #[.bool s, .slice A1 l1 c1, .slice A2 l2 c2] ∧ W32 w (.slice A1 l1 c1) n ∧ W32 w (.slice A2 l2 c2) d ∧ (l1 = 0 ↔ n = 0) ∧ (l2 = 0 ↔ d = 0) := by
  obtain ⟨vn, vd, rfl, h1, h2⟩ := h
  obtain ⟨A1, l1, c1, rfl, g1, e1⟩ := h1.open
  obtain ⟨A2, l2, c2, rfl, g2, e2⟩ := h2.open
  exact ⟨A1, l1, c1, A2, l2, c2, rfl, g1, g2, e1, e2⟩

set_option maxHeartbeats 1000000 in
theorem neg_any (v : Value) (s : Bool) (n d : Nat) (w : World) (h : NumV w v s n d) :
    Calls Try.prog 86 #[v] w (RetR w (nz (!s) n) n d) := by
  obtain ⟨A1, l1, c1, A2, l2, c2, rfl, h1, h2, e1, _⟩ := h.open
  have H1 := Lib.hid h1
  have H2 := Lib.hid h2
  have E1 := Lib.hid e1
  clear h h1 h2 e1
  rcases (by rcases Bool.eq_false_or_eq_true s with h | h <;> rcases Nat.eq_zero_or_pos l1 with g | g <;> simp [h, g] : s = true ∨ (s = false ∧ l1 = 0) ∨ (s = false ∧ 0 < l1)) with hs | ⟨hs, hl⟩ | ⟨hs, hl⟩
  · subst hs
    rw [show nz (!true) n = false from nz_false n]
    go_enter Try.func86, Try.ntmps86
    go_wp2
    refine bodyPost_ret (v := .agg #[.bool false, .slice A1 l1 c1, .slice A2 l2 c2]) (by simp [results, Try.results86, go_sem]) rfl ?_
    exact ⟨_, rfl, ⟨_, _, rfl, H1.out.ext (((Ext.refl w).alloc _).alloc _), H2.out.ext (((Ext.refl w).alloc _).alloc _)⟩, ((Ext.refl w).alloc _).alloc _⟩
  · subst hs hl
    have hn := E1.out.1 rfl
    rw [show nz (!false) n = false by rw [hn]; exact nz_zero _]
    have HN := Lib.hid hn
    clear hn
    go_enter Try.func86, Try.ntmps86
    go_wp2
    refine bodyPost_ret (v := .agg #[.bool false, .slice A1 0 c1, .slice A2 l2 c2]) (by simp [results, Try.results86, go_sem]) rfl ?_
    exact ⟨_, rfl, ⟨_, _, rfl, H1.out.ext (((Ext.refl w).alloc _).alloc _), H2.out.ext (((Ext.refl w).alloc _).alloc _)⟩, ((Ext.refl w).alloc _).alloc _⟩
  · subst hs
    have hn : n ≠ 0 := fun h => by have := E1.out.2 h; omega
    rw [show nz (!false) n = true from nz_pos _ hn]
    clear hn
    go_enter Try.func86, Try.ntmps86
    go_wp2
    refine bodyPost_ret (v := .agg #[.bool true, .slice A1 l1 c1, .slice A2 l2 c2]) (by simp [results, Try.results86, go_sem]) rfl ?_
    exact ⟨_, rfl, ⟨_, _, rfl, H1.out.ext (((Ext.refl w).alloc _).alloc _), H2.out.ext (((Ext.refl w).alloc _).alloc _)⟩, ((Ext.refl w).alloc _).alloc _⟩

set_option maxHeartbeats 1000000 in
theorem sign_any (v : Value) (s : Bool) (n d : Nat) (w : World) (h : NumV w v s n d) (hd : 0 < d) :
    Calls Try.prog 91 #[v] w fun e w' => e = .returned (.int .i64 (sgnQ (ratV s n d))) ∧ Ext w w' := by
  obtain ⟨A1, l1, c1, A2, l2, c2, rfl, h1, h2, e1, _⟩ := h.open
  have E1 := Lib.hid e1
  clear h h1 h2 e1
  rcases (by rcases Bool.eq_false_or_eq_true s with h | h <;> rcases Nat.eq_zero_or_pos l1 with g | g <;> simp [h, g] : l1 = 0 ∨ (s = true ∧ 0 < l1) ∨ (s = false ∧ 0 < l1)) with hl | ⟨hs, hl⟩ | ⟨hs, hl⟩
  · subst hl
    have HN := Lib.hid (E1.out.1 rfl)
    go_enter Try.func91, Try.ntmps91
    go_wp2
    go_ret
    exact ⟨by rw [sgnQ_zero hd HN.out]; rfl, (Ext.refl w).alloc _⟩
  · subst hs
    have HN : Hid (0 < n) := by
      rcases Nat.eq_zero_or_pos n with h | h
      · have := E1.out.2 h; omega
      · exact h
    have hlb : ((l1 : Int) == 0) = false := by simp; omega
    go_enter Try.func91, Try.ntmps91
    go_wp2
    go_ret
    exact ⟨by rw [sgnQ_neg hd HN.out]; rfl, (Ext.refl w).alloc _⟩
  · subst hs
    have HN : Hid (0 < n) := by
      rcases Nat.eq_zero_or_pos n with h | h
      · have := E1.out.2 h; omega
      · exact h
    have hlb : ((l1 : Int) == 0) = false := by simp; omega
    go_enter Try.func91, Try.ntmps91
    go_wp2
    go_ret
    exact ⟨by rw [sgnQ_pos hd HN.out]; rfl, (Ext.refl w).alloc _⟩

set_option maxRecDepth 100000 in
set_option maxHeartbeats 4000000 in
theorem reduced_any (v : Value) (s : Bool) (n d L : Nat) (w : World) (h : NumV w v s n d) (hd : 0 < d) (hn : Fit 4294967296 n L) (hdL : Fit 4294967296 d L) (hL : L ≤ 1099511627775) :
    Calls Try.prog 112 #[v] w (RetR w (nz s n) (n / Nat.gcd n d) (d / Nat.gcd n d)) := by
  obtain ⟨A1, l1, c1, A2, l2, c2, rfl, h1, h2, e1, _⟩ := h.open
  have H1 := Lib.hid h1
  have H2 := Lib.hid h2
  have E1 := Lib.hid e1
  clear h h1 h2 e1
  rcases Nat.eq_zero_or_pos l1 with hl | hl
  · subst hl
    have hn0 := E1.out.1 rfl
    have HS : Hid (nz s n = false ∧ n / Nat.gcd n d = 0 ∧ d / Nat.gcd n d = 1) := ⟨by rw [hn0]; exact nz_zero s, by rw [hn0]; simp, by rw [hn0, Nat.gcd_zero_left]; exact Nat.div_self hd⟩
    clear hn0
    go_enter Try.func112, Try.ntmps112
    go_wp2
    refine bodyPost_ret (v := .agg #[.bool false, .slice none 0 0, .slice (some ⟨w.heap.size + 1 + 1, 0, none⟩) 1 1]) (by simp [results, Try.results112, go_sem]) rfl ?_
    rw [HS.out.1, HS.out.2.1, HS.out.2.2]
    exact ⟨_, rfl, ⟨_, _, rfl, NatV.zero, W32.one' _ (by simp) rfl⟩, (((Ext.refl w).alloc _).alloc _).alloc _⟩
  · have hnp : 0 < n := by
      rcases Nat.eq_zero_or_pos n with h | h
      · have := E1.out.2 h; omega
      · exact h
    have hgp0 : 0 < Nat.gcd n d := Nat.gcd_pos_of_pos_left d hnp
    have HSN : Hid (nz s n = s) := nz_pos s (by omega)
    have hlb : ((l1 : Int) == 0) = false := by simp; omega
    go_enter Try.func112, Try.ntmps112
    go_wp2_with fail
    have hXw : Ext w ((w.alloc (.cells #[.bool s, .slice A1 l1 c1, .slice A2 l2 c2] 96)).alloc (.cells #[.bool false, .slice none 0 0, .slice none 0 0] 96)) := ((Ext.refl w).alloc _).alloc _
    have hBA : Blk ((w.alloc (.cells #[.bool s, .slice A1 l1 c1, .slice A2 l2 c2] 96)).alloc (.cells #[.bool false, .slice none 0 0, .slice none 0 0] 96)) w.heap.size 96 #[.bool s, .slice A1 l1 c1, .slice A2 l2 c2] := (Blk.new w _ _).alloc _
    have hBR : Blk ((w.alloc (.cells #[.bool s, .slice A1 l1 c1, .slice A2 l2 c2] 96)).alloc (.cells #[.bool false, .slice none 0 0, .slice none 0 0] 96)) (w.heap.size + 1) 96 #[.bool false, .slice none 0 0, .slice none 0 0] := by
      have := Blk.new (w.alloc (.cells #[.bool s, .slice A1 l1 c1, .slice A2 l2 c2] 96)) 96 #[.bool false, .slice none 0 0, .slice none 0 0]
      simpa using this
    generalize (w.alloc (.cells #[.bool s, .slice A1 l1 c1, .slice A2 l2 c2] 96)).alloc (.cells #[.bool false, .slice none 0 0, .slice none 0 0] 96) = w1 at hXw hBA hBR ⊢
    have HXw := Lib.hid hXw
    have HBA := Lib.hid hBA
    have HBR := Lib.hid hBR
    replace H1 := Lib.hid (H1.out.ext hXw)
    replace H2 := Lib.hid (H2.out.ext hXw)
    clear hXw hBA hBR
    refine (gcd_any _ _ n d L _ H1.out H2.out hn hdL hL).mono ?_
    rintro e w2 ⟨vg, rfl, hg, hX2⟩
    obtain ⟨g, hge⟩ : ∃ g, Nat.gcd n d = g := ⟨_, rfl⟩
    rw [hge] at hg hgp0
    have hgp := hgp0
    have HGE := Lib.hid hge
    obtain ⟨Ag, lg, cg, xs, rfl, hIg, hRg, hcg, hcgm⟩ := hg
    have hWg : W32 w2 (.slice Ag lg cg) g := ⟨Ag, lg, cg, xs, rfl, hIg, hRg, hcg, hcgm⟩
    obtain ⟨z0, z1, z2, _, _, _⟩ := (HBA.out.ext hX2).three
    have HX2 := Lib.hid hX2
    have HWg := Lib.hid hWg
    by_cases hg1 : g = 1
    · have hxs : xs = [1] := by rw [hg1] at hRg; exact hRg.unique (by omega) (Rep.one (by omega))
      subst hxs
      obtain rfl : lg = 1 := by simpa using hIg.1.symm
      obtain ⟨b, o, y, rfl, hy, _, hcy⟩ := hIg.get (j := 0) (by omega)
      obtain rfl : 1 = y := by simpa using hy
      rw [Nat.add_zero] at hcy
      obtain ⟨y0, y1, y2, f0, f1, f2⟩ := (HBR.out.ext hX2).three
      have HNB := Lib.hid (NoInts.three (HBR.out.ext hX2))
      have HG1 := Lib.hid hg1
      clear hge hIg hRg hWg hX2 hy hg1 hgp hgp0
      go_wp2
      refine bodyPost_ret (v := .agg #[.bool s, .slice A1 l1 c1, .slice A2 l2 c2]) (by simp [results, Try.results112, go_sem, *]) rfl ?_
      refine ⟨_, rfl, ⟨.slice A1 l1 c1, .slice A2 l2 c2, ?_, ?_, ?_⟩, Ext.boxed (HXw.out.trans HX2.out) (Nat.le_succ _) _ _ _⟩
      · rw [HSN.out]
      · rw [HGE.out, HG1.out, Nat.div_one]; exact (H1.out.ext HX2.out).boxed HNB.out _ _ _ _ _ _ _
      · rw [HGE.out, HG1.out, Nat.div_one]; exact (H2.out.ext HX2.out).boxed HNB.out _ _ _ _ _ _ _
    · rw [← hge] at hg1
      have hcase : (lg = 1 ∧ ∃ b o x, Ag = some ⟨b, o, none⟩ ∧ w2.cell? ⟨b, o, none⟩ = some (.int .u32 x) ∧ (x == 1) = false) ∨ ((lg : Int) == 1) = false := by
        by_cases hl1 : lg = 1
        · left
          refine ⟨hl1, ?_⟩
          subst hl1
          obtain ⟨x, rfl, hx, _, _⟩ := one_digit (by omega) hRg hIg.1
          obtain ⟨b, o, y, rfl, hy, _, hcy⟩ := hIg.get (j := 0) (by omega)
          obtain rfl : x = y := by simpa using hy
          rw [Nat.add_zero] at hcy
          refine ⟨b, o, x, rfl, hcy, ?_⟩
          simp only [beq_eq_false_iff_ne, ne_eq]
          intro h1
          apply hg1
          rw [hge]; omega
        · right; simp; omega
      clear hge hIg hRg hWg hX2 hg1 hgp0
      rcases hcase with ⟨rfl, b, o, x, rfl, hcx, hx1⟩ | hlg
      · 
        go_wp2_with fail
        refine (div_any _ _ n g L _ (H1.out.ext HX2.out) (HWg.out) hgp hn hL).mono ?_
        rintro e w3 ⟨q1, r1, rfl, hq1, _, hX3⟩
        obtain ⟨B1, m1, k1, rfl, hq1, _⟩ := hq1.open
        have hX3' := HX2.out.trans hX3
        obtain ⟨z0, z1, z2, _, _, _⟩ := (HBA.out.ext hX3').three
        have HQ1 := Lib.hid hq1
        have HX3 := Lib.hid hX3'
        have HG3 := Lib.hid (W32.ext HWg.out hX3)
        clear hq1 hX3 hX3'
        go_wp2_with fail
        refine (div_any _ _ d g L _ (H2.out.ext HX3.out) HG3.out hgp hdL hL).mono ?_
        rintro e w4 ⟨q2, r2, rfl, hq2, _, hX4⟩
        obtain ⟨B2, m2, k2, rfl, hq2, _⟩ := hq2.open
        have hX4' := HX3.out.trans hX4
        obtain ⟨z0, z1, z2, _, _, _⟩ := (HBA.out.ext hX4').three
        obtain ⟨y0, y1, y2, f0, f1, f2⟩ := (HBR.out.ext hX4').three
        have HQ1b := Lib.hid (HQ1.out.ext hX4)
        have HQ2 := Lib.hid hq2
        have HX4 := Lib.hid hX4'
        have HNB := Lib.hid (NoInts.three (HBR.out.ext hX4'))
        clear hq2 hX4 hX4'
        go_wp2
        refine bodyPost_ret (v := .agg #[.bool s, .slice B1 m1 k1, .slice B2 m2 k2]) (by simp [results, Try.results112, go_sem, *]) rfl ?_
        refine ⟨_, rfl, ⟨.slice B1 m1 k1, .slice B2 m2 k2, ?_, ?_, ?_⟩, Ext.boxed (HXw.out.trans HX4.out) (Nat.le_succ _) _ _ _⟩
        · rw [HSN.out]
        · rw [HGE.out]; exact HQ1b.out.boxed HNB.out _ _ _ _ _ _ _
        · rw [HGE.out]; exact HQ2.out.boxed HNB.out _ _ _ _ _ _ _
      · 
        go_wp2_with fail
        refine (div_any _ _ n g L _ (H1.out.ext HX2.out) (HWg.out) hgp hn hL).mono ?_
        rintro e w3 ⟨q1, r1, rfl, hq1, _, hX3⟩
        obtain ⟨B1, m1, k1, rfl, hq1, _⟩ := hq1.open
        have hX3' := HX2.out.trans hX3
        obtain ⟨z0, z1, z2, _, _, _⟩ := (HBA.out.ext hX3').three
        have HQ1 := Lib.hid hq1
        have HX3 := Lib.hid hX3'
        have HG3 := Lib.hid (W32.ext HWg.out hX3)
        clear hq1 hX3 hX3'
        go_wp2_with fail
        refine (div_any _ _ d g L _ (H2.out.ext HX3.out) HG3.out hgp hdL hL).mono ?_
        rintro e w4 ⟨q2, r2, rfl, hq2, _, hX4⟩
        obtain ⟨B2, m2, k2, rfl, hq2, _⟩ := hq2.open
        have hX4' := HX3.out.trans hX4
        obtain ⟨z0, z1, z2, _, _, _⟩ := (HBA.out.ext hX4').three
        obtain ⟨y0, y1, y2, f0, f1, f2⟩ := (HBR.out.ext hX4').three
        have HQ1b := Lib.hid (HQ1.out.ext hX4)
        have HQ2 := Lib.hid hq2
        have HX4 := Lib.hid hX4'
        have HNB := Lib.hid (NoInts.three (HBR.out.ext hX4'))
        clear hq2 hX4 hX4'
        go_wp2
        refine bodyPost_ret (v := .agg #[.bool s, .slice B1 m1 k1, .slice B2 m2 k2]) (by simp [results, Try.results112, go_sem, *]) rfl ?_
        refine ⟨_, rfl, ⟨.slice B1 m1 k1, .slice B2 m2 k2, ?_, ?_, ?_⟩, Ext.boxed (HXw.out.trans HX4.out) (Nat.le_succ _) _ _ _⟩
        · rw [HSN.out]
        · rw [HGE.out]; exact HQ1b.out.boxed HNB.out _ _ _ _ _ _ _
        · rw [HGE.out]; exact HQ2.out.boxed HNB.out _ _ _ _ _ _ _
end Go.Proofs.Yteoijnaljkagfaa
