/- Lemmas of the proof that follows (Measures, part 14): walks of functions by contract, and plain lemmas. Conditions: none. -/
import Derived.Test.YtikhlcgnlbinfaaMeasuresM
namespace Go.Proofs.Ytikhlcgnlbinfaa
open Lib (hid)
open Go.RowKit
set_option maxRecDepth 100000 in
set_option maxHeartbeats 4000000 in
theorem shiftsR_no (S : Int) (A At : Option Addr) (n c m ct : Nat) (w : World) (hne : ¬ (m : Int) = S) (_hm : m ≤ 9223372036854775807) :
  Calls Try.prog 58 #[.agg #[.int .i64 S, .slice A n c], .slice At m ct] w (fun e w' => e = .returned (.tuple #[.slice none 0 0, .bool false]) ∧ Ext w w') := by
 have HX := hid ((Ext.refl w).alloc (.cells #[.int .i64 S, .slice A n c] 76))
 have HP : Hid (Blk (w.alloc (.cells #[.int .i64 S, .slice A n c] 76)) w.heap.size 76 #[.int .i64 S, .slice A n c]) := hid (Blk.new w _ _)
 have q1 : ((m : Int) != S) = true := by simpa using hne
 clear hne
 go_enter Try.func58, Try.ntmps58
 go_upto_region 1 with (fail)
 generalize w.alloc (.cells #[.int .i64 S, .slice A n c] 76) = w1 at HX HP ⊢
 have p0 := HP.out.cell 0
 simp only [List.getElem?_toArray, List.getElem?_cons_zero, List.getElem?_cons_succ] at p0
 go_wp2
 refine bodyPost_ret (v := .tuple #[.slice none 0 0, .bool false]) (by simp [results, Try.results58, go_sem, *]) rfl ?_
 exact ⟨rfl, HX.out⟩
set_option maxRecDepth 100000 in
set_option maxHeartbeats 16000000 in
theorem shiftsR_yes (m n c gt ot ct : Nat) (A tA : Option Addr) (u : Nat → Rat) (w : World) (hS : ShP RatG w gt ot m u) (hA : 0 < m → tA = some ⟨gt, ot, none⟩) (_hm : m ≤ 20) :
  Calls Try.prog 58 #[.agg #[.int .i64 (m : Int), .slice A n c], .slice tA m ct] w (fun e w' => ∃ v, e = .returned (.tuple #[v, .bool true]) ∧ SRow w.heap.size w' v m u ∧ Ext w w') := by
 have HX := hid ((Ext.refl w).alloc (.cells #[.int .i64 (m : Int), .slice A n c] 76))
 have HP : Hid (Blk (w.alloc (.cells #[.int .i64 (m : Int), .slice A n c] 76)) w.heap.size 76 #[.int .i64 (m : Int), .slice A n c]) := hid (Blk.new w _ _)
 have q1 : ((m : Int) != (m : Int)) = false := by simp
 have HS := hid hS
 clear hS
 go_enter Try.func58, Try.ntmps58
 go_upto_region 1 with (fail)
 generalize w.alloc (.cells #[.int .i64 (m : Int), .slice A n c] 76) = w1 at HX HP ⊢
 have p0 := HP.out.cell 0
 simp only [List.getElem?_toArray, List.getElem?_cons_zero, List.getElem?_cons_succ] at p0
 have hlw : w.heap.size ≤ w1.heap.size := HX.out.size
 go_upto_region 3 with (fail)
 clear p0 q1
 go_wp2_with fail
 go_loopg [6, 7, 8, 9, 10, 11] m (fun fu ov iv _ _ _ _ W => ∃ i : Nat, fu = m - i ∧ i ≤ m ∧ iv = .int .i64 (i : Int) ∧ Hid (SRow w.heap.size W ov i u) ∧ Hid (Ext w W))
 case atStart => exact ⟨0, by omega, by omega, rfl, hid (SRow.nil _ _ _), HX⟩
 case round =>
  clear HX HP
  obtain ⟨i, rfl, hi, rfl, HO, HX⟩ := hrel
  obtain ⟨Ao, co, hAo⟩ := HO.out.slice
  subst hAo
  by_cases him : i < m
  ·
   have q1 : decide ((i : Int) < (m : Int)) = true := decide_eq_true (by omega)
   have q1b : decide (i < m) = true := decide_eq_true him
   have hAe := hA (by omega)
   subst hAe
   go_upto_region 8 with (fail)
   have hX2 : Ext wr (wr.alloc (.cells #[.bool false, .slice none 0 0, .slice none 0 0, .bool false, .slice none 0 0, .slice none 0 0, .bool false, .slice none 0 0, .slice none 0 0] 229)) := (Ext.refl _).alloc _
   have HG : Hid (w.heap.size ≤ wr.heap.size ∧ (∀ g, (Value.slice Ao i co).ownBlock = some g → g < wr.heap.size)) := hid ⟨HX.out.size, fun g hg => (HO.out.low hg).2⟩
   have HQ : Hid (XQ (wr.alloc (.cells #[.bool false, .slice none 0 0, .slice none 0 0, .bool false, .slice none 0 0, .slice none 0 0, .bool false, .slice none 0 0, .slice none 0 0] 229)) wr.heap.size (fun j => if j < 0 then some (u (3 * i + j)) else none)) := hid ((XQ.zero wr).congr (fun j hj => by simp))
   generalize wr.heap.size = gs at HG HQ ⊢
   generalize wr.alloc (.cells #[.bool false, .slice none 0 0, .slice none 0 0, .bool false, .slice none 0 0, .slice none 0 0, .bool false, .slice none 0 0, .slice none 0 0] 229) = w2 at hX2 HQ ⊢
   replace HO := hid (HO.out.ext hX2)
   replace HX := hid (HX.out.trans hX2)
   clear hX2
   go_wp2_with fail
   go_loopg [9, 10, 11] 3 (fun fu kv _ _ W => ∃ k : Nat, fu = 3 - k ∧ k ≤ 3 ∧ kv = .int .i64 (k : Int) ∧ Hid (XQ W gs (fun j => if j < k then some (u (3 * i + j)) else none)) ∧ Hid (SRow w.heap.size W (.slice Ao i co) i u) ∧ Hid (Ext w W))
   case atStart => exact ⟨0, by omega, by omega, rfl, HQ, HO, HX⟩
   case round =>
    clear HQ HO HX
    obtain ⟨k, rfl, hk, rfl, HQ, HO, HX⟩ := hrel
    by_cases hk3 : k < 3
    ·
     have q2 : decide ((k : Int) < 3) = true := decide_eq_true (by omega)
     have hki : (k : Int) < 3 := by omega
     obtain ⟨sq, Aq, lq, cq, Bq, mq, kq, y0, y1, y2, hy⟩ := (HS.out.ext growsG HX.out) i k him hk3
     have HY := hid hy
     clear hy
     go_wp2_with fail
     refine (rof_yes HY.out).mono ?_
     rintro e w4 ⟨v, rfl, hv, hX2⟩
     clear y0 y1 y2 HY
     obtain ⟨s4, A4, l4, c4, B4, m4, k4, rfl⟩ := QZ.open hv
     go_upto_region 12 with (fail)
     replace HQ := hid (HQ.out.ext hX2)
     replace HO := hid (HO.out.ext hX2)
     replace HX := hid (HX.out.trans hX2)
     have hX3 : Ext w4 (w4.alloc (.cells #[.bool s4, .slice A4 l4 c4, .slice B4 m4 k4] 65)) := (Ext.refl _).alloc _
     have HB : Hid (QB (w4.alloc (.cells #[.bool s4, .slice A4 l4 c4, .slice B4 m4 k4] 65)) w4.heap.size (u (3 * i + k))) := hid (QB.new hv)
     have HVV := hid (hv.ext hX3)
     have b0 := (Blk.new w4 65 #[.bool s4, .slice A4 l4 c4, .slice B4 m4 k4]).cell 0
     have b1 := (Blk.new w4 65 #[.bool s4, .slice A4 l4 c4, .slice B4 m4 k4]).cell 1
     have b2 := (Blk.new w4 65 #[.bool s4, .slice A4 l4 c4, .slice B4 m4 k4]).cell 2
     simp only [List.getElem?_toArray, List.getElem?_cons_zero, List.getElem?_cons_succ] at b0 b1 b2
     clear hv hX2 HB
     generalize w4.heap.size = gx at b0 b1 b2 ⊢
     generalize w4.alloc (.cells #[.bool s4, .slice A4 l4 c4, .slice B4 m4 k4] 65) = w5 at b0 b1 b2 HVV hX3 ⊢
     replace HQ := hid (HQ.out.ext hX3)
     replace HO := hid (HO.out.ext hX3)
     replace HX := hid (HX.out.trans hX3)
     clear hX3
     obtain ⟨s5, A5, l5, c5, B5, m5, k5, z0, z1, z2, _⟩ := HQ.out.cells hk3
     have f0 := HQ.out.free (k * 3)
     have f1 := HQ.out.free (k * 3 + 1)
     have f2 := HQ.out.free (k * 3 + 2)
     have hni := HQ.out.ni
     have HQ2 := hid ((HQ.out.put hk3 HVV.out).congr (h := fun j => if j < k + 1 then some (u (3 * i + j)) else none) (fun j hj => by
      by_cases e : j = k
      ·
       subst e; simp
      ·
       simp only [if_neg e]
       by_cases e2 : j < k
       ·
        rw [if_pos e2, if_pos (by omega)]
       ·
        rw [if_neg e2, if_neg (by omega)]))
     have HKP : Hid (Keeps [gs] w5 (((w5.setCell ⟨gs, k * 3, none⟩ (.bool s4)).setCell ⟨gs, k * 3 + 1, none⟩ (.slice A4 l4 c4)).setCell ⟨gs, k * 3 + 2, none⟩ (.slice B4 m4 k4))) := hid ((((Keeps.refl [gs] w5).setCell (.inl (by simp)) _).setCell (.inl (by simp)) _).setCell (.inl (by simp)) _)
     have HO2 := hid (HO.out.keeps HKP.out (fun q hq => by simp at hq; subst hq; exact hni) (fun g hg h => by have := HG.out.2 g hg; simp at h; omega))
     have HX2 := hid (HKP.out.ext HX.out (fun q hq => by simp at hq; subst hq; exact HG.out.1))
     clear HQ HO HX HKP hni HVV
     go_wp2
     go_roundg (3 - (k + 1))
     case rel => exact ⟨k + 1, by omega, by omega, by go_num, HQ2, HO2, HX2⟩
     case measure => omega
    obtain rfl : k = 3 := by omega
    have q2 : decide (((3 : Nat) : Int) < 3) = false := by decide
    obtain ⟨s0, A0, l0, c0, B0, m0, k0, s1, A1, l1, c1, B1, m1, k1, s2, A2, l2, c2, B2, m2, k2, hB9, h0, h1, h2⟩ := HQ.out.nine (q := fun j => u (3 * i + j)) (fun j hj => if_pos hj)
    have x0 := hB9.cell 0
    have x1 := hB9.cell 1
    have x2 := hB9.cell 2
    have x3 := hB9.cell 3
    have x4 := hB9.cell 4
    have x5 := hB9.cell 5
    have x6 := hB9.cell 6
    have x7 := hB9.cell 7
    have x8 := hB9.cell 8
    simp only [List.getElem?_toArray, List.getElem?_cons_zero, List.getElem?_cons_succ] at x0 x1 x2 x3 x4 x5 x6 x7 x8
    obtain ⟨⟨us, hown, hnum⟩, hni0⟩ := HO.out
    have HA1 : Hid (Ext wr (wr.alloc (.cells #[.bool s0, .slice A0 l0 c0, .slice B0 m0 k0, .bool s1, .slice A1 l1 c1, .slice B1 m1 k1, .bool s2, .slice A2 l2 c2, .slice B2 m2 k2] 229))) := hid ((Ext.refl wr).alloc _)
    have HNM := hid hnum
    have HN0 := hid hni0
    have H012 := hid (And.intro h0 (And.intro h1 h2))
    clear hnum hni0 h0 h1 h2 hB9
    go_wp2_with (at_builtin; refine wpList_appN _ elSh (by simp [Value.cells, NoInt]) rfl _ _ rfl w.heap.size _ i us rfl (World.ownsRow.ext' hown HA1.out) (HN0.out.ext HA1.out) _ 1 1 [.bool s0, .slice A0 l0 c0, .slice B0 m0 k0, .bool s1, .slice A1 l1 c1, .slice B1 m1 k1, .bool s2, .slice A2 l2 c2, .slice B2 m2 k2] rfl rfl (At.new _ [_, _, _, _, _, _, _, _, _] _) (by simp [Value.oneCell']) (by simp [NoInt]) (by omega) (by omega) (by unfold maxLen; omega) (by have := HX.out.size; simp; omega) ?_; intro v6 w6 hown1 hgr1 hni1; have HQ6 := hid (SRow.after hown1 hgr1 (HN0.out.ext HA1.out) hni1 (H012.out.1.ext HA1.out) (H012.out.2.1.ext HA1.out) (H012.out.2.2.ext HA1.out) (HNM.out.ext kindQ HA1.out)); have HK6 := hid (keeps_own hgr1); clear hown1 hgr1 hni1 hown; obtain ⟨A7, c7, hA7⟩ := HQ6.out.slice; subst hA7)
    go_roundg (m - (i + 1))
    case rel => exact ⟨i + 1, by omega, by omega, by go_num, HQ6, hid (HK6.out.ext (HX.out.trans HA1.out) (fun g hg => (HO.out.low (own_of_list hg)).1))⟩
    case measure => omega
  obtain rfl : i = m := by omega
  have q1 : decide ((i : Int) < (i : Int)) = false := by simp
  have q1b : decide (i < i) = false := by simp
  go_wp2
  refine bodyPost_ret (v := .tuple #[.slice Ao i co, .bool true]) (by simp [results, Try.results58, go_sem, *]) rfl ?_
  exact ⟨_, rfl, HO.out, HX.out⟩
theorem fit_words {w : World} {A : Option Addr} {l : Nat} {xs : List Int} (h : Ints .u32 w A l xs) (hl : l ≤ 4) : Fit 4294967296 (wN xs) 4 := by
 have h1 := wN_val h
 have h2 := val_lt (B := 4294967296) (by omega) (dg32 h)
 have h3 : Fit 4294967296 (wN xs) xs.length := by
  unfold Fit
  rw [← h1]
  exact h2
 exact h3.mono (by omega) (by rw [h.1]; exact hl)
/-- The number of a shift that came in. -/
def valU (N : Nat → Bool × List Int × List Int) (j : Nat) : Rat := ratOf (N j).1 (N j).2.1 (N j).2.2
theorem shv_good {w : World} {g o m : Nat} {N : Nat → Bool × List Int × List Int} (h : ShV w g o m N) (hn : ¬ lgN m N) : ShP RatG w g o m (valU N) ∧ ∀ j, j < 3 * m → FitQ (valU N j) 4 := by
 have key : ∀ s k, s < m → k < 3 → Fit 4294967296 (wN (N (3 * s + k)).2.1) 4 ∧ Fit 4294967296 (wN (N (3 * s + k)).2.2) 4 := fun s k hs hk => by
  obtain ⟨A, l, c, B, d, e, h0, h1, h2, h3, h4, h5⟩ := h s k hs hk
  obtain ⟨A', l', c', B', d', e', i1, i2, i3, i4, i5, i6⟩ := h5
  have hc : ¬ (4 < (N (3 * s + k)).2.1.length ∨ 4 < (N (3 * s + k)).2.2.length) := fun q => hn ⟨3 * s + k, by omega, q⟩
  exact ⟨fit_words i2 (by have := i2.1; omega), fit_words i5 (by have := i5.1; omega)⟩
 refine ⟨fun s k hs hk => ?_, fun j hj => ?_⟩
 ·
  obtain ⟨A, l, c, B, d, e, h0, h1, h2, h3, h4, h5⟩ := h s k hs hk
  obtain ⟨k1, k2⟩ := key s k hs hk
  exact ⟨_, A, l, c, B, d, e, h0, h1, h2, _, _, _, h5, ⟨⟨k1.mono (by omega) (by omega)⟩, ⟨k2.mono (by omega) (by omega)⟩⟩, rfl⟩
 ·
  have e : j = 3 * (j / 3) + j % 3 := by omega
  rw [e]
  obtain ⟨k1, k2⟩ := key (j / 3) (j % 3) (by omega) (Nat.mod_lt _ (by omega))
  refine fit_red (wD_pos _) k1 ?_
  unfold wD
  split
  ·
   exact Fit.one (by omega) (by omega)
  ·
   exact k2
theorem fitU_of {m : Nat} {u : Nat → Rat} (h : ∀ j, j < 3 * m → FitQ (u j) 4) : FitU m u 8 := fun j hj => (fitR_double (h j hj)).mono (by omega)
theorem bb4 : ((BB 4 : Nat) : Int) = 4294967296 ^ 4 := by
 unfold BB
 rw [Int.natCast_pow]
 rfl
theorem tame_of {S : Nat} {u : Nat → Rat} (_hS : S ≤ 4) (h : ∀ j, j < 3 * S → FitQ (u j) 4) : Tame (3 * S) u := tame_any (by omega) (fun j hj => by
 obtain ⟨h1, h2⟩ := h j hj
 unfold Fit at h1 h2
 rw [← bb4] at h1 h2
 exact ⟨Nat.le_of_lt (Int.ofNat_lt.1 h1), Nat.le_of_lt (Int.ofNat_lt.1 h2)⟩)
theorem fit_misfit {S L : Nat} {u : Nat → Rat} (hf : FitU S u L) (hS8 : S ≤ 8) {ms : List Mt} (hm : ∀ m ∈ ms, VM S m) {k : Nat} (_hk : k ≤ ms.length) : FitR (misfit (3 * S) (ms.take k) u) (4 + k * (48 * (L + 5) + 13)) := by
 induction k with
 | zero =>
  have h := fitR_small (n := 0) (by omega) (by omega)
  rw [show misfit (3 * S) (ms.take 0) u = ((0 : Int) : Rat) by rw [List.take_zero]; rfl]
  exact h.mono (by omega)
 | succ k ih =>
  have hx : ms[k]? = some ms[k] := List.getElem?_eq_getElem (by omega)
  rw [misfit_take hx]
  exact (fitS_add (ih (by omega)) (fit_wsq (hm _ (List.getElem_mem _)) hf hS8)).mono (by have e : (k + 1) * (48 * (L + 5) + 13) = k * (48 * (L + 5) + 13) + (48 * (L + 5) + 13) := Nat.succ_mul _ _; omega)
set_option maxRecDepth 100000 in
set_option maxHeartbeats 2000000 in
theorem misR_r5 (gs gp gt ot ct S gm om n c kk L M : Nat) (ma mb mx my mz md mw : Int) (un : Nat → Rat) (sp : Bool) (Ap Bp : Option Addr) (lp cp mp kp : Nat) (q : Rat) (w : World) (x0 : w.cell? ⟨gs, 0, none⟩ = some (.bool sp)) (x1 : w.cell? ⟨gs, 1, none⟩ = some (.slice Ap lp cp)) (x2 : w.cell? ⟨gs, 2, none⟩ = some (.slice Bp mp kp)) (v0 : w.cell? ⟨gm, om + kk * 7, none⟩ = some (.int .i64 (ma))) (v1 : w.cell? ⟨gm, om + kk * 7 + 1, none⟩ = some (.int .i64 (mb))) (v2 : w.cell? ⟨gm, om + kk * 7 + 2, none⟩ = some (.int .i64 (mx))) (v3 : w.cell? ⟨gm, om + kk * 7 + 3, none⟩ = some (.int .i64 (my))) (v4 : w.cell? ⟨gm, om + kk * 7 + 4, none⟩ = some (.int .i64 (mz))) (v5 : w.cell? ⟨gm, om + kk * 7 + 5, none⟩ = some (.int .i64 (md))) (v6 : w.cell? ⟨gm, om + kk * 7 + 6, none⟩ = some (.int .i64 (mw))) (b0 : w.cell? ⟨gp, 0, none⟩ = some (.int .i64 (S : Int))) (b1 : w.cell? ⟨gp, 1, none⟩ = some (.slice (some ⟨gm, om, none⟩) n c)) (_hkn : kk < n) (_hkn2 : (kk : Int) < (n : Int)) (hS8 : S ≤ 8) (hS : ShP QZ w gt ot S un) (hf : FitU S un L) (_hL : L ≤ 110) (hm : VM S ⟨ma, mb, mx, my, mz, md, mw⟩) (hgt : gt < w.heap.size) (hx : QZ w (.agg #[.bool sp, .slice Ap lp cp, .slice Bp mp kp]) q) (fq : FitR q M) (_hM : M ≤ 355000) (a : Act) (Q : Exit → Act → World → Prop) (hsize : 25 ≤ a.tmps.size)
  (s1 : a.tmps[1]? = some (.slice (some ⟨gt, ot, none⟩) S ct))
  (s2 : a.tmps[2]? = some (.pointer (some ⟨gp, 0, none⟩)))
  (s5 : a.tmps[5]? = some (.pointer (some ⟨gs, 0, none⟩)))
  (s6 : a.tmps[6]? = some (.int .i64 (kk : Int)))
  (hend : ∀ (xv0 xv1 xv2 xv3 xv4 xv5 xv6 xv7 xv8 xv9 : Value) (W : World), (xv0 = .agg #[.bool sp, .slice Ap lp cp, .slice Bp mp kp]) → (xv1 = .agg #[.int .i64 (S : Int), .slice (some ⟨gm, om, none⟩) n c]) → (xv2 = .slice (some ⟨gt, ot, none⟩) S ct) → (xv3 = .pointer (some ⟨gp, 1, none⟩)) → (xv4 = .slice (some ⟨gm, om, none⟩) n c) → (xv5 = .int .i64 (kk : Int)) → (xv6 = .pointer (some ⟨gm, om + kk * 7, none⟩)) → (xv7 = .agg #[.int .i64 (ma), .int .i64 (mb), .int .i64 (mx), .int .i64 (my), .int .i64 (mz), .int .i64 (md), .int .i64 (mw)]) → (QZ W xv8 (wsq (3 * S) un ⟨ma, mb, mx, my, mz, md, mw⟩)) → (QZ W xv9 (q + wsq (3 * S) un ⟨ma, mb, mx, my, mz, md, mw⟩)) → Ext w W → wpList Try.prog (rops Try.f62 5).toArray Q ((rops Try.f62 5).drop 10) ((((((((((a.put (some 15) xv0).put (some 16) xv1).put (some 17) xv2).put (some 18) xv3).put (some 19) xv4).put (some 20) xv5).put (some 21) xv6).put (some 22) xv7).put (some 23) xv8).put (some 24) xv9) W) :
  (Code.region 5 (rops Try.f62 5).toArray true).wp Try.prog Q a w := by
 refine wp_region_k 10 [some 15, some 16, some 17, some 18, some 19, some 20, some 21, some 22, some 23, some 24] [[], [], [], [], [3], [], [4, 5], [6], [1, 2, 7], [0, 8]] [eqv (.agg #[.bool sp, .slice Ap lp cp, .slice Bp mp kp]), eqv (.agg #[.int .i64 (S : Int), .slice (some ⟨gm, om, none⟩) n c]), eqv (.slice (some ⟨gt, ot, none⟩) S ct), eqv (.pointer (some ⟨gp, 1, none⟩)), eqv (.slice (some ⟨gm, om, none⟩) n c), eqv (.int .i64 (kk : Int)), eqv (.pointer (some ⟨gm, om + kk * 7, none⟩)), eqv (.agg #[.int .i64 (ma), .int .i64 (mb), .int .i64 (mx), .int .i64 (my), .int .i64 (mz), .int .i64 (md), .int .i64 (mw)]), fun v W => QZ W v (wsq (3 * S) un ⟨ma, mb, mx, my, mz, md, mw⟩), fun v W => QZ W v (q + wsq (3 * S) un ⟨ma, mb, mx, my, mz, md, mw⟩)] (by kernel_rfl) (by kernel_rfl) rfl (by decide) hsize ⟨monC, monC, monC, monC, monC, monC, monC, monC, by intro v W W' h hX; exact QZ.ext h hX, by intro v W W' h hX; exact QZ.ext h hX, trivial⟩ ?_ ?_
 ·
  clear hend
  simp only [rops, Try.f62, regOf, Option.bind_some, Nat.reduceBEq, if_true, if_false, Bool.false_eq_true, Option.getD_some]
  simp only [List.take_succ_cons, List.take_zero]
  refine ⟨?_, ?_, ?_, ?_, ?_, ?_, ?_, ?_, ?_, ?_, trivial⟩
  ·
   rintro us W hJ _ b hb hbz K hK0 hK Qz
   have e5 := (hbz 5 (by simp)).trans s5
   clear hb hbz
   have z0 := Ext.cell hJ x0
   have z1 := Ext.cell hJ x1
   have z2 := Ext.cell hJ x2
   go_simp
   exact hK0 _ rfl
  ·
   rintro us W hJ _ b hb hbz K hK0 hK Qz
   have e2 := (hbz 2 (by simp)).trans s2
   clear hb hbz
   have z0 := Ext.cell hJ b0
   have z1 := Ext.cell hJ b1
   go_simp
   exact hK0 _ rfl
  ·
   rintro us W hJ _ b hb hbz K hK0 hK Qz
   have e1 := (hbz 1 (by simp)).trans s1
   clear hb hbz
   go_simp
   exact hK0 _ rfl
  ·
   rintro us W hJ _ b hb hbz K hK0 hK Qz
   have e2 := (hbz 2 (by simp)).trans s2
   clear hb hbz
   go_simp
   exact hK0 _ rfl
  ·
   rintro us W hJ d3 b hb hbz K hK0 hK Qz
   have e18 := slotV (hb 3 18 rfl) d3
   clear hb hbz d3
   have q := Ext.cell hJ b1
   go_simp
   exact hK0 _ rfl
  ·
   rintro us W hJ _ b hb hbz K hK0 hK Qz
   have e6 := (hbz 6 (by simp)).trans s6
   clear hb hbz
   go_simp
   exact hK0 _ rfl
  ·
   rintro us W hJ ⟨d4, d5⟩ b hb hbz K hK0 hK Qz
   have e19 := slotV (hb 4 19 rfl) d4
   have e20 := slotV (hb 5 20 rfl) d5
   clear hb hbz d4 d5
   go_simp
   exact hK0 _ rfl
  ·
   rintro us W hJ d6 b hb hbz K hK0 hK Qz
   have e21 := slotV (hb 6 21 rfl) d6
   clear hb hbz d6
   have z0 := Ext.cell hJ v0
   have z1 := Ext.cell hJ v1
   have z2 := Ext.cell hJ v2
   have z3 := Ext.cell hJ v3
   have z4 := Ext.cell hJ v4
   have z5 := Ext.cell hJ v5
   have z6 := Ext.cell hJ v6
   go_simp
   exact hK0 _ rfl
  ·
   rintro us W hJ ⟨d1, d2, d7⟩ b hb hbz K hK0 hK Qz
   have e16 := slotV (hb 1 16 rfl) d1
   have e17 := slotV (hb 2 17 rfl) d2
   have e22 := slotV (hb 7 22 rfl) d7
   clear hb hbz d1 d2 d7
   go_simp
   refine (wgtR_any (m := ⟨ma, mb, mx, my, mz, md, mw⟩) (S := S) (n := n) (c := c) (A := some ⟨gm, om, none⟩) (ct := ct) hS8 (hS.ext growsQ hJ) hf (by omega) hm (Nat.lt_of_lt_of_le hgt hJ.size)).mono ?_
   rintro e w' ⟨v, rfl, hv, hX⟩
   exact hK _ _ hv hX
  ·
   rintro us W hJ ⟨d0, d8⟩ b hb hbz K hK0 hK Qz
   have e15 := slotV (hb 0 15 rfl) d0
   have e23 := hb 8 23 rfl
   clear hb hbz d0
   go_simp
   refine (qadd_any _ _ _ _ M (12 + 48 * (L + 5)) W (hx.ext hJ) d8 fq (fit_wsq hm hf hS8) (by omega)).mono ?_
   rintro e w' ⟨v, rfl, hv, hX⟩
   exact hK _ _ hv hX
 ·
  rintro us W ⟨v0, v1, v2, v3, v4, v5, v6, v7, v8, v9, _⟩ hJ
  exact hend _ _ _ _ _ _ _ _ _ _ W v0 v1 v2 v3 v4 v5 v6 v7 v8 v9 hJ
set_option maxRecDepth 100000 in
set_option maxHeartbeats 8000000 in
theorem misR_big (S n c gt ot ct L : Nat) (A : Option Addr) (ms : List Mt) (un : Nat → Rat) (w : World) (h : MsAt w A n ms) (hV : VP S ms) (hS : ShP QZ w gt ot S un) (hf : FitU S un L) (_hL : L ≤ 110) (hgt : gt < w.heap.size) :
  Calls Try.prog 62 #[.agg #[.int .i64 (S : Int), .slice A n c], .slice (some ⟨gt, ot, none⟩) S ct] w (RetQz w (misfit (3 * S) ms un)) := by
 have HX := hid (((Ext.refl w).alloc (.cells #[.int .i64 (S : Int), .slice A n c] 76)).alloc (.cells #[.bool false, .slice none 0 0, .slice none 0 0] 65))
 have HP : Hid (Blk ((w.alloc (.cells #[.int .i64 (S : Int), .slice A n c] 76)).alloc (.cells #[.bool false, .slice none 0 0, .slice none 0 0] 65)) w.heap.size 76 #[.int .i64 (S : Int), .slice A n c]) := hid (Blk.alloc (Blk.new w _ _) _)
 have HR : Hid (Blk ((w.alloc (.cells #[.int .i64 (S : Int), .slice A n c] 76)).alloc (.cells #[.bool false, .slice none 0 0, .slice none 0 0] 65)) (w.heap.size + 1) 65 #[.bool false, .slice none 0 0, .slice none 0 0]) := hid (Blk.at_ (by simp))
 have hS8 : S ≤ 8 := by have := hV.2.1; omega
 have hn64 : n ≤ 64 := by have := hV.2.2.1; have := h.1; omega
 have H := hid h
 have HVV := hid hV
 have HS := hid hS
 have HF := hid hf
 clear h hV hS hf
 unfold RetQz
 go_enter Try.func62, Try.ntmps62
 go_upto_region 1 with (fail)
 generalize (w.alloc (.cells #[.int .i64 (S : Int), .slice A n c] 76)).alloc (.cells #[.bool false, .slice none 0 0, .slice none 0 0] 65) = w1 at HX HP HR ⊢
 go_wp2_with fail
 refine (whole_any 0 _ (by omega) (by omega)).mono ?_
 rintro e w2 ⟨v, rfl, hv, hX2⟩
 replace HP := hid (HP.out.ext hX2)
 replace HR := hid (HR.out.ext hX2)
 replace HX := hid (HX.out.trans hX2)
 clear hX2
 obtain ⟨s0, A0, l0, c0, B0, m0, k0, rfl⟩ := QZ.open hv
 go_upto_region 2 with (fail)
 have hX2 : Ext w2 (w2.alloc (.cells #[.bool s0, .slice A0 l0 c0, .slice B0 m0 k0] 65)) := (Ext.refl _).alloc _
 have hgs : w.heap.size + 1 < w2.heap.size := HR.out.lt
 have HB : Hid (QB (w2.alloc (.cells #[.bool s0, .slice A0 l0 c0, .slice B0 m0 k0] 65)) w2.heap.size (misfit (3 * S) (ms.take 0) un)) := hid (QB.new hv)
 clear hv
 generalize w2.heap.size = gs at hgs HB ⊢
 generalize w2.alloc (.cells #[.bool s0, .slice A0 l0 c0, .slice B0 m0 k0] 65) = w3 at hX2 HB ⊢
 replace HP := hid (HP.out.ext hX2)
 replace HR := hid (HR.out.ext hX2)
 replace HX := hid (HX.out.trans hX2)
 clear hX2
 go_wp2_with fail
 go_loopg [6] n (fun fu iv W => ∃ k : Nat, fu = n - k ∧ k ≤ n ∧ iv = .int .i64 (k : Int) ∧ Hid (QB W gs (misfit (3 * S) (ms.take k) un)) ∧ Hid (Blk W w.heap.size 76 #[.int .i64 (S : Int), .slice A n c]) ∧ Hid (Blk W (w.heap.size + 1) 65 #[.bool false, .slice none 0 0, .slice none 0 0]) ∧ Hid (Ext w W))
 case atStart => exact ⟨0, by omega, by omega, rfl, HB, HP, HR, HX⟩
 case round =>
  clear HB HP HR HX
  obtain ⟨k, rfl, hk, rfl, HB, HP, HR, HX⟩ := hrel
  have p0 := HP.out.cell 0
  have p1 := HP.out.cell 1
  simp only [List.getElem?_toArray, List.getElem?_cons_zero, List.getElem?_cons_succ] at p0 p1
  by_cases hkn : k < n
  ·
   have q1 : decide ((k : Int) < (n : Int)) = true := decide_eq_true (by omega)
   have q1b : decide (k < n) = true := decide_eq_true hkn
   obtain ⟨gm, om, ⟨a, b, x, y, z, dd, ww⟩, rfl, hm, hmem, y0, y1, y2, y3, y4, y5, y6⟩ := (H.out.ext HX.out).get hkn
   have hvm := HVV.out.2.2.2 _ hmem
   have HN : Hid (misfit (3 * S) (ms.take (k + 1)) un = misfit (3 * S) (ms.take k) un + wsq (3 * S) un ⟨a, b, x, y, z, dd, ww⟩) := hid (misfit_take hm)
   have HFQ := hid (fit_misfit HF.out hS8 HVV.out.2.2.2 (k := k) (by rw [H.out.1]; omega))
   clear hm hmem
   obtain ⟨sp, Ap, lp, cp, Bp, mp, kp, x0, x1, x2, hx⟩ := HB.out.cells
   go_upto_region 5 with (fail)
   refine misR_r5 gs w.heap.size gt ot ct S gm om n c k L (4 + k * (48 * (L + 5) + 13)) a b x y z dd ww un sp Ap Bp lp cp mp kp _ wr x0 x1 x2 y0 y1 y2 y3 y4 y5 y6 p0 p1 hkn (by omega) hS8 (HS.out.ext growsQ HX.out) HF.out (by omega) hvm (Nat.lt_of_lt_of_le hgt HX.out.size) hx HFQ.out (by have : k * (48 * (L + 5) + 13) ≤ 64 * (48 * (L + 5) + 13) := Nat.mul_le_mul_right _ (by omega); omega) _ _ (by simp) rfl rfl rfl rfl ?_
   rintro xv0 xv1 xv2 xv3 xv4 xv5 xv6 xv7 xv8 xv9 w5 rfl rfl rfl rfl rfl rfl rfl rfl _ hv hX2
   simp only [rops, Try.f62, regOf, Option.bind_some, Nat.reduceBEq, if_true, if_false, Bool.false_eq_true, Option.getD_some, List.drop_succ_cons, List.drop_zero]
   simp only [Act.put, List.setIfInBounds_toArray, List.set_cons_succ, List.set_cons_zero]
   replace HB := hid (HB.out.ext hX2)
   replace HP := hid (HP.out.ext hX2)
   replace HR := hid (HR.out.ext hX2)
   replace HX := hid (HX.out.trans hX2)
   clear hX2
   clear x0 x1 x2 hx y0 y1 y2 y3 y4 y5 y6 p0 p1 hvm HFQ
   obtain ⟨s4, A4, l4, c4, B4, m4, k4, rfl⟩ := QZ.open hv
   have f0 := HB.out.free 0
   have f1 := HB.out.free 1
   have f2 := HB.out.free 2
   obtain ⟨s5, A5, l5, c5, B5, m5, k5, z0, z1, z2, _⟩ := HB.out.cells
   have HB2 := hid (HB.out.put hv)
   have HP2 := hid (HP.out.far3 (g := gs) (by omega) (.bool s4) (.slice A4 l4 c4) (.slice B4 m4 k4))
   have HR2 := hid (HR.out.far3 (g := gs) (by omega) (.bool s4) (.slice A4 l4 c4) (.slice B4 m4 k4))
   have HX2 := hid (Ext.boxed HX.out (g := gs) (by omega) (.bool s4) (.slice A4 l4 c4) (.slice B4 m4 k4))
   clear hv HB HP HR HX
   go_wp2
   go_roundg (n - (k + 1))
   case rel => exact ⟨k + 1, by omega, by omega, by go_num, hid (by rw [HN.out]; exact HB2.out), HP2, HR2, HX2⟩
   case measure => omega
  obtain rfl : k = n := by omega
  have q1 : decide ((k : Int) < (k : Int)) = false := by simp
  have q1b : decide (k < k) = false := by simp
  have HE : Hid (ms.take k = ms) := hid (List.take_of_length_le (by rw [H.out.1]; exact Nat.le_refl _))
  rw [HE.out] at HB
  obtain ⟨sp, Ap, lp, cp, Bp, mp, kp, x0, x1, x2, hx⟩ := HB.out.cells
  obtain ⟨r0, r1, r2, f0, f1, f2⟩ := HR.out.three
  have HXX := hid hx
  clear hx
  go_wp2
  refine bodyPost_ret (v := .agg #[.bool sp, .slice Ap lp cp, .slice Bp mp kp]) (by simp [results, Try.results62, go_sem, *]) rfl ?_
  exact ⟨_, rfl, HXX.out.past (NoInts.three HR.out), Ext.boxed HX.out (by omega) _ _ _⟩
theorem misR_any (S n c gt ot ct L : Nat) (A : Option Addr) (ms : List Mt) (un : Nat → Rat) (w : World) (h : MsAt w A n ms) (hV : VP S ms) (hS : ShP QZ w gt ot S un) (hf : FitU S un L) (_hL : L ≤ 100) (hgt : gt < w.heap.size) :
  Calls Try.prog 62 #[.agg #[.int .i64 (S : Int), .slice A n c], .slice (some ⟨gt, ot, none⟩) S ct] w (RetQz w (misfit (3 * S) ms un)) :=
 misR_big S n c gt ot ct L A ms un w h hV hS hf (by omega) hgt
set_option maxRecDepth 100000 in
set_option maxHeartbeats 16000000 in
theorem residP_inv (S : Int) (A : Option Addr) (n c : Nat) (ms : List Mt) (tv : Value) (i : Int) (w : World) (h : MsAt w A n ms) (hv : ¬ VP S ms)  :
  Calls Try.prog 56 #[.agg #[.int .i64 S, .slice A n c], tv, .int .i64 i] w (fun e w' => e = .returned (.tuple #[.agg #[.bool false, .slice none 0 0, .slice none 0 0], .int .i64 50]) ∧ Ext w w') := by
 have H := hid h
 have HV := hid hv
 clear h hv
 have hXe : Ext w ((w.alloc (.cells #[.int .i64 S, .slice A n c] 76)).alloc (.cells #[.bool false, .slice none 0 0, .slice none 0 0] 97)) := ((Ext.refl w).alloc _).alloc _
 have kP : Blk ((w.alloc (.cells #[.int .i64 S, .slice A n c] 76)).alloc (.cells #[.bool false, .slice none 0 0, .slice none 0 0] 97)) w.heap.size 76 #[.int .i64 S, .slice A n c] := Blk.alloc (Blk.new w _ _) _
 have kR : Blk ((w.alloc (.cells #[.int .i64 S, .slice A n c] 76)).alloc (.cells #[.bool false, .slice none 0 0, .slice none 0 0] 97)) (w.heap.size + 1) 97 #[.bool false, .slice none 0 0, .slice none 0 0] := Blk.at_ (by simp)
 go_enter Try.func56, Try.ntmps56
 go_upto_region 1 with (fail)
 generalize (w.alloc (.cells #[.int .i64 S, .slice A n c] 76)).alloc (.cells #[.bool false, .slice none 0 0, .slice none 0 0] 97) = w1 at hXe kP kR ⊢
 have HX := hid hXe
 have HP := hid kP
 have HR := hid kR
 clear hXe kP kR
 have p0 := HP.out.cell 0
 have p1 := HP.out.cell 1
 simp only [List.getElem?_toArray, List.getElem?_cons_zero, List.getElem?_cons_succ] at p0 p1
 go_wp2_with fail
 refine (rdP_inv S A n c ms tv _ (H.out.ext HX.out) HV.out).mono ?_
 rintro e w2 ⟨rfl, hX⟩
 replace HX := hid (HX.out.trans hX)
 replace HR := hid (HR.out.ext hX)
 clear hX p0 p1
 obtain ⟨r0, r1, r2, f0, f1, f2⟩ := HR.out.three
 go_wp2
 refine bodyPost_ret (v := .tuple #[.agg #[.bool false, .slice none 0 0, .slice none 0 0], .int .i64 50]) (by simp [results, Try.results56, go_sem, *]) rfl ?_
 exact ⟨rfl, Ext.boxed HX.out (by omega) _ _ _⟩
set_option maxRecDepth 100000 in
set_option maxHeartbeats 16000000 in
theorem residP_len (S : Nat) (A : Option Addr) (n c : Nat) (ms : List Mt) (At : Option Addr) (m ct : Nat) (i : Int) (w : World) (h : MsAt w A n ms) (hv : VP (S : Int) ms) (hne : m ≠ S) :
  Calls Try.prog 56 #[.agg #[.int .i64 (S : Int), .slice A n c], .slice At m ct, .int .i64 i] w (fun e w' => e = .returned (.tuple #[.agg #[.bool false, .slice none 0 0, .slice none 0 0], .int .i64 51]) ∧ Ext w w') := by
 have H := hid h
 have HV := hid hv
 clear h hv
 have hXe : Ext w ((w.alloc (.cells #[.int .i64 (S : Int), .slice A n c] 76)).alloc (.cells #[.bool false, .slice none 0 0, .slice none 0 0] 97)) := ((Ext.refl w).alloc _).alloc _
 have kP : Blk ((w.alloc (.cells #[.int .i64 (S : Int), .slice A n c] 76)).alloc (.cells #[.bool false, .slice none 0 0, .slice none 0 0] 97)) w.heap.size 76 #[.int .i64 (S : Int), .slice A n c] := Blk.alloc (Blk.new w _ _) _
 have kR : Blk ((w.alloc (.cells #[.int .i64 (S : Int), .slice A n c] 76)).alloc (.cells #[.bool false, .slice none 0 0, .slice none 0 0] 97)) (w.heap.size + 1) 97 #[.bool false, .slice none 0 0, .slice none 0 0] := Blk.at_ (by simp)
 go_enter Try.func56, Try.ntmps56
 go_upto_region 1 with (fail)
 generalize (w.alloc (.cells #[.int .i64 (S : Int), .slice A n c] 76)).alloc (.cells #[.bool false, .slice none 0 0, .slice none 0 0] 97) = w1 at hXe kP kR ⊢
 have HX := hid hXe
 have HP := hid kP
 have HR := hid kR
 clear hXe kP kR
 have p0 := HP.out.cell 0
 have p1 := HP.out.cell 1
 simp only [List.getElem?_toArray, List.getElem?_cons_zero, List.getElem?_cons_succ] at p0 p1
 go_wp2_with fail
 refine (rdP_len S A n c ms At m ct _ (H.out.ext HX.out) HV.out hne).mono ?_
 rintro e w2 ⟨rfl, hX⟩
 replace HX := hid (HX.out.trans hX)
 replace HR := hid (HR.out.ext hX)
 clear hX p0 p1
 obtain ⟨r0, r1, r2, f0, f1, f2⟩ := HR.out.three
 go_wp2
 refine bodyPost_ret (v := .tuple #[.agg #[.bool false, .slice none 0 0, .slice none 0 0], .int .i64 51]) (by simp [results, Try.results56, go_sem, *]) rfl ?_
 exact ⟨rfl, Ext.boxed HX.out (by omega) _ _ _⟩
set_option maxRecDepth 100000 in
set_option maxHeartbeats 16000000 in
theorem residP_neg (S : Nat) (A : Option Addr) (n c : Nat) (ms : List Mt) (gt ot ct : Nat) (u : Nat → Rat) (i : Int) (w : World) (h : MsAt w A n ms) (hv : VP (S : Int) ms) (hS : ShP RatG w gt ot S u) (hi : i < 0) :
  Calls Try.prog 56 #[.agg #[.int .i64 (S : Int), .slice A n c], .slice (some ⟨gt, ot, none⟩) S ct, .int .i64 i] w (fun e w' => e = .returned (.tuple #[.agg #[.bool false, .slice none 0 0, .slice none 0 0], .int .i64 2]) ∧ Ext w w') := by
 have H := hid h
 have HV := hid hv
 clear h hv
 have hXe : Ext w ((w.alloc (.cells #[.int .i64 (S : Int), .slice A n c] 76)).alloc (.cells #[.bool false, .slice none 0 0, .slice none 0 0] 97)) := ((Ext.refl w).alloc _).alloc _
 have kP : Blk ((w.alloc (.cells #[.int .i64 (S : Int), .slice A n c] 76)).alloc (.cells #[.bool false, .slice none 0 0, .slice none 0 0] 97)) w.heap.size 76 #[.int .i64 (S : Int), .slice A n c] := Blk.alloc (Blk.new w _ _) _
 have kR : Blk ((w.alloc (.cells #[.int .i64 (S : Int), .slice A n c] 76)).alloc (.cells #[.bool false, .slice none 0 0, .slice none 0 0] 97)) (w.heap.size + 1) 97 #[.bool false, .slice none 0 0, .slice none 0 0] := Blk.at_ (by simp)
 go_enter Try.func56, Try.ntmps56
 go_upto_region 1 with (fail)
 generalize (w.alloc (.cells #[.int .i64 (S : Int), .slice A n c] 76)).alloc (.cells #[.bool false, .slice none 0 0, .slice none 0 0] 97) = w1 at hXe kP kR ⊢
 have HX := hid hXe
 have HP := hid kP
 have HR := hid kR
 clear hXe kP kR
 have p0 := HP.out.cell 0
 have p1 := HP.out.cell 1
 simp only [List.getElem?_toArray, List.getElem?_cons_zero, List.getElem?_cons_succ] at p0 p1
 go_wp2_with fail
 have HS0 := hid hS
 clear hS
 refine (rdP_ok S A n c ms gt ot ct u _ (H.out.ext HX.out) HV.out (HS0.out.ext growsG HX.out)).mono ?_
 rintro e w2 ⟨go, rfl, hgo, hS, hX⟩
 have HS := hid hS
 replace HX := hid (HX.out.trans hX)
 replace HP := hid (HP.out.ext hX)
 replace HR := hid (HR.out.ext hX)
 clear hS hX p0 p1 hgo
 have p0 := HP.out.cell 0
 have p1 := HP.out.cell 1
 simp only [List.getElem?_toArray, List.getElem?_cons_zero, List.getElem?_cons_succ] at p0 p1
 obtain ⟨r0, r1, r2, f0, f1, f2⟩ := HR.out.three
 have q1 : decide (i < 0) = true := decide_eq_true hi
 clear hi
 go_wp2
 refine bodyPost_ret (v := .tuple #[.agg #[.bool false, .slice none 0 0, .slice none 0 0], .int .i64 2]) (by simp [results, Try.results56, go_sem, *]) rfl ?_
 exact ⟨rfl, Ext.boxed HX.out (by omega) _ _ _⟩
set_option maxRecDepth 100000 in
set_option maxHeartbeats 16000000 in
theorem residP_big (S : Nat) (A : Option Addr) (n c : Nat) (ms : List Mt) (gt ot ct : Nat) (u : Nat → Rat) (i : Nat) (w : World) (h : MsAt w A n ms) (hv : VP (S : Int) ms) (hS : ShP RatG w gt ot S u) (hi : n ≤ i) :
  Calls Try.prog 56 #[.agg #[.int .i64 (S : Int), .slice A n c], .slice (some ⟨gt, ot, none⟩) S ct, .int .i64 (i : Int)] w (fun e w' => e = .returned (.tuple #[.agg #[.bool false, .slice none 0 0, .slice none 0 0], .int .i64 2]) ∧ Ext w w') := by
 have H := hid h
 have HV := hid hv
 clear h hv
 have hXe : Ext w ((w.alloc (.cells #[.int .i64 (S : Int), .slice A n c] 76)).alloc (.cells #[.bool false, .slice none 0 0, .slice none 0 0] 97)) := ((Ext.refl w).alloc _).alloc _
 have kP : Blk ((w.alloc (.cells #[.int .i64 (S : Int), .slice A n c] 76)).alloc (.cells #[.bool false, .slice none 0 0, .slice none 0 0] 97)) w.heap.size 76 #[.int .i64 (S : Int), .slice A n c] := Blk.alloc (Blk.new w _ _) _
 have kR : Blk ((w.alloc (.cells #[.int .i64 (S : Int), .slice A n c] 76)).alloc (.cells #[.bool false, .slice none 0 0, .slice none 0 0] 97)) (w.heap.size + 1) 97 #[.bool false, .slice none 0 0, .slice none 0 0] := Blk.at_ (by simp)
 go_enter Try.func56, Try.ntmps56
 go_upto_region 1 with (fail)
 generalize (w.alloc (.cells #[.int .i64 (S : Int), .slice A n c] 76)).alloc (.cells #[.bool false, .slice none 0 0, .slice none 0 0] 97) = w1 at hXe kP kR ⊢
 have HX := hid hXe
 have HP := hid kP
 have HR := hid kR
 clear hXe kP kR
 have p0 := HP.out.cell 0
 have p1 := HP.out.cell 1
 simp only [List.getElem?_toArray, List.getElem?_cons_zero, List.getElem?_cons_succ] at p0 p1
 go_wp2_with fail
 have HS0 := hid hS
 clear hS
 refine (rdP_ok S A n c ms gt ot ct u _ (H.out.ext HX.out) HV.out (HS0.out.ext growsG HX.out)).mono ?_
 rintro e w2 ⟨go, rfl, hgo, hS, hX⟩
 have HS := hid hS
 replace HX := hid (HX.out.trans hX)
 replace HP := hid (HP.out.ext hX)
 replace HR := hid (HR.out.ext hX)
 clear hS hX p0 p1 hgo
 have p0 := HP.out.cell 0
 have p1 := HP.out.cell 1
 simp only [List.getElem?_toArray, List.getElem?_cons_zero, List.getElem?_cons_succ] at p0 p1
 obtain ⟨r0, r1, r2, f0, f1, f2⟩ := HR.out.three
 have q1 : decide ((i : Int) < 0) = false := decide_eq_false (by omega)
 have q2 : decide (n ≤ i) = true := decide_eq_true hi
 have q3 : decide ((n : Int) ≤ (i : Int)) = true := decide_eq_true (by omega)
 clear hi
 go_wp2
 refine bodyPost_ret (v := .tuple #[.agg #[.bool false, .slice none 0 0, .slice none 0 0], .int .i64 2]) (by simp [results, Try.results56, go_sem, *]) rfl ?_
 exact ⟨rfl, Ext.boxed HX.out (by omega) _ _ _⟩
set_option maxRecDepth 100000 in
set_option maxHeartbeats 16000000 in
theorem residP_ok (S : Nat) (A : Option Addr) (n c : Nat) (ms : List Mt) (gt ot ct : Nat) (u : Nat → Rat) (i : Nat) (m : Mt) (w : World) (h : MsAt w A n ms) (hv : VP (S : Int) ms) (hS : ShP RatG w gt ot S u) (hm : ms[i]? = some m) (hf : FitQW (res (3 * S) m u)) :
  Calls Try.prog 56 #[.agg #[.int .i64 (S : Int), .slice A n c], .slice (some ⟨gt, ot, none⟩) S ct, .int .i64 (i : Int)] w (fun e w' => ∃ v, e = .returned (.tuple #[v, .int .i64 0]) ∧ RatC w' v (res (3 * S) m u) ∧ Ext w w') := by
 have H := hid h
 have HV := hid hv
 clear h hv
 have hXe : Ext w ((w.alloc (.cells #[.int .i64 (S : Int), .slice A n c] 76)).alloc (.cells #[.bool false, .slice none 0 0, .slice none 0 0] 97)) := ((Ext.refl w).alloc _).alloc _
 have kP : Blk ((w.alloc (.cells #[.int .i64 (S : Int), .slice A n c] 76)).alloc (.cells #[.bool false, .slice none 0 0, .slice none 0 0] 97)) w.heap.size 76 #[.int .i64 (S : Int), .slice A n c] := Blk.alloc (Blk.new w _ _) _
 have kR : Blk ((w.alloc (.cells #[.int .i64 (S : Int), .slice A n c] 76)).alloc (.cells #[.bool false, .slice none 0 0, .slice none 0 0] 97)) (w.heap.size + 1) 97 #[.bool false, .slice none 0 0, .slice none 0 0] := Blk.at_ (by simp)
 go_enter Try.func56, Try.ntmps56
 go_upto_region 1 with (fail)
 generalize (w.alloc (.cells #[.int .i64 (S : Int), .slice A n c] 76)).alloc (.cells #[.bool false, .slice none 0 0, .slice none 0 0] 97) = w1 at hXe kP kR ⊢
 have HX := hid hXe
 have HP := hid kP
 have HR := hid kR
 clear hXe kP kR
 have p0 := HP.out.cell 0
 have p1 := HP.out.cell 1
 simp only [List.getElem?_toArray, List.getElem?_cons_zero, List.getElem?_cons_succ] at p0 p1
 go_wp2_with fail
 have HF := hid hf
 have hin : i < n := by
  have := H.out.1
  have h2 := (List.getElem?_eq_some_iff.1 hm).1
  omega
 have HM := hid hm
 clear hf hm
 have HS0 := hid hS
 clear hS
 refine (rdP_ok S A n c ms gt ot ct u _ (H.out.ext HX.out) HV.out (HS0.out.ext growsG HX.out)).mono ?_
 rintro e w2 ⟨go, rfl, hgo, hS, hX⟩
 have HS := hid hS
 replace HX := hid (HX.out.trans hX)
 replace HP := hid (HP.out.ext hX)
 replace HR := hid (HR.out.ext hX)
 clear hS hX p0 p1 hgo
 have p0 := HP.out.cell 0
 have p1 := HP.out.cell 1
 simp only [List.getElem?_toArray, List.getElem?_cons_zero, List.getElem?_cons_succ] at p0 p1
 obtain ⟨r0, r1, r2, f0, f1, f2⟩ := HR.out.three
 have q1 : decide ((i : Int) < 0) = false := decide_eq_false (by omega)
 have q2 : decide (n ≤ i) = false := decide_eq_false (by omega)
 have q3 : decide ((n : Int) ≤ (i : Int)) = false := decide_eq_false (by omega)
 obtain ⟨gm, om, ⟨a, b, x, y, z, d, ww⟩, rfl, hm, hmem, x0, x1, x2, x3, x4, x5, x6⟩ := (H.out.ext HX.out).get hin
 simp only at x0 x1 x2 x3 x4 x5 x6
 obtain rfl : m = ⟨a, b, x, y, z, d, ww⟩ := by have := HM.out.symm.trans hm; injection this
 have HMM := hid (HV.out.2.2.2 _ hmem)
 clear hm hmem
 go_wp2_with fail
 refine (residual_any (m := ⟨a, b, x, y, z, d, ww⟩) HS.out HMM.out (by omega)).mono ?_
 rintro e w3 ⟨v3, rfl, hv, hX⟩
 obtain ⟨s1, A1, l1, c1, B1, m1, k1, rfl⟩ := NumX.open hv
 have HN := hid hv
 replace HX := hid (HX.out.trans hX)
 replace HR := hid (HR.out.ext hX)
 clear hv hX r0 r1 r2 f0 f1 f2 x0 x1 x2 x3 x4 x5 x6 p0 p1
 go_wp2_with fail
 refine (doneG HN.out (by omega) HF.out).mono ?_
 rintro e w5 ⟨v5, rfl, hv, hX⟩
 obtain ⟨s4, A4, l4, c4, B4, m4, k4, rfl⟩ := RatC.open hv
 have HC := hid hv
 replace HX := hid (HX.out.trans hX)
 replace HR := hid (HR.out.ext hX)
 clear hv hX
 obtain ⟨r0, r1, r2, f0, f1, f2⟩ := HR.out.three
 have HNI := hid (NoInts.three HR.out)
 go_wp2
 refine bodyPost_ret (v := .tuple #[.agg #[.bool s4, .slice A4 l4 c4, .slice B4 m4 k4], .int .i64 0]) (by simp [results, Try.results56, go_sem, *]) rfl ?_
 exact ⟨_, rfl, staysC _ _ _ _ _ HC.out ((((Keeps.refl [w.heap.size + 1] w5).setCell (.inl (by simp)) _).setCell (.inl (by simp)) _).setCell (.inl (by simp)) _) (fun g hg => by simp at hg; subst hg; exact HNI.out), Ext.boxed HX.out (by omega) _ _ _⟩
theorem RowN.make3 {P : World → Value → Rat → Prop} {te : TypeId} {base g n : Nat} {w : World} {us : List Value} (ho : w.ownsRow base te 3 (.slice (some ⟨g, 0, none⟩) n n) n us) (h1 : ∀ i, i < n * 3 → us[i]? = (Value.agg #[.bool false, .slice none 0 0, .slice none 0 0]).cells[i % 3]?) (h2 : ∀ u ∈ us, u ∈ (Value.agg #[.bool false, .slice none 0 0, .slice none 0 0]).cells) : RowN P te 3 base w g n n n (fun _ => none) :=
 RowN.zero rfl ho h1 h2 (fun u hu => by
  simp [Value.cells] at hu
  rcases hu with rfl | rfl
  all_goals first | exact noInt_bool _ | exact noInt_slice _ _ _) ⟨1, rfl⟩ (fun i hi => by
  match i, hi with
  | 0, _ => rfl
  | 1, _ => rfl
  | 2, _ => rfl
  | _ + 3, hi => omega) (by omega)
theorem NumX.past {w : World} {v : Value} {q : Rat} {K g : Nat} (h : NumX w v q K) (hN : NoInts w g) {b : Bool} {A1 A2 : Option Addr} {l1 c1 l2 c2 : Nat} : NumX (((w.setCell ⟨g, 0, none⟩ (.bool b)).setCell ⟨g, 1, none⟩ (.slice A1 l1 c1)).setCell ⟨g, 2, none⟩ (.slice A2 l2 c2)) v q K :=
 h.keepsNI ((((Keeps.refl [g] w).setCell (.inl (by simp)) _).setCell (.inl (by simp)) _).setCell (.inl (by simp)) _) (fun k hk => by simp at hk; subst hk; exact hN)
set_option maxRecDepth 100000 in
set_option maxHeartbeats 2000000 in
theorem slp_r10 (gm gt ot S ct : Nat) (ma mb mx my mz md mw : Int) (un : Nat → Rat) (w : World) (v0 : w.cell? ⟨gm, 0, none⟩ = some (.int .i64 (ma))) (v1 : w.cell? ⟨gm, 1, none⟩ = some (.int .i64 (mb))) (v2 : w.cell? ⟨gm, 2, none⟩ = some (.int .i64 (mx))) (v3 : w.cell? ⟨gm, 3, none⟩ = some (.int .i64 (my))) (v4 : w.cell? ⟨gm, 4, none⟩ = some (.int .i64 (mz))) (v5 : w.cell? ⟨gm, 5, none⟩ = some (.int .i64 (md))) (v6 : w.cell? ⟨gm, 6, none⟩ = some (.int .i64 (mw))) (hS : ShP (fun w v q => NumX w v q 256) w gt ot S un) (hm : VM S ⟨ma, mb, mx, my, mz, md, mw⟩) (_hw1 : 1 ≤ mw) (_hw2 : mw ≤ 1000) (a : Act) (Q : Exit → Act → World → Prop) (hsize : 40 ≤ a.tmps.size)
  (s0 : a.tmps[0]? = some (.slice (some ⟨gt, ot, none⟩) S ct))
  (s8 : a.tmps[8]? = some (.pointer (some ⟨gm, 0, none⟩)))
  (hend : ∀ (xv0 xv1 xv2 xv3 xv4 xv5 xv6 xv7 xv8 : Value) (W : World), (xv0 = .pointer (some ⟨gm, 6, none⟩)) → (xv1 = .int .i64 (mw)) → (xv3 = .slice (some ⟨gt, ot, none⟩) S ct) → (xv4 = .agg #[.int .i64 (ma), .int .i64 (mb), .int .i64 (mx), .int .i64 (my), .int .i64 (mz), .int .i64 (md), .int .i64 (mw)]) → (NumX W xv2 ((mw : Int) : Rat) 2) → (NumX W xv5 (res (3 * S) ⟨ma, mb, mx, my, mz, md, mw⟩ un) 1550) → (NumX W xv6 (((mw : Int) : Rat) * res (3 * S) ⟨ma, mb, mx, my, mz, md, mw⟩ un) 1552) → (∃ g, xv7 = .pointer (some ⟨g, 0, none⟩) ∧ w.heap.size ≤ g ∧ Blk W g 217 (aggOf xv6)) → Ext w W → wpList Try.prog (rops Try.f137 10).toArray Q [] (((((((((a.put (some 33) xv0).put (some 34) xv1).put (some 35) xv2).put (some 36) xv3).put (some 37) xv4).put (some 38) xv5).put (some 39) xv6).put (some 9) xv7).put (none) xv8) W) :
  (Code.region 10 (rops Try.f137 10).toArray true).wp Try.prog Q a w := by
 have hsz : ∀ d, some d ∈ ([some 33, some 34, some 35, some 36, some 37, some 38, some 39, some 9, none] : List (Option Tmp)) → d < a.tmps.size := slots_lt (by decide) hsize
 refine wp_region_g 9 [some 33, some 34, some 35, some 36, some 37, some 38, some 39, some 9, none] [[], [0], [1], [], [], [3, 4], [2, 5], [], [6, 7]] [[], [], [], [], [], [], [8], [8], []] (fun (done : Nat → Prop) (us : Nat → Value) (W : World) => Ext w W ∧ (done 0 → us 0 = .pointer (some ⟨gm, 6, none⟩)) ∧ (done 1 → us 1 = .int .i64 (mw)) ∧ (done 3 → us 3 = .slice (some ⟨gt, ot, none⟩) S ct) ∧ (done 4 → us 4 = .agg #[.int .i64 (ma), .int .i64 (mb), .int .i64 (mx), .int .i64 (my), .int .i64 (mz), .int .i64 (md), .int .i64 (mw)]) ∧ (done 2 → NumX W (us 2) ((mw : Int) : Rat) 2) ∧ (done 5 → NumX W (us 5) (res (3 * S) ⟨ma, mb, mx, my, mz, md, mw⟩ un) 1550) ∧ (done 6 → NumX W (us 6) (((mw : Int) : Rat) * res (3 * S) ⟨ma, mb, mx, my, mz, md, mw⟩ un) 1552) ∧ Loc w W 217 #[.bool false, .slice none 0 0, .slice none 0 0] (aggOf (us 6)) (done 7) (done 8) (us 7)) (by kernel_rfl) (by kernel_rfl) hsz (fun p q us W h => by have e : p = q := funext fun k => propext (h k); rw [e]; exact id) (fun us => ⟨(Ext.refl w).drew, fun h => h.elim, fun h => h.elim, fun h => h.elim, fun h => h.elim, fun h => h.elim, fun h => h.elim, fun h => h.elim, Loc.unmade id⟩) ?_ ?_
 ·
  clear hend
  simp only [rops, Try.f137, regOf, Option.bind_some, Nat.reduceBEq, if_true, if_false, Bool.false_eq_true, Option.getD_some]
  simp only [List.take_succ_cons, List.take_zero]
  refine ⟨?_, ?_, ?_, ?_, ?_, ?_, ?_, ?_, ?_, trivial⟩
  ·
   intro done us W hJ hdep haft hnot b hb hb' K hK Q'
   obtain ⟨hX0, cc0, cc1, cc3, cc4, pp2, pp5, pp6, ll7⟩ := hJ
   have e8 := (hb' 8 (by simp)).trans s8
   clear hb hb'
   have hfin := hK (.pointer (some ⟨gm, 6, none⟩)) _ ⟨hX0, fun _ => rfl, fun h => cc1 (h.resolve_right (by decide)), fun h => cc3 (h.resolve_right (by decide)), fun h => cc4 (h.resolve_right (by decide)), fun h => pp2 (h.resolve_right (by decide)), fun h => pp5 (h.resolve_right (by decide)), fun h => pp6 (h.resolve_right (by decide)), Loc.same ll7 ⟨fun h => h.resolve_right (by decide), .inl⟩ ⟨fun h => h.resolve_right (by decide), .inl⟩⟩
   clear hK cc0 cc1 cc3 cc4 pp2 pp5 pp6 ll7
   go_simp
   exact hfin
  ·
   intro done us W hJ hdep haft hnot b hb hb' K hK Q'
   obtain ⟨hX0, cc0, cc1, cc3, cc4, pp2, pp5, pp6, ll7⟩ := hJ
   simp only [List.getD_cons_succ, List.getD_cons_zero, List.mem_cons, List.not_mem_nil, or_false, forall_eq] at hdep
   have e33 := hb 0 33 rfl
   rw [cc0 hdep] at e33
   clear hb hb'
   have z0 := Ext.cell hX0 v6
   have hfin := hK (.int .i64 (mw)) _ ⟨hX0, fun h => cc0 (h.resolve_right (by decide)), fun _ => rfl, fun h => cc3 (h.resolve_right (by decide)), fun h => cc4 (h.resolve_right (by decide)), fun h => pp2 (h.resolve_right (by decide)), fun h => pp5 (h.resolve_right (by decide)), fun h => pp6 (h.resolve_right (by decide)), Loc.same ll7 ⟨fun h => h.resolve_right (by decide), .inl⟩ ⟨fun h => h.resolve_right (by decide), .inl⟩⟩
   clear hK cc0 cc1 cc3 cc4 pp2 pp5 pp6 ll7
   go_simp
   exact hfin
  ·
   intro done us W hJ hdep haft hnot b hb hb' K hK Q'
   obtain ⟨hX0, cc0, cc1, cc3, cc4, pp2, pp5, pp6, ll7⟩ := hJ
   simp only [List.getD_cons_succ, List.getD_cons_zero, List.mem_cons, List.not_mem_nil, or_false, forall_eq] at hdep
   have e34 := hb 1 34 rfl
   rw [cc1 hdep] at e34
   clear hb hb'
   go_simp
   refine (intX mw W (by omega) (by omega)).mono ?_
   rintro e w' ⟨v, rfl, hv, hX⟩
   exact hK _ _ ⟨Ext.trans hX0 hX, fun h => cc0 (h.resolve_right (by decide)), fun h => cc1 (h.resolve_right (by decide)), fun h => cc3 (h.resolve_right (by decide)), fun h => cc4 (h.resolve_right (by decide)), fun _ => hv, fun h => NumX.ext (pp5 (h.resolve_right (by decide))) hX, fun h => NumX.ext (pp6 (h.resolve_right (by decide))) hX, Loc.same (ll7.ext hX) ⟨fun h => h.resolve_right (by decide), .inl⟩ ⟨fun h => h.resolve_right (by decide), .inl⟩⟩
  ·
   intro done us W hJ hdep haft hnot b hb hb' K hK Q'
   obtain ⟨hX0, cc0, cc1, cc3, cc4, pp2, pp5, pp6, ll7⟩ := hJ
   have e0 := (hb' 0 (by simp)).trans s0
   clear hb hb'
   have hfin := hK (.slice (some ⟨gt, ot, none⟩) S ct) _ ⟨hX0, fun h => cc0 (h.resolve_right (by decide)), fun h => cc1 (h.resolve_right (by decide)), fun _ => rfl, fun h => cc4 (h.resolve_right (by decide)), fun h => pp2 (h.resolve_right (by decide)), fun h => pp5 (h.resolve_right (by decide)), fun h => pp6 (h.resolve_right (by decide)), Loc.same ll7 ⟨fun h => h.resolve_right (by decide), .inl⟩ ⟨fun h => h.resolve_right (by decide), .inl⟩⟩
   clear hK cc0 cc1 cc3 cc4 pp2 pp5 pp6 ll7
   go_simp
   exact hfin
  ·
   intro done us W hJ hdep haft hnot b hb hb' K hK Q'
   obtain ⟨hX0, cc0, cc1, cc3, cc4, pp2, pp5, pp6, ll7⟩ := hJ
   have e8 := (hb' 8 (by simp)).trans s8
   clear hb hb'
   have z0 := Ext.cell hX0 v0
   have z1 := Ext.cell hX0 v1
   have z2 := Ext.cell hX0 v2
   have z3 := Ext.cell hX0 v3
   have z4 := Ext.cell hX0 v4
   have z5 := Ext.cell hX0 v5
   have z6 := Ext.cell hX0 v6
   have hfin := hK (.agg #[.int .i64 (ma), .int .i64 (mb), .int .i64 (mx), .int .i64 (my), .int .i64 (mz), .int .i64 (md), .int .i64 (mw)]) _ ⟨hX0, fun h => cc0 (h.resolve_right (by decide)), fun h => cc1 (h.resolve_right (by decide)), fun h => cc3 (h.resolve_right (by decide)), fun _ => rfl, fun h => pp2 (h.resolve_right (by decide)), fun h => pp5 (h.resolve_right (by decide)), fun h => pp6 (h.resolve_right (by decide)), Loc.same ll7 ⟨fun h => h.resolve_right (by decide), .inl⟩ ⟨fun h => h.resolve_right (by decide), .inl⟩⟩
   clear hK cc0 cc1 cc3 cc4 pp2 pp5 pp6 ll7
   go_simp
   exact hfin
  ·
   intro done us W hJ hdep haft hnot b hb hb' K hK Q'
   obtain ⟨hX0, cc0, cc1, cc3, cc4, pp2, pp5, pp6, ll7⟩ := hJ
   simp only [List.getD_cons_succ, List.getD_cons_zero, List.mem_cons, List.not_mem_nil, or_false, forall_eq_or_imp, forall_eq] at hdep
   have e36 := hb 3 36 rfl
   rw [cc3 hdep.1] at e36
   have e37 := hb 4 37 rfl
   rw [cc4 hdep.2] at e37
   clear hb hb'
   go_simp
   refine (residual_any (m := ⟨ma, mb, mx, my, mz, md, mw⟩) (hS.ext (growsNum 256) hX0) hm (by omega)).mono ?_
   rintro e w' ⟨v, rfl, hv, hX⟩
   exact hK _ _ ⟨Ext.trans hX0 hX, fun h => cc0 (h.resolve_right (by decide)), fun h => cc1 (h.resolve_right (by decide)), fun h => cc3 (h.resolve_right (by decide)), fun h => cc4 (h.resolve_right (by decide)), fun h => NumX.ext (pp2 (h.resolve_right (by decide))) hX, fun _ => hv, fun h => NumX.ext (pp6 (h.resolve_right (by decide))) hX, Loc.same (ll7.ext hX) ⟨fun h => h.resolve_right (by decide), .inl⟩ ⟨fun h => h.resolve_right (by decide), .inl⟩⟩
  ·
   intro done us W hJ hdep haft hnot b hb hb' K hK Q'
   obtain ⟨hX0, cc0, cc1, cc3, cc4, pp2, pp5, pp6, ll7⟩ := hJ
   simp only [List.getD_cons_succ, List.getD_cons_zero, List.mem_cons, List.not_mem_nil, or_false, forall_eq_or_imp, forall_eq] at hdep
   simp only [List.getD_cons_succ, List.getD_cons_zero, List.mem_cons, List.not_mem_nil, or_false, forall_eq] at haft
   have e35 := hb 2 35 rfl
   have e38 := hb 5 38 rfl
   clear hb hb'
   go_simp
   refine (mulX (pp2 hdep.1) (pp5 hdep.2) (by omega) (by omega)).mono ?_
   rintro e w' ⟨v, rfl, hv, hX⟩
   exact hK _ _ ⟨Ext.trans hX0 hX, fun h => cc0 (h.resolve_right (by decide)), fun h => cc1 (h.resolve_right (by decide)), fun h => cc3 (h.resolve_right (by decide)), fun h => cc4 (h.resolve_right (by decide)), fun h => NumX.ext (pp2 (h.resolve_right (by decide))) hX, fun h => NumX.ext (pp5 (h.resolve_right (by decide))) hX, fun _ => hv, Loc.same (Loc.revs (ll7.ext hX) haft) ⟨fun h => h.resolve_right (by decide), .inl⟩ ⟨fun h => h.resolve_right (by decide), .inl⟩⟩
  ·
   intro done us W hJ hdep haft hnot b hb hb' K hK Q'
   obtain ⟨hX0, cc0, cc1, cc3, cc4, pp2, pp5, pp6, ll7⟩ := hJ
   simp only [List.getD_cons_succ, List.getD_cons_zero, List.mem_cons, List.not_mem_nil, or_false, forall_eq] at haft
   clear hb hb'
   have hfin := hK _ _ ⟨hX0.alloc _, fun h => cc0 (h.resolve_right (by decide)), fun h => cc1 (h.resolve_right (by decide)), fun h => cc3 (h.resolve_right (by decide)), fun h => cc4 (h.resolve_right (by decide)), fun h => NumX.ext (pp2 (h.resolve_right (by decide))) ((Ext.refl _).alloc _), fun h => NumX.ext (pp5 (h.resolve_right (by decide))) ((Ext.refl _).alloc _), fun h => NumX.ext (pp6 (h.resolve_right (by decide))) ((Ext.refl _).alloc _), Loc.new w W hX0 (fun h => h.elim haft (by decide)) (Ext.refl _)⟩
   clear hK hX0 cc0 cc1 cc3 cc4 pp2 pp5 pp6 ll7
   go_simp
   exact hfin
  ·
   intro done us W hJ hdep haft hnot b hb hb' K hK Q'
   obtain ⟨hX0, cc0, cc1, cc3, cc4, pp2, pp5, pp6, ll7⟩ := hJ
   simp only [List.getD_cons_succ, List.getD_cons_zero, List.mem_cons, List.not_mem_nil, or_false, forall_eq_or_imp, forall_eq] at hdep
   have e9 := hb 7 9 rfl
   have e39 := hb 6 39 rfl
   obtain ⟨g, eg, hg, hB⟩ := ll7.stored hdep.2 hnot
   rw [eg] at e9
   have q0 : W.cell? ⟨g, 0, none⟩ = some (.bool false) := hB.cell 0
   have z0 : W.frozen? ⟨g, 0, none⟩ = false := hB.free 0
   have q1 : W.cell? ⟨g, 1, none⟩ = some (.slice none 0 0) := hB.cell 1
   have z1 : W.frozen? ⟨g, 1, none⟩ = false := hB.free 1
   have q2 : W.cell? ⟨g, 2, none⟩ = some (.slice none 0 0) := hB.cell 2
   have z2 : W.frozen? ⟨g, 2, none⟩ = false := hB.free 2
   clear hb hb'
   obtain ⟨s9, A9, l9, c9, B9, m9, k9, hu⟩ := NumX.open (pp6 hdep.1)
   rw [hu] at e39
   have hN := NoInts.three hB
   have hfin := hK undef _ ⟨(((hX0.setCell hg _).setCell hg _).setCell hg _), fun h => cc0 (h.resolve_right (by decide)), fun h => cc1 (h.resolve_right (by decide)), fun h => cc3 (h.resolve_right (by decide)), fun h => cc4 (h.resolve_right (by decide)), fun h => NumX.past (pp2 (h.resolve_right (by decide))) hN, fun h => NumX.past (pp5 (h.resolve_right (by decide))) hN, fun h => NumX.past (pp6 (h.resolve_right (by decide))) hN, ⟨fun _ => ⟨g, eg, hg, fun _ => (Blk.put3 hB hu), fun h => absurd (.inr rfl) h⟩⟩⟩
   clear hK hX0 cc0 cc1 cc3 cc4 pp2 pp5 pp6 ll7
   go_simp
   exact hfin
 ·
  intro us W hJ
  obtain ⟨hX0, cc0, cc1, cc3, cc4, pp2, pp5, pp6, ll7⟩ := hJ
  rw [show (rops Try.f137 10).drop 9 = [] by kernel_rfl]
  exact hend (us 0) (us 1) (us 2) (us 3) (us 4) (us 5) (us 6) (us 7) (us 8) W (cc0 (show 0 < 9 by decide)) (cc1 (show 1 < 9 by decide)) (cc3 (show 3 < 9 by decide)) (cc4 (show 4 < 9 by decide)) (pp2 (show 2 < 9 by decide)) (pp5 (show 5 < 9 by decide)) (pp6 (show 6 < 9 by decide)) (ll7.done (show 7 < 9 by decide) (show 8 < 9 by decide)) hX0
set_option maxRecDepth 100000 in
set_option maxHeartbeats 2000000 in
theorem slp_r15 (go nn jj gr : Nat) (cc : Int) (q r : Rat) (se : Bool) (Ae Be : Option Addr) (le ce me ke : Nat) (st : Bool) (At Bt : Option Addr) (lt ct mt kt : Nat) (w : World) (x0 : w.cell? ⟨go, jj * 3, none⟩ = some (.bool se)) (x1 : w.cell? ⟨go, jj * 3 + 1, none⟩ = some (.slice Ae le ce)) (x2 : w.cell? ⟨go, jj * 3 + 2, none⟩ = some (.slice Be me ke)) (y0 : w.cell? ⟨gr, 0, none⟩ = some (.bool st)) (y1 : w.cell? ⟨gr, 1, none⟩ = some (.slice At lt ct)) (y2 : w.cell? ⟨gr, 2, none⟩ = some (.slice Bt mt kt)) (hx : NumX w (.agg #[.bool se, .slice Ae le ce, .slice Be me ke]) q 57) (hr : NumX w (.agg #[.bool st, .slice At lt ct, .slice Bt mt kt]) r 1552) (_hjn : jj < nn) (_hc1 : -100 ≤ cc) (_hc2 : cc ≤ 100) (a : Act) (Q : Exit → Act → World → Prop) (hsize : 64 ≤ a.tmps.size)
  (s5 : a.tmps[5]? = some (.slice (some ⟨go, 0, none⟩) nn nn))
  (s9 : a.tmps[9]? = some (.pointer (some ⟨gr, 0, none⟩)))
  (s10 : a.tmps[10]? = some (.int .i64 (jj : Int)))
  (s11 : a.tmps[11]? = some (.int .i64 (cc)))
  (hend : ∀ (xv0 xv1 xv2 xv3 xv4 xv5 xv6 xv7 xv8 xv9 xv10 xv11 xv12 : Value) (W : World), (xv0 = .slice (some ⟨go, 0, none⟩) nn nn) → (xv1 = .int .i64 (jj : Int)) → (xv2 = .slice (some ⟨go, 0, none⟩) nn nn) → (xv3 = .int .i64 (jj : Int)) → (xv4 = .pointer (some ⟨go, jj * 3, none⟩)) → (xv5 = .agg #[.bool se, .slice Ae le ce, .slice Be me ke]) → (xv6 = .int .i64 (cc)) → (NumX W xv7 (((cc : Int) : Rat)) (2)) → (xv8 = .agg #[.bool st, .slice At lt ct, .slice Bt mt kt]) → (NumX W xv9 (((cc : Int) : Rat) * r) (2 + 1552)) → (NumX W xv10 (q + ((cc : Int) : Rat) * r) (57 + (2 + 1552) + 1)) → (NumQ W xv11 (q + ((cc : Int) : Rat) * r)) → (xv12 = .pointer (some ⟨go, jj * 3, none⟩)) → Ext w W → wpList Try.prog (rops Try.f137 15).toArray Q ((rops Try.f137 15).drop 13) (((((((((((((a.put (some 51) xv0).put (some 52) xv1).put (some 53) xv2).put (some 54) xv3).put (some 55) xv4).put (some 56) xv5).put (some 57) xv6).put (some 58) xv7).put (some 59) xv8).put (some 60) xv9).put (some 61) xv10).put (some 62) xv11).put (some 63) xv12) W) :
  (Code.region 15 (rops Try.f137 15).toArray true).wp Try.prog Q a w := by
 refine wp_region_k 13 [some 51, some 52, some 53, some 54, some 55, some 56, some 57, some 58, some 59, some 60, some 61, some 62, some 63] [[], [], [], [], [2, 3], [4], [], [6], [], [7, 8], [5, 9], [10], [0, 1]] [eqv (.slice (some ⟨go, 0, none⟩) nn nn), eqv (.int .i64 (jj : Int)), eqv (.slice (some ⟨go, 0, none⟩) nn nn), eqv (.int .i64 (jj : Int)), eqv (.pointer (some ⟨go, jj * 3, none⟩)), eqv (.agg #[.bool se, .slice Ae le ce, .slice Be me ke]), eqv (.int .i64 (cc)), fun v W => NumX W v (((cc : Int) : Rat)) (2), eqv (.agg #[.bool st, .slice At lt ct, .slice Bt mt kt]), fun v W => NumX W v (((cc : Int) : Rat) * r) (2 + 1552), fun v W => NumX W v (q + ((cc : Int) : Rat) * r) (57 + (2 + 1552) + 1), fun v W => NumQ W v (q + ((cc : Int) : Rat) * r), eqv (.pointer (some ⟨go, jj * 3, none⟩))] (by kernel_rfl) (by kernel_rfl) rfl (by decide) hsize ⟨monC, monC, monC, monC, monC, monC, monC, by intro v W W' h hX; exact NumX.ext h hX, monC, by intro v W W' h hX; exact NumX.ext h hX, by intro v W W' h hX; exact NumX.ext h hX, by intro v W W' h hX; exact NumQ.ext h hX, monC, trivial⟩ ?_ ?_
 ·
  clear hend
  simp only [rops, Try.f137, regOf, Option.bind_some, Nat.reduceBEq, if_true, if_false, Bool.false_eq_true, Option.getD_some]
  simp only [List.take_succ_cons, List.take_zero]
  refine ⟨?_, ?_, ?_, ?_, ?_, ?_, ?_, ?_, ?_, ?_, ?_, ?_, ?_, trivial⟩
  ·
   rintro us W hJ _ b hb hbz K hK0 hK Qz
   have e5 := (hbz 5 (by simp)).trans s5
   clear hb hbz
   go_simp
   exact hK0 _ rfl
  ·
   rintro us W hJ _ b hb hbz K hK0 hK Qz
   have e10 := (hbz 10 (by simp)).trans s10
   clear hb hbz
   go_simp
   exact hK0 _ rfl
  ·
   rintro us W hJ _ b hb hbz K hK0 hK Qz
   have e5 := (hbz 5 (by simp)).trans s5
   clear hb hbz
   go_simp
   exact hK0 _ rfl
  ·
   rintro us W hJ _ b hb hbz K hK0 hK Qz
   have e10 := (hbz 10 (by simp)).trans s10
   clear hb hbz
   go_simp
   exact hK0 _ rfl
  ·
   rintro us W hJ ⟨d2, d3⟩ b hb hbz K hK0 hK Qz
   have e53 := slotV (hb 2 53 rfl) d2
   have e54 := slotV (hb 3 54 rfl) d3
   clear hb hbz d2 d3
   go_simp
   exact hK0 _ rfl
  ·
   rintro us W hJ d4 b hb hbz K hK0 hK Qz
   have e55 := slotV (hb 4 55 rfl) d4
   clear hb hbz d4
   have z0 := Ext.cell hJ x0
   have z1 := Ext.cell hJ x1
   have z2 := Ext.cell hJ x2
   go_simp
   exact hK0 _ rfl
  ·
   rintro us W hJ _ b hb hbz K hK0 hK Qz
   have e11 := (hbz 11 (by simp)).trans s11
   clear hb hbz
   go_simp
   exact hK0 _ rfl
  ·
   rintro us W hJ d6 b hb hbz K hK0 hK Qz
   have e57 := slotV (hb 6 57 rfl) d6
   clear hb hbz d6
   go_simp
   refine (intX cc _ (by omega) (by omega)).mono ?_
   rintro e w' ⟨v, rfl, hv, hX⟩
   exact hK _ _ hv hX
  ·
   rintro us W hJ _ b hb hbz K hK0 hK Qz
   have e9 := (hbz 9 (by simp)).trans s9
   clear hb hbz
   have z0 := Ext.cell hJ y0
   have z1 := Ext.cell hJ y1
   have z2 := Ext.cell hJ y2
   go_simp
   exact hK0 _ rfl
  ·
   rintro us W hJ ⟨d7, d8⟩ b hb hbz K hK0 hK Qz
   have e58 := hb 7 58 rfl
   have e59 := slotV (hb 8 59 rfl) d8
   clear hb hbz d8
   go_simp
   refine (mulX d7 (hr.ext hJ) (by omega) (by omega)).mono ?_
   rintro e w' ⟨v, rfl, hv, hX⟩
   exact hK _ _ hv hX
  ·
   rintro us W hJ ⟨d5, d9⟩ b hb hbz K hK0 hK Qz
   have e56 := slotV (hb 5 56 rfl) d5
   have e60 := hb 9 60 rfl
   clear hb hbz d5
   go_simp
   refine (addX (hx.ext hJ) d9 (by omega)).mono ?_
   rintro e w' ⟨v, rfl, hv, hX⟩
   exact hK _ _ hv hX
  ·
   rintro us W hJ d10 b hb hbz K hK0 hK Qz
   have e61 := hb 10 61 rfl
   clear hb hbz
   go_simp
   refine (reducedX d10 (by omega)).mono ?_
   rintro e w' ⟨v, rfl, hv, hX⟩
   exact hK _ _ hv hX
  ·
   rintro us W hJ ⟨d0, d1⟩ b hb hbz K hK0 hK Qz
   have e51 := slotV (hb 0 51 rfl) d0
   have e52 := slotV (hb 1 52 rfl) d1
   clear hb hbz d0 d1
   go_simp
   exact hK0 _ rfl
 ·
  rintro us W ⟨v0, v1, v2, v3, v4, v5, v6, v7, v8, v9, v10, v11, v12, _⟩ hJ
  exact hend _ _ _ _ _ _ _ _ _ _ _ _ _ W v0 v1 v2 v3 v4 v5 v6 v7 v8 v9 v10 v11 v12 hJ
set_option maxRecDepth 100000 in
set_option maxHeartbeats 16000000 in
theorem slopes_any (S nn : Nat) (A : Option Addr) (n c : Nat) (ms : List Mt) (gt ot ct : Nat) (u : Nat → Rat) (w : World) (h : MsAt w A n ms) (hv : VP (S : Int) ms) (hN : nn = 3 * S) (hS : ShP (fun w v q => NumX w v q 256) w gt ot S u) (ht : Tame nn u) :
  Calls Try.prog 137 #[.slice (some ⟨gt, ot, none⟩) S ct, .agg #[.int .i64 (S : Int), .slice A n c]] w (fun e w' => ∃ go, e = .returned (.slice (some ⟨go, 0, none⟩) nn nn) ∧ RowN (fun w v q => NumX w v q 57) 217 3 w.heap.size w' go nn nn nn (fun j => some (slope nn ms u j)) ∧ Ext w w') := by
 have hS1 : 1 ≤ S := by have := hv.1; omega
 have hS8 : S ≤ 8 := by have := hv.2.1; omega
 have hn64 : n ≤ 64 := by have := hv.2.2.1; have := h.1; omega
 have hqN : IntKind.i64.wrap (3 * (S : Int)) = (nn : Int) := by rw [IntWalk.i64_in _ (by omega)]; omega
 have hNb : nn ≤ 24 := by omega
 have HFIT : Hid (∀ k i, FitQ (slope nn (ms.take k) u i) 57) := hid (fun k i => slope_fitL hv.2.2.2 hv.2.2.1 hNb ht k i)
 have H := hid h
 have HL := hid h.1
 have HVM := hid hv.2.2.2
 have HNN := hid hN
 have HS0 := hid hS
 clear h hv hN ht hS
 have hXe : Ext w (w.alloc (.cells #[.int .i64 (S : Int), .slice A n c] 76)) := (Ext.refl w).alloc _
 have kP : Blk (w.alloc (.cells #[.int .i64 (S : Int), .slice A n c] 76)) w.heap.size 76 #[.int .i64 (S : Int), .slice A n c] := Blk.new w _ _
 go_enter Try.func137, Try.ntmps137
 go_upto_region 1 with (fail)
 generalize w.alloc (.cells #[.int .i64 (S : Int), .slice A n c] 76) = w1 at hXe kP ⊢
 have HX := hid hXe
 have HP := hid kP
 have p0 := kP.cell 0
 simp only [List.getElem?_toArray, List.getElem?_cons_zero] at p0
 have hxs := HX.out.size
 have hpl := kP.lt
 clear hXe kP
 go_upto_region 2 with (at_make; refine wpList_mkS w1 elN3 rfl _ _ rfl w.heap.size _ _ _ _ nn nn rfl rfl (by first | rfl | omega) (by first | rfl | omega) (Nat.le_refl _) (by omega) (by unfold maxLen; omega) hxs ?_; intro w4 us hown hz1 hz2 hext hsz)
 have hrow : RowN (fun w v q => NumX w v q 57) 217 3 w.heap.size w4 w1.heap.size nn nn nn (fun _ => none) := RowN.make3 hown hz1 hz2
 replace HX := hid (HX.out.trans hext)
 replace HP := hid (HP.out.ext hext)
 generalize w1.heap.size = go at hrow hpl hsz hxs ⊢
 have HR := hid hrow
 clear hrow hown hz1 hz2 hext p0 hsz
 go_wp2_with fail
 go_loopg [18] nn (fun f iv wr => ∃ j : Nat, f = nn - j ∧ j ≤ nn ∧ iv = .int .i64 (j : Int) ∧ Hid (RowN (fun w v q => NumX w v q 57) 217 3 w.heap.size wr go nn nn nn (fun u => if u < j then some ((0 : Int) : Rat) else none)) ∧ Hid (Blk wr w.heap.size 76 #[.int .i64 (S : Int), .slice A n c]) ∧ Hid (Ext w wr))
 case atStart => exact ⟨0, by omega, by omega, rfl, hid (HR.out.congr (fun u _ => by rw [if_neg (by omega)])), HP, HX⟩
 case round =>
  clear HR HP HX
  obtain ⟨j, rfl, hj, rfl, HR, HP, HX⟩ := hrel
  by_cases hlt : j < nn
  ·
   have q1 : decide (j < nn) = true := decide_eq_true hlt
   go_wp2_with fail
   refine (intX 0 _ (by omega) (by omega)).mono ?_
   rintro e w5 ⟨v5, rfl, hv, hX⟩
   replace HX := hid (HX.out.trans hX)
   replace HP := hid (HP.out.ext hX)
   replace HR := hid (HR.out.ext (staysNum 57) hX)
   obtain ⟨s4, A4, l4, c4, B4, m4, k4, rfl⟩ := NumX.open hv
   have HN := hid (hv.mono (show 2 ≤ 57 by omega))
   clear hv hX
   obtain ⟨s2, A2, l2, c2, B2, m2, k2, x0, x1, x2, _⟩ := HR.out.cells hlt rfl
   have f0 := HR.out.free (j * 3)
   have f1 := HR.out.free (j * 3 + 1)
   have f2 := HR.out.free (j * 3 + 2)
   go_wp2
   clear x0 x1 x2 f0 f1 f2
   have hput := HR.out.put (staysNum 57) hlt rfl HN.out
   go_roundg (nn - (j + 1))
   case rel =>
    refine ⟨j + 1, rfl, by omega, by go_num, hid (hput.congr (fun u _ => ?_)), hid (((HP.out.far (by simp only; omega) _).far (by simp only; omega) _).far (by simp only; omega) _), hid (((HX.out.setCell (p := ⟨go, j * 3, none⟩) (by simp only; omega) (.bool s4)).setCell (p := ⟨go, j * 3 + 1, none⟩) (by simp only; omega) (.slice A4 l4 c4)).setCell (p := ⟨go, j * 3 + 2, none⟩) (by simp only; omega) (.slice B4 m4 k4))⟩
    by_cases e : u = j
    ·
     rw [if_pos e, if_pos (by omega)]
    ·
     rw [if_neg e]
     by_cases h2 : u < j
     ·
      rw [if_pos h2, if_pos (by omega)]
     ·
      rw [if_neg h2, if_neg (by omega)]
   case measure => omega
  ·
   obtain rfl : nn = j := by omega
   have q1 : decide (nn < nn) = false := by simp
   have p1 := HP.out.cell 1
   simp only [List.getElem?_toArray, List.getElem?_cons_zero, List.getElem?_cons_succ] at p1
   go_wp2_with fail
   clear p1
   have HSW := hid (HS0.out.ext (growsNum 256) HX.out)
   have HNG := hid HR.out.ni
   have hgS : gt ≠ go := by have := HS0.out.low (by omega); omega
   go_loopg [29] n (fun f iv wz => ∃ k : Nat, f = n - k ∧ k ≤ n ∧ iv = .int .i64 (k : Int) ∧ Hid (RowN (fun w v q => NumX w v q 57) 217 3 w.heap.size wz go nn nn nn (fun j => some (slope nn (ms.take k) u j))) ∧ Hid (Ext w wz) ∧ Hid (Keeps [go] wr wz))
   case atStart => exact ⟨0, by omega, by omega, rfl, hid (HR.out.congr (fun u hu => by rw [if_pos hu, slope_none]; rfl)), HX, hid (Keeps.refl _ _)⟩
   case round =>
    clear HR HX
    obtain ⟨k, rfl, hk, rfl, HR, HX, HK⟩ := hrel
    by_cases hkn : k < n
    ·
     have q2 : decide (k < n) = true := decide_eq_true hkn
     obtain ⟨gq, oq, ⟨a, b, x, y, z, d, ww⟩, rfl, hm, hmem, x0, x1, x2, x3, x4, x5, x6⟩ := (H.out.ext HX.out).get hkn
     simp only at x0 x1 x2 x3 x4 x5 x6
     have HM := hid hm
     have HMM := hid (HVM.out _ hmem)
     clear hm hmem
     go_upto_region 10 with (fail)
     have hXa : Ext wr (wr.alloc (.cells #[.int .i64 (a), .int .i64 (b), .int .i64 (x), .int .i64 (y), .int .i64 (z), .int .i64 (d), .int .i64 (ww)] 90)) := (Ext.refl _).alloc _
     have kM := Blk.new wr 90 #[.int .i64 (a), .int .i64 (b), .int .i64 (x), .int .i64 (y), .int .i64 (z), .int .i64 (d), .int .i64 (ww)]
     have hgl := HR.out.low.2
     replace HX := hid (HX.out.trans hXa)
     replace HR := hid (HR.out.ext (staysNum 57) hXa)
     replace HK := hid (HK.out.trans (.of_ext hXa _))
     clear hXa x0 x1 x2 x3 x4 x5 x6
     generalize wr.heap.size = gm at kM hgl ⊢
     generalize wr.alloc (.cells #[.int .i64 (a), .int .i64 (b), .int .i64 (x), .int .i64 (y), .int .i64 (z), .int .i64 (d), .int .i64 (ww)] 90) = w5 at kM HX HR HK ⊢
     have HSZ := hid (HSW.out.keeps (staysNum 256) HK.out (fun g hg => by simp at hg; subst hg; exact HNG.out) (by simp; omega))
     have KM := hid kM
     clear kM
     refine slp_r10 gm gt ot S ct a b x y z d ww u w5 (KM.out.cell 0) (KM.out.cell 1) (KM.out.cell 2) (KM.out.cell 3) (KM.out.cell 4) (KM.out.cell 5) (KM.out.cell 6) HSZ.out HMM.out (by have := HMM.out.w1; simpa using this) (by have := HMM.out.w2; simpa using this) _ _ (by simp) rfl rfl ?_
     rintro xv0 xv1 xv2 xv3 xv4 xv5 xv6 xv7 xv8 W rfl rfl rfl rfl _ _ hv ⟨gr, rfl, hgr, kR⟩ hX
     simp only [rops, Try.f137, regOf, Option.bind_some, Nat.reduceBEq, if_true, if_false, Bool.false_eq_true, Option.getD_some]
     simp only [Act.put, List.setIfInBounds_toArray, List.set_cons_succ, List.set_cons_zero]
     obtain ⟨s8, A8, l8, c8, B8, m8, k8, rfl⟩ := NumX.open hv
     have HRV := hid hv
     have KR : Hid (Blk W gr 217 #[.bool s8, .slice A8 l8 c8, .slice B8 m8 k8]) := hid kR
     have hgr2 : go < gr := by have := KM.out.lt; omega
     replace HX := hid (HX.out.trans hX)
     replace HR := hid (HR.out.ext (staysNum 57) hX)
     replace HK := hid (HK.out.trans (.of_ext hX _))
     replace KM := hid (KM.out.ext hX)
     clear hv kR hX HSZ hgr
     have y0 := KM.out.cell 0
     have y1 := KM.out.cell 1
     have y2 := KM.out.cell 2
     have y3 := KM.out.cell 3
     have y4 := KM.out.cell 4
     have y5 := KM.out.cell 5
     have y6 := KM.out.cell 6
     simp only [List.getElem?_toArray, List.getElem?_cons_zero, List.getElem?_cons_succ] at y0 y1 y2 y3 y4 y5 y6
     have p0 := (HP.out.keeps HK.out (by simp; omega)).cell 0
     have p1 := (HP.out.keeps HK.out (by simp; omega)).cell 1
     simp only [List.getElem?_toArray, List.getElem?_cons_zero, List.getElem?_cons_succ] at p0 p1
     go_wp2_with fail
     refine (coef_any (S := S) (N := nn) (m := ⟨a, b, x, y, z, d, ww⟩) HMM.out hS8 HNN.out).mono ?_
     rintro e w6 ⟨gc, rfl, hC, hX⟩
     replace HX := hid (HX.out.trans hX)
     replace HR := hid (HR.out.ext (staysNum 57) hX)
     replace HK := hid (HK.out.trans (.of_ext hX _))
     replace KR := hid (KR.out.ext hX)
     replace HRV := hid (HRV.out.ext hX)
     have hgc : go < gc := by have := hC.low; have := KR.out.lt; have := KM.out.lt; omega
     have HC := hid hC
     clear hC hX y0 y1 y2 y3 y4 y5 y6 p0 p1 KM
     have HNW := hid HR.out.ni
     go_wp2_with fail
     go_loopg [44] nn (fun f iv wy => ∃ i : Nat, f = nn - i ∧ i ≤ nn ∧ iv = .int .i64 (i : Int) ∧ Hid (RowN (fun w v q => NumX w v q 57) 217 3 w.heap.size wy go nn nn nn (fun j => some (slopeM nn ms u k i j))) ∧ Hid (Ext w wy) ∧ Hid (Keeps [go] w6 wy))
     case atStart => exact ⟨0, by omega, by omega, rfl, hid (HR.out.congr (fun u hu => by rw [slopeM_zero])), HX, hid (Keeps.refl _ _)⟩
     case round =>
      clear HR HX
      obtain ⟨i, rfl, hi, rfl, HR, HX, HKI⟩ := hrel
      by_cases hin : i < nn
      ·
       have q3 : decide (i < nn) = true := decide_eq_true hin
       obtain ⟨cc, hcc⟩ : ∃ cc, cof ⟨a, b, x, y, z, d, ww⟩ i = cc := ⟨_, rfl⟩
       have hcb : -100 ≤ cc ∧ cc ≤ 100 := by rw [← hcc]; exact cof_bound HMM.out i
       have cx := (HC.out.keeps HKI.out (by simp; omega)).cell hin
       rw [hcc] at cx
       have HCC := hid hcc
       clear hcc
       go_upto_region 14 with (fail)
       clear cx
       by_cases hz : cc = 0
       ·
        have q4 : (cc != 0) = false := by simpa using hz
        have HZ := hid hz
        clear hz
        go_wp2
        go_roundg (nn - (i + 1))
        case rel => exact ⟨i + 1, rfl, by omega, by go_num, hid (HR.out.congr (fun u _ => by rw [slopeM_skip HM.out (HCC.out.trans HZ.out)])), HX, HKI⟩
        case measure => omega
       ·
        have q4 : (cc != 0) = true := by simpa using hz
        clear hz
        obtain ⟨s9, A9, l9, c9, B9, m9, k9, x0, x1, x2, hx⟩ := HR.out.cells hin rfl
        have HXV := hid (hx _ rfl)
        clear hx
        have KRW := hid (KR.out.keeps HKI.out (by simp; omega))
        have HRW := hid (HRV.out.keepsNI HKI.out (fun g hg => by simp at hg; subst hg; exact HNW.out))
        have hsl : FitQ (slopeM nn ms u k (i + 1) i) 57 := by unfold slopeM; rw [if_pos (by omega)]; exact HFIT.out _ _
        have HSL := hid hsl
        clear hsl
        go_upto_region 15 with (fail)
        refine slp_r15 go nn i gr cc _ _ s9 A9 B9 l9 c9 m9 k9 s8 A8 B8 l8 c8 m8 k8 wr x0 x1 x2 (KRW.out.cell 0) (KRW.out.cell 1) (KRW.out.cell 2) HXV.out HRW.out hin hcb.1 hcb.2 _ _ (by simp) rfl rfl rfl rfl ?_
        rintro xv0 xv1 xv2 xv3 xv4 xv5 xv6 xv7 xv8 xv9 xv10 xv11 xv12 W rfl rfl rfl rfl rfl rfl rfl _ rfl _ _ hv rfl hX
        simp only [rops, Try.f137, regOf, Option.bind_some, Nat.reduceBEq, if_true, if_false, Bool.false_eq_true, Option.getD_some, List.drop_succ_cons, List.drop_zero]
        simp only [Act.put, List.setIfInBounds_toArray, List.set_cons_succ, List.set_cons_zero]
        replace HX := hid (HX.out.trans hX)
        replace HR := hid (HR.out.ext (staysNum 57) hX)
        replace HKI := hid (HKI.out.trans (.of_ext hX _))
        have hadd := slopeM_add (n := nn) (ms := ms) (u := u) (k := k) (i := i) HM.out
        rw [HCC.out] at hadd
        have HADD := hid hadd
        have hvf : NumX W xv11 (slopeM nn ms u k (i + 1) i) 57 := by
         have e : slopeM nn ms u k (i + 1) i = slopeM nn ms u k i i + ((cc : Int) : Rat) * (((ww : Int) : Rat) * res (3 * S) ⟨a, b, x, y, z, d, ww⟩ u) := (congrFun HADD.out i).trans (by simp only; rw [if_pos trivial, HNN.out])
         rw [e] at HSL ⊢
         exact hv.numx HSL.out
        obtain ⟨s4, A4, l4, c4, B4, m4, k4, rfl⟩ := NumX.open hvf
        have HN := hid hvf
        clear hv hvf hadd hX x0 x1 x2
        obtain ⟨s2, A2, l2, c2, B2, m2, k2, x0, x1, x2, _⟩ := HR.out.cells hin rfl
        have f0 := HR.out.free (i * 3)
        have f1 := HR.out.free (i * 3 + 1)
        have f2 := HR.out.free (i * 3 + 2)
        go_wp2
        clear x0 x1 x2 f0 f1 f2
        have hput := HR.out.put (staysNum 57) hin rfl HN.out
        go_roundg (nn - (i + 1))
        case rel =>
         refine ⟨i + 1, rfl, by omega, by go_num, hid (hput.congr (fun v hv => ?_)), hid (((HX.out.setCell (p := ⟨go, i * 3, none⟩) (by simp only; omega) (.bool s4)).setCell (p := ⟨go, i * 3 + 1, none⟩) (by simp only; omega) (.slice A4 l4 c4)).setCell (p := ⟨go, i * 3 + 2, none⟩) (by simp only; omega) (.slice B4 m4 k4)), hid (((HKI.out.setCell (p := ⟨go, i * 3, none⟩) (.inl (by simp)) (.bool s4)).setCell (p := ⟨go, i * 3 + 1, none⟩) (.inl (by simp)) (.slice A4 l4 c4)).setCell (p := ⟨go, i * 3 + 2, none⟩) (.inl (by simp)) (.slice B4 m4 k4))⟩
         by_cases e : v = i
         ·
          subst e; rw [if_pos rfl]
         ·
          rw [if_neg e, HADD.out]
          simp only
          rw [if_neg e]
        case measure => omega
      ·
       obtain rfl : nn = i := by omega
       have q3 : decide (nn < nn) = false := by simp
       go_wp2
       go_roundg (n - (k + 1))
       case rel => exact ⟨k + 1, rfl, by omega, by go_num, hid (HR.out.congr (fun v hv => by rw [slopeM_full v hv])), HX, hid (HK.out.trans HKI.out)⟩
       case measure => omega

    ·
     obtain rfl : n = k := by omega
     have q2 : decide (n < n) = false := by simp
     have HTK : Hid (ms.take n = ms) := hid (List.take_of_length_le (by have := HL.out; omega))
     rw [HTK.out] at HR
     go_wp2
     go_ret
     exact ⟨go, rfl, HR.out, HX.out⟩
theorem elRt : Elem Try.prog 114 97 3 56 (.agg #[.bool false, .slice none 0 0, .slice none 0 0]) := Elem.mk' (by kernel_rfl) (by kernel_rfl) rfl (by decide)
theorem kindC : KindK 3 (Tri RatC) := ⟨fun w cs x h => by obtain ⟨s, A, l, c, B, m, k, rfl, _⟩ := h; rfl, fun w w' L cs x h hk hN => by obtain ⟨s, A, l, c, B, m, k, e, h⟩ := h; exact ⟨s, A, l, c, B, m, k, e, staysC _ _ _ _ _ h hk hN⟩, fun h => by omega⟩
/-- A list of numbers in their canonical form. -/
def RatR (base : Nat) (w : World) (v : Value) (n : Nat) (f : Nat → Rat) : Prop := ∃ us, w.ownsRow base 97 3 v n us ∧ NumK 3 (Tri RatC) w us n f ∧ RowNI w v
theorem RatR.ext {base n : Nat} {w w' : World} {v : Value} {f : Nat → Rat} (h : RatR base w v n f) (he : Ext w w') : RatR base w' v n f := by
 obtain ⟨us, h1, h2, h3⟩ := h
 exact ⟨us, World.ownsRow.ext' h1 he, h2.ext kindC he, h3.ext he⟩
theorem RatR.slice {base n : Nat} {w : World} {v : Value} {f : Nat → Rat} (h : RatR base w v n f) : ∃ A c, v = .slice A n c := by
 obtain ⟨us, h1, _⟩ := h
 exact own_slice h1
theorem RatR.get {base n c : Nat} {w : World} {A : Option Addr} {f : Nat → Rat} (h : RatR base w (.slice A n c) n f) {j : Nat} (hj : j < n) : ∃ g s A0 l c0 B m k, A = some ⟨g, 0, none⟩ ∧ w.cell? ⟨g, j * 3, none⟩ = some (.bool s) ∧ w.cell? ⟨g, j * 3 + 1, none⟩ = some (.slice A0 l c0) ∧ w.cell? ⟨g, j * 3 + 2, none⟩ = some (.slice B m k) ∧ RatC w (.agg #[.bool s, .slice A0 l c0, .slice B m k]) (f j) := by
 obtain ⟨us, h1, h2, h3⟩ := h
 obtain ⟨g, rfl, _, _⟩ := own_blockS h1 (by omega)
 obtain ⟨s, A0, l, c0, B, m, k, x0, x1, x2, hx⟩ := h2.three hj
 exact ⟨g, s, A0, l, c0, B, m, k, rfl, own_cell h1 x0, own_cell h1 x1, own_cell h1 x2, hx⟩
set_option maxRecDepth 100000 in
set_option maxHeartbeats 16000000 in
theorem slopesP_inv (S : Int) (A : Option Addr) (n c : Nat) (ms : List Mt) (tv : Value) (w : World) (h : MsAt w A n ms) (hv : ¬ VP S ms)  :
  Calls Try.prog 57 #[.agg #[.int .i64 S, .slice A n c], tv] w (fun e w' => e = .returned (.tuple #[.slice none 0 0, .int .i64 50]) ∧ Ext w w') := by
 have H := hid h
 have HV := hid hv
 clear h hv
 have HX := hid ((Ext.refl w).alloc (.cells #[.int .i64 S, .slice A n c] 76))
 have HP := hid (Blk.new w 76 #[.int .i64 S, .slice A n c])
 go_enter Try.func57, Try.ntmps57
 go_upto_region 1 with (fail)
 generalize w.alloc (.cells #[.int .i64 S, .slice A n c] 76) = w1 at HX HP ⊢
 have p0 := HP.out.cell 0
 have p1 := HP.out.cell 1
 simp only [List.getElem?_toArray, List.getElem?_cons_zero, List.getElem?_cons_succ] at p0 p1
 go_wp2_with fail
 refine (rdP_inv S A n c ms tv _ (H.out.ext HX.out) HV.out).mono ?_
 rintro e w2 ⟨rfl, hX⟩
 replace HX := hid (HX.out.trans hX)
 clear hX p0 p1
 go_wp2
 go_ret2
 exact ⟨rfl, HX.out⟩
set_option maxRecDepth 100000 in
set_option maxHeartbeats 16000000 in
theorem slopesP_len (S : Nat) (A : Option Addr) (n c : Nat) (ms : List Mt) (At : Option Addr) (m ct : Nat) (w : World) (h : MsAt w A n ms) (hv : VP (S : Int) ms) (hne : m ≠ S) :
  Calls Try.prog 57 #[.agg #[.int .i64 (S : Int), .slice A n c], .slice At m ct] w (fun e w' => e = .returned (.tuple #[.slice none 0 0, .int .i64 51]) ∧ Ext w w') := by
 have H := hid h
 have HV := hid hv
 clear h hv
 have HX := hid ((Ext.refl w).alloc (.cells #[.int .i64 (S : Int), .slice A n c] 76))
 have HP := hid (Blk.new w 76 #[.int .i64 (S : Int), .slice A n c])
 go_enter Try.func57, Try.ntmps57
 go_upto_region 1 with (fail)
 generalize w.alloc (.cells #[.int .i64 (S : Int), .slice A n c] 76) = w1 at HX HP ⊢
 have p0 := HP.out.cell 0
 have p1 := HP.out.cell 1
 simp only [List.getElem?_toArray, List.getElem?_cons_zero, List.getElem?_cons_succ] at p0 p1
 go_wp2_with fail
 refine (rdP_len S A n c ms At m ct _ (H.out.ext HX.out) HV.out hne).mono ?_
 rintro e w2 ⟨rfl, hX⟩
 replace HX := hid (HX.out.trans hX)
 clear hX p0 p1
 go_wp2
 go_ret2
 exact ⟨rfl, HX.out⟩
set_option maxRecDepth 100000 in
set_option maxHeartbeats 16000000 in
theorem slopesP_ok (S : Nat) (A : Option Addr) (n c : Nat) (ms : List Mt) (nn gt ot ct : Nat) (u : Nat → Rat) (w : World) (h : MsAt w A n ms) (hv : VP (S : Int) ms) (hN : nn = 3 * S) (hS : ShP RatG w gt ot S u) (ht : Tame nn u) :
  Calls Try.prog 57 #[.agg #[.int .i64 (S : Int), .slice A n c], .slice (some ⟨gt, ot, none⟩) S ct] w (fun e w' => ∃ v, e = .returned (.tuple #[v, .int .i64 0]) ∧ RatR w.heap.size w' v nn (slope nn ms u) ∧ Ext w w') := by
 have H := hid h
 have HV := hid hv
 clear h hv
 have HX := hid ((Ext.refl w).alloc (.cells #[.int .i64 (S : Int), .slice A n c] 76))
 have HP := hid (Blk.new w 76 #[.int .i64 (S : Int), .slice A n c])
 go_enter Try.func57, Try.ntmps57
 go_upto_region 1 with (fail)
 generalize w.alloc (.cells #[.int .i64 (S : Int), .slice A n c] 76) = w1 at HX HP ⊢
 have p0 := HP.out.cell 0
 have p1 := HP.out.cell 1
 simp only [List.getElem?_toArray, List.getElem?_cons_zero, List.getElem?_cons_succ] at p0 p1
 go_wp2_with fail
 have HS0 := hid hS
 have HT := hid ht
 have HNN := hid hN
 have hS8 : S ≤ 8 := by have := HV.out.2.1; omega
 have hn24 : nn ≤ 24 := by omega
 clear hS ht hN
 refine (rdP_ok S A n c ms gt ot ct u _ (H.out.ext HX.out) HV.out (HS0.out.ext growsG HX.out)).mono ?_
 rintro e w2 ⟨gs, rfl, hgo, hS, hX⟩
 have HS := hid hS
 replace HX := hid (HX.out.trans hX)
 replace HP := hid (HP.out.ext hX)
 clear hS hX p0 p1 hgo
 have p0 := HP.out.cell 0
 have p1 := HP.out.cell 1
 simp only [List.getElem?_toArray, List.getElem?_cons_zero, List.getElem?_cons_succ] at p0 p1
 go_wp2_with fail
 refine (slopes_any S nn A n c ms gs 0 S u _ (H.out.ext HX.out) HV.out HNN.out HS.out HT.out).mono ?_
 rintro e w3 ⟨go, rfl, hR, hX⟩
 replace HX := hid (HX.out.trans hX)
 have HR := hid hR
 clear hR hX p0 p1
 go_wp2_with fail
 have HF : Hid (∀ j, FitQW (slope nn ms u j)) := hid (fun j => slope_fit HV.out.2.2.2 HV.out.2.2.1 hn24 HT.out j)
 go_loopg [8, 26] nn (fun fu ov iv wr => ∃ (j : Nat) (r : List Value), fu = nn - j ∧ j ≤ nn ∧ iv = .int .i64 (j : Int) ∧ Hid (wr.ownsRow w.heap.size 97 3 ov j r) ∧ Hid (NumK 3 (Tri RatC) wr r j (slope nn ms u)) ∧ Hid (RowNI wr ov) ∧ Hid (RowN (fun w v q => NumX w v q 57) 217 3 w2.heap.size wr go nn nn nn (fun j => some (slope nn ms u j))) ∧ Hid (Ext w wr))
 case atStart => exact ⟨0, [], rfl, by omega, rfl, hid (World.ownsRow_nil _ _ _ _), hid (NumK.nil _ _ _ _), hid (RowNI.nil _), HR, HX⟩
 case round =>
  clear HR HX
  obtain ⟨j, r, rfl, hj, rfl, HO, HK, HI, HR, HX⟩ := hrel
  obtain ⟨Ao, co, rfl⟩ := own_slice HO.out
  by_cases hlt : j < nn
  ·
   have q1 : decide (j < nn) = true := decide_eq_true hlt
   obtain ⟨s1, A1, l1, c1, B1, m1, k1, x0, x1, x2, hx⟩ := HR.out.cells hlt rfl
   have HN := hid (hx _ rfl)
   clear hx
   go_upto_region 8 with (fail)
   have hXa : Ext wr (wr.alloc (.cells #[.bool s1, .slice A1 l1 c1, .slice B1 m1 k1] 217)) := (Ext.refl _).alloc _
   have kB := Blk.new wr 217 #[.bool s1, .slice A1 l1 c1, .slice B1 m1 k1]
   have hgw := HX.out.size
   replace HX := hid (HX.out.trans hXa)
   replace HR := hid (HR.out.ext (staysNum 57) hXa)
   replace HN := hid (HN.out.ext hXa)
   replace HO := hid (World.ownsRow.ext' HO.out hXa)
   replace HK := hid (HK.out.ext kindC hXa)
   replace HI := hid (HI.out.ext hXa)
   clear hXa x0 x1 x2
   generalize wr.heap.size = gx at kB hgw ⊢
   generalize wr.alloc (.cells #[.bool s1, .slice A1 l1 c1, .slice B1 m1 k1] 217) = w5 at kB HX HR HN HO HK HI ⊢
   have y0 := kB.cell 0
   have y1 := kB.cell 1
   have y2 := kB.cell 2
   simp only [List.getElem?_toArray, List.getElem?_cons_zero, List.getElem?_cons_succ] at y0 y1 y2
   clear kB
   go_wp2_with fail

   refine (doneG HN.out (by omega) (HF.out j)).mono ?_
   rintro e w6 ⟨v6, rfl, hv, hX⟩
   obtain ⟨s4, A4, l4, c4, B4, m4, k4, rfl⟩ := RatC.open hv
   replace HX := hid (HX.out.trans hX)
   replace HR := hid (HR.out.ext (staysNum 57) hX)
   replace HO := hid (World.ownsRow.ext' HO.out hX)
   replace HK := hid (HK.out.ext kindC hX)
   replace HI := hid (HI.out.ext hX)
   have HC := hid hv
   clear hX y0 y1 y2 hv
   go_upto_region 9 with (fail)
   have hXa : Ext w6 (w6.alloc (.cells #[.bool s4, .slice A4 l4 c4, .slice B4 m4 k4] 97)) := (Ext.refl _).alloc _
   have kB := Blk.new w6 97 #[.bool s4, .slice A4 l4 c4, .slice B4 m4 k4]
   replace HX := hid (HX.out.trans hXa)
   replace HR := hid (HR.out.ext (staysNum 57) hXa)
   replace HO := hid (World.ownsRow.ext' HO.out hXa)
   replace HK := hid (HK.out.ext kindC hXa)
   replace HI := hid (HI.out.ext hXa)
   replace HC := hid (staysC.grows _ _ _ _ HC.out hXa)
   clear hXa
   generalize w6.heap.size = gy at kB ⊢
   generalize w6.alloc (.cells #[.bool s4, .slice A4 l4 c4, .slice B4 m4 k4] 97) = w7 at kB HX HR HO HK HI HC ⊢
   have y0 := kB.cell 0
   have y1 := kB.cell 1
   have y2 := kB.cell 2
   simp only [List.getElem?_toArray, List.getElem?_cons_zero, List.getElem?_cons_succ] at y0 y1 y2
   clear kB
   have hsz := HX.out.size
   have hX7 := (Ext.refl w7).alloc (.cells #[.bool s4, .slice A4 l4 c4, .slice B4 m4 k4] 97)
   have HO7 := hid (World.ownsRow.ext' HO.out hX7)
   have HI7 := hid (HI.out.ext hX7)
   have HK7 := hid (HK.out.ext kindC hX7)
   have HR7 := hid (HR.out.ext (staysNum 57) hX7)
   have HX7 := hid (HX.out.trans hX7)
   have HC7 := hid (staysC.grows _ _ _ _ HC.out hX7)
   clear HO HI HK HR HX HC hX7
   go_wp2_with (at_builtin; refine wpList_appN _ elRt zN3 rfl _ _ rfl w.heap.size (.slice Ao j co) j r rfl HO7.out HI7.out _ 1 1 [.bool s4, .slice A4 l4 c4, .slice B4 m4 k4] rfl rfl (At.new' _ [_, _, _] _ rfl) (by intro u hu; simp at hu; rcases hu with rfl | rfl | rfl <;> rfl) (by intro u hu; simp at hu; rcases hu with rfl | rfl | rfl; exact noInt_bool _; exact noInt_slice _ _ _; exact noInt_slice _ _ _) (by omega) (by omega) (by unfold maxLen; omega) (by simp; omega) ?_; intro v8 w8 hown8 hgr8 hni8; have HG8 := hid hgr8; have HO8 := hid hown8; have HI8 := hid hni8; clear hgr8 hown8 hni8)
   go_roundg (nn - (j + 1))
   case rel =>
    refine ⟨j + 1, _, rfl, by omega, by go_num, HO8, hid ?_, HI8, hid (HR7.out.keeps (staysNum 57) (keeps_own HG8.out) (rowNI_L HI7.out) (fun hg => ?_)), hid (HX7.out.grown HG8.out (fun b hb => (HO7.out.lt b hb).1))⟩
    ·
     have h1 := HK7.out.keep kindC (keeps_own HG8.out) (rowNI_L HI7.out)
     have h2 := staysC _ _ _ _ _ HC7.out (keeps_own HG8.out) (rowNI_L HI7.out)
     refine (h1.snoc (cs := [.bool s4, .slice A4 l4 c4, .slice B4 m4 k4]) rfl (Tri.mk h2)).congr (fun c _ => ?_)
     by_cases e : c = j
     ·
      rw [if_pos e, e]
     ·
      rw [if_neg e]
    ·
     obtain ⟨us, hq1, _⟩ := HR7.out.row
     exact own_apart HO7.out hq1 (by decide) (by simpa using hg) rfl
   case measure => omega
  ·
   obtain rfl : nn = j := by omega
   have q1 : decide (nn < nn) = false := by simp
   go_wp2
   go_ret2
   exact ⟨_, rfl, ⟨r, HO.out, HK.out, HI.out⟩, HX.out⟩
end Go.Proofs.Ytikhlcgnlbinfaa
