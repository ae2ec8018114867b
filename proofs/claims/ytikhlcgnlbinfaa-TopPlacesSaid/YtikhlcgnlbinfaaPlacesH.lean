/- Lemmas of the proof that follows (Places, part 8): walks of functions by contract, and plain lemmas. Conditions: none. -/
import Derived.Test.YtikhlcgnlbinfaaPlacesG
set_option maxRecDepth 100000
set_option maxHeartbeats 8000000
namespace Go.Proofs.Ytikhlcgnlbinfaa
open Lib (hid)
open Go.RowKit
theorem co {t : Int} {p : Nat -> Int} {e : Int} {q : Nat -> Int} {k : Int} : dJ t p e q k = true ↔ ar (-134217728) 134217728 [p 0, p 1, p 2] = true /\ ar 0 1125899906842624 [t] = true /\ ar 0 100000 [e] = true /\ bV 1000 q = true /\ ar 0 1000000 [k] = true := by
 unfold dJ;rw [Bool.and_eq_true, Bool.and_eq_true, Bool.and_eq_true, Bool.and_eq_true, and_assoc, and_assoc, and_assoc]
theorem aA {L : Int} {q : Nat -> Int} (h : bV L q = true) : ∀ k, k < 4 -> -L <= q k /\ q k <= L := by
 unfold bV at h;rw [Bool.and_eq_true] at h;have h1 := au.1 h.1;intro k hk
 match k, hk with
 | 0, _ => exact h1 _ (by simp)
 | 1, _ => exact h1 _ (by simp)
 | 2, _ => exact h1 _ (by simp)
 | 3, _ => exact h1 _ (by simp)
/-- The three places of a fix in a block. -/
theorem ki {w : World} {g : Nat} {T : TypeId} {ta ea ka : Int} {pa qa : Nat -> Int} (h : Blk w g T #[.int .i64 (ta), .int .i64 (pa 0), .int .i64 (pa 1), .int .i64 (pa 2), .int .i64 (ea), .int .i64 (qa 0), .int .i64 (qa 1), .int .i64 (qa 2), .int .i64 (qa 3), .int .i64 (ka)]) (hq : ∀ x ∈ [pa 0, pa 1, pa 2], -9223372036854775808 <= x /\ x <= 9223372036854775807) : Ints .i64 w (some ⟨g, 1, none⟩) 3 [pa 0, pa 1, pa 2] := by
 refine ⟨rfl, fun x hx => j8 (hq x hx), fun _ => ⟨g, 1, rfl, fun j v hv => ?_⟩⟩;rw [h.cell]
 match j, hv with
 | 0, hv => exact hv
 | 1, hv => exact hv
 | 2, hv => exact hv
 | j + 3, hv => simp at hv
theorem gZ (ta ea ka : Int) (pa qa : Nat -> Int) (w : World) (hv : dJ ta pa ea qa ka = true) :
  Calls Try.prog 194 #[.agg #[.int .i64 (ta), .int .i64 (pa 0), .int .i64 (pa 1), .int .i64 (pa 2), .int .i64 (ea), .int .i64 (qa 0), .int .i64 (qa 1), .int .i64 (qa 2), .int .i64 (qa 3), .int .i64 (ka)]] w (fun e w' => e = .returned (.bool true) /\ Ext w w') := by
 obtain ⟨h1, h2, h3, h4, h5⟩ := co.1 hv;clear hv;have H1 := hid h1;have H2 := hid h2;have H3 := hid h3;have H4 := hid h4;have H5 := hid h5;clear h1 h2 h3 h4 h5;have HX := hid ((Ext.refl w).alloc (.cells #[.int .i64 (ta), .int .i64 (pa 0), .int .i64 (pa 1), .int .i64 (pa 2), .int .i64 (ea), .int .i64 (qa 0), .int .i64 (qa 1), .int .i64 (qa 2), .int .i64 (qa 3), .int .i64 (ka)] 25));have HP := hid (Blk.new w 25 #[.int .i64 (ta), .int .i64 (pa 0), .int .i64 (pa 1), .int .i64 (pa 2), .int .i64 (ea), .int .i64 (qa 0), .int .i64 (qa 1), .int .i64 (qa 2), .int .i64 (qa 3), .int .i64 (ka)]);go_enter Try.func194, Try.ntmps194
 go_upto_region 1 with (fail)
 generalize w.alloc _ = w1 at HX HP |-;obtain ⟨c0, c1, c2, c3, c4, c5, c6, c7, c8, c9⟩ := HP.out.c10
 go_wp2_with fail
 refine (af 0 1125899906842624 _ 1 1 [ta] _ (ai _ [ta] 3 (by have := au.1 H2.out; simp at this |-; omega)) (by omega)).mono ?_;rw [H2.out];rintro e w' ⟨rfl, hX⟩;have hXa := ((Ext.refl _).alloc (.cells ([ta].map (Value.int .i64)).toArray 3)).trans hX;replace HX := xT HX hXa;replace HP := hid (HP.out.ext hXa);clear hX hXa c0 c1 c2 c3 c4 c5 c6 c7 c8 c9;obtain ⟨c0, c1, c2, c3, c4, c5, c6, c7, c8, c9⟩ := HP.out.c10
 go_wp2_with fail
 refine (af (-134217728) 134217728 _ 3 3 [pa 0, pa 1, pa 2] _ (ki HP.out (fun x hx => by have := au.1 H1.out x hx; omega)) (by omega)).mono ?_;rw [H1.out];rintro e w' ⟨rfl, hX⟩;replace HX := xT HX hX;replace HP := hid (HP.out.ext hX);clear hX c0 c1 c2 c3 c4 c5 c6 c7 c8 c9;obtain ⟨c0, c1, c2, c3, c4, c5, c6, c7, c8, c9⟩ := HP.out.c10
 go_wp2_with fail
 refine (af 0 100000 _ 1 1 [ea] _ (ai _ [ea] 3 (by have := au.1 H3.out; simp at this |-; omega)) (by omega)).mono ?_;rw [H3.out];rintro e w' ⟨rfl, hX⟩;have hXa := ((Ext.refl _).alloc (.cells ([ea].map (Value.int .i64)).toArray 3)).trans hX;replace HX := xT HX hXa;replace HP := hid (HP.out.ext hXa);clear hX hXa c0 c1 c2 c3 c4 c5 c6 c7 c8 c9;obtain ⟨c0, c1, c2, c3, c4, c5, c6, c7, c8, c9⟩ := HP.out.c10
 go_wp2_with fail
 refine (cn qa _ (fun k hk => by have := aA H4.out k hk; omega)).mono ?_;rw [H4.out];rintro e w' ⟨rfl, hX⟩;replace HX := xT HX hX;replace HP := hid (HP.out.ext hX);clear hX c0 c1 c2 c3 c4 c5 c6 c7 c8 c9;obtain ⟨c0, c1, c2, c3, c4, c5, c6, c7, c8, c9⟩ := HP.out.c10
 go_wp2_with fail
 refine (af 0 1000000 _ 1 1 [ka] _ (ai _ [ka] 3 (by have := au.1 H5.out; simp at this |-; omega)) (by omega)).mono ?_;rw [H5.out];rintro e w' ⟨rfl, hX⟩;have hXa := ((Ext.refl _).alloc (.cells ([ka].map (Value.int .i64)).toArray 3)).trans hX;replace HX := xT HX hXa;replace HP := hid (HP.out.ext hXa);clear hX hXa c0 c1 c2 c3 c4 c5 c6 c7 c8 c9;go_wp2;go_ret;exact ⟨rfl, HX.out⟩
theorem kj (lo hi : Int) (q : Nat -> Int) : ∀ {k : Nat}, k < 3 -> ar lo hi (([q 0, q 1, q 2] : List Int).drop k) = (ar lo hi [q k] && ar lo hi (([q 0, q 1, q 2] : List Int).drop (k + 1)))
 | 0, _ => dr _ _ _ _
 | 1, _ => dr _ _ _ _
 | 2, _ => by rw [show ([q 0, q 1, q 2] : List Int).drop 2 = [q 2] from rfl, show ([q 0, q 1, q 2] : List Int).drop 3 = [] from rfl, nx, Bool.and_true]
theorem cS (ta ea ka : Int) (pa qa : Nat -> Int) (w : World) :
  Calls Try.prog 82 #[.agg #[.int .i64 (ta), .int .i64 (pa 0), .int .i64 (pa 1), .int .i64 (pa 2), .int .i64 (ea), .int .i64 (qa 0), .int .i64 (qa 1), .int .i64 (qa 2), .int .i64 (qa 3), .int .i64 (ka)]] w (fun e w' => e = .returned (.bool (dJ ta pa ea qa ka)) /\ Ext w w') := by
 have HX := hid ((Ext.refl w).alloc (.cells #[.int .i64 (ta), .int .i64 (pa 0), .int .i64 (pa 1), .int .i64 (pa 2), .int .i64 (ea), .int .i64 (qa 0), .int .i64 (qa 1), .int .i64 (qa 2), .int .i64 (qa 3), .int .i64 (ka)] 25));have HP := hid (Blk.new w 25 #[.int .i64 (ta), .int .i64 (pa 0), .int .i64 (pa 1), .int .i64 (pa 2), .int .i64 (ea), .int .i64 (qa 0), .int .i64 (qa 1), .int .i64 (qa 2), .int .i64 (qa 3), .int .i64 (ka)]);go_enter Try.func82, Try.ntmps82
 go_upto_region 1 with (fail)
 generalize w.alloc _ = w1 at HX HP |-;obtain ⟨c0, c1, c2, c3, c4, c5, c6, c7, c8, c9⟩ := HP.out.c10
 go_wp2_with fail
 clear c0 c1 c2 c3 c4 c5 c6 c7 c8 c9
 go_loopg [7] 3 (fun fu iv wr => ∃ k : Nat, fu = 3 - k /\ k <= 3 /\ iv = .int .i64 (k : Int) /\ Hid (ar (-134217728) 134217728 [pa 0, pa 1, pa 2] = ar (-134217728) 134217728 (([pa 0, pa 1, pa 2] : List Int).drop k)) /\ Hid (Ext w wr) /\ Hid (Ext w1 wr))
 case atStart => exact ⟨0, rfl, by omega, rfl, hid rfl, HX, hid (Ext.refl _)⟩
 case round =>
  clear HX;obtain ⟨k, rfl, hk, rfl, HD, HX, HX1⟩ := hrel
  by_cases hlt : k < 3
  .
   have q1 := xD (k < 3) hlt;have q1b := xD ((k : Int) < (3 : Int)) (by omega);have ix := js pa hlt;obtain ⟨c, hc⟩ : ∃ c, ar (-134217728) 134217728 [pa k] = c := ⟨_, rfl⟩;have HS : Hid (ar (-134217728) 134217728 [pa 0, pa 1, pa 2] = (c && ar (-134217728) 134217728 (([pa 0, pa 1, pa 2] : List Int).drop (k + 1)))) := hid (by rw [HD.out, kj _ _ pa hlt, hc]);have HC := hid hc;clear hc;obtain ⟨x, hx⟩ : ∃ x, pa k = x := ⟨_, rfl⟩;rw [hx] at HC ix;clear hx
   go_wp2_with fail
   refine (aq (-134217728) x 134217728 _).mono ?_;rw [HC.out];rintro e w3 ⟨rfl, hX⟩;replace HX := xT HX hX;replace HX1 := xT HX1 hX;clear hX
   by_cases hcb : c = true
   .
    subst hcb;have HR : Hid (ar (-134217728) 134217728 [pa 0, pa 1, pa 2] = ar (-134217728) 134217728 (([pa 0, pa 1, pa 2] : List Int).drop (k + 1))) := hid HS.out;go_wp2;go_roundg (3 - (k + 1))
    case rel => exact ⟨k + 1, rfl, by omega, by go_num, HR, HX, HX1⟩
    case measure => omega
   .
    obtain rfl : c = false := by simpa using hcb
    clear hcb;have HR : Hid (dJ ta pa ea qa ka = false) := hid (by unfold dJ; rw [HS.out]; rfl);go_wp2;go_ret;exact ⟨by rw [HR.out]; rfl, HX.out⟩
  .
   obtain rfl : k = 3 := by omega
   have h4 : decide ((3 : Int) < (3 : Int)) = false := by decide
   replace HP := hid (HP.out.ext HX1.out);have HD2 : Hid (ar (-134217728) 134217728 [pa 0, pa 1, pa 2] = true) := hid HD.out;clear HX1;obtain ⟨b1, hb1⟩ : ∃ b, ar 0 1125899906842624 [ta] = b := ⟨_, rfl⟩;obtain ⟨b2, hb2⟩ : ∃ b, ar 0 100000 [ea] = b := ⟨_, rfl⟩;obtain ⟨b3, hb3⟩ : ∃ b, bV 1000 qa = b := ⟨_, rfl⟩;obtain ⟨b4, hb4⟩ : ∃ b, ar 0 1000000 [ka] = b := ⟨_, rfl⟩;have HB1 := hid hb1;have HB2 := hid hb2;have HB3 := hid hb3;have HB4 := hid hb4;have HE : Hid (dJ ta pa ea qa ka = (b1 && b2 && b3 && b4)) := hid (by unfold dJ; rw [HD2.out, hb1, hb2, hb3, hb4]; rfl);clear hb1 hb2 hb3 hb4;obtain ⟨c0, c1, c2, c3, c4, c5, c6, c7, c8, c9⟩ := HP.out.c10
   go_wp2_with fail
   refine (aq 0 ta 1125899906842624 _).mono ?_;rw [HB1.out];rintro e w' ⟨rfl, hX⟩;replace HX := xT HX hX;replace HP := hid (HP.out.ext hX);clear c0 c1 c2 c3 c4 c5 c6 c7 c8 c9 hX
   by_cases hb : b1 = true
   .
    subst hb;obtain ⟨c0, c1, c2, c3, c4, c5, c6, c7, c8, c9⟩ := HP.out.c10
    go_wp2_with fail
    refine (aq 0 ea 100000 _).mono ?_;rw [HB2.out];rintro e w' ⟨rfl, hX⟩;replace HX := xT HX hX;replace HP := hid (HP.out.ext hX);clear c0 c1 c2 c3 c4 c5 c6 c7 c8 c9 hX
    by_cases hb : b2 = true
    .
     subst hb;obtain ⟨c0, c1, c2, c3, c4, c5, c6, c7, c8, c9⟩ := HP.out.c10
     go_wp2_with fail
     refine (bM 1000 qa _ (by omega)).mono ?_;rw [HB3.out];rintro e w' ⟨rfl, hX⟩;replace HX := xT HX hX;replace HP := hid (HP.out.ext hX);clear c0 c1 c2 c3 c4 c5 c6 c7 c8 c9 hX
     by_cases hb : b3 = true
     .
      subst hb;obtain ⟨c0, c1, c2, c3, c4, c5, c6, c7, c8, c9⟩ := HP.out.c10
      go_wp2_with fail
      refine (aq 0 ka 1000000 _).mono ?_;rw [HB4.out];rintro e w' ⟨rfl, hX⟩;replace HX := xT HX hX;replace HP := hid (HP.out.ext hX);clear c0 c1 c2 c3 c4 c5 c6 c7 c8 c9 hX;go_wp2;go_ret;exact ⟨by rw [HE.out]; rfl, HX.out⟩
     .
      obtain rfl : b3 = false := by simpa using hb
      clear hb;go_wp2;go_ret;exact ⟨by rw [HE.out]; rfl, HX.out⟩
    .
     obtain rfl : b2 = false := by simpa using hb
     clear hb;go_wp2;go_ret;exact ⟨by rw [HE.out]; rfl, HX.out⟩
   .
    obtain rfl : b1 = false := by simpa using hb
    clear hb;go_wp2;go_ret;exact ⟨by rw [HE.out]; rfl, HX.out⟩
/-- A fix. -/
structure Fx where
 t : Int
 p : Nat -> Int
 e : Int
 q : Nat -> Int
 k : Int
def Fx.ok (f : Fx) : Bool := dJ f.t f.p f.e f.q f.k
/-- Two fixes that make a track by rules. -/
structure GoodF (rg rs ra rr : Int) (fa fb : Fx) : Prop where
 ru : jo rg rs ra rr = true
 oa : fa.ok = true
 ob : fb.ok = true
 d1 : 1 <= fb.t - fa.t
 d2 : fb.t - fa.t <= rg
/-- Their track in memory. -/
structure TrkM (w : World) (gp gf : Nat) (fa fb : Fx) : Prop where
 part : Blk w gp 37 #[.slice (some ⟨gf, 0, none⟩) 2 2]
 fix : Blk w gf 25 #[.int .i64 (fa.t), .int .i64 (fa.p 0), .int .i64 (fa.p 1), .int .i64 (fa.p 2), .int .i64 (fa.e), .int .i64 (fa.q 0), .int .i64 (fa.q 1), .int .i64 (fa.q 2), .int .i64 (fa.q 3), .int .i64 (fa.k), .int .i64 (fb.t), .int .i64 (fb.p 0), .int .i64 (fb.p 1), .int .i64 (fb.p 2), .int .i64 (fb.e), .int .i64 (fb.q 0), .int .i64 (fb.q 1), .int .i64 (fb.q 2), .int .i64 (fb.q 3), .int .i64 (fb.k)]
theorem TrkM.ext {w w' : World} {gp gf : Nat} {fa fb : Fx} (h : TrkM w gp gf fa fb) (he : Ext w w') : TrkM w' gp gf fa fb := ⟨h.part.ext he, h.fix.ext he⟩
theorem Fx.t_range {f : Fx} (h : f.ok = true) : 0 <= f.t /\ f.t <= 1125899906842624 := ag.1 (co.1 h).2.1
theorem GoodF.rules {rg rs ra rr : Int} {fa fb : Fx} (h : GoodF rg rs ra rr fa fb) : (1 <= rg /\ rg <= 10000000) /\ (0 <= rs /\ rs <= 1000000) /\ (0 <= ra /\ ra <= 100000) /\ (0 <= rr /\ rr <= 10000000) := by
 have h1 := h.ru;unfold jo at h1;rw [Bool.and_eq_true, Bool.and_eq_true, Bool.and_eq_true, ag, ag, ag, ag] at h1;exact ⟨h1.1.1.1, h1.1.1.2, h1.1.2, h1.2⟩
/-- The time of the last fix that was seen. -/
def fE (fa fb : Fx) : Nat -> Int
 | 0 => -1
 | 1 => fa.t
 | _ => fb.t
theorem iV (gp gf : Nat) (rg rs ra rr : Int) (fa fb : Fx) (w : World) (hG : GoodF rg rs ra rr fa fb) (hT : TrkM w gp gf fa fb) :
  Calls Try.prog 157 #[.agg #[.slice (some ⟨gp, 0, none⟩) 1 1], .agg #[.int .i64 (rg), .int .i64 (rs), .int .i64 (ra), .int .i64 (rr)]] w (fun e w' => e = .returned (.bool true) /\ Ext w w') := by
 obtain ⟨hg, hs, ha, hr⟩ := hG.rules;have t1 := Fx.t_range hG.oa;have t2 := Fx.t_range hG.ob;have d1 := hG.d1;have d2 := hG.d2;have HG := hid hG;have HT := hid hT;clear hG hT;have HX := hid (((Ext.refl w).alloc (.cells #[.slice (some ⟨gp, 0, none⟩) 1 1] 40)).alloc (.cells #[.int .i64 (rg), .int .i64 (rs), .int .i64 (ra), .int .i64 (rr)] 27));have HA : Hid (Blk ((w.alloc (.cells #[.slice (some ⟨gp, 0, none⟩) 1 1] 40)).alloc (.cells #[.int .i64 (rg), .int .i64 (rs), .int .i64 (ra), .int .i64 (rr)] 27)) w.heap.size 40 #[.slice (some ⟨gp, 0, none⟩) 1 1]) := hid (Blk.alloc (Blk.new w _ _) _);have HM : Hid (Blk ((w.alloc (.cells #[.slice (some ⟨gp, 0, none⟩) 1 1] 40)).alloc (.cells #[.int .i64 (rg), .int .i64 (rs), .int .i64 (ra), .int .i64 (rr)] 27)) (w.heap.size + 1) 27 #[.int .i64 (rg), .int .i64 (rs), .int .i64 (ra), .int .i64 (rr)]) := hid (Blk.at_ (by simp));go_enter Try.func157, Try.ntmps157
 go_upto_region 1 with (fail)
 generalize (w.alloc _).alloc _ = w1 at HX HA HM |-;replace HT := hid (HT.out.ext HX.out);obtain ⟨m0, m1, m2, m3⟩ := HM.out.c4
 go_wp2_with fail
 refine (eF rg rs ra rr _ (by omega) (by omega) (by omega) (by omega)).mono ?_;rw [HG.out.ru];rintro e w' ⟨rfl, hX⟩;replace HX := xT HX hX;replace HA := hid (HA.out.ext hX);replace HM := hid (HM.out.ext hX);replace HT := hid (HT.out.ext hX);clear hX m0 m1 m2 m3;have a0 := HA.out.c1
 go_wp2_with fail
 clear a0
 go_loopg [16, 5] 1 (fun fu iv lv wr => ∃ k : Nat, fu = 1 - k /\ k <= 1 /\ iv = .int .i64 (k : Int) /\ (k = 0 -> lv = .int .i64 (-1)) /\ Hid (Blk wr w.heap.size 40 #[.slice (some ⟨gp, 0, none⟩) 1 1]) /\ Hid (Blk wr (w.heap.size + 1) 27 #[.int .i64 (rg), .int .i64 (rs), .int .i64 (ra), .int .i64 (rr)]) /\ Hid (TrkM wr gp gf fa fb) /\ Hid (Ext w wr))
 case atStart => exact ⟨0, rfl, by omega, rfl, fun _ => rfl, HA, HM, HT, HX⟩
 case round =>
  clear HX HA HM HT;obtain ⟨k, rfl, hk, rfl, hl, HA, HM, HT, HX⟩ := hrel
  rcases (show k = 0 \/ k = 1 by omega) with rfl | rfl
  .
   obtain rfl := hl rfl;have g0 := HT.out.part.c1;have y0 := HT.out.fix.c1;have q7 := xF (fa.t <= -1) (by omega)
   go_wp2_with fail
   clear g0 y0
   go_loopg [33, 5] 2 (fun fu iv lv wq => ∃ k : Nat, fu = 2 - k /\ k <= 2 /\ iv = .int .i64 (k : Int) /\ lv = .int .i64 (fE fa fb k) /\ Hid (Blk wq w.heap.size 40 #[.slice (some ⟨gp, 0, none⟩) 1 1]) /\ Hid (Blk wq (w.heap.size + 1) 27 #[.int .i64 (rg), .int .i64 (rs), .int .i64 (ra), .int .i64 (rr)]) /\ Hid (TrkM wq gp gf fa fb) /\ Hid (Ext w wq))
   case atStart => exact ⟨0, rfl, by omega, rfl, rfl, HA, HM, HT, HX⟩
   case round =>
    clear HX HA HM HT;obtain ⟨k, rfl, hk, rfl, rfl, HA, HM, HT, HX⟩ := hrel;obtain ⟨wq, rfl⟩ : ∃ x : World, x = wr := ⟨_, rfl⟩
    rcases (show k = 0 \/ k = 1 \/ k = 2 by omega) with rfl | rfl | rfl
    .
     rw [show fE fa fb 0 = -1 from rfl];have HP0 := hid HT.out.fix;have y0 := HP0.out.cell 0;have x0 := HP0.out.cell 0;have x1 := HP0.out.cell 1;have x2 := HP0.out.cell 2;have x3 := HP0.out.cell 3;have x4 := HP0.out.cell 4;have x5 := HP0.out.cell 5;have x6 := HP0.out.cell 6;have x7 := HP0.out.cell 7;have x8 := HP0.out.cell 8;have x9 := HP0.out.cell 9;simp only [List.getElem?_toArray, List.getElem?_cons_zero, List.getElem?_cons_succ] at x0 x1 x2 x3 x4 x5 x6 x7 x8 x9
     go_upto_region 12 with (fail)
     have hXa : Ext wq (wq.alloc (.cells #[.int .i64 (fa.t), .int .i64 (fa.p 0), .int .i64 (fa.p 1), .int .i64 (fa.p 2), .int .i64 (fa.e), .int .i64 (fa.q 0), .int .i64 (fa.q 1), .int .i64 (fa.q 2), .int .i64 (fa.q 3), .int .i64 (fa.k)] 25)) := (Ext.refl _).alloc _;have HB := hid (Blk.new wq 25 #[.int .i64 (fa.t), .int .i64 (fa.p 0), .int .i64 (fa.p 1), .int .i64 (fa.p 2), .int .i64 (fa.e), .int .i64 (fa.q 0), .int .i64 (fa.q 1), .int .i64 (fa.q 2), .int .i64 (fa.q 3), .int .i64 (fa.k)]);replace HX := xT HX hXa;replace HA := hid (HA.out.ext hXa);replace HM := hid (HM.out.ext hXa);replace HT := hid (HT.out.ext hXa);clear hXa y0 HP0 x0 x1 x2 x3 x4 x5 x6 x7 x8 x9;generalize wq.heap.size = gm at HB |-;generalize wq.alloc _ = w2 at HB HX HA HM HT |-;obtain ⟨b0, b1, b2, b3, b4, b5, b6, b7, b8, b9⟩ := HB.out.c10;obtain ⟨m0, m1, m2, m3⟩ := HM.out.c4
     go_wp2_with fail
     refine (gZ fa.t fa.e fa.k fa.p fa.q _ HG.out.oa).mono ?_
     skip
     rintro e w' ⟨rfl, hX⟩;replace HX := xT HX hX;replace HA := hid (HA.out.ext hX);replace HM := hid (HM.out.ext hX);replace HT := hid (HT.out.ext hX);replace HB := hid (HB.out.ext hX);clear hX b0 b1 b2 b3 b4 b5 b6 b7 b8 b9 m0 m1 m2 m3;obtain ⟨b0, b1, b2, b3, b4, b5, b6, b7, b8, b9⟩ := HB.out.c10;obtain ⟨m0, m1, m2, m3⟩ := HM.out.c4;have q7 := xF (fa.t <= -1) (by omega);go_wp2;go_roundg (2 - 1)
     case rel => exact ⟨1, rfl, by omega, by go_num, rfl, HA, HM, HT, HX⟩
     case measure => omega
    .
     rw [show fE fa fb 1 = fa.t from rfl];have HP0 := hid HT.out.fix;have y0 := HP0.out.cell 0;have x0 := HP0.out.cell 10;have x1 := HP0.out.cell 11;have x2 := HP0.out.cell 12;have x3 := HP0.out.cell 13;have x4 := HP0.out.cell 14;have x5 := HP0.out.cell 15;have x6 := HP0.out.cell 16;have x7 := HP0.out.cell 17;have x8 := HP0.out.cell 18;have x9 := HP0.out.cell 19;simp only [List.getElem?_toArray, List.getElem?_cons_zero, List.getElem?_cons_succ] at x0 x1 x2 x3 x4 x5 x6 x7 x8 x9
     go_upto_region 12 with (fail)
     have hXa : Ext wq (wq.alloc (.cells #[.int .i64 (fb.t), .int .i64 (fb.p 0), .int .i64 (fb.p 1), .int .i64 (fb.p 2), .int .i64 (fb.e), .int .i64 (fb.q 0), .int .i64 (fb.q 1), .int .i64 (fb.q 2), .int .i64 (fb.q 3), .int .i64 (fb.k)] 25)) := (Ext.refl _).alloc _;have HB := hid (Blk.new wq 25 #[.int .i64 (fb.t), .int .i64 (fb.p 0), .int .i64 (fb.p 1), .int .i64 (fb.p 2), .int .i64 (fb.e), .int .i64 (fb.q 0), .int .i64 (fb.q 1), .int .i64 (fb.q 2), .int .i64 (fb.q 3), .int .i64 (fb.k)]);replace HX := xT HX hXa;replace HA := hid (HA.out.ext hXa);replace HM := hid (HM.out.ext hXa);replace HT := hid (HT.out.ext hXa);clear hXa y0 HP0 x0 x1 x2 x3 x4 x5 x6 x7 x8 x9;generalize wq.heap.size = gm at HB |-;generalize wq.alloc _ = w2 at HB HX HA HM HT |-;obtain ⟨b0, b1, b2, b3, b4, b5, b6, b7, b8, b9⟩ := HB.out.c10;obtain ⟨m0, m1, m2, m3⟩ := HM.out.c4
     go_wp2_with fail
     refine (gZ fb.t fb.e fb.k fb.p fb.q _ HG.out.ob).mono ?_
     skip
     rintro e w' ⟨rfl, hX⟩;replace HX := xT HX hX;replace HA := hid (HA.out.ext hX);replace HM := hid (HM.out.ext hX);replace HT := hid (HT.out.ext hX);replace HB := hid (HB.out.ext hX);clear hX b0 b1 b2 b3 b4 b5 b6 b7 b8 b9 m0 m1 m2 m3;obtain ⟨b0, b1, b2, b3, b4, b5, b6, b7, b8, b9⟩ := HB.out.c10;obtain ⟨m0, m1, m2, m3⟩ := HM.out.c4;have q9 := xF (fb.t <= fa.t) (by omega);have q8 := xF (rg < fb.t - fa.t) (by omega);have v1 := IntWalk.i64_in (fb.t - fa.t) (by omega);go_wp2;go_roundg (2 - 2)
     case rel => exact ⟨2, rfl, by omega, by go_num, rfl, HA, HM, HT, HX⟩
     case measure => omega
    .
     go_wp2;go_roundg (1 - 1)
     case rel => exact ⟨1, rfl, by omega, by go_num, fun h => absurd h (by decide), HA, HM, HT, HX⟩
     case measure => omega
  .
   go_wp2;go_ret
   exact ⟨rfl, HX.out⟩
theorem cZ (gp gf : Nat) (rg rs ra rr : Int) (fa fb : Fx) (w : World) (hG : GoodF rg rs ra rr fa fb) (hT : TrkM w gp gf fa fb) :
  Calls Try.prog 99 #[.agg #[.slice (some ⟨gp, 0, none⟩) 1 1], .agg #[.int .i64 (rg), .int .i64 (rs), .int .i64 (ra), .int .i64 (rr)]] w (fun e w' => e = .returned (.bool true) /\ Ext w w') := by
 obtain ⟨hg, hs, ha, hr⟩ := hG.rules;have t1 := Fx.t_range hG.oa;have t2 := Fx.t_range hG.ob;have d1 := hG.d1;have d2 := hG.d2;have HG := hid hG;have HT := hid hT;clear hG hT;have HX := hid (((Ext.refl w).alloc (.cells #[.slice (some ⟨gp, 0, none⟩) 1 1] 40)).alloc (.cells #[.int .i64 (rg), .int .i64 (rs), .int .i64 (ra), .int .i64 (rr)] 27));have HA : Hid (Blk ((w.alloc (.cells #[.slice (some ⟨gp, 0, none⟩) 1 1] 40)).alloc (.cells #[.int .i64 (rg), .int .i64 (rs), .int .i64 (ra), .int .i64 (rr)] 27)) w.heap.size 40 #[.slice (some ⟨gp, 0, none⟩) 1 1]) := hid (Blk.alloc (Blk.new w _ _) _);have HM : Hid (Blk ((w.alloc (.cells #[.slice (some ⟨gp, 0, none⟩) 1 1] 40)).alloc (.cells #[.int .i64 (rg), .int .i64 (rs), .int .i64 (ra), .int .i64 (rr)] 27)) (w.heap.size + 1) 27 #[.int .i64 (rg), .int .i64 (rs), .int .i64 (ra), .int .i64 (rr)]) := hid (Blk.at_ (by simp));go_enter Try.func99, Try.ntmps99
 go_upto_region 1 with (fail)
 generalize (w.alloc _).alloc _ = w1 at HX HA HM |-;replace HT := hid (HT.out.ext HX.out);obtain ⟨m0, m1, m2, m3⟩ := HM.out.c4
 go_wp2_with fail
 refine (bS rg rs ra rr _).mono ?_;rw [HG.out.ru];rintro e w' ⟨rfl, hX⟩;replace HX := xT HX hX;replace HA := hid (HA.out.ext hX);replace HM := hid (HM.out.ext hX);replace HT := hid (HT.out.ext hX);clear hX m0 m1 m2 m3;have a0 := HA.out.c1
 go_wp2_with fail
 clear a0
 go_loopg [16, 5] 1 (fun fu iv lv wr => ∃ k : Nat, fu = 1 - k /\ k <= 1 /\ iv = .int .i64 (k : Int) /\ (k = 0 -> lv = .int .i64 (-1)) /\ Hid (Blk wr w.heap.size 40 #[.slice (some ⟨gp, 0, none⟩) 1 1]) /\ Hid (Blk wr (w.heap.size + 1) 27 #[.int .i64 (rg), .int .i64 (rs), .int .i64 (ra), .int .i64 (rr)]) /\ Hid (TrkM wr gp gf fa fb) /\ Hid (Ext w wr))
 case atStart => exact ⟨0, rfl, by omega, rfl, fun _ => rfl, HA, HM, HT, HX⟩
 case round =>
  clear HX HA HM HT;obtain ⟨k, rfl, hk, rfl, hl, HA, HM, HT, HX⟩ := hrel
  rcases (show k = 0 \/ k = 1 by omega) with rfl | rfl
  .
   obtain rfl := hl rfl;have g0 := HT.out.part.c1;have y0 := HT.out.fix.c1;have q7 := xF (fa.t <= -1) (by omega)
   go_wp2_with fail
   clear g0 y0
   go_loopg [25, 5] 2 (fun fu iv lv wq => ∃ k : Nat, fu = 2 - k /\ k <= 2 /\ iv = .int .i64 (k : Int) /\ lv = .int .i64 (fE fa fb k) /\ Hid (Blk wq w.heap.size 40 #[.slice (some ⟨gp, 0, none⟩) 1 1]) /\ Hid (Blk wq (w.heap.size + 1) 27 #[.int .i64 (rg), .int .i64 (rs), .int .i64 (ra), .int .i64 (rr)]) /\ Hid (TrkM wq gp gf fa fb) /\ Hid (Ext w wq))
   case atStart => exact ⟨0, rfl, by omega, rfl, rfl, HA, HM, HT, HX⟩
   case round =>
    clear HX HA HM HT;obtain ⟨k, rfl, hk, rfl, rfl, HA, HM, HT, HX⟩ := hrel;obtain ⟨wq, rfl⟩ : ∃ x : World, x = wr := ⟨_, rfl⟩
    rcases (show k = 0 \/ k = 1 \/ k = 2 by omega) with rfl | rfl | rfl
    .
     rw [show fE fa fb 0 = -1 from rfl];have HP0 := hid HT.out.fix;have y0 := HP0.out.cell 0;have x0 := HP0.out.cell 0;have x1 := HP0.out.cell 1;have x2 := HP0.out.cell 2;have x3 := HP0.out.cell 3;have x4 := HP0.out.cell 4;have x5 := HP0.out.cell 5;have x6 := HP0.out.cell 6;have x7 := HP0.out.cell 7;have x8 := HP0.out.cell 8;have x9 := HP0.out.cell 9;simp only [List.getElem?_toArray, List.getElem?_cons_zero, List.getElem?_cons_succ] at x0 x1 x2 x3 x4 x5 x6 x7 x8 x9
     go_upto_region 12 with (fail)
     have hXa : Ext wq (wq.alloc (.cells #[.int .i64 (fa.t), .int .i64 (fa.p 0), .int .i64 (fa.p 1), .int .i64 (fa.p 2), .int .i64 (fa.e), .int .i64 (fa.q 0), .int .i64 (fa.q 1), .int .i64 (fa.q 2), .int .i64 (fa.q 3), .int .i64 (fa.k)] 25)) := (Ext.refl _).alloc _;have HB := hid (Blk.new wq 25 #[.int .i64 (fa.t), .int .i64 (fa.p 0), .int .i64 (fa.p 1), .int .i64 (fa.p 2), .int .i64 (fa.e), .int .i64 (fa.q 0), .int .i64 (fa.q 1), .int .i64 (fa.q 2), .int .i64 (fa.q 3), .int .i64 (fa.k)]);replace HX := xT HX hXa;replace HA := hid (HA.out.ext hXa);replace HM := hid (HM.out.ext hXa);replace HT := hid (HT.out.ext hXa);clear hXa y0 HP0 x0 x1 x2 x3 x4 x5 x6 x7 x8 x9;generalize wq.heap.size = gm at HB |-;generalize wq.alloc _ = w2 at HB HX HA HM HT |-;obtain ⟨b0, b1, b2, b3, b4, b5, b6, b7, b8, b9⟩ := HB.out.c10;obtain ⟨m0, m1, m2, m3⟩ := HM.out.c4
     go_wp2_with fail
     refine (cS fa.t fa.e fa.k fa.p fa.q _).mono ?_;rw [show dJ fa.t fa.p fa.e fa.q fa.k = true from HG.out.oa];rintro e w' ⟨rfl, hX⟩;replace HX := xT HX hX;replace HA := hid (HA.out.ext hX);replace HM := hid (HM.out.ext hX);replace HT := hid (HT.out.ext hX);replace HB := hid (HB.out.ext hX);clear hX b0 b1 b2 b3 b4 b5 b6 b7 b8 b9 m0 m1 m2 m3;obtain ⟨b0, b1, b2, b3, b4, b5, b6, b7, b8, b9⟩ := HB.out.c10;obtain ⟨m0, m1, m2, m3⟩ := HM.out.c4;have q7 := xF (fa.t <= -1) (by omega);go_wp2;go_roundg (2 - 1)
     case rel => exact ⟨1, rfl, by omega, by go_num, rfl, HA, HM, HT, HX⟩
     case measure => omega
    .
     rw [show fE fa fb 1 = fa.t from rfl];have HP0 := hid HT.out.fix;have y0 := HP0.out.cell 0;have x0 := HP0.out.cell 10;have x1 := HP0.out.cell 11;have x2 := HP0.out.cell 12;have x3 := HP0.out.cell 13;have x4 := HP0.out.cell 14;have x5 := HP0.out.cell 15;have x6 := HP0.out.cell 16;have x7 := HP0.out.cell 17;have x8 := HP0.out.cell 18;have x9 := HP0.out.cell 19;simp only [List.getElem?_toArray, List.getElem?_cons_zero, List.getElem?_cons_succ] at x0 x1 x2 x3 x4 x5 x6 x7 x8 x9
     go_upto_region 12 with (fail)
     have hXa : Ext wq (wq.alloc (.cells #[.int .i64 (fb.t), .int .i64 (fb.p 0), .int .i64 (fb.p 1), .int .i64 (fb.p 2), .int .i64 (fb.e), .int .i64 (fb.q 0), .int .i64 (fb.q 1), .int .i64 (fb.q 2), .int .i64 (fb.q 3), .int .i64 (fb.k)] 25)) := (Ext.refl _).alloc _;have HB := hid (Blk.new wq 25 #[.int .i64 (fb.t), .int .i64 (fb.p 0), .int .i64 (fb.p 1), .int .i64 (fb.p 2), .int .i64 (fb.e), .int .i64 (fb.q 0), .int .i64 (fb.q 1), .int .i64 (fb.q 2), .int .i64 (fb.q 3), .int .i64 (fb.k)]);replace HX := xT HX hXa;replace HA := hid (HA.out.ext hXa);replace HM := hid (HM.out.ext hXa);replace HT := hid (HT.out.ext hXa);clear hXa y0 HP0 x0 x1 x2 x3 x4 x5 x6 x7 x8 x9;generalize wq.heap.size = gm at HB |-;generalize wq.alloc _ = w2 at HB HX HA HM HT |-;obtain ⟨b0, b1, b2, b3, b4, b5, b6, b7, b8, b9⟩ := HB.out.c10;obtain ⟨m0, m1, m2, m3⟩ := HM.out.c4
     go_wp2_with fail
     refine (cS fb.t fb.e fb.k fb.p fb.q _).mono ?_;rw [show dJ fb.t fb.p fb.e fb.q fb.k = true from HG.out.ob];rintro e w' ⟨rfl, hX⟩;replace HX := xT HX hX;replace HA := hid (HA.out.ext hX);replace HM := hid (HM.out.ext hX);replace HT := hid (HT.out.ext hX);replace HB := hid (HB.out.ext hX);clear hX b0 b1 b2 b3 b4 b5 b6 b7 b8 b9 m0 m1 m2 m3;obtain ⟨b0, b1, b2, b3, b4, b5, b6, b7, b8, b9⟩ := HB.out.c10;obtain ⟨m0, m1, m2, m3⟩ := HM.out.c4;have q9 := xF (fb.t <= fa.t) (by omega);have q8 := xF (rg < fb.t - fa.t) (by omega);have v1 := IntWalk.i64_in (fb.t - fa.t) (by omega);go_wp2;go_roundg (2 - 2)
     case rel => exact ⟨2, rfl, by omega, by go_num, rfl, HA, HM, HT, HX⟩
     case measure => omega
    .
     go_wp2;go_roundg (1 - 1)
     case rel => exact ⟨1, rfl, by omega, by go_num, fun h => absurd h (by decide), HA, HM, HT, HX⟩
     case measure => omega
  .
   go_wp2;go_ret
   exact ⟨rfl, HX.out⟩
/-- Syncs in memory. -/
def SyAt (w : World) (A : Option Addr) (n : Nat) (xs : List Sy) : Prop := xs.length = n /\ (n ≠ 0 -> ∃ g o, A = some ⟨g, o, none⟩ /\ At w (some ⟨g, o, none⟩) (eY xs))
theorem SyAt.ext {w w' : World} {A : Option Addr} {n : Nat} {xs : List Sy} (h : SyAt w A n xs) (he : Ext w w') : SyAt w' A n xs := by
 refine ⟨h.1, fun hn => ?_⟩;obtain ⟨g, o, h1, h2⟩ := h.2 hn;exact ⟨g, o, h1, h2.ext he⟩
/-- The truth holds together. -/
structure Rt (fa fb : Fx) (rg rs ra rr of sc : Int) (xs : List Sy) : Prop where
 va : fa.ok = true
 vb : fb.ok = true
 vr : jo rg rs ra rr = true
 d1 : 1 <= fb.t - fa.t
 d2 : fb.t - fa.t <= rg
 n1 : 1 <= xs.length
 n2 : xs.length <= 20
 sy : ∀ s ∈ xs, s.Ok of
 s0 : 0 <= sc /\ sc <= 1125899906842624
 x0 : 0 <= sc + of - fa.t
 x1 : sc + of - fa.t <= fb.t - fa.t
theorem Sy.ok_of {s : Sy} {of : Int} (hv : j9 s.sc s.na s.er = true) (h1 : s.na - s.sc - s.er <= of) (h2 : of <= s.na - s.sc + s.er) : s.Ok of := by
 unfold j9 at hv;rw [Bool.and_eq_true, au, au] at hv;have a := hv.1 s.sc (by simp);have b := hv.1 s.na (by simp);have d := hv.2 s.er (by simp);exact ⟨a, b, d, h1, h2⟩
theorem km {sc na er : Int} (hv : j9 sc na er = true) : (0 <= sc /\ sc <= 1125899906842624) /\ (0 <= na /\ na <= 1125899906842624) /\ 0 <= er /\ er <= 100000 := by
 unfold j9 at hv;rw [Bool.and_eq_true, au, au] at hv;exact ⟨hv.1 sc (by simp), hv.1 na (by simp), hv.2 er (by simp)⟩
/-- What right returns. -/
def ma (fa fb : Fx) (rg rs ra rr of sc : Int) (xs : List Sy) (w : World) (e : Ending) (w' : World) : Prop :=
 ((∃ x : Int, e = .returned (.tuple #[.int .i64 x, .bool false])) \/ (Rt fa fb rg rs ra rr of sc xs /\ e = .returned (.tuple #[.int .i64 (sc + of - fa.t), .bool true]))) /\ Ext w w'
theorem ko (fa fb : Fx) (rg rs ra rr o0 o1 ac of sc r0 r1 far : Int) (bq : Nat -> Int) (SA : Option Addr) (n c : Nat) (xs : List Sy) (w : World) (hS : SyAt w SA n xs) (_hn : n <= 9223372036854775807) (_hof : -9223372036854775808 <= of /\ of <= 9223372036854775807) :
  Calls Try.prog 19 #[.agg #[.int .i64 (fa.t), .int .i64 (fa.p 0), .int .i64 (fa.p 1), .int .i64 (fa.p 2), .int .i64 (fa.e), .int .i64 (fa.q 0), .int .i64 (fa.q 1), .int .i64 (fa.q 2), .int .i64 (fa.q 3), .int .i64 (fa.k), .int .i64 (fb.t), .int .i64 (fb.p 0), .int .i64 (fb.p 1), .int .i64 (fb.p 2), .int .i64 (fb.e), .int .i64 (fb.q 0), .int .i64 (fb.q 1), .int .i64 (fb.q 2), .int .i64 (fb.q 3), .int .i64 (fb.k), .int .i64 (rg), .int .i64 (rs), .int .i64 (ra), .int .i64 (rr), .int .i64 (o0), .int .i64 (o1), .int .i64 (ac), .slice SA n c, .int .i64 (of), .int .i64 (sc), .int .i64 (bq 0), .int .i64 (bq 1), .int .i64 (bq 2), .int .i64 (bq 3), .int .i64 (r0), .int .i64 (r1), .int .i64 (far)]] w (ma fa fb rg rs ra rr of sc xs w) := by
 have HS := hid hS;have HX0 := hid ((Ext.refl w).alloc (.cells #[.int .i64 (fa.t), .int .i64 (fa.p 0), .int .i64 (fa.p 1), .int .i64 (fa.p 2), .int .i64 (fa.e), .int .i64 (fa.q 0), .int .i64 (fa.q 1), .int .i64 (fa.q 2), .int .i64 (fa.q 3), .int .i64 (fa.k), .int .i64 (fb.t), .int .i64 (fb.p 0), .int .i64 (fb.p 1), .int .i64 (fb.p 2), .int .i64 (fb.e), .int .i64 (fb.q 0), .int .i64 (fb.q 1), .int .i64 (fb.q 2), .int .i64 (fb.q 3), .int .i64 (fb.k), .int .i64 (rg), .int .i64 (rs), .int .i64 (ra), .int .i64 (rr), .int .i64 (o0), .int .i64 (o1), .int .i64 (ac), .slice SA n c, .int .i64 (of), .int .i64 (sc), .int .i64 (bq 0), .int .i64 (bq 1), .int .i64 (bq 2), .int .i64 (bq 3), .int .i64 (r0), .int .i64 (r1), .int .i64 (far)] 33));have KT0 := hid (Blk.new w 33 #[.int .i64 (fa.t), .int .i64 (fa.p 0), .int .i64 (fa.p 1), .int .i64 (fa.p 2), .int .i64 (fa.e), .int .i64 (fa.q 0), .int .i64 (fa.q 1), .int .i64 (fa.q 2), .int .i64 (fa.q 3), .int .i64 (fa.k), .int .i64 (fb.t), .int .i64 (fb.p 0), .int .i64 (fb.p 1), .int .i64 (fb.p 2), .int .i64 (fb.e), .int .i64 (fb.q 0), .int .i64 (fb.q 1), .int .i64 (fb.q 2), .int .i64 (fb.q 3), .int .i64 (fb.k), .int .i64 (rg), .int .i64 (rs), .int .i64 (ra), .int .i64 (rr), .int .i64 (o0), .int .i64 (o1), .int .i64 (ac), .slice SA n c, .int .i64 (of), .int .i64 (sc), .int .i64 (bq 0), .int .i64 (bq 1), .int .i64 (bq 2), .int .i64 (bq 3), .int .i64 (r0), .int .i64 (r1), .int .i64 (far)]);clear hS;obtain ⟨dd, hdd⟩ : ∃ x, IntKind.i64.wrap (fb.t - fa.t) = x := ⟨_, rfl⟩;go_enter Try.func19, Try.ntmps19
 go_upto_region 1 with (fail)
 replace HS := hid (HS.out.ext HX0.out);generalize w.heap.size = gt at KT0 |-;generalize w.alloc _ = w1 at HX0 KT0 HS |-;have HX := hid HX0.out;have KT := hid KT0.out;clear HX0 KT0;have d0 := KT.out.c1;have d10 := KT.out.q 10 rfl;obtain ⟨t0, t1, t2, t3, t4, t5, t6, t7, t8, t9⟩ := KT.out.c10
 go_wp2_with fail
 refine (cS fa.t fa.e fa.k fa.p fa.q _).mono ?_;obtain ⟨ca, hca⟩ : ∃ x, dJ fa.t fa.p fa.e fa.q fa.k = x := ⟨_, rfl⟩;rw [hca];rintro e w2 ⟨rfl, hX⟩;replace HX := xT HX hX;replace KT := xE KT hX;replace HS := hid (HS.out.ext hX);clear hX t0 t1 t2 t3 t4 t5 t6 t7 t8 t9
 by_cases hbca : ca = true
 rotate_left
 .
  obtain rfl : ca = false := by simpa using hbca
  clear hbca hca;go_wp2;refine bodyPost_ret (v := .tuple #[.int .i64 0, .bool false]) (by simp [results, Try.results19, go_sem, *]) rfl ?_;exact ⟨.inl ⟨0, rfl⟩, HX.out⟩
 subst hbca;have Hca := hid hca;clear hca;obtain ⟨-, -, -, -, -, -, -, -, -, -, t10, t11, t12, t13, t14, t15, t16, t17, t18, t19⟩ := KT.out.c20
 go_wp2_with fail
 refine (cS fb.t fb.e fb.k fb.p fb.q _).mono ?_;obtain ⟨cb, hcb⟩ : ∃ x, dJ fb.t fb.p fb.e fb.q fb.k = x := ⟨_, rfl⟩;rw [hcb];rintro e w2 ⟨rfl, hX⟩;replace HX := xT HX hX;replace KT := xE KT hX;replace HS := hid (HS.out.ext hX);clear hX t10 t11 t12 t13 t14 t15 t16 t17 t18 t19
 by_cases hbcb : cb = true
 rotate_left
 .
  obtain rfl : cb = false := by simpa using hbcb
  clear hbcb hcb;go_wp2;refine bodyPost_ret (v := .tuple #[.int .i64 0, .bool false]) (by simp [results, Try.results19, go_sem, *]) rfl ?_;exact ⟨.inl ⟨0, rfl⟩, HX.out⟩
 subst hbcb;have Hcb := hid hcb;clear hcb d0 d10;have t20 := KT.out.q 20 rfl;have t21 := KT.out.q 21 rfl;have t22 := KT.out.q 22 rfl;have t23 := KT.out.q 23 rfl
 go_wp2_with fail
 refine (bS rg rs ra rr _).mono ?_;obtain ⟨cr, hcr⟩ : ∃ x, jo rg rs ra rr = x := ⟨_, rfl⟩;rw [hcr];rintro e w2 ⟨rfl, hX⟩;replace HX := xT HX hX;replace KT := xE KT hX;replace HS := hid (HS.out.ext hX);clear hX t20 t21 t22 t23
 by_cases hbcr : cr = true
 rotate_left
 .
  obtain rfl : cr = false := by simpa using hbcr
  clear hbcr hcr;go_wp2;refine bodyPost_ret (v := .tuple #[.int .i64 0, .bool false]) (by simp [results, Try.results19, go_sem, *]) rfl ?_;exact ⟨.inl ⟨0, rfl⟩, HX.out⟩
 subst hbcr;have Hcr := hid hcr;clear hcr;have ha := Fx.t_range (f := fa) Hca.out;have hb := Fx.t_range (f := fb) Hcb.out;obtain rfl : dd = fb.t - fa.t := by rw [<- hdd]; exact IntWalk.i64_in _ (by omega)
 clear hdd
 by_cases h1 : fb.t - fa.t < 1
 .
  have q1 := xD (fb.t - fa.t < 1) h1;have t20 := KT.out.q 20 rfl;have t27 := KT.out.q 27 rfl;go_wp2;refine bodyPost_ret (v := .tuple #[.int .i64 0, .bool false]) (by simp [results, Try.results19, go_sem, *]) rfl ?_;exact ⟨.inl ⟨0, rfl⟩, HX.out⟩
 have q1 := xF (fb.t - fa.t < 1) h1
 by_cases h2 : rg < fb.t - fa.t
 .
  have q2 := xD (rg < fb.t - fa.t) h2;have t20 := KT.out.q 20 rfl;have t27 := KT.out.q 27 rfl;go_wp2;refine bodyPost_ret (v := .tuple #[.int .i64 0, .bool false]) (by simp [results, Try.results19, go_sem, *]) rfl ?_;exact ⟨.inl ⟨0, rfl⟩, HX.out⟩
 have q2 := xF (rg < fb.t - fa.t) h2
 by_cases h3 : n = 0
 .
  subst h3;have q3 : decide (((0 : Nat) : Int) = (0 : Int)) = true := by decide
  have q3b : (((0 : Nat) : Int) == (0 : Int)) = true := by decide
  have t20 := KT.out.q 20 rfl;have t27 := KT.out.q 27 rfl;go_wp2;refine bodyPost_ret (v := .tuple #[.int .i64 0, .bool false]) (by simp [results, Try.results19, go_sem, *]) rfl ?_;exact ⟨.inl ⟨0, rfl⟩, HX.out⟩
 have q3 := xF ((n : Int) = (0 : Int)) (by omega);have q3b : ((n : Int) == (0 : Int)) = false := by simpa using h3
 by_cases h4 : (20 : Int) < (n : Int)
 .
  have q4 := xD ((20 : Int) < (n : Int)) h4;have t20 := KT.out.q 20 rfl;have t27 := KT.out.q 27 rfl;go_wp2;refine bodyPost_ret (v := .tuple #[.int .i64 0, .bool false]) (by simp [results, Try.results19, go_sem, *]) rfl ?_;exact ⟨.inl ⟨0, rfl⟩, HX.out⟩
 have q4 := xF ((20 : Int) < (n : Int)) h4;obtain ⟨g, o, rfl, hA⟩ := HS.out.2 h3;have HL := hid HS.out.1;have HA := hid hA;clear hA HS;have t20 := KT.out.q 20 rfl;have t27 := KT.out.q 27 rfl
 go_wp2_with fail
 clear q1 q2 q3 q3b q4 t20 t27
 go_loopg [57] n (fun fu iv W => ∃ k : Nat, fu = n - k /\ k <= n /\ iv = .int .i64 (k : Int) /\ Hid (∀ i s, i < k -> xs[i]? = some s -> s.Ok of) /\ Hid (Blk W gt 33 #[.int .i64 (fa.t), .int .i64 (fa.p 0), .int .i64 (fa.p 1), .int .i64 (fa.p 2), .int .i64 (fa.e), .int .i64 (fa.q 0), .int .i64 (fa.q 1), .int .i64 (fa.q 2), .int .i64 (fa.q 3), .int .i64 (fa.k), .int .i64 (fb.t), .int .i64 (fb.p 0), .int .i64 (fb.p 1), .int .i64 (fb.p 2), .int .i64 (fb.e), .int .i64 (fb.q 0), .int .i64 (fb.q 1), .int .i64 (fb.q 2), .int .i64 (fb.q 3), .int .i64 (fb.k), .int .i64 (rg), .int .i64 (rs), .int .i64 (ra), .int .i64 (rr), .int .i64 (o0), .int .i64 (o1), .int .i64 (ac), .slice (some ⟨g, o, none⟩) n c, .int .i64 (of), .int .i64 (sc), .int .i64 (bq 0), .int .i64 (bq 1), .int .i64 (bq 2), .int .i64 (bq 3), .int .i64 (r0), .int .i64 (r1), .int .i64 (far)]) /\ Hid (At W (some ⟨g, o, none⟩) (eY xs)) /\ Hid (Ext w W))
 case atStart => exact ⟨0, rfl, by omega, rfl, hid (fun i s h => absurd h (by omega)), KT, HA, HX⟩
 case round =>
  clear HX KT HA;obtain ⟨k, rfl, hk, rfl, HOK, KT, HA, HX⟩ := hrel
  by_cases hlt : k < n
  .
   have q1 := xD (k < n) hlt;have q1b := xD ((k : Int) < (n : Int)) (by omega);obtain ⟨s, hs⟩ : ∃ s, xs[k]? = some s := ⟨_, List.getElem?_eq_getElem (by rw [HL.out]; exact hlt)⟩;obtain ⟨x0, x1, x2⟩ := HA.out.sy hs;have HSK := hid hs;clear hs
   go_upto_region 7 with (fail)
   obtain ⟨hXa, KS⟩ := xB1 wr 170 #[.int .i64 s.sc, .int .i64 s.na, .int .i64 s.er];replace HX := xT HX hXa;replace KT := xE KT hXa;replace HA := hid (HA.out.ext hXa);clear hXa x0 x1 x2;generalize wr.heap.size = gm at KS |-;generalize wr.alloc _ = w2 at KS HX KT HA |-;obtain ⟨s0, s1, s2⟩ := KS.out.c3
   go_wp2_with fail
   refine (fC s.sc s.na s.er _).mono ?_;obtain ⟨cv, hcv⟩ : ∃ x, j9 s.sc s.na s.er = x := ⟨_, rfl⟩;rw [hcv];rintro e w3 ⟨rfl, hX⟩;replace HX := xT HX hX;replace KT := xE KT hX;replace HA := hid (HA.out.ext hX);replace KS := xE KS hX;clear hX s0 s1 s2
   by_cases hb1 : cv = true
   rotate_left
   .
    obtain rfl : cv = false := by simpa using hb1
    clear hb1 hcv;go_wp2;refine bodyPost_ret (v := .tuple #[.int .i64 0, .bool false]) (by simp [results, Try.results19, go_sem, *]) rfl ?_;exact ⟨.inl ⟨0, rfl⟩, HX.out⟩
   subst hb1;obtain ⟨v1, v2, v3⟩ := km hcv;have HCV := hid hcv;clear hcv;have y1 := IntWalk.i64_in (s.na - s.sc) (by omega);have y2 := IntWalk.i64_in (s.na - s.sc - s.er) (by omega);have y3 := IntWalk.i64_in (s.na - s.sc + s.er) (by omega);obtain ⟨s0, s1, s2⟩ := KS.out.c3;have t28 := KT.out.q 28 rfl
   by_cases hb2 : of < s.na - s.sc - s.er
   .
    have z1 := xD (of < s.na - s.sc - s.er) hb2;go_wp2;refine bodyPost_ret (v := .tuple #[.int .i64 0, .bool false]) (by simp [results, Try.results19, go_sem, *]) rfl ?_;exact ⟨.inl ⟨0, rfl⟩, HX.out⟩
   have z1 := xF (of < s.na - s.sc - s.er) hb2
   by_cases hb3 : s.na - s.sc + s.er < of
   .
    have z2 := xD (s.na - s.sc + s.er < of) hb3;go_wp2;refine bodyPost_ret (v := .tuple #[.int .i64 0, .bool false]) (by simp [results, Try.results19, go_sem, *]) rfl ?_;exact ⟨.inl ⟨0, rfl⟩, HX.out⟩
   have z2 := xF (s.na - s.sc + s.er < of) hb3
   have HOK2 : Hid (∀ i s, i < k + 1 -> xs[i]? = some s -> s.Ok of) := hid (fun i t hi ht => by
    rcases (show i < k \/ i = k by omega) with h | rfl
    .
     exact HOK.out i t h ht
    .
     rw [HSK.out] at ht;injection ht with ht;subst ht;exact Sy.ok_of HCV.out (by omega) (by omega))
   clear HOK HSK HCV hb2 hb3;go_wp2;go_roundg (n - (k + 1))
   case rel => exact ⟨k + 1, rfl, by omega, by go_num, HOK2, KT, HA, HX⟩
   case measure => omega
  .
   obtain rfl : k = n := by omega
   have q1 : decide (k < k) = false := by simp
   have q1b : decide ((k : Int) < (k : Int)) = false := by simp
   have HALL : Hid (∀ s ∈ xs, s.Ok of) := hid (fun s hs => by
    obtain ⟨i, hi, he⟩ := List.getElem_of_mem hs;exact HOK.out i s (by rw [<- HL.out]; exact hi) (by rw [List.getElem?_eq_getElem hi, he]))
   clear HOK HA;obtain ⟨s1, hs1⟩ : ∃ s, s ∈ xs := ⟨_, List.getElem_mem (show 0 < xs.length by rw [HL.out]; omega)⟩;obtain ⟨b1, b2, b3, b4, b5⟩ := HALL.out s1 hs1;have hofb : -1125899907000000 <= of /\ of <= 1125899907000000 := by omega
   clear b1 b2 b3 b4 b5 hs1;have t0 := KT.out.c1;have t28 := KT.out.q 28 rfl;have t29 := KT.out.q 29 rfl
   by_cases hc1 : sc < 0
   .
    have z1 := xD (sc < 0) hc1;go_wp2;refine bodyPost_ret (v := .tuple #[.int .i64 0, .bool false]) (by simp [results, Try.results19, go_sem, *]) rfl ?_;exact ⟨.inl ⟨0, rfl⟩, HX.out⟩
   have z1 := xF (sc < 0) hc1
   by_cases hc2 : 1125899906842624 < sc
   .
    have z2 := xD (1125899906842624 < sc) hc2;go_wp2;refine bodyPost_ret (v := .tuple #[.int .i64 0, .bool false]) (by simp [results, Try.results19, go_sem, *]) rfl ?_;exact ⟨.inl ⟨0, rfl⟩, HX.out⟩
   have z2 := xF (1125899906842624 < sc) hc2;have y1 := IntWalk.i64_in (sc + of) (by omega);have y2 := IntWalk.i64_in (sc + of - fa.t) (by omega);obtain ⟨xx, hxx⟩ : ∃ x, sc + of - fa.t = x := ⟨_, rfl⟩;obtain ⟨d, hd⟩ : ∃ x, fb.t - fa.t = x := ⟨_, rfl⟩;simp only [hxx, hd] at y1 y2 |-
   by_cases hc3 : 0 <= xx
   .
    have z3 := xD (0 <= xx) hc3
    by_cases hc4 : xx <= d
    .
     have z4 := xD (xx <= d) hc4;have HRT : Hid (Rt fa fb rg rs ra rr of sc xs) := hid ⟨Hca.out, Hcb.out, Hcr.out, by omega, by omega, by rw [HL.out]; omega, by rw [HL.out]; omega, HALL.out, by omega, by omega, by omega⟩;clear HALL;go_wp2;refine bodyPost_ret (v := .tuple #[.int .i64 xx, .bool true]) (by simp [results, Try.results19, go_sem, *]) rfl ?_;exact ⟨.inr ⟨HRT.out, by rw [hxx]⟩, HX.out⟩
    .
     have z4 := xF (xx <= d) hc4;go_wp2;refine bodyPost_ret (v := .tuple #[.int .i64 xx, .bool false]) (by simp [results, Try.results19, go_sem, *]) rfl ?_;exact ⟨.inl ⟨xx, rfl⟩, HX.out⟩
   .
    have z3 := xF (0 <= xx) hc3;go_wp2;refine bodyPost_ret (v := .tuple #[.int .i64 xx, .bool false]) (by simp [results, Try.results19, go_sem, *]) rfl ?_;exact ⟨.inl ⟨xx, rfl⟩, HX.out⟩
end Go.Proofs.Ytikhlcgnlbinfaa
namespace Go.Proofs.Ytikhlcgnlbinfaa
open Lib (hid)
open Go.ChangeShapes Go.WideShapes Go.ChangeAt Go.RowKit Go.Joins
theorem nA {vs : List Value} {xs : List Sy} (h : CsR (fun cs s => cs = [.int .i64 s.sc, .int .i64 s.na, .int .i64 s.er]) vs xs) : vs = eY xs := by
 induction xs generalizing vs with
 | nil => exact h
 | cons m ms ih =>
  obtain ⟨cs, rest, rfl, rfl, h3⟩ := h;rw [ih h3]; rfl
/-- One of four. -/
def g4 {α : Type} (x y z u : α) (k : Nat) : α := if k = 0 then x else if k = 1 then y else if k = 2 then z else u
theorem kp {x y z u : Int} {P : Int -> Prop} (h0 : P x) (h1 : P y) (h2 : P z) (h3 : P u) (k : Nat) (_ : k < 4) : P (g4 x y z u k) := by
 unfold g4;split
 .
  exact h0
 .
  split
  .
   exact h1
  .
   split
   .
    exact h2
   .
    exact h3
theorem pO {W : World} {H : Type} {enc : TypeId × Value -> H} {fuel : Nat} {cs : List Value} {z : DataW H × List MemPlace} {b : Nat} {sp : Nat -> Bool} {hd : Bool} (hl : cs.length = 3) (hf' : DataW.trod enc Try.prog W b sp hd fuel 170 cs = some z) : ∃ s : Sy, cs = [.int .i64 s.sc, .int .i64 s.na, .int .i64 s.er] := by
 obtain ⟨c0, c1, c2, rfl⟩ := pc hl;obtain ⟨xs1, n1, _, _, _, hl1, hg1⟩ := DataW.trod_struct Try.underlying170 hf'
 have g1_0 : DataW.trod enc Try.prog W b sp hd n1 3 [c0] = xs1[0]? := by
  have h := hg1 0 _ rfl;rw [show Try.prog.cellsOf _ = 1 by kernel_rfl] at h;exact h
 rw [List.getElem?_eq_getElem (by rw [hl1]; decide)] at g1_0;obtain ⟨vc0, ec0, _, wc0⟩ := DataW.trod_int Try.underlying3 g1_0;simp only [List.cons.injEq, and_true] at ec0;subst ec0
 have g1_1 : DataW.trod enc Try.prog W b sp hd n1 3 [c1] = xs1[1]? := by
  have h := hg1 1 _ rfl;rw [show Try.prog.cellsOf _ = 1 by kernel_rfl] at h;exact h
 rw [List.getElem?_eq_getElem (by rw [hl1]; decide)] at g1_1;obtain ⟨vc1, ec1, _, wc1⟩ := DataW.trod_int Try.underlying3 g1_1;simp only [List.cons.injEq, and_true] at ec1;subst ec1
 have g1_2 : DataW.trod enc Try.prog W b sp hd n1 3 [c2] = xs1[2]? := by
  have h := hg1 2 _ rfl;rw [show Try.prog.cellsOf _ = 1 by kernel_rfl] at h;exact h
 rw [List.getElem?_eq_getElem (by rw [hl1]; decide)] at g1_2;obtain ⟨vc2, ec2, _, wc2⟩ := DataW.trod_int Try.underlying3 g1_2;simp only [List.cons.injEq, and_true] at ec2;subst ec2;exact ⟨⟨vc0, vc1, vc2⟩, rfl⟩
theorem iW {W : World} {H : Type} {enc : TypeId × Value -> H} {a : Option Addr} {len cap fuel : Nat} {y : DataW H × List MemPlace} {b : Nat} {sp : Nat -> Bool} {hd : Bool} (hf : DataW.trod enc Try.prog W b sp hd fuel 29 [.slice a len cap] = some y) : (∃ xs, SyAt W a len xs) /\ len <= 9223372036854775807 := by
 obtain ⟨xs, vs, h1, h2, h3, h4, h5⟩ := iH (k := 3) (R := fun cs (s : Sy) => cs = [.int .i64 s.sc, .int .i64 s.na, .int .i64 s.er]) Try.underlying29 (by kernel_rfl) (fun cs s e => by rw [e]; rfl) (fun fuel cs z hl hz => pO hl hz) hf;rw [nA h2] at h3;refine ⟨⟨xs, h1, fun hne => ?_⟩, by omega⟩;obtain ⟨g, o, e, h6⟩ := h3 (by intro e; have := ei xs; rw [e, h1] at this; simp at this; omega);subst e;exact ⟨g, o, rfl, fun _ => ⟨g, o, rfl, h6⟩⟩
theorem aC {α : Type} {cs : List α} {n : Nat} (h : cs.length = n + 1) : ∃ c ds, cs = c :: ds /\ ds.length = n := by
 match cs, h with
 | c :: ds, h => exact ⟨c, ds, rfl, by simpa using h⟩
theorem nB {α : Type} {cs : List α} (h : cs.length = 37) : ∃ c0 c1 c2 c3 c4 c5 c6 c7 c8 c9 c10 c11 c12 c13 c14 c15 c16 c17 c18 c19 c20 c21 c22 c23 c24 c25 c26 c27 c28 c29 c30 c31 c32 c33 c34 c35 c36, cs = [c0, c1, c2, c3, c4, c5, c6, c7, c8, c9, c10, c11, c12, c13, c14, c15, c16, c17, c18, c19, c20, c21, c22, c23, c24, c25, c26, c27, c28, c29, c30, c31, c32, c33, c34, c35, c36] := by
 obtain ⟨c0, r0, e0, h0⟩ := aC h;subst e0;obtain ⟨c1, r1, e1, h1⟩ := aC h0;subst e1;obtain ⟨c2, r2, e2, h2⟩ := aC h1;subst e2;obtain ⟨c3, r3, e3, h3⟩ := aC h2;subst e3;obtain ⟨c4, r4, e4, h4⟩ := aC h3;subst e4;obtain ⟨c5, r5, e5, h5⟩ := aC h4;subst e5;obtain ⟨c6, r6, e6, h6⟩ := aC h5;subst e6;obtain ⟨c7, r7, e7, h7⟩ := aC h6;subst e7;obtain ⟨c8, r8, e8, h8⟩ := aC h7;subst e8;obtain ⟨c9, r9, e9, h9⟩ := aC h8;subst e9;obtain ⟨c10, r10, e10, h10⟩ := aC h9;subst e10;obtain ⟨c11, r11, e11, h11⟩ := aC h10;subst e11;obtain ⟨c12, r12, e12, h12⟩ := aC h11;subst e12;obtain ⟨c13, r13, e13, h13⟩ := aC h12;subst e13;obtain ⟨c14, r14, e14, h14⟩ := aC h13;subst e14;obtain ⟨c15, r15, e15, h15⟩ := aC h14;subst e15;obtain ⟨c16, r16, e16, h16⟩ := aC h15;subst e16;obtain ⟨c17, r17, e17, h17⟩ := aC h16;subst e17;obtain ⟨c18, r18, e18, h18⟩ := aC h17;subst e18;obtain ⟨c19, r19, e19, h19⟩ := aC h18;subst e19;obtain ⟨c20, r20, e20, h20⟩ := aC h19;subst e20;obtain ⟨c21, r21, e21, h21⟩ := aC h20;subst e21;obtain ⟨c22, r22, e22, h22⟩ := aC h21;subst e22;obtain ⟨c23, r23, e23, h23⟩ := aC h22;subst e23;obtain ⟨c24, r24, e24, h24⟩ := aC h23;subst e24;obtain ⟨c25, r25, e25, h25⟩ := aC h24;subst e25;obtain ⟨c26, r26, e26, h26⟩ := aC h25;subst e26;obtain ⟨c27, r27, e27, h27⟩ := aC h26;subst e27;obtain ⟨c28, r28, e28, h28⟩ := aC h27;subst e28;obtain ⟨c29, r29, e29, h29⟩ := aC h28;subst e29;obtain ⟨c30, r30, e30, h30⟩ := aC h29;subst e30;obtain ⟨c31, r31, e31, h31⟩ := aC h30;subst e31;obtain ⟨c32, r32, e32, h32⟩ := aC h31;subst e32;obtain ⟨c33, r33, e33, h33⟩ := aC h32;subst e33;obtain ⟨c34, r34, e34, h34⟩ := aC h33;subst e34;obtain ⟨c35, r35, e35, h35⟩ := aC h34;subst e35;obtain ⟨c36, r36, e36, h36⟩ := aC h35;subst e36;have hr := List.eq_nil_of_length_eq_zero h36;subst hr;exact ⟨c0, c1, c2, c3, c4, c5, c6, c7, c8, c9, c10, c11, c12, c13, c14, c15, c16, c17, c18, c19, c20, c21, c22, c23, c24, c25, c26, c27, c28, c29, c30, c31, c32, c33, c34, c35, c36, rfl⟩
theorem iX {W : World} {H : Type} {enc : TypeId × Value -> H} {v : Value} {d : DataW H} {p : List MemPlace} {b base : Nat} {sp : Nat -> Bool} {hd : Bool} (hv : Value.okWide Try.prog W .any base 33 v) (h : DataW.Trod enc Try.prog W b sp hd 33 v d p) : ∃ (f0 f1 f2 f3 f4 f5 f6 f7 f8 f9 f10 f11 f12 f13 f14 f15 f16 f17 f18 f19 f20 f21 f22 f23 f24 f25 f26 f28 f29 f30 f31 f32 f33 f34 f35 f36 : Int) (A : Option Addr) (n c : Nat) (xs : List Sy), v = .agg #[.int .i64 f0, .int .i64 f1, .int .i64 f2, .int .i64 f3, .int .i64 f4, .int .i64 f5, .int .i64 f6, .int .i64 f7, .int .i64 f8, .int .i64 f9, .int .i64 f10, .int .i64 f11, .int .i64 f12, .int .i64 f13, .int .i64 f14, .int .i64 f15, .int .i64 f16, .int .i64 f17, .int .i64 f18, .int .i64 f19, .int .i64 f20, .int .i64 f21, .int .i64 f22, .int .i64 f23, .int .i64 f24, .int .i64 f25, .int .i64 f26, .slice A n c, .int .i64 f28, .int .i64 f29, .int .i64 f30, .int .i64 f31, .int .i64 f32, .int .i64 f33, .int .i64 f34, .int .i64 f35, .int .i64 f36] /\ SyAt W A n xs /\ n <= 9223372036854775807 /\ (-9223372036854775808 <= f0 /\ f0 <= 9223372036854775807) /\ (-9223372036854775808 <= f1 /\ f1 <= 9223372036854775807) /\ (-9223372036854775808 <= f2 /\ f2 <= 9223372036854775807) /\ (-9223372036854775808 <= f3 /\ f3 <= 9223372036854775807) /\ (-9223372036854775808 <= f4 /\ f4 <= 9223372036854775807) /\ (-9223372036854775808 <= f5 /\ f5 <= 9223372036854775807) /\ (-9223372036854775808 <= f6 /\ f6 <= 9223372036854775807) /\ (-9223372036854775808 <= f7 /\ f7 <= 9223372036854775807) /\ (-9223372036854775808 <= f8 /\ f8 <= 9223372036854775807) /\ (-9223372036854775808 <= f9 /\ f9 <= 9223372036854775807) /\ (-9223372036854775808 <= f10 /\ f10 <= 9223372036854775807) /\ (-9223372036854775808 <= f11 /\ f11 <= 9223372036854775807) /\ (-9223372036854775808 <= f12 /\ f12 <= 9223372036854775807) /\ (-9223372036854775808 <= f13 /\ f13 <= 9223372036854775807) /\ (-9223372036854775808 <= f14 /\ f14 <= 9223372036854775807) /\ (-9223372036854775808 <= f15 /\ f15 <= 9223372036854775807) /\ (-9223372036854775808 <= f16 /\ f16 <= 9223372036854775807) /\ (-9223372036854775808 <= f17 /\ f17 <= 9223372036854775807) /\ (-9223372036854775808 <= f18 /\ f18 <= 9223372036854775807) /\ (-9223372036854775808 <= f19 /\ f19 <= 9223372036854775807) /\ (-9223372036854775808 <= f20 /\ f20 <= 9223372036854775807) /\ (-9223372036854775808 <= f21 /\ f21 <= 9223372036854775807) /\ (-9223372036854775808 <= f22 /\ f22 <= 9223372036854775807) /\ (-9223372036854775808 <= f23 /\ f23 <= 9223372036854775807) /\ (-9223372036854775808 <= f24 /\ f24 <= 9223372036854775807) /\ (-9223372036854775808 <= f25 /\ f25 <= 9223372036854775807) /\ (-9223372036854775808 <= f26 /\ f26 <= 9223372036854775807) /\ (-9223372036854775808 <= f28 /\ f28 <= 9223372036854775807) /\ (-9223372036854775808 <= f29 /\ f29 <= 9223372036854775807) /\ (-9223372036854775808 <= f30 /\ f30 <= 9223372036854775807) /\ (-9223372036854775808 <= f31 /\ f31 <= 9223372036854775807) /\ (-9223372036854775808 <= f32 /\ f32 <= 9223372036854775807) /\ (-9223372036854775808 <= f33 /\ f33 <= 9223372036854775807) /\ (-9223372036854775808 <= f34 /\ f34 <= 9223372036854775807) /\ (-9223372036854775808 <= f35 /\ f35 <= 9223372036854775807) /\ (-9223372036854775808 <= f36 /\ f36 <= 9223372036854775807) := by
 obtain ⟨cs, fuel, z, rfl, hl, hf⟩ := iS Try.underlying33 hv h;obtain ⟨c0, c1, c2, c3, c4, c5, c6, c7, c8, c9, c10, c11, c12, c13, c14, c15, c16, c17, c18, c19, c20, c21, c22, c23, c24, c25, c26, c27, c28, c29, c30, c31, c32, c33, c34, c35, c36, he⟩ := nB (hl.trans (by kernel_rfl));rw [he] at hf;obtain ⟨xs5, n5, _, _, _, hl5, hg5⟩ := DataW.trod_struct Try.underlying33 hf
 have g5_0 : DataW.trod enc Try.prog W b sp hd n5 25 [c0, c1, c2, c3, c4, c5, c6, c7, c8, c9] = xs5[0]? := by
  have h := hg5 0 _ rfl;rw [show Try.prog.cellsOf _ = 10 by kernel_rfl] at h;exact h
 rw [List.getElem?_eq_getElem (by rw [hl5]; decide)] at g5_0;obtain ⟨xs6, n6, _, _, _, hl6, hg6⟩ := DataW.trod_struct Try.underlying25 g5_0
 have g6_0 : DataW.trod enc Try.prog W b sp hd n6 3 [c0] = xs6[0]? := by
  have h := hg6 0 _ rfl;rw [show Try.prog.cellsOf _ = 1 by kernel_rfl] at h;exact h
 rw [List.getElem?_eq_getElem (by rw [hl6]; decide)] at g6_0;obtain ⟨vc0, ec0, _, wc0⟩ := DataW.trod_int Try.underlying3 g6_0;simp only [List.cons.injEq, and_true] at ec0;subst ec0
 have g6_1 : DataW.trod enc Try.prog W b sp hd n6 22 [c1, c2, c3] = xs6[1]? := by
  have h := hg6 1 _ rfl;rw [show Try.prog.cellsOf _ = 3 by kernel_rfl] at h;exact h
 rw [List.getElem?_eq_getElem (by rw [hl6]; decide)] at g6_1;obtain ⟨xs8, n8, _, _, _, hl8, hg8⟩ := DataW.trod_array Try.underlying22 g6_1
 have g8_0 : DataW.trod enc Try.prog W b sp hd n8 3 [c1] = xs8[0]? := by
  have h := hg8 0 (by decide);rw [show Try.prog.cellsOf _ = 1 by kernel_rfl] at h;exact h
 rw [List.getElem?_eq_getElem (by rw [hl8]; decide)] at g8_0;obtain ⟨vc1, ec1, _, wc1⟩ := DataW.trod_int Try.underlying3 g8_0;simp only [List.cons.injEq, and_true] at ec1;subst ec1
 have g8_1 : DataW.trod enc Try.prog W b sp hd n8 3 [c2] = xs8[1]? := by
  have h := hg8 1 (by decide);rw [show Try.prog.cellsOf _ = 1 by kernel_rfl] at h;exact h
 rw [List.getElem?_eq_getElem (by rw [hl8]; decide)] at g8_1;obtain ⟨vc2, ec2, _, wc2⟩ := DataW.trod_int Try.underlying3 g8_1;simp only [List.cons.injEq, and_true] at ec2;subst ec2
 have g8_2 : DataW.trod enc Try.prog W b sp hd n8 3 [c3] = xs8[2]? := by
  have h := hg8 2 (by decide);rw [show Try.prog.cellsOf _ = 1 by kernel_rfl] at h;exact h
 rw [List.getElem?_eq_getElem (by rw [hl8]; decide)] at g8_2;obtain ⟨vc3, ec3, _, wc3⟩ := DataW.trod_int Try.underlying3 g8_2;simp only [List.cons.injEq, and_true] at ec3;subst ec3
 have g6_2 : DataW.trod enc Try.prog W b sp hd n6 3 [c4] = xs6[2]? := by
  have h := hg6 2 _ rfl;rw [show Try.prog.cellsOf _ = 1 by kernel_rfl] at h;exact h
 rw [List.getElem?_eq_getElem (by rw [hl6]; decide)] at g6_2;obtain ⟨vc4, ec4, _, wc4⟩ := DataW.trod_int Try.underlying3 g6_2;simp only [List.cons.injEq, and_true] at ec4;subst ec4
 have g6_3 : DataW.trod enc Try.prog W b sp hd n6 23 [c5, c6, c7, c8] = xs6[3]? := by
  have h := hg6 3 _ rfl;rw [show Try.prog.cellsOf _ = 4 by kernel_rfl] at h;exact h
 rw [List.getElem?_eq_getElem (by rw [hl6]; decide)] at g6_3;obtain ⟨xs13, n13, _, _, _, hl13, hg13⟩ := DataW.trod_array Try.underlying23 g6_3
 have g13_0 : DataW.trod enc Try.prog W b sp hd n13 3 [c5] = xs13[0]? := by
  have h := hg13 0 (by decide);rw [show Try.prog.cellsOf _ = 1 by kernel_rfl] at h;exact h
 rw [List.getElem?_eq_getElem (by rw [hl13]; decide)] at g13_0;obtain ⟨vc5, ec5, _, wc5⟩ := DataW.trod_int Try.underlying3 g13_0;simp only [List.cons.injEq, and_true] at ec5;subst ec5
 have g13_1 : DataW.trod enc Try.prog W b sp hd n13 3 [c6] = xs13[1]? := by
  have h := hg13 1 (by decide);rw [show Try.prog.cellsOf _ = 1 by kernel_rfl] at h;exact h
 rw [List.getElem?_eq_getElem (by rw [hl13]; decide)] at g13_1;obtain ⟨vc6, ec6, _, wc6⟩ := DataW.trod_int Try.underlying3 g13_1;simp only [List.cons.injEq, and_true] at ec6;subst ec6
 have g13_2 : DataW.trod enc Try.prog W b sp hd n13 3 [c7] = xs13[2]? := by
  have h := hg13 2 (by decide);rw [show Try.prog.cellsOf _ = 1 by kernel_rfl] at h;exact h
 rw [List.getElem?_eq_getElem (by rw [hl13]; decide)] at g13_2;obtain ⟨vc7, ec7, _, wc7⟩ := DataW.trod_int Try.underlying3 g13_2;simp only [List.cons.injEq, and_true] at ec7;subst ec7
 have g13_3 : DataW.trod enc Try.prog W b sp hd n13 3 [c8] = xs13[3]? := by
  have h := hg13 3 (by decide);rw [show Try.prog.cellsOf _ = 1 by kernel_rfl] at h;exact h
 rw [List.getElem?_eq_getElem (by rw [hl13]; decide)] at g13_3;obtain ⟨vc8, ec8, _, wc8⟩ := DataW.trod_int Try.underlying3 g13_3;simp only [List.cons.injEq, and_true] at ec8;subst ec8
 have g6_4 : DataW.trod enc Try.prog W b sp hd n6 3 [c9] = xs6[4]? := by
  have h := hg6 4 _ rfl;rw [show Try.prog.cellsOf _ = 1 by kernel_rfl] at h;exact h
 rw [List.getElem?_eq_getElem (by rw [hl6]; decide)] at g6_4;obtain ⟨vc9, ec9, _, wc9⟩ := DataW.trod_int Try.underlying3 g6_4;simp only [List.cons.injEq, and_true] at ec9;subst ec9
 have g5_1 : DataW.trod enc Try.prog W b sp hd n5 25 [c10, c11, c12, c13, c14, c15, c16, c17, c18, c19] = xs5[1]? := by
  have h := hg5 1 _ rfl;rw [show Try.prog.cellsOf _ = 10 by kernel_rfl] at h;exact h
 rw [List.getElem?_eq_getElem (by rw [hl5]; decide)] at g5_1;obtain ⟨xs19, n19, _, _, _, hl19, hg19⟩ := DataW.trod_struct Try.underlying25 g5_1
 have g19_0 : DataW.trod enc Try.prog W b sp hd n19 3 [c10] = xs19[0]? := by
  have h := hg19 0 _ rfl;rw [show Try.prog.cellsOf _ = 1 by kernel_rfl] at h;exact h
 rw [List.getElem?_eq_getElem (by rw [hl19]; decide)] at g19_0;obtain ⟨vc10, ec10, _, wc10⟩ := DataW.trod_int Try.underlying3 g19_0;simp only [List.cons.injEq, and_true] at ec10;subst ec10
 have g19_1 : DataW.trod enc Try.prog W b sp hd n19 22 [c11, c12, c13] = xs19[1]? := by
  have h := hg19 1 _ rfl;rw [show Try.prog.cellsOf _ = 3 by kernel_rfl] at h;exact h
 rw [List.getElem?_eq_getElem (by rw [hl19]; decide)] at g19_1;obtain ⟨xs21, n21, _, _, _, hl21, hg21⟩ := DataW.trod_array Try.underlying22 g19_1
 have g21_0 : DataW.trod enc Try.prog W b sp hd n21 3 [c11] = xs21[0]? := by
  have h := hg21 0 (by decide);rw [show Try.prog.cellsOf _ = 1 by kernel_rfl] at h;exact h
 rw [List.getElem?_eq_getElem (by rw [hl21]; decide)] at g21_0;obtain ⟨vc11, ec11, _, wc11⟩ := DataW.trod_int Try.underlying3 g21_0;simp only [List.cons.injEq, and_true] at ec11;subst ec11
 have g21_1 : DataW.trod enc Try.prog W b sp hd n21 3 [c12] = xs21[1]? := by
  have h := hg21 1 (by decide);rw [show Try.prog.cellsOf _ = 1 by kernel_rfl] at h;exact h
 rw [List.getElem?_eq_getElem (by rw [hl21]; decide)] at g21_1;obtain ⟨vc12, ec12, _, wc12⟩ := DataW.trod_int Try.underlying3 g21_1;simp only [List.cons.injEq, and_true] at ec12;subst ec12
 have g21_2 : DataW.trod enc Try.prog W b sp hd n21 3 [c13] = xs21[2]? := by
  have h := hg21 2 (by decide);rw [show Try.prog.cellsOf _ = 1 by kernel_rfl] at h;exact h
 rw [List.getElem?_eq_getElem (by rw [hl21]; decide)] at g21_2;obtain ⟨vc13, ec13, _, wc13⟩ := DataW.trod_int Try.underlying3 g21_2;simp only [List.cons.injEq, and_true] at ec13;subst ec13
 have g19_2 : DataW.trod enc Try.prog W b sp hd n19 3 [c14] = xs19[2]? := by
  have h := hg19 2 _ rfl;rw [show Try.prog.cellsOf _ = 1 by kernel_rfl] at h;exact h
 rw [List.getElem?_eq_getElem (by rw [hl19]; decide)] at g19_2;obtain ⟨vc14, ec14, _, wc14⟩ := DataW.trod_int Try.underlying3 g19_2;simp only [List.cons.injEq, and_true] at ec14;subst ec14
 have g19_3 : DataW.trod enc Try.prog W b sp hd n19 23 [c15, c16, c17, c18] = xs19[3]? := by
  have h := hg19 3 _ rfl;rw [show Try.prog.cellsOf _ = 4 by kernel_rfl] at h;exact h
 rw [List.getElem?_eq_getElem (by rw [hl19]; decide)] at g19_3;obtain ⟨xs26, n26, _, _, _, hl26, hg26⟩ := DataW.trod_array Try.underlying23 g19_3
 have g26_0 : DataW.trod enc Try.prog W b sp hd n26 3 [c15] = xs26[0]? := by
  have h := hg26 0 (by decide);rw [show Try.prog.cellsOf _ = 1 by kernel_rfl] at h;exact h
 rw [List.getElem?_eq_getElem (by rw [hl26]; decide)] at g26_0;obtain ⟨vc15, ec15, _, wc15⟩ := DataW.trod_int Try.underlying3 g26_0;simp only [List.cons.injEq, and_true] at ec15;subst ec15
 have g26_1 : DataW.trod enc Try.prog W b sp hd n26 3 [c16] = xs26[1]? := by
  have h := hg26 1 (by decide);rw [show Try.prog.cellsOf _ = 1 by kernel_rfl] at h;exact h
 rw [List.getElem?_eq_getElem (by rw [hl26]; decide)] at g26_1;obtain ⟨vc16, ec16, _, wc16⟩ := DataW.trod_int Try.underlying3 g26_1;simp only [List.cons.injEq, and_true] at ec16;subst ec16
 have g26_2 : DataW.trod enc Try.prog W b sp hd n26 3 [c17] = xs26[2]? := by
  have h := hg26 2 (by decide);rw [show Try.prog.cellsOf _ = 1 by kernel_rfl] at h;exact h
 rw [List.getElem?_eq_getElem (by rw [hl26]; decide)] at g26_2;obtain ⟨vc17, ec17, _, wc17⟩ := DataW.trod_int Try.underlying3 g26_2;simp only [List.cons.injEq, and_true] at ec17;subst ec17
 have g26_3 : DataW.trod enc Try.prog W b sp hd n26 3 [c18] = xs26[3]? := by
  have h := hg26 3 (by decide);rw [show Try.prog.cellsOf _ = 1 by kernel_rfl] at h;exact h
 rw [List.getElem?_eq_getElem (by rw [hl26]; decide)] at g26_3;obtain ⟨vc18, ec18, _, wc18⟩ := DataW.trod_int Try.underlying3 g26_3;simp only [List.cons.injEq, and_true] at ec18;subst ec18
 have g19_4 : DataW.trod enc Try.prog W b sp hd n19 3 [c19] = xs19[4]? := by
  have h := hg19 4 _ rfl;rw [show Try.prog.cellsOf _ = 1 by kernel_rfl] at h;exact h
 rw [List.getElem?_eq_getElem (by rw [hl19]; decide)] at g19_4;obtain ⟨vc19, ec19, _, wc19⟩ := DataW.trod_int Try.underlying3 g19_4;simp only [List.cons.injEq, and_true] at ec19;subst ec19
 have g5_2 : DataW.trod enc Try.prog W b sp hd n5 27 [c20, c21, c22, c23] = xs5[2]? := by
  have h := hg5 2 _ rfl;rw [show Try.prog.cellsOf _ = 4 by kernel_rfl] at h;exact h
 rw [List.getElem?_eq_getElem (by rw [hl5]; decide)] at g5_2;obtain ⟨xs32, n32, _, _, _, hl32, hg32⟩ := DataW.trod_struct Try.underlying27 g5_2
 have g32_0 : DataW.trod enc Try.prog W b sp hd n32 3 [c20] = xs32[0]? := by
  have h := hg32 0 _ rfl;rw [show Try.prog.cellsOf _ = 1 by kernel_rfl] at h;exact h
 rw [List.getElem?_eq_getElem (by rw [hl32]; decide)] at g32_0;obtain ⟨vc20, ec20, _, wc20⟩ := DataW.trod_int Try.underlying3 g32_0;simp only [List.cons.injEq, and_true] at ec20;subst ec20
 have g32_1 : DataW.trod enc Try.prog W b sp hd n32 3 [c21] = xs32[1]? := by
  have h := hg32 1 _ rfl;rw [show Try.prog.cellsOf _ = 1 by kernel_rfl] at h;exact h
 rw [List.getElem?_eq_getElem (by rw [hl32]; decide)] at g32_1;obtain ⟨vc21, ec21, _, wc21⟩ := DataW.trod_int Try.underlying3 g32_1;simp only [List.cons.injEq, and_true] at ec21;subst ec21
 have g32_2 : DataW.trod enc Try.prog W b sp hd n32 3 [c22] = xs32[2]? := by
  have h := hg32 2 _ rfl;rw [show Try.prog.cellsOf _ = 1 by kernel_rfl] at h;exact h
 rw [List.getElem?_eq_getElem (by rw [hl32]; decide)] at g32_2;obtain ⟨vc22, ec22, _, wc22⟩ := DataW.trod_int Try.underlying3 g32_2;simp only [List.cons.injEq, and_true] at ec22;subst ec22
 have g32_3 : DataW.trod enc Try.prog W b sp hd n32 3 [c23] = xs32[3]? := by
  have h := hg32 3 _ rfl;rw [show Try.prog.cellsOf _ = 1 by kernel_rfl] at h;exact h
 rw [List.getElem?_eq_getElem (by rw [hl32]; decide)] at g32_3;obtain ⟨vc23, ec23, _, wc23⟩ := DataW.trod_int Try.underlying3 g32_3;simp only [List.cons.injEq, and_true] at ec23;subst ec23
 have g5_3 : DataW.trod enc Try.prog W b sp hd n5 28 [c24, c25] = xs5[3]? := by
  have h := hg5 3 _ rfl;rw [show Try.prog.cellsOf _ = 2 by kernel_rfl] at h;exact h
 rw [List.getElem?_eq_getElem (by rw [hl5]; decide)] at g5_3;obtain ⟨xs37, n37, _, _, _, hl37, hg37⟩ := DataW.trod_array Try.underlying28 g5_3
 have g37_0 : DataW.trod enc Try.prog W b sp hd n37 3 [c24] = xs37[0]? := by
  have h := hg37 0 (by decide);rw [show Try.prog.cellsOf _ = 1 by kernel_rfl] at h;exact h
 rw [List.getElem?_eq_getElem (by rw [hl37]; decide)] at g37_0;obtain ⟨vc24, ec24, _, wc24⟩ := DataW.trod_int Try.underlying3 g37_0;simp only [List.cons.injEq, and_true] at ec24;subst ec24
 have g37_1 : DataW.trod enc Try.prog W b sp hd n37 3 [c25] = xs37[1]? := by
  have h := hg37 1 (by decide);rw [show Try.prog.cellsOf _ = 1 by kernel_rfl] at h;exact h
 rw [List.getElem?_eq_getElem (by rw [hl37]; decide)] at g37_1;obtain ⟨vc25, ec25, _, wc25⟩ := DataW.trod_int Try.underlying3 g37_1;simp only [List.cons.injEq, and_true] at ec25;subst ec25
 have g5_4 : DataW.trod enc Try.prog W b sp hd n5 3 [c26] = xs5[4]? := by
  have h := hg5 4 _ rfl;rw [show Try.prog.cellsOf _ = 1 by kernel_rfl] at h;exact h
 rw [List.getElem?_eq_getElem (by rw [hl5]; decide)] at g5_4;obtain ⟨vc26, ec26, _, wc26⟩ := DataW.trod_int Try.underlying3 g5_4;simp only [List.cons.injEq, and_true] at ec26;subst ec26
 have g5_5 : DataW.trod enc Try.prog W b sp hd n5 29 [c27] = xs5[5]? := by
  have h := hg5 5 _ rfl;rw [show Try.prog.cellsOf _ = 1 by kernel_rfl] at h;exact h
 rw [List.getElem?_eq_getElem (by rw [hl5]; decide)] at g5_5;obtain ⟨Ac27, lc27, mc27, ec27⟩ := slice_form Try.underlying29 g5_5;simp only [List.cons.injEq, and_true] at ec27;subst ec27;obtain ⟨hS, hn⟩ := iW g5_5
 have g5_6 : DataW.trod enc Try.prog W b sp hd n5 3 [c28] = xs5[6]? := by
  have h := hg5 6 _ rfl;rw [show Try.prog.cellsOf _ = 1 by kernel_rfl] at h;exact h
 rw [List.getElem?_eq_getElem (by rw [hl5]; decide)] at g5_6;obtain ⟨vc28, ec28, _, wc28⟩ := DataW.trod_int Try.underlying3 g5_6;simp only [List.cons.injEq, and_true] at ec28;subst ec28
 have g5_7 : DataW.trod enc Try.prog W b sp hd n5 3 [c29] = xs5[7]? := by
  have h := hg5 7 _ rfl;rw [show Try.prog.cellsOf _ = 1 by kernel_rfl] at h;exact h
 rw [List.getElem?_eq_getElem (by rw [hl5]; decide)] at g5_7;obtain ⟨vc29, ec29, _, wc29⟩ := DataW.trod_int Try.underlying3 g5_7;simp only [List.cons.injEq, and_true] at ec29;subst ec29
 have g5_8 : DataW.trod enc Try.prog W b sp hd n5 23 [c30, c31, c32, c33] = xs5[8]? := by
  have h := hg5 8 _ rfl;rw [show Try.prog.cellsOf _ = 4 by kernel_rfl] at h;exact h
 rw [List.getElem?_eq_getElem (by rw [hl5]; decide)] at g5_8;obtain ⟨xs43, n43, _, _, _, hl43, hg43⟩ := DataW.trod_array Try.underlying23 g5_8
 have g43_0 : DataW.trod enc Try.prog W b sp hd n43 3 [c30] = xs43[0]? := by
  have h := hg43 0 (by decide);rw [show Try.prog.cellsOf _ = 1 by kernel_rfl] at h;exact h
 rw [List.getElem?_eq_getElem (by rw [hl43]; decide)] at g43_0;obtain ⟨vc30, ec30, _, wc30⟩ := DataW.trod_int Try.underlying3 g43_0;simp only [List.cons.injEq, and_true] at ec30;subst ec30
 have g43_1 : DataW.trod enc Try.prog W b sp hd n43 3 [c31] = xs43[1]? := by
  have h := hg43 1 (by decide);rw [show Try.prog.cellsOf _ = 1 by kernel_rfl] at h;exact h
 rw [List.getElem?_eq_getElem (by rw [hl43]; decide)] at g43_1;obtain ⟨vc31, ec31, _, wc31⟩ := DataW.trod_int Try.underlying3 g43_1;simp only [List.cons.injEq, and_true] at ec31;subst ec31
 have g43_2 : DataW.trod enc Try.prog W b sp hd n43 3 [c32] = xs43[2]? := by
  have h := hg43 2 (by decide);rw [show Try.prog.cellsOf _ = 1 by kernel_rfl] at h;exact h
 rw [List.getElem?_eq_getElem (by rw [hl43]; decide)] at g43_2;obtain ⟨vc32, ec32, _, wc32⟩ := DataW.trod_int Try.underlying3 g43_2;simp only [List.cons.injEq, and_true] at ec32;subst ec32
 have g43_3 : DataW.trod enc Try.prog W b sp hd n43 3 [c33] = xs43[3]? := by
  have h := hg43 3 (by decide);rw [show Try.prog.cellsOf _ = 1 by kernel_rfl] at h;exact h
 rw [List.getElem?_eq_getElem (by rw [hl43]; decide)] at g43_3;obtain ⟨vc33, ec33, _, wc33⟩ := DataW.trod_int Try.underlying3 g43_3;simp only [List.cons.injEq, and_true] at ec33;subst ec33
 have g5_9 : DataW.trod enc Try.prog W b sp hd n5 31 [c34, c35] = xs5[9]? := by
  have h := hg5 9 _ rfl;rw [show Try.prog.cellsOf _ = 2 by kernel_rfl] at h;exact h
 rw [List.getElem?_eq_getElem (by rw [hl5]; decide)] at g5_9;obtain ⟨xs48, n48, _, _, _, hl48, hg48⟩ := DataW.trod_struct Try.underlying31 g5_9
 have g48_0 : DataW.trod enc Try.prog W b sp hd n48 3 [c34] = xs48[0]? := by
  have h := hg48 0 _ rfl;rw [show Try.prog.cellsOf _ = 1 by kernel_rfl] at h;exact h
 rw [List.getElem?_eq_getElem (by rw [hl48]; decide)] at g48_0;obtain ⟨vc34, ec34, _, wc34⟩ := DataW.trod_int Try.underlying3 g48_0;simp only [List.cons.injEq, and_true] at ec34;subst ec34
 have g48_1 : DataW.trod enc Try.prog W b sp hd n48 3 [c35] = xs48[1]? := by
  have h := hg48 1 _ rfl;rw [show Try.prog.cellsOf _ = 1 by kernel_rfl] at h;exact h
 rw [List.getElem?_eq_getElem (by rw [hl48]; decide)] at g48_1;obtain ⟨vc35, ec35, _, wc35⟩ := DataW.trod_int Try.underlying3 g48_1;simp only [List.cons.injEq, and_true] at ec35;subst ec35
 have g5_10 : DataW.trod enc Try.prog W b sp hd n5 3 [c36] = xs5[10]? := by
  have h := hg5 10 _ rfl;rw [show Try.prog.cellsOf _ = 1 by kernel_rfl] at h;exact h
 rw [List.getElem?_eq_getElem (by rw [hl5]; decide)] at g5_10;obtain ⟨vc36, ec36, _, wc36⟩ := DataW.trod_int Try.underlying3 g5_10;simp only [List.cons.injEq, and_true] at ec36;subst ec36;obtain ⟨xs, hS⟩ := hS;exact ⟨vc0, vc1, vc2, vc3, vc4, vc5, vc6, vc7, vc8, vc9, vc10, vc11, vc12, vc13, vc14, vc15, vc16, vc17, vc18, vc19, vc20, vc21, vc22, vc23, vc24, vc25, vc26, vc28, vc29, vc30, vc31, vc32, vc33, vc34, vc35, vc36, Ac27, lc27, mc27, xs, congrArg Value.agg (Array.toList_inj.1 he), hS, hn, by have h := wc0; simp [Lit.wf, IntKind.min, IntKind.max, IntKind.bits, IntKind.signed] at h; omega, by have h := wc1; simp [Lit.wf, IntKind.min, IntKind.max, IntKind.bits, IntKind.signed] at h; omega, by have h := wc2; simp [Lit.wf, IntKind.min, IntKind.max, IntKind.bits, IntKind.signed] at h; omega, by have h := wc3; simp [Lit.wf, IntKind.min, IntKind.max, IntKind.bits, IntKind.signed] at h; omega, by have h := wc4; simp [Lit.wf, IntKind.min, IntKind.max, IntKind.bits, IntKind.signed] at h; omega, by have h := wc5; simp [Lit.wf, IntKind.min, IntKind.max, IntKind.bits, IntKind.signed] at h; omega, by have h := wc6; simp [Lit.wf, IntKind.min, IntKind.max, IntKind.bits, IntKind.signed] at h; omega, by have h := wc7; simp [Lit.wf, IntKind.min, IntKind.max, IntKind.bits, IntKind.signed] at h; omega, by have h := wc8; simp [Lit.wf, IntKind.min, IntKind.max, IntKind.bits, IntKind.signed] at h; omega, by have h := wc9; simp [Lit.wf, IntKind.min, IntKind.max, IntKind.bits, IntKind.signed] at h; omega, by have h := wc10; simp [Lit.wf, IntKind.min, IntKind.max, IntKind.bits, IntKind.signed] at h; omega, by have h := wc11; simp [Lit.wf, IntKind.min, IntKind.max, IntKind.bits, IntKind.signed] at h; omega, by have h := wc12; simp [Lit.wf, IntKind.min, IntKind.max, IntKind.bits, IntKind.signed] at h; omega, by have h := wc13; simp [Lit.wf, IntKind.min, IntKind.max, IntKind.bits, IntKind.signed] at h; omega, by have h := wc14; simp [Lit.wf, IntKind.min, IntKind.max, IntKind.bits, IntKind.signed] at h; omega, by have h := wc15; simp [Lit.wf, IntKind.min, IntKind.max, IntKind.bits, IntKind.signed] at h; omega, by have h := wc16; simp [Lit.wf, IntKind.min, IntKind.max, IntKind.bits, IntKind.signed] at h; omega, by have h := wc17; simp [Lit.wf, IntKind.min, IntKind.max, IntKind.bits, IntKind.signed] at h; omega, by have h := wc18; simp [Lit.wf, IntKind.min, IntKind.max, IntKind.bits, IntKind.signed] at h; omega, by have h := wc19; simp [Lit.wf, IntKind.min, IntKind.max, IntKind.bits, IntKind.signed] at h; omega, by have h := wc20; simp [Lit.wf, IntKind.min, IntKind.max, IntKind.bits, IntKind.signed] at h; omega, by have h := wc21; simp [Lit.wf, IntKind.min, IntKind.max, IntKind.bits, IntKind.signed] at h; omega, by have h := wc22; simp [Lit.wf, IntKind.min, IntKind.max, IntKind.bits, IntKind.signed] at h; omega, by have h := wc23; simp [Lit.wf, IntKind.min, IntKind.max, IntKind.bits, IntKind.signed] at h; omega, by have h := wc24; simp [Lit.wf, IntKind.min, IntKind.max, IntKind.bits, IntKind.signed] at h; omega, by have h := wc25; simp [Lit.wf, IntKind.min, IntKind.max, IntKind.bits, IntKind.signed] at h; omega, by have h := wc26; simp [Lit.wf, IntKind.min, IntKind.max, IntKind.bits, IntKind.signed] at h; omega, by have h := wc28; simp [Lit.wf, IntKind.min, IntKind.max, IntKind.bits, IntKind.signed] at h; omega, by have h := wc29; simp [Lit.wf, IntKind.min, IntKind.max, IntKind.bits, IntKind.signed] at h; omega, by have h := wc30; simp [Lit.wf, IntKind.min, IntKind.max, IntKind.bits, IntKind.signed] at h; omega, by have h := wc31; simp [Lit.wf, IntKind.min, IntKind.max, IntKind.bits, IntKind.signed] at h; omega, by have h := wc32; simp [Lit.wf, IntKind.min, IntKind.max, IntKind.bits, IntKind.signed] at h; omega, by have h := wc33; simp [Lit.wf, IntKind.min, IntKind.max, IntKind.bits, IntKind.signed] at h; omega, by have h := wc34; simp [Lit.wf, IntKind.min, IntKind.max, IntKind.bits, IntKind.signed] at h; omega, by have h := wc35; simp [Lit.wf, IntKind.min, IntKind.max, IntKind.bits, IntKind.signed] at h; omega, by have h := wc36; simp [Lit.wf, IntKind.min, IntKind.max, IntKind.bits, IntKind.signed] at h; omega⟩
end Go.Proofs.Ytikhlcgnlbinfaa
namespace Go.Proofs.Ytikhlcgnlbinfaa
open Lib (hid)
open Go.RowKit
theorem dc (gp gf : Nat) (rg rs ra rr : Int) (fa fb : Fx) (w : World) (hG : GoodF rg rs ra rr fa fb) (hT : TrkM w gp gf fa fb) :
  Calls Try.prog 95 #[.agg #[.slice (some ⟨gp, 0, none⟩) 1 1], .agg #[.int .i64 (rg), .int .i64 (rs), .int .i64 (ra), .int .i64 (rr)]] w (fun e w' => e = .returned (.int .i64 0) /\ Ext w w') := by
 obtain ⟨hg, hs, ha, hr⟩ := hG.rules;have t1 := Fx.t_range hG.oa;have t2 := Fx.t_range hG.ob;have d1 := hG.d1;have d2 := hG.d2;have HG := hid hG;have HT := hid hT;clear hG hT;have HX := hid (((Ext.refl w).alloc (.cells #[.slice (some ⟨gp, 0, none⟩) 1 1] 40)).alloc (.cells #[.int .i64 (rg), .int .i64 (rs), .int .i64 (ra), .int .i64 (rr)] 27));have HA : Hid (Blk ((w.alloc (.cells #[.slice (some ⟨gp, 0, none⟩) 1 1] 40)).alloc (.cells #[.int .i64 (rg), .int .i64 (rs), .int .i64 (ra), .int .i64 (rr)] 27)) w.heap.size 40 #[.slice (some ⟨gp, 0, none⟩) 1 1]) := hid (Blk.alloc (Blk.new w _ _) _);have HM : Hid (Blk ((w.alloc (.cells #[.slice (some ⟨gp, 0, none⟩) 1 1] 40)).alloc (.cells #[.int .i64 (rg), .int .i64 (rs), .int .i64 (ra), .int .i64 (rr)] 27)) (w.heap.size + 1) 27 #[.int .i64 (rg), .int .i64 (rs), .int .i64 (ra), .int .i64 (rr)]) := hid (Blk.at_ (by simp));go_enter Try.func95, Try.ntmps95
 go_upto_region 1 with (fail)
 generalize (w.alloc _).alloc _ = w1 at HX HA HM |-;replace HT := hid (HT.out.ext HX.out);obtain ⟨m0, m1, m2, m3⟩ := HM.out.c4;have a0 := HA.out.c1
 go_wp2_with fail
 refine (eF rg rs ra rr _ (by omega) (by omega) (by omega) (by omega)).mono ?_;rw [HG.out.ru];rintro e w' ⟨rfl, hX⟩;replace HX := xT HX hX;replace HA := hid (HA.out.ext hX);replace HM := hid (HM.out.ext hX);replace HT := hid (HT.out.ext hX);clear hX m0 m1 m2 m3 a0;obtain ⟨m0, m1, m2, m3⟩ := HM.out.c4;have a0 := HA.out.c1
 go_wp2_with fail
 refine (iV gp gf rg rs ra rr fa fb _ HG.out HT.out).mono ?_;rintro e w' ⟨rfl, hX⟩;replace HX := xT HX hX;replace HA := hid (HA.out.ext hX);replace HM := hid (HM.out.ext hX);replace HT := hid (HT.out.ext hX);clear hX m0 m1 m2 m3 a0;go_wp2;go_ret;exact ⟨rfl, HX.out⟩
theorem eI (gp gf : Nat) (fa fb : Fx) (T : Int) (w : World) (hT : TrkM w gp gf fa fb) (_h1 : fa.t <= T) (_h2 : T <= fb.t) :
  Calls Try.prog 96 #[.agg #[.slice (some ⟨gp, 0, none⟩) 1 1], .int .i64 T] w (fun e w' => e = .returned (.int .i64 0) /\ Ext w w') := by
 have HX := hid ((Ext.refl w).alloc (.cells #[.slice (some ⟨gp, 0, none⟩) 1 1] 40));have HA := hid (Blk.new w 40 #[.slice (some ⟨gp, 0, none⟩) 1 1]);have HT := hid hT;clear hT;go_enter Try.func96, Try.ntmps96
 go_upto_region 1 with (fail)
 generalize w.alloc _ = w1 at HX HA |-;replace HT := hid (HT.out.ext HX.out);have a0 := HA.out.c1
 go_wp2_with fail
 clear a0
 go_loopg [10] 1 (fun fu iv wr => ∃ k : Nat, fu = 1 - k /\ k <= 1 /\ iv = .int .i64 (k : Int) /\ (k = 1 -> False) /\ Hid (TrkM wr gp gf fa fb) /\ Hid (Ext w wr))
 case atStart => exact ⟨0, rfl, by omega, rfl, fun h => absurd h (by decide), HT, HX⟩
 case round =>
  clear HX HA HT;obtain ⟨k, rfl, hk, rfl, hr, HT, HX⟩ := hrel
  rcases (show k = 0 \/ k = 1 by omega) with rfl | rfl
  .
   have g0 := HT.out.part.c1;obtain ⟨y0, -, -, -, -, -, -, -, -, -, y1⟩ := HT.out.fix.c11;have q1 := xD (fa.t <= T) (by omega);have q2 := xD (T <= fb.t) (by omega);go_wp2;go_ret;exact ⟨rfl, HX.out⟩
  .
   have hr2 := hr rfl;clear hr;exact hr2.elim
theorem mb (gp gf : Nat) (fa fb : Fx) (T : Int) (w : World) (hT : TrkM w gp gf fa fb) (_h1 : T < fa.t) :
  Calls Try.prog 96 #[.agg #[.slice (some ⟨gp, 0, none⟩) 1 1], .int .i64 T] w (fun e w' => e = .returned (.int .i64 (-1)) /\ Ext w w') := by
 have HX := hid ((Ext.refl w).alloc (.cells #[.slice (some ⟨gp, 0, none⟩) 1 1] 40));have HA := hid (Blk.new w 40 #[.slice (some ⟨gp, 0, none⟩) 1 1]);have HT := hid hT;clear hT;go_enter Try.func96, Try.ntmps96
 go_upto_region 1 with (fail)
 generalize w.alloc _ = w1 at HX HA |-;replace HT := hid (HT.out.ext HX.out);have a0 := HA.out.c1
 go_wp2_with fail
 clear a0
 go_loopg [10] 1 (fun fu iv wr => ∃ k : Nat, fu = 1 - k /\ k <= 1 /\ iv = .int .i64 (k : Int) /\ (k = 1 -> True) /\ Hid (TrkM wr gp gf fa fb) /\ Hid (Ext w wr))
 case atStart => exact ⟨0, rfl, by omega, rfl, fun h => absurd h (by decide), HT, HX⟩
 case round =>
  clear HX HA HT;obtain ⟨k, rfl, hk, rfl, hr, HT, HX⟩ := hrel
  rcases (show k = 0 \/ k = 1 by omega) with rfl | rfl
  .
   have g0 := HT.out.part.c1;obtain ⟨y0, -, -, -, -, -, -, -, -, -, y1⟩ := HT.out.fix.c11;have q1 := xF (fa.t <= T) (by omega);go_wp2;go_roundg (1 - 1)
   case rel => exact ⟨1, rfl, by omega, by go_num, fun _ => trivial, HT, HX⟩
   case measure => omega
  .
   have hr2 := hr rfl;clear hr;go_wp2;go_ret;exact ⟨rfl, HX.out⟩
theorem mc (gp gf : Nat) (fa fb : Fx) (T : Int) (w : World) (hT : TrkM w gp gf fa fb) (_h1 : fa.t <= T) (_h2 : fb.t < T) :
  Calls Try.prog 96 #[.agg #[.slice (some ⟨gp, 0, none⟩) 1 1], .int .i64 T] w (fun e w' => e = .returned (.int .i64 (-1)) /\ Ext w w') := by
 have HX := hid ((Ext.refl w).alloc (.cells #[.slice (some ⟨gp, 0, none⟩) 1 1] 40));have HA := hid (Blk.new w 40 #[.slice (some ⟨gp, 0, none⟩) 1 1]);have HT := hid hT;clear hT;go_enter Try.func96, Try.ntmps96
 go_upto_region 1 with (fail)
 generalize w.alloc _ = w1 at HX HA |-;replace HT := hid (HT.out.ext HX.out);have a0 := HA.out.c1
 go_wp2_with fail
 clear a0
 go_loopg [10] 1 (fun fu iv wr => ∃ k : Nat, fu = 1 - k /\ k <= 1 /\ iv = .int .i64 (k : Int) /\ (k = 1 -> True) /\ Hid (TrkM wr gp gf fa fb) /\ Hid (Ext w wr))
 case atStart => exact ⟨0, rfl, by omega, rfl, fun h => absurd h (by decide), HT, HX⟩
 case round =>
  clear HX HA HT;obtain ⟨k, rfl, hk, rfl, hr, HT, HX⟩ := hrel
  rcases (show k = 0 \/ k = 1 by omega) with rfl | rfl
  .
   have g0 := HT.out.part.c1;obtain ⟨y0, -, -, -, -, -, -, -, -, -, y1⟩ := HT.out.fix.c11;have q1 := xD (fa.t <= T) (by omega);have q2 := xF (T <= fb.t) (by omega);go_wp2;go_roundg (1 - 1)
   case rel => exact ⟨1, rfl, by omega, by go_num, fun _ => trivial, HT, HX⟩
   case measure => omega
  .
   have hr2 := hr rfl;clear hr;go_wp2;go_ret;exact ⟨rfl, HX.out⟩
theorem fF (gp gf : Nat) (fa fb : Fx) (T : Int) (w : World) (hT : TrkM w gp gf fa fb) (_h : ¬ (fa.t <= T /\ T <= fb.t)) :
  Calls Try.prog 96 #[.agg #[.slice (some ⟨gp, 0, none⟩) 1 1], .int .i64 T] w (fun e w' => e = .returned (.int .i64 (-1)) /\ Ext w w') := by
 rcases Int.lt_or_le T fa.t with h1 | h1
 .
  exact mb gp gf fa fb T w hT h1
 .
  exact mc gp gf fa fb T w hT h1 (by omega)
theorem md (gf : Nat) (ta tb T : Int) (w : World) (c0 : w.cell? ⟨gf, 0, none⟩ = some (.int .i64 ta)) (c1 : w.cell? ⟨gf, 10, none⟩ = some (.int .i64 tb)) : aS Try.prog Try.f100 4 13 28 w [15, 16, 17, 18, 19, 20, 21, 22, 23, 24, 25, 26, 27] [.c (.slice (some ⟨gf, 0, none⟩) 2 2), .c (.pointer (some ⟨gf, 0, none⟩)), .c (.pointer (some ⟨gf, 0, none⟩)), .c (.int .i64 (ta)), .c (.int .i64 (T)), .c (.slice (some ⟨gf, 0, none⟩) 2 2), .c (.slice (some ⟨gf, 0, none⟩) 2 2), .c (.int .i64 (2)), .c (.int .i64 (1)), .c (.pointer (some ⟨gf, 10, none⟩)), .c (.pointer (some ⟨gf, 10, none⟩)), .c (.int .i64 (tb)), .c (.bool (ar ta tb [T]))] [(1, .int .i64 (T)), (6, .slice (some ⟨gf, 0, none⟩) 2 2)] := by
 refine aT [[], [0], [1], [2], [], [], [], [6], [7], [5, 8], [9], [10], [3, 4, 11]] (by kernel_rfl) (by kernel_rfl) rfl trivial ?_;simp only [ae, Try.f100, ab, Option.bind_some, Nat.reduceBEq, if_true, if_false, Bool.false_eq_true, Option.getD_some];simp only [List.take_succ_cons, List.take_zero]
 repeat' first | refine ⟨?_, ?_⟩ | fail
 all_goals first | (intro us W b hJ K hK0 hK Qz; simp only [aO, ay, aB, List.getD_cons_succ, List.getD_cons_zero]) | exact True.intro
 all_goals try (intros; have q0 := Ext.cell hJ c0; have q1 := Ext.cell hJ c1; go_simp; exact hK0 _ rfl)
 .
  intro e18 e19 e26 e1 e6;go_simp;refine (aq ta T tb _).mono ?_;rintro e w' ⟨rfl, hX⟩;exact hK _ _ rfl hX
theorem nC (gp gf : Nat) (fa fb : Fx) (T : Int) (w : World) (hT : TrkM w gp gf fa fb) (r : Int) (HR : Hid ((if ar fa.t fb.t [T] = true then (0 : Int) else -1) = r)) :
  Calls Try.prog 100 #[.agg #[.slice (some ⟨gp, 0, none⟩) 1 1], .int .i64 T] w (fun e w' => e = .returned (.int .i64 r) /\ Ext w w') := by
 have HX := hid ((Ext.refl w).alloc (.cells #[.slice (some ⟨gp, 0, none⟩) 1 1] 40));have HA := hid (Blk.new w 40 #[.slice (some ⟨gp, 0, none⟩) 1 1]);have HT := hid hT;clear hT;go_enter Try.func100, Try.ntmps100
 go_upto_region 1 with (fail)
 generalize w.alloc _ = w1 at HX HA |-;replace HT := hid (HT.out.ext HX.out);have a0 := HA.out.c1
 go_wp2_with fail
 clear a0
 go_loopg [10] 1 (fun fu iv wr => ∃ k : Nat, fu = 1 - k /\ k <= 1 /\ iv = .int .i64 (k : Int) /\ (k = 1 -> Hid (ar fa.t fb.t [T] = false)) /\ Hid (TrkM wr gp gf fa fb) /\ Hid (Ext w wr))
 case atStart => exact ⟨0, rfl, by omega, rfl, fun h => absurd h (by decide), HT, HX⟩
 case round =>
  clear HX HA HT;obtain ⟨k, rfl, hk, rfl, hr, HT, HX⟩ := hrel
  rcases (show k = 0 \/ k = 1 by omega) with rfl | rfl
  .
   have g0 := HT.out.part.c1;obtain ⟨y0, -, -, -, -, -, -, -, -, -, y1⟩ := HT.out.fix.c11;obtain ⟨c, hc⟩ : ∃ c, ar fa.t fb.t [T] = c := ⟨_, rfl⟩;have HC := hid hc
   go_upto_region 4 with (fail)
   refine md gf fa.t fb.t T wr y0 y1 _ _ (by simp) ⟨rfl, rfl, trivial⟩ ?_;rintro w2 hX;simp only [EndK, ae, Try.f100, ab, Option.bind_some, Nat.reduceBEq, if_true, if_false, Bool.false_eq_true, Option.getD_some, List.drop_succ_cons, List.drop_zero];simp only [Act.put, List.setIfInBounds_toArray, List.set_cons_succ, List.set_cons_zero];rw [hc];clear hc g0 y0 y1;replace HX := xT HX hX;replace HT := hid (HT.out.ext hX);clear hX
   by_cases hb : c = true
   .
    subst hb;go_wp2;go_ret;exact ⟨by rw [<- HR.out, HC.out]; rfl, HX.out⟩
   .
    obtain rfl : c = false := by simpa using hb
    clear hb;go_wp2;go_roundg (1 - 1)
    case rel => exact ⟨1, rfl, by omega, by go_num, fun _ => HC, HT, HX⟩
    case measure => omega
  .
   have hr2 := hr rfl;clear hr;go_wp2;go_ret;exact ⟨by rw [<- HR.out, hr2.out]; rfl, HX.out⟩
theorem cp (gp gf : Nat) (fa fb : Fx) (T : Int) (w : World) (hT : TrkM w gp gf fa fb) :
  Calls Try.prog 100 #[.agg #[.slice (some ⟨gp, 0, none⟩) 1 1], .int .i64 T] w (fun e w' => e = .returned (.int .i64 (if ar fa.t fb.t [T] = true then 0 else -1)) /\ Ext w w') := nC gp gf fa fb T w hT _ (hid rfl)
end Go.Proofs.Ytikhlcgnlbinfaa
