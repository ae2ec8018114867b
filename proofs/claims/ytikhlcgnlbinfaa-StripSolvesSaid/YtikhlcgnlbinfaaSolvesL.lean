/- Lemmas of the proof that follows (Solves, part 12): walks of functions by contract, and plain lemmas. Conditions: none. -/
import Derived.Test.YtikhlcgnlbinfaaSolvesK
set_option maxRecDepth 100000
set_option maxHeartbeats 16000000
namespace Go.Proofs.Ytikhlcgnlbinfaa
open Lib (hid)
open Go.RowKit
def rH : Option Nat -> Int
 | none => -1
 | some a => (a : Int)
theorem iY {n : Nat} {u : Nat -> Rat} {ms : List Mt} {k : Nat} (h : (bM n u ms k).1 = none) : bM n u ms (k + 1) = (some k, cL n u (cM ms k)) := by
 show dB n u ms k (bM n u ms k) = _;unfold dB;rw [h]
theorem ej {n : Nat} {u : Nat -> Rat} {ms : List Mt} {k a : Nat} (h : (bM n u ms k).1 = some a) (ht : (bM n u ms k).2 < cL n u (cM ms k) \/ cL n u (cM ms k) = (bM n u ms k).2 /\ o3 (cM ms k) (cM ms a) = true) : bM n u ms (k + 1) = (some k, cL n u (cM ms k)) := by
 show dB n u ms k (bM n u ms k) = _;unfold dB;rw [h];exact if_pos ht
theorem el {n : Nat} {u : Nat -> Rat} {ms : List Mt} {k a : Nat} (h : (bM n u ms k).1 = some a) (ht : ¬ ((bM n u ms k).2 < cL n u (cM ms k) \/ cL n u (cM ms k) = (bM n u ms k).2 /\ o3 (cM ms k) (cM ms a) = true)) : bM n u ms (k + 1) = bM n u ms k := by
 show dB n u ms k (bM n u ms k) = _;unfold dB;rw [h];exact if_neg ht
theorem bV {ms : List Mt} {i : Nat} {m : Mt} (h : ms[i]? = some m) : cM ms i = m := by unfold cM; rw [h]; rfl
theorem qy (gm gp : Nat) (sg : Int) (w : World)  : aF Try.prog Try.f152 7 20 47 w [27, 28, 29, 30, 31, 32, 33, 34, 35, 36, 37, 38, 39, 40, 41, 42, 43, 44, 45, 46] [.c (.int .i64 (-1)), .c (.bool true), .c (.bool true), .c (undef), .c (undef), .c (.bool true), .c (.bool true), .c (undef), .c (undef), .c (undef), .c (undef), .c (undef), .c (undef), .c (undef), .c (undef), .c (undef), .c (undef), .c (undef), .c (undef), .c (.bool true)] [(3, .pointer (some ⟨gp, 0, none⟩)), (6, .int .i64 (-1)), (9, .pointer (some ⟨gm, 0, none⟩)), (11, .int .i64 (sg))] := by
 refine aJ [[], [0], [1], [2], [2, 3], [2, 4], [5], [6], [6, 7], [6, 8], [9], [9], [9, 11], [9], [9, 12, 13], [9, 14], [9, 10, 15], [9, 16], [6, 9, 17], [6, 18]] (by kernel_rfl) (by kernel_rfl) rfl trivial ?_;simp only [ae, Try.f152, ab, Option.bind_some, Nat.reduceBEq, if_true, if_false, Bool.false_eq_true, Option.getD_some];simp only [List.take_succ_cons, List.take_zero]
 repeat' first | refine ⟨?_, ?_⟩ | fail
 all_goals first | (intro us W b hJ K hK0 hK Qz; simp only [aC, al, am, List.getD_cons_succ, List.getD_cons_zero]) | exact True.intro
 all_goals try (intros; go_simp; exact hK0 _ rfl)
theorem qz (gm gp aa : Nat) (w : World) (_h0 : decide ((aa : Int) < 0) = false) : aF Try.prog Try.f152 7 20 47 w [27, 28, 29, 30, 31, 32, 33, 34, 35, 36, 37, 38, 39, 40, 41, 42, 43, 44, 45, 46] [.c (.int .i64 (aa : Int)), .c (.bool false), .c (.bool false), .c (.int .i64 (1)), .c (.bool true), .c (.bool true), .c (.bool true), .c (undef), .c (undef), .c (undef), .c (undef), .c (undef), .c (undef), .c (undef), .c (undef), .c (undef), .c (undef), .c (undef), .c (undef), .c (.bool true)] [(3, .pointer (some ⟨gp, 0, none⟩)), (6, .int .i64 (aa : Int)), (9, .pointer (some ⟨gm, 0, none⟩)), (11, .int .i64 (1))] := by
 refine aJ [[], [0], [1], [2], [2, 3], [2, 4], [5], [6], [6, 7], [6, 8], [9], [9], [9, 11], [9], [9, 12, 13], [9, 14], [9, 10, 15], [9, 16], [6, 9, 17], [6, 18]] (by kernel_rfl) (by kernel_rfl) rfl trivial ?_;simp only [ae, Try.f152, ab, Option.bind_some, Nat.reduceBEq, if_true, if_false, Bool.false_eq_true, Option.getD_some];simp only [List.take_succ_cons, List.take_zero]
 repeat' first | refine ⟨?_, ?_⟩ | fail
 all_goals first | (intro us W b hJ K hK0 hK Qz; simp only [aC, al, am, List.getD_cons_succ, List.getD_cons_zero]) | exact True.intro
 all_goals try (intros; go_simp; exact hK0 _ rfl)
theorem qA (gm gp aa : Nat) (w : World) (_h0 : decide ((aa : Int) < 0) = false) : aF Try.prog Try.f152 7 20 47 w [27, 28, 29, 30, 31, 32, 33, 34, 35, 36, 37, 38, 39, 40, 41, 42, 43, 44, 45, 46] [.c (.int .i64 (aa : Int)), .c (.bool false), .c (.bool false), .c (.int .i64 (-1)), .c (.bool false), .c (.bool false), .c (.bool false), .c (.int .i64 (-1)), .c (.bool false), .c (.bool false), .c (undef), .c (undef), .c (undef), .c (undef), .c (undef), .c (undef), .c (undef), .c (undef), .c (.bool false), .c (.bool false)] [(3, .pointer (some ⟨gp, 0, none⟩)), (6, .int .i64 (aa : Int)), (9, .pointer (some ⟨gm, 0, none⟩)), (11, .int .i64 (-1))] := by
 refine aJ [[], [0], [1], [2], [2, 3], [2, 4], [5], [6], [6, 7], [6, 8], [9], [9], [9, 11], [9], [9, 12, 13], [9, 14], [9, 10, 15], [9, 16], [6, 9, 17], [6, 18]] (by kernel_rfl) (by kernel_rfl) rfl trivial ?_;simp only [ae, Try.f152, ab, Option.bind_some, Nat.reduceBEq, if_true, if_false, Bool.false_eq_true, Option.getD_some];simp only [List.take_succ_cons, List.take_zero]
 repeat' first | refine ⟨?_, ?_⟩ | fail
 all_goals first | (intro us W b hJ K hK0 hK Qz; simp only [aC, al, am, List.getD_cons_succ, List.getD_cons_zero]) | exact True.intro
 all_goals try (intros; go_simp; exact hK0 _ rfl)
theorem qB (gm gp gq oq nn cc aa : Nat) (ma mb mx my mz md mw na nb nx ny nz nd nw : Int) (er : Bool) (w : World) (v0 : w.cell? ⟨gm, 0, none⟩ = some (.int .i64 (ma))) (v1 : w.cell? ⟨gm, 1, none⟩ = some (.int .i64 (mb))) (v2 : w.cell? ⟨gm, 2, none⟩ = some (.int .i64 (mx))) (v3 : w.cell? ⟨gm, 3, none⟩ = some (.int .i64 (my))) (v4 : w.cell? ⟨gm, 4, none⟩ = some (.int .i64 (mz))) (v5 : w.cell? ⟨gm, 5, none⟩ = some (.int .i64 (md))) (v6 : w.cell? ⟨gm, 6, none⟩ = some (.int .i64 (mw))) (n0 : w.cell? ⟨gq, oq + aa * 7, none⟩ = some (.int .i64 (na))) (n1 : w.cell? ⟨gq, oq + aa * 7 + 1, none⟩ = some (.int .i64 (nb))) (n2 : w.cell? ⟨gq, oq + aa * 7 + 2, none⟩ = some (.int .i64 (nx))) (n3 : w.cell? ⟨gq, oq + aa * 7 + 3, none⟩ = some (.int .i64 (ny))) (n4 : w.cell? ⟨gq, oq + aa * 7 + 4, none⟩ = some (.int .i64 (nz))) (n5 : w.cell? ⟨gq, oq + aa * 7 + 5, none⟩ = some (.int .i64 (nd))) (n6 : w.cell? ⟨gq, oq + aa * 7 + 6, none⟩ = some (.int .i64 (nw))) (p1 : w.cell? ⟨gp, 1, none⟩ = some (.slice (some ⟨gq, oq, none⟩) nn cc)) (_han : aa < nn) (_h0 : decide ((aa : Int) < 0) = false) (her : Hid (o3 ⟨ma, mb, mx, my, mz, md, mw⟩ ⟨na, nb, nx, ny, nz, nd, nw⟩ = er)) : aF Try.prog Try.f152 7 20 47 w [27, 28, 29, 30, 31, 32, 33, 34, 35, 36, 37, 38, 39, 40, 41, 42, 43, 44, 45, 46] [.c (.int .i64 (aa : Int)), .c (.bool false), .c (.bool false), .c (.int .i64 (0)), .c (.bool false), .c (.bool false), .c (.bool false), .c (.int .i64 (0)), .c (.bool true), .c (.bool true), .c (.agg #[.int .i64 (ma), .int .i64 (mb), .int .i64 (mx), .int .i64 (my), .int .i64 (mz), .int .i64 (md), .int .i64 (mw)]), .c (.pointer (some ⟨gp, 1, none⟩)), .c (.slice (some ⟨gq, oq, none⟩) nn cc), .c (.int .i64 (aa : Int)), .c (.pointer (some ⟨gq, oq + aa * 7, none⟩)), .c (.agg #[.int .i64 (na), .int .i64 (nb), .int .i64 (nx), .int .i64 (ny), .int .i64 (nz), .int .i64 (nd), .int .i64 (nw)]), .p fun v W => ∃ r : Int, v = .int .i64 r /\ decide (r < 0) = er, .c (.bool er), .c (.bool er), .c (.bool er)] [(3, .pointer (some ⟨gp, 0, none⟩)), (6, .int .i64 (aa : Int)), (9, .pointer (some ⟨gm, 0, none⟩)), (11, .int .i64 (0))] := by
 refine aJ [[], [0], [1], [2], [2, 3], [2, 4], [5], [6], [6, 7], [6, 8], [9], [9], [9, 11], [9], [9, 12, 13], [9, 14], [9, 10, 15], [9, 16], [6, 9, 17], [6, 18]] (by kernel_rfl) (by kernel_rfl) rfl ⟨by intro v W W' h hX; exact h, trivial⟩ ?_;simp only [ae, Try.f152, ab, Option.bind_some, Nat.reduceBEq, if_true, if_false, Bool.false_eq_true, Option.getD_some];simp only [List.take_succ_cons, List.take_zero]
 repeat' first | refine ⟨?_, ?_⟩ | fail
 all_goals first | (intro us W b hJ K hK0 hK Qz; simp only [aC, al, am, List.getD_cons_succ, List.getD_cons_zero]) | exact True.intro
 all_goals try (intros; have q0 := Ext.cell hJ v0; have q1 := Ext.cell hJ v1; have q2 := Ext.cell hJ v2; have q3 := Ext.cell hJ v3; have q4 := Ext.cell hJ v4; have q5 := Ext.cell hJ v5; have q6 := Ext.cell hJ v6; have q7 := Ext.cell hJ p1; have q8 := Ext.cell hJ n0; have q9 := Ext.cell hJ n1; have q10 := Ext.cell hJ n2; have q11 := Ext.cell hJ n3; have q12 := Ext.cell hJ n4; have q13 := Ext.cell hJ n5; have q14 := Ext.cell hJ n6; go_simp; exact hK0 _ rfl)
 .
  intro e36 e37 e42 e3 e6 e9 e11;go_simp;refine (mh ma mb mx my mz md mw na nb nx ny nz nd nw W).mono ?_;rintro e w' ⟨r, rfl, hr, hX⟩;exact hK _ _ ⟨r, rfl, hr.trans her.out⟩ hX
 .
  intro e36 e43 d16 e3 e6 e9 e11;obtain ⟨r, hv, hr⟩ := d16;rw [hv] at e43;go_simp;exact hK0 _ (by first | rfl | exact congrArg Value.bool hr)
theorem jQ (gw kk : Nat) (su : Bool) (Au Bu : Option Addr) (lu cu mu ku : Nat) (w : World) (x0 : w.cell? ⟨gw, 0, none⟩ = some (.bool su)) (x1 : w.cell? ⟨gw, 1, none⟩ = some (.slice Au lu cu)) (x2 : w.cell? ⟨gw, 2, none⟩ = some (.slice Bu mu ku)) : aF Try.prog Try.f152 8 3 49 w [47, 48, 6] [.c (.int .i64 (kk : Int)), .c (.agg #[.bool su, .slice Au lu cu, .slice Bu mu ku]), .c (.int .i64 (kk : Int))] [(8, .int .i64 (kk : Int)), (10, .pointer (some ⟨gw, 0, none⟩))] := by
 refine aJ [[], [], [0]] (by kernel_rfl) (by kernel_rfl) rfl trivial ?_;simp only [ae, Try.f152, ab, Option.bind_some, Nat.reduceBEq, if_true, if_false, Bool.false_eq_true, Option.getD_some];simp only [List.take_succ_cons, List.take_zero]
 repeat' first | refine ⟨?_, ?_⟩ | fail
 all_goals first | (intro us W b hJ K hK0 hK Qz; simp only [aC, al, am, List.getD_cons_succ, List.getD_cons_zero]) | exact True.intro
 all_goals try (intros; have q0 := Ext.cell hJ x0; have q1 := Ext.cell hJ x1; have q2 := Ext.cell hJ x2; go_simp; exact hK0 _ rfl)
theorem qC (gs : Nat) (ai : Int) (su : Bool) (Au Bu : Option Addr) (lu cu mu ku : Nat) (w : World) (x0 : w.cell? ⟨gs, 0, none⟩ = some (.bool su)) (x1 : w.cell? ⟨gs, 1, none⟩ = some (.slice Au lu cu)) (x2 : w.cell? ⟨gs, 2, none⟩ = some (.slice Bu mu ku)) : aF Try.prog Try.f152 10 3 52 w [50, 51, 4] [.c (.int .i64 (ai)), .c (.agg #[.bool su, .slice Au lu cu, .slice Bu mu ku]), .c (.int .i64 (ai))] [(6, .int .i64 (ai)), (7, .pointer (some ⟨gs, 0, none⟩))] := by
 refine aJ [[], [], [0]] (by kernel_rfl) (by kernel_rfl) rfl trivial ?_;simp only [ae, Try.f152, ab, Option.bind_some, Nat.reduceBEq, if_true, if_false, Bool.false_eq_true, Option.getD_some];simp only [List.take_succ_cons, List.take_zero]
 repeat' first | refine ⟨?_, ?_⟩ | fail
 all_goals first | (intro us W b hJ K hK0 hK Qz; simp only [aC, al, am, List.getD_cons_succ, List.getD_cons_zero]) | exact True.intro
 all_goals try (intros; have q0 := Ext.cell hJ x0; have q1 := Ext.cell hJ x1; have q2 := Ext.cell hJ x2; go_simp; exact hK0 _ rfl)
theorem mi (S : Nat) (A : Option Addr) (n c : Nat) (ms : List Mt) (gt ot ct : Nat) (u : Nat -> Rat) (w : World) (h : MsAt w A n ms) (hv : ∀ m ∈ ms, VM (S : Int) m) (_hn : n <= 64) (_hS1 : 1 <= S) (hS : ShP (fun w v q => NumX w v q 256) w gt ot S u) :
  Calls Try.prog 152 #[.slice (some ⟨gt, ot, none⟩) S ct, .agg #[.int .i64 (S : Int), .slice A n c]] w (fun e w' => ∃ v, e = .returned (.tuple #[.int .i64 (rH (bh (3 * S) u ms).1), v]) /\ NumX w' v (bh (3 * S) u ms).2 3102 /\ Ext w w') := by
 have H := hid h;have HML := hid h.1;have HVM := hid hv;have HS := hid hS;have hXe : Ext w ((w.alloc (.cells #[.int .i64 (S : Int), .slice A n c] 76)).alloc (.cells #[.bool false, .slice none 0 0, .slice none 0 0] 217)) := ((Ext.refl w).alloc _).alloc _;have kP : Blk ((w.alloc (.cells #[.int .i64 (S : Int), .slice A n c] 76)).alloc (.cells #[.bool false, .slice none 0 0, .slice none 0 0] 217)) w.heap.size 76 #[.int .i64 (S : Int), .slice A n c] := Blk.alloc (Blk.new w _ _) _;have kR : Blk ((w.alloc (.cells #[.int .i64 (S : Int), .slice A n c] 76)).alloc (.cells #[.bool false, .slice none 0 0, .slice none 0 0] 217)) (w.heap.size + 1) 217 #[.bool false, .slice none 0 0, .slice none 0 0] := Blk.at_ (by simp);clear h hv hS;go_enter Try.func152, Try.ntmps152
 go_upto_region 1 with (fail)
 generalize (w.alloc _).alloc _ = w1 at hXe kP kR |-;have HX := hid hXe;have HP := hid kP;have HR := hid kR;clear hXe kP kR
 go_wp2_with fail
 refine (hY 0 _ (by omega) (by omega)).mono ?_;rintro e w2 ⟨v2, rfl, hv, hX⟩;obtain ⟨s0, A0, l0, c0, B0, m0, k0, rfl⟩ := NumX.open hv;replace HX := hid (HX.out.trans hX);replace HP := hid (HP.out.ext hX);replace HR := hid (HR.out.ext hX);have HN := hid hv;clear hv hX
 go_upto_region 2 with (fail)
 have hXa : Ext w2 (w2.alloc (.cells #[.bool s0, .slice A0 l0 c0, .slice B0 m0 k0] 217)) := (Ext.refl _).alloc _;have kS := Blk.new w2 217 #[.bool s0, .slice A0 l0 c0, .slice B0 m0 k0];have hrl := HR.out.lt;replace HX := hid (HX.out.trans hXa);replace HP := hid (HP.out.ext hXa);replace HR := hid (HR.out.ext hXa);replace HN := hid ((HN.out.ext hXa).mono (show 2 <= 3102 by omega));clear hXa;generalize w2.heap.size = gs at kS hrl |-;generalize w2.alloc _ = w3 at kS HX HP HR HN |-;have KS := hid kS;clear kS;have hslt : w.heap.size <= gs := by omega
 have p1 := HP.out.cell 1;simp only [List.getElem?_toArray, List.getElem?_cons_zero, List.getElem?_cons_succ] at p1
 go_wp2_with fail
 clear p1
 go_loopg [6, 16] n (fun fu av iv wr => ∃ (k : Nat) (ai : Int) (s0 : Bool) (A0 B0 : Option Addr) (l0 c0 m0 k0 : Nat), fu = n - k /\ k <= n /\ av = .int .i64 ai /\ iv = .int .i64 (k : Int) /\ Hid (ai = rH (bM (3 * S) u ms k).1) /\ Hid (NumX wr (.agg #[.bool s0, .slice A0 l0 c0, .slice B0 m0 k0]) (bM (3 * S) u ms k).2 3102) /\ Hid (Blk wr gs 217 #[.bool s0, .slice A0 l0 c0, .slice B0 m0 k0]) /\ Hid (Blk wr (w.heap.size + 1) 217 #[.bool false, .slice none 0 0, .slice none 0 0]) /\ Hid (Blk wr w.heap.size 76 #[.int .i64 (S : Int), .slice A n c]) /\ Hid (Ext w wr))
 case atStart => exact ⟨0, -1, s0, A0, B0, l0, c0, m0, k0, rfl, by omega, rfl, rfl, hid rfl, HN, KS, HR, HP, HX⟩
 case round =>
  clear HN KS HR HP HX;obtain ⟨k, ai, s0, A0, B0, l0, c0, m0, k0, rfl, hk, rfl, rfl, HAI, HN, KS, HR, HP, HX⟩ := hrel
  by_cases hlt : k < n
  .
   have q1 : decide (k < n) = true := decide_eq_true hlt;obtain ⟨gq, oq, ⟨a, b, x, y, z, d, ww⟩, rfl, hm, hmem, x0, x1, x2, x3, x4, x5, x6⟩ := (H.out.ext HX.out).get hlt;simp only at x0 x1 x2 x3 x4 x5 x6;have HM := hid (bV hm);have HMM := hid (HVM.out _ hmem);clear hm hmem
   go_upto_region 5 with (fail)
   have hXa : Ext wr (wr.alloc (.cells #[.int .i64 (a), .int .i64 (b), .int .i64 (x), .int .i64 (y), .int .i64 (z), .int .i64 (d), .int .i64 (ww)] 90)) := (Ext.refl _).alloc _;have kM := Blk.new wr 90 #[.int .i64 (a), .int .i64 (b), .int .i64 (x), .int .i64 (y), .int .i64 (z), .int .i64 (d), .int .i64 (ww)];replace HX := hid (HX.out.trans hXa);replace HR := hid (HR.out.ext hXa);replace HP := hid (HP.out.ext hXa);replace KS := hid (KS.out.ext hXa);replace HN := hid (HN.out.ext hXa);clear hXa x0 x1 x2 x3 x4 x5 x6;generalize wr.heap.size = gm at kM |-;generalize wr.alloc _ = w5 at kM HX HR HP KS HN |-;have KM := hid kM;clear kM;have y0 := KM.out.cell 0;have y1 := KM.out.cell 1;have y2 := KM.out.cell 2;have y3 := KM.out.cell 3;have y4 := KM.out.cell 4;have y5 := KM.out.cell 5;have y6 := KM.out.cell 6;simp only [List.getElem?_toArray, List.getElem?_cons_zero, List.getElem?_cons_succ] at y0 y1 y2 y3 y4 y5 y6
   go_wp2_with fail
   refine (eh (m := ⟨a, b, x, y, z, d, ww⟩) (HS.out.ext (bs 256) HX.out) HMM.out (by omega)).mono ?_;rintro e w6 ⟨v6, rfl, hv, hX⟩;obtain ⟨s1, A1, l1, c1, B1, m1, k1, rfl⟩ := NumX.open hv;replace HX := hid (HX.out.trans hX);replace HR := hid (HR.out.ext hX);replace HP := hid (HP.out.ext hX);replace KS := hid (KS.out.ext hX);replace KM := hid (KM.out.ext hX);replace HN := hid (HN.out.ext hX);have HWV := hid (hv.mono (show 12 * 256 + 30 <= 3102 by omega));clear hv hX y0 y1 y2 y3 y4 y5 y6
   go_upto_region 6 with (fail)
   have hXa : Ext w6 (w6.alloc (.cells #[.bool s1, .slice A1 l1 c1, .slice B1 m1 k1] 217)) := (Ext.refl _).alloc _;have kW := Blk.new w6 217 #[.bool s1, .slice A1 l1 c1, .slice B1 m1 k1];replace HX := hid (HX.out.trans hXa);replace HR := hid (HR.out.ext hXa);replace HP := hid (HP.out.ext hXa);replace KS := hid (KS.out.ext hXa);replace KM := hid (KM.out.ext hXa);replace HN := hid (HN.out.ext hXa);replace HWV := hid (HWV.out.ext hXa);clear hXa;generalize w6.heap.size = gw at kW |-;generalize w6.alloc _ = w7 at kW HX HR HP KS KM HN HWV |-;have KW := hid kW;clear kW;have y0 := KW.out.cell 0;have y1 := KW.out.cell 1;have y2 := KW.out.cell 2;simp only [List.getElem?_toArray, List.getElem?_cons_zero, List.getElem?_cons_succ] at y0 y1 y2;have z0 := KS.out.cell 0;have z1 := KS.out.cell 1;have z2 := KS.out.cell 2;simp only [List.getElem?_toArray, List.getElem?_cons_zero, List.getElem?_cons_succ] at z0 z1 z2
   go_wp2_with fail
   refine (sk HWV.out HN.out (by omega)).mono ?_;obtain ⟨sg, hsg⟩ : ∃ sg, cE (cL (3 * S) u ⟨a, b, x, y, z, d, ww⟩ - (bM (3 * S) u ms k).2) = sg := ⟨_, rfl⟩;rw [hsg];rintro e w8 ⟨rfl, hX⟩;replace HX := hid (HX.out.trans hX);replace HR := hid (HR.out.ext hX);replace HP := hid (HP.out.ext hX);replace KS := hid (KS.out.ext hX);replace KM := hid (KM.out.ext hX);replace KW := hid (KW.out.ext hX);replace HN := hid (HN.out.ext hX);replace HWV := hid (HWV.out.ext hX);clear hX y0 y1 y2 z0 z1 z2;obtain ⟨oa, hoa⟩ : ∃ oa, (bM (3 * S) u ms k).1 = oa := ⟨_, rfl⟩;have HOA := hid hoa;have HSG := hid hsg;clear hoa hsg
   go_upto_region 7 with (fail)
   by_cases hno : oa = none
   .
    subst hno;obtain rfl : ai = -1 := by rw [HAI.out, HOA.out]; rfl
    refine qy gm w.heap.size sg w8 _ _ (by simp) ⟨rfl, rfl, rfl, rfl, trivial⟩ ?_;rintro W hX;simp only [EndK, ae, Try.f152, ab, Option.bind_some, Nat.reduceBEq, if_true, if_false, Bool.false_eq_true, Option.getD_some, List.drop_succ_cons, List.drop_zero];simp only [Act.put, List.setIfInBounds_toArray, List.set_cons_succ, List.set_cons_zero];replace HX := hid (HX.out.trans hX);replace HR := hid (HR.out.ext hX);replace HP := hid (HP.out.ext hX);replace KS := hid (KS.out.ext hX);replace KW := hid (KW.out.ext hX);replace HN := hid (HN.out.ext hX);replace HWV := hid (HWV.out.ext hX);clear hX;have HST : Hid (bM (3 * S) u ms (k + 1) = (some k, cL (3 * S) u ⟨a, b, x, y, z, d, ww⟩)) := hid (by rw [iY HOA.out, HM.out])
    go_upto_region 8 with (fail)
    refine jQ gw k s1 A1 B1 l1 c1 m1 k1 W (KW.out.cell 0) (KW.out.cell 1) (KW.out.cell 2) _ _ (by simp) ⟨rfl, rfl, trivial⟩ ?_;rintro W2 hX;simp only [EndK, ae, Try.f152, ab, Option.bind_some, Nat.reduceBEq, if_true, if_false, Bool.false_eq_true, Option.getD_some, List.drop_succ_cons, List.drop_zero];simp only [Act.put, List.setIfInBounds_toArray, List.set_cons_succ, List.set_cons_zero];replace HX := hid (HX.out.trans hX);replace HR := hid (HR.out.ext hX);replace HP := hid (HP.out.ext hX);replace KS := hid (KS.out.ext hX);replace HWV := hid (HWV.out.ext hX);clear hX HN;obtain ⟨r0, r1, r2, f0, f1, f2⟩ := KS.out.three;have HNI := hid (NoInts.three KS.out);go_wp2;go_roundg (n - (k + 1))
    case rel =>
     refine ⟨k + 1, (k : Int), s1, A1, B1, l1, c1, m1, k1, rfl, by omega, rfl, by go_num, hid (by rw [HST.out]; rfl), hid ?_, hid (((KS.out.set 0 _).set 1 _).set 2 _), hid (((HR.out.far (by simp only; omega) _).far (by simp only; omega) _).far (by simp only; omega) _), hid (((HP.out.far (by simp only; omega) _).far (by simp only; omega) _).far (by simp only; omega) _), hid (Ext.boxed HX.out (by omega) _ _ _)⟩;rw [HST.out];exact NumX.past HWV.out HNI.out
    case measure => omega
   .
    obtain ⟨aa, rfl⟩ : ∃ aa, oa = some aa := by
     cases oa with
     | none => exact absurd rfl hno
     | some aa => exact ⟨aa, rfl⟩
    clear hno;obtain rfl : ai = (aa : Int) := by rw [HAI.out, HOA.out]; rfl
    have haa : aa < n := by
     rcases k with _ | k'
     .
      have := HOA.out; cases this
     .
      obtain ⟨a', e1, e2, _⟩ := ec (3 * S) u ms k';have := e1.symm.trans HOA.out;injection this with this;omega
    have h0 : decide ((aa : Int) < 0) = false := decide_eq_false (by omega)
    by_cases hs1 : sg = 1
    .
     subst hs1;refine qz gm w.heap.size aa w8 h0 _ _ (by simp) ⟨rfl, rfl, rfl, rfl, trivial⟩ ?_;rintro W hX;simp only [EndK, ae, Try.f152, ab, Option.bind_some, Nat.reduceBEq, if_true, if_false, Bool.false_eq_true, Option.getD_some, List.drop_succ_cons, List.drop_zero];simp only [Act.put, List.setIfInBounds_toArray, List.set_cons_succ, List.set_cons_zero];replace HX := hid (HX.out.trans hX);replace HR := hid (HR.out.ext hX);replace HP := hid (HP.out.ext hX);replace KS := hid (KS.out.ext hX);replace KW := hid (KW.out.ext hX);replace HN := hid (HN.out.ext hX);replace HWV := hid (HWV.out.ext hX);clear hX;have HST : Hid (bM (3 * S) u ms (k + 1) = (some k, cL (3 * S) u ⟨a, b, x, y, z, d, ww⟩)) := hid (by rw [ej HOA.out (.inl (by have := bd (cL (3 * S) u ⟨a, b, x, y, z, d, ww⟩ - (bM (3 * S) u ms k).2); have h9 := HSG.out; rcases this with ⟨h1, h2⟩ | ⟨h1, h2⟩ | ⟨h1, h2⟩ <;> first | omega | (rw [HM.out]; grind))), HM.out])
     go_upto_region 8 with (fail)
     refine jQ gw k s1 A1 B1 l1 c1 m1 k1 W (KW.out.cell 0) (KW.out.cell 1) (KW.out.cell 2) _ _ (by simp) ⟨rfl, rfl, trivial⟩ ?_;rintro W2 hX;simp only [EndK, ae, Try.f152, ab, Option.bind_some, Nat.reduceBEq, if_true, if_false, Bool.false_eq_true, Option.getD_some, List.drop_succ_cons, List.drop_zero];simp only [Act.put, List.setIfInBounds_toArray, List.set_cons_succ, List.set_cons_zero];replace HX := hid (HX.out.trans hX);replace HR := hid (HR.out.ext hX);replace HP := hid (HP.out.ext hX);replace KS := hid (KS.out.ext hX);replace HWV := hid (HWV.out.ext hX);clear hX HN;obtain ⟨r0, r1, r2, f0, f1, f2⟩ := KS.out.three;have HNI := hid (NoInts.three KS.out);go_wp2;go_roundg (n - (k + 1))
     case rel =>
      refine ⟨k + 1, (k : Int), s1, A1, B1, l1, c1, m1, k1, rfl, by omega, rfl, by go_num, hid (by rw [HST.out]; rfl), hid ?_, hid (((KS.out.set 0 _).set 1 _).set 2 _), hid (((HR.out.far (by simp only; omega) _).far (by simp only; omega) _).far (by simp only; omega) _), hid (((HP.out.far (by simp only; omega) _).far (by simp only; omega) _).far (by simp only; omega) _), hid (Ext.boxed HX.out (by omega) _ _ _)⟩;rw [HST.out];exact NumX.past HWV.out HNI.out
     case measure => omega
    .
     by_cases hs2 : sg = -1
     .
      subst hs2;refine qA gm w.heap.size aa w8 h0 _ _ (by simp) ⟨rfl, rfl, rfl, rfl, trivial⟩ ?_;rintro W hX;simp only [EndK, ae, Try.f152, ab, Option.bind_some, Nat.reduceBEq, if_true, if_false, Bool.false_eq_true, Option.getD_some, List.drop_succ_cons, List.drop_zero];simp only [Act.put, List.setIfInBounds_toArray, List.set_cons_succ, List.set_cons_zero];replace HX := hid (HX.out.trans hX);replace HR := hid (HR.out.ext hX);replace HP := hid (HP.out.ext hX);replace KS := hid (KS.out.ext hX);replace KW := hid (KW.out.ext hX);replace HN := hid (HN.out.ext hX);replace HWV := hid (HWV.out.ext hX);clear hX;have HST : Hid (bM (3 * S) u ms (k + 1) = bM (3 * S) u ms k) := hid (el HOA.out (by have := bd (cL (3 * S) u ⟨a, b, x, y, z, d, ww⟩ - (bM (3 * S) u ms k).2); have h9 := HSG.out; rw [HM.out]; rcases this with ⟨h1, h2⟩ | ⟨h1, h2⟩ | ⟨h1, h2⟩ <;> first | omega | grind));go_wp2;go_roundg (n - (k + 1))
      case rel => exact ⟨k + 1, (aa : Int), s0, A0, B0, l0, c0, m0, k0, rfl, by omega, rfl, by go_num, hid (by rw [HST.out]; exact HAI.out), hid (by rw [HST.out]; exact HN.out), KS, HR, HP, HX⟩
      case measure => omega
     .
      obtain rfl : sg = 0 := by
       rcases bd (cL (3 * S) u ⟨a, b, x, y, z, d, ww⟩ - (bM (3 * S) u ms k).2) with ⟨_, h2⟩ | ⟨_, h2⟩ | ⟨_, h2⟩
       .
        exact absurd (HSG.out.symm.trans h2) hs2
       .
        exact HSG.out.symm.trans h2
       .
        exact absurd (HSG.out.symm.trans h2) hs1
      clear hs1 hs2;have HEQ : Hid (cL (3 * S) u ⟨a, b, x, y, z, d, ww⟩ = (bM (3 * S) u ms k).2) := hid (by have := iX.1 HSG.out; grind);obtain ⟨gq2, oq2, ⟨na, nb, nx, ny, nz, nd, nw⟩, hA, hm, _, n0, n1, n2, n3, n4, n5, n6⟩ := (H.out.ext HX.out).get haa;simp only at n0 n1 n2 n3 n4 n5 n6;injection hA with hA;injection hA with hA1 hA2;subst hA1 hA2;have HM2 := hid (bV hm);clear hm;obtain ⟨er, her⟩ : ∃ er, o3 ⟨a, b, x, y, z, d, ww⟩ ⟨na, nb, nx, ny, nz, nd, nw⟩ = er := ⟨_, rfl⟩;have HER := hid her;clear her;refine qB gm w.heap.size gq oq n c aa a b x y z d ww na nb nx ny nz nd nw er w8 (KM.out.cell 0) (KM.out.cell 1) (KM.out.cell 2) (KM.out.cell 3) (KM.out.cell 4) (KM.out.cell 5) (KM.out.cell 6) n0 n1 n2 n3 n4 n5 n6 (HP.out.cell 1) haa h0 HER _ _ (by simp) ⟨rfl, rfl, rfl, rfl, trivial⟩ ?_;rintro W hX xv16 _;simp only [EndK, ae, Try.f152, ab, Option.bind_some, Nat.reduceBEq, if_true, if_false, Bool.false_eq_true, Option.getD_some, List.drop_succ_cons, List.drop_zero];simp only [Act.put, List.setIfInBounds_toArray, List.set_cons_succ, List.set_cons_zero];replace HX := hid (HX.out.trans hX);replace HR := hid (HR.out.ext hX);replace HP := hid (HP.out.ext hX);replace KS := hid (KS.out.ext hX);replace KW := hid (KW.out.ext hX);replace HN := hid (HN.out.ext hX);replace HWV := hid (HWV.out.ext hX);clear hX;clear n0 n1 n2 n3 n4 n5 n6
      by_cases he : er = true
      .
       subst he;have HST : Hid (bM (3 * S) u ms (k + 1) = (some k, cL (3 * S) u ⟨a, b, x, y, z, d, ww⟩)) := hid (by rw [ej HOA.out (.inr ⟨by rw [HM.out]; exact HEQ.out, by rw [HM.out, HM2.out]; exact HER.out⟩), HM.out])
       go_upto_region 8 with (fail)
       refine jQ gw k s1 A1 B1 l1 c1 m1 k1 W (KW.out.cell 0) (KW.out.cell 1) (KW.out.cell 2) _ _ (by simp) ⟨rfl, rfl, trivial⟩ ?_;rintro W2 hX;simp only [EndK, ae, Try.f152, ab, Option.bind_some, Nat.reduceBEq, if_true, if_false, Bool.false_eq_true, Option.getD_some, List.drop_succ_cons, List.drop_zero];simp only [Act.put, List.setIfInBounds_toArray, List.set_cons_succ, List.set_cons_zero];replace HX := hid (HX.out.trans hX);replace HR := hid (HR.out.ext hX);replace HP := hid (HP.out.ext hX);replace KS := hid (KS.out.ext hX);replace HWV := hid (HWV.out.ext hX);clear hX HN;obtain ⟨r0, r1, r2, f0, f1, f2⟩ := KS.out.three;have HNI := hid (NoInts.three KS.out);go_wp2;go_roundg (n - (k + 1))
       case rel =>
        refine ⟨k + 1, (k : Int), s1, A1, B1, l1, c1, m1, k1, rfl, by omega, rfl, by go_num, hid (by rw [HST.out]; rfl), hid ?_, hid (((KS.out.set 0 _).set 1 _).set 2 _), hid (((HR.out.far (by simp only; omega) _).far (by simp only; omega) _).far (by simp only; omega) _), hid (((HP.out.far (by simp only; omega) _).far (by simp only; omega) _).far (by simp only; omega) _), hid (Ext.boxed HX.out (by omega) _ _ _)⟩;rw [HST.out];exact NumX.past HWV.out HNI.out
       case measure => omega
      .
       obtain rfl : er = false := by simpa using he
       clear he;have HST : Hid (bM (3 * S) u ms (k + 1) = bM (3 * S) u ms k) := hid (el HOA.out (by rw [HM.out, HM2.out, HER.out, HEQ.out]; rintro (h | ⟨_, h⟩); exact absurd h (by grind); cases h));go_wp2;go_roundg (n - (k + 1))
       case rel => exact ⟨k + 1, (aa : Int), s0, A0, B0, l0, c0, m0, k0, rfl, by omega, rfl, by go_num, hid (by rw [HST.out]; exact HAI.out), hid (by rw [HST.out]; exact HN.out), KS, HR, HP, HX⟩
       case measure => omega

  .
   obtain rfl : n = k := by omega
   have q1 : decide (n < n) = false := by simp
   have HWP : Hid (bM (3 * S) u ms n = bh (3 * S) u ms) := hid (by unfold bh; rw [HML.out])
   go_upto_region 10 with (fail)
   refine qC gs ai s0 A0 B0 l0 c0 m0 k0 wr (KS.out.cell 0) (KS.out.cell 1) (KS.out.cell 2) _ _ (by simp) ⟨rfl, rfl, trivial⟩ ?_;rintro W hX;simp only [EndK, ae, Try.f152, ab, Option.bind_some, Nat.reduceBEq, if_true, if_false, Bool.false_eq_true, Option.getD_some, List.drop_succ_cons, List.drop_zero];simp only [Act.put, List.setIfInBounds_toArray, List.set_cons_succ, List.set_cons_zero];replace HX := hid (HX.out.trans hX);replace HR := hid (HR.out.ext hX);replace HN := hid (HN.out.ext hX);clear hX;obtain ⟨r0, r1, r2, f0, f1, f2⟩ := HR.out.three;have HNI := hid (NoInts.three HR.out);go_wp2;refine bodyPost_ret (v := .tuple #[.int .i64 ai, .agg #[.bool s0, .slice A0 l0 c0, .slice B0 m0 k0]]) (by simp [results, Try.results152, go_sem, *]) rfl ?_;refine ⟨.agg #[.bool s0, .slice A0 l0 c0, .slice B0 m0 k0], ?_, ?_, Ext.boxed HX.out (by omega) _ _ _⟩
   .
    rw [HAI.out, HWP.out]
   .
    rw [<- HWP.out];exact NumX.past HN.out HNI.out
theorem qD (gr : Nat) (ai : Int) (su : Bool) (Au Bu : Option Addr) (lu cu mu ku : Nat) (w : World) (x0 : w.cell? ⟨gr, 0, none⟩ = some (.bool su)) (x1 : w.cell? ⟨gr, 1, none⟩ = some (.slice Au lu cu)) (x2 : w.cell? ⟨gr, 2, none⟩ = some (.slice Bu mu ku)) : aF Try.prog Try.f76 8 3 39 w [37, 38, 4] [.c (.int .i64 (ai)), .c (.agg #[.bool su, .slice Au lu cu, .slice Bu mu ku]), .c (.int .i64 (ai))] [(9, .int .i64 (ai)), (11, .pointer (some ⟨gr, 0, none⟩))] := by
 refine aJ [[], [], [0]] (by kernel_rfl) (by kernel_rfl) rfl trivial ?_;simp only [ae, Try.f76, ab, Option.bind_some, Nat.reduceBEq, if_true, if_false, Bool.false_eq_true, Option.getD_some];simp only [List.take_succ_cons, List.take_zero]
 repeat' first | refine ⟨?_, ?_⟩ | fail
 all_goals first | (intro us W b hJ K hK0 hK Qz; simp only [aC, al, am, List.getD_cons_succ, List.getD_cons_zero]) | exact True.intro
 all_goals try (intros; have q0 := Ext.cell hJ x0; have q1 := Ext.cell hJ x1; have q2 := Ext.cell hJ x2; go_simp; exact hK0 _ rfl)
theorem mj (S : Nat) (A : Option Addr) (n c : Nat) (ms : List Mt) (gt ot ct : Nat) (u : Nat -> Rat) (w : World) (h : MsAt w A n ms) (hv : VP (S : Int) ms) (hS : ShP RatG w gt ot S u) (hf : FitQW (bh (3 * S) u ms).2) :
  Calls Try.prog 76 #[.agg #[.int .i64 (S : Int), .slice A n c], .slice (some ⟨gt, ot, none⟩) S ct] w (fun e w' => ∃ v, e = .returned (.tuple #[.int .i64 (rH (bh (3 * S) u ms).1), v, .int .i64 0]) /\ RatC w' v (bh (3 * S) u ms).2 /\ Ext w w') := by
 have H := hid h;have HV := hid hv;clear h hv;have hXe : Ext w ((w.alloc (.cells #[.int .i64 (S : Int), .slice A n c] 76)).alloc (.cells #[.bool false, .slice none 0 0, .slice none 0 0] 97)) := ((Ext.refl w).alloc _).alloc _;have kP : Blk ((w.alloc (.cells #[.int .i64 (S : Int), .slice A n c] 76)).alloc (.cells #[.bool false, .slice none 0 0, .slice none 0 0] 97)) w.heap.size 76 #[.int .i64 (S : Int), .slice A n c] := Blk.alloc (Blk.new w _ _) _;have kR : Blk ((w.alloc (.cells #[.int .i64 (S : Int), .slice A n c] 76)).alloc (.cells #[.bool false, .slice none 0 0, .slice none 0 0] 97)) (w.heap.size + 1) 97 #[.bool false, .slice none 0 0, .slice none 0 0] := Blk.at_ (by simp);go_enter Try.func76, Try.ntmps76
 go_upto_region 1 with (fail)
 generalize (w.alloc _).alloc _ = w1 at hXe kP kR |-;have HX := hid hXe;have HP := hid kP;have HR := hid kR;clear hXe kP kR;have p0 := HP.out.cell 0;have p1 := HP.out.cell 1;simp only [List.getElem?_toArray, List.getElem?_cons_zero, List.getElem?_cons_succ] at p0 p1
 go_wp2_with fail
 have HS0 := hid hS;have HF := hid hf;have hn64 : n <= 64 := by have := HV.out.2.2.1; have := H.out.1; omega
 have hS1 : 1 <= S := by have := HV.out.1; omega
 clear hS hf;refine (oE S A n c ms gt ot ct u _ (H.out.ext HX.out) HV.out (HS0.out.ext n7 HX.out)).mono ?_;rintro e w2 ⟨go, rfl, hgo, hS, hX⟩;have HS := hid hS;replace HX := hid (HX.out.trans hX);replace HP := hid (HP.out.ext hX);replace HR := hid (HR.out.ext hX);clear hS hX p0 p1 hgo;have p0 := HP.out.cell 0;have p1 := HP.out.cell 1;simp only [List.getElem?_toArray, List.getElem?_cons_zero, List.getElem?_cons_succ] at p0 p1
 go_wp2_with fail
 refine (mi S A n c ms go 0 S u _ (H.out.ext HX.out) HV.out.2.2.2 hn64 hS1 HS.out).mono ?_;obtain ⟨ai, hai⟩ : ∃ ai, rH (bh (3 * S) u ms).1 = ai := ⟨_, rfl⟩;rw [hai];have HAI := hid hai;clear hai;rintro e w3 ⟨v3, rfl, hv, hX⟩;obtain ⟨s1, A1, l1, c1, B1, m1, k1, rfl⟩ := NumX.open hv;have HN := hid hv;replace HX := hid (HX.out.trans hX);replace HR := hid (HR.out.ext hX);clear hv hX p0 p1
 go_upto_region 5 with (fail)
 have hXa : Ext w3 (w3.alloc (.cells #[.bool s1, .slice A1 l1 c1, .slice B1 m1 k1] 217)) := (Ext.refl _).alloc _;have kW := Blk.new w3 217 #[.bool s1, .slice A1 l1 c1, .slice B1 m1 k1];replace HX := hid (HX.out.trans hXa);replace HR := hid (HR.out.ext hXa);replace HN := hid (HN.out.ext hXa);clear hXa;generalize w3.heap.size = gw at kW |-;generalize w3.alloc _ = w4 at kW HX HR HN |-;have y0 := kW.cell 0;have y1 := kW.cell 1;have y2 := kW.cell 2;simp only [List.getElem?_toArray, List.getElem?_cons_zero, List.getElem?_cons_succ] at y0 y1 y2;clear kW
 go_wp2_with fail
 refine (nR HN.out (by omega) HF.out).mono ?_;rintro e w5 ⟨v5, rfl, hv, hX⟩;obtain ⟨s4, A4, l4, c4, B4, m4, k4, rfl⟩ := RatC.open hv;have HC := hid hv;replace HX := hid (HX.out.trans hX);replace HR := hid (HR.out.ext hX);clear hv hX y0 y1 y2
 go_upto_region 6 with (fail)
 have hXa : Ext w5 (w5.alloc (.cells #[.bool s4, .slice A4 l4 c4, .slice B4 m4 k4] 97)) := (Ext.refl _).alloc _;have kW := Blk.new w5 97 #[.bool s4, .slice A4 l4 c4, .slice B4 m4 k4];replace HX := hid (HX.out.trans hXa);replace HR := hid (HR.out.ext hXa);replace HC := hid (cQ.grows _ _ _ _ HC.out hXa);clear hXa;generalize w5.heap.size = gy at kW |-;generalize w5.alloc _ = w6 at kW HX HR HC |-;have KW := hid kW;clear kW
 go_upto_region 8 with (fail)
 refine qD gy ai s4 A4 B4 l4 c4 m4 k4 w6 (KW.out.cell 0) (KW.out.cell 1) (KW.out.cell 2) _ _ (by simp) ⟨rfl, rfl, trivial⟩ ?_;rintro W hX;simp only [EndK, ae, Try.f76, ab, Option.bind_some, Nat.reduceBEq, if_true, if_false, Bool.false_eq_true, Option.getD_some, List.drop_succ_cons, List.drop_zero];simp only [Act.put, List.setIfInBounds_toArray, List.set_cons_succ, List.set_cons_zero];replace HX := hid (HX.out.trans hX);replace HR := hid (HR.out.ext hX);replace HC := hid (cQ.grows _ _ _ _ HC.out hX);clear hX;obtain ⟨r0, r1, r2, f0, f1, f2⟩ := HR.out.three;have HNI := hid (NoInts.three HR.out);go_wp2;refine bodyPost_ret (v := .tuple #[.int .i64 ai, .agg #[.bool s4, .slice A4 l4 c4, .slice B4 m4 k4], .int .i64 0]) (by simp [results, Try.results76, go_sem, *]) rfl ?_;refine ⟨.agg #[.bool s4, .slice A4 l4 c4, .slice B4 m4 k4], by rw [HAI.out], ?_, Ext.boxed HX.out (by omega) _ _ _⟩;exact cQ _ _ _ _ _ HC.out ((((Keeps.refl [w.heap.size + 1] W).setCell (.inl (by simp)) _).setCell (.inl (by simp)) _).setCell (.inl (by simp)) _) (fun g hg => by simp at hg; subst hg; exact HNI.out)
theorem qE {S L : Nat} {u : Nat -> Rat} {ms : List Mt} (hf : fG S u L) (hS8 : S <= 8) (hm : ∀ m ∈ ms, VM S m) {k a : Nat} (_hk : k <= ms.length) (h : (bM (3 * S) u ms k).1 = some a) : a < k /\ FitR (bM (3 * S) u ms k).2 (12 + 48 * (L + 5)) := by
 cases k with
 | zero => cases h
 | succ k =>
  obtain ⟨a', h1, h2, h3⟩ := ec (3 * S) u ms k;rw [h1] at h;injection h with h;subst h;refine ⟨by omega, ?_⟩;rw [h3];have e : ms[a']? = some ms[a'] := List.getElem?_eq_getElem (by omega);rw [bV e];exact kr (hm _ (List.getElem_mem _)) hf hS8
theorem rI (gp gt ot ct S gm om n c kk L : Nat) (ma mb mx my mz md mw : Int) (un : Nat -> Rat) (w : World) (v0 : w.cell? ⟨gm, om + kk * 7, none⟩ = some (.int .i64 (ma))) (v1 : w.cell? ⟨gm, om + kk * 7 + 1, none⟩ = some (.int .i64 (mb))) (v2 : w.cell? ⟨gm, om + kk * 7 + 2, none⟩ = some (.int .i64 (mx))) (v3 : w.cell? ⟨gm, om + kk * 7 + 3, none⟩ = some (.int .i64 (my))) (v4 : w.cell? ⟨gm, om + kk * 7 + 4, none⟩ = some (.int .i64 (mz))) (v5 : w.cell? ⟨gm, om + kk * 7 + 5, none⟩ = some (.int .i64 (md))) (v6 : w.cell? ⟨gm, om + kk * 7 + 6, none⟩ = some (.int .i64 (mw))) (b0 : w.cell? ⟨gp, 0, none⟩ = some (.int .i64 (S : Int))) (b1 : w.cell? ⟨gp, 1, none⟩ = some (.slice (some ⟨gm, om, none⟩) n c)) (_hkn : kk < n) (_hkn2 : (kk : Int) < (n : Int)) (hS8 : S <= 8) (hS : ShP QZ w gt ot S un) (hf : fG S un L) (hL : L <= 1000) (hm : VM S ⟨ma, mb, mx, my, mz, md, mw⟩) (hgt : gt < w.heap.size) (a : Act) (Q : Exit -> Act -> World -> Prop) (hsize : 27 <= a.tmps.size)
  (s1 : a.tmps[1]? = some (.slice (some ⟨gt, ot, none⟩) S ct))
  (s2 : a.tmps[2]? = some (.pointer (some ⟨gp, 0, none⟩)))
  (s8 : a.tmps[8]? = some (.int .i64 (kk : Int)))
  (hend : ∀ (xv0 xv1 xv2 xv3 xv4 xv5 xv6 xv7 xv8 xv9 : Value) (W : World), (xv0 = .agg #[.int .i64 (S : Int), .slice (some ⟨gm, om, none⟩) n c]) -> (xv1 = .slice (some ⟨gt, ot, none⟩) S ct) -> (xv2 = .pointer (some ⟨gp, 1, none⟩)) -> (xv3 = .slice (some ⟨gm, om, none⟩) n c) -> (xv4 = .int .i64 (kk : Int)) -> (xv5 = .pointer (some ⟨gm, om + kk * 7, none⟩)) -> (xv6 = .agg #[.int .i64 (ma), .int .i64 (mb), .int .i64 (mx), .int .i64 (my), .int .i64 (mz), .int .i64 (md), .int .i64 (mw)]) -> (QZ W xv7 (cL (3 * S) un ⟨ma, mb, mx, my, mz, md, mw⟩)) -> (∃ g, xv8 = .pointer (some ⟨g, 0, none⟩) /\ w.heap.size <= g /\ Blk W g 65 (nQ xv7)) -> Ext w W -> wpList Try.prog (ae Try.f77 5).toArray Q [] ((((((((((a.put (some 19) xv0).put (some 20) xv1).put (some 21) xv2).put (some 22) xv3).put (some 23) xv4).put (some 24) xv5).put (some 25) xv6).put (some 26) xv7).put (some 9) xv8).put (none) xv9) W) :
  (Code.region 5 (ae Try.f77 5).toArray true).wp Try.prog Q a w := by
 have hsz : ∀ d, some d ∈ ([some 19, some 20, some 21, some 22, some 23, some 24, some 25, some 26, some 9, none] : List (Option Tmp)) -> d < a.tmps.size := cC (by decide) hsize;refine eK 10 [some 19, some 20, some 21, some 22, some 23, some 24, some 25, some 26, some 9, none] [[], [], [], [2], [], [3, 4], [5], [0, 1, 6], [], [7, 8]] [[], [], [], [], [], [], [], [9], [9], []] (fun (done : Nat -> Prop) (us : Nat -> Value) (W : World) => Ext w W /\ (done 0 -> us 0 = .agg #[.int .i64 (S : Int), .slice (some ⟨gm, om, none⟩) n c]) /\ (done 1 -> us 1 = .slice (some ⟨gt, ot, none⟩) S ct) /\ (done 2 -> us 2 = .pointer (some ⟨gp, 1, none⟩)) /\ (done 3 -> us 3 = .slice (some ⟨gm, om, none⟩) n c) /\ (done 4 -> us 4 = .int .i64 (kk : Int)) /\ (done 5 -> us 5 = .pointer (some ⟨gm, om + kk * 7, none⟩)) /\ (done 6 -> us 6 = .agg #[.int .i64 (ma), .int .i64 (mb), .int .i64 (mx), .int .i64 (my), .int .i64 (mz), .int .i64 (md), .int .i64 (mw)]) /\ (done 7 -> QZ W (us 7) (cL (3 * S) un ⟨ma, mb, mx, my, mz, md, mw⟩)) /\ Loc w W 65 #[.bool false, .slice none 0 0, .slice none 0 0] (nQ (us 7)) (done 8) (done 9) (us 8)) (by kernel_rfl) (by kernel_rfl) hsz (fun p q us W h => by have e : p = q := funext fun k => propext (h k); rw [e]; exact id) (fun us => ⟨(Ext.refl w).drew, fun h => h.elim, fun h => h.elim, fun h => h.elim, fun h => h.elim, fun h => h.elim, fun h => h.elim, fun h => h.elim, fun h => h.elim, Loc.unmade id⟩) ?_ ?_
 .
  clear hend;simp only [ae, Try.f77, ab, Option.bind_some, Nat.reduceBEq, if_true, if_false, Bool.false_eq_true, Option.getD_some];simp only [List.take_succ_cons, List.take_zero];refine ⟨?_, ?_, ?_, ?_, ?_, ?_, ?_, ?_, ?_, ?_, trivial⟩
  .
   intro done us W hJ hdep haft hnot b hb hb' K hK Q';obtain ⟨hX0, cc0, cc1, cc2, cc3, cc4, cc5, cc6, pp7, ll8⟩ := hJ;have e2 := (hb' 2 (by simp)).trans s2;clear hb hb';have z0 := hX0.cell b0;have z1 := hX0.cell b1;have hfin := hK (.agg #[.int .i64 (S : Int), .slice (some ⟨gm, om, none⟩) n c]) _ ⟨hX0, fun _ => rfl, fun h => cc1 (h.resolve_right (by decide)), fun h => cc2 (h.resolve_right (by decide)), fun h => cc3 (h.resolve_right (by decide)), fun h => cc4 (h.resolve_right (by decide)), fun h => cc5 (h.resolve_right (by decide)), fun h => cc6 (h.resolve_right (by decide)), fun h => pp7 (h.resolve_right (by decide)), Loc.same ll8 ⟨fun h => h.resolve_right (by decide), .inl⟩ ⟨fun h => h.resolve_right (by decide), .inl⟩⟩;clear hK cc0 cc1 cc2 cc3 cc4 cc5 cc6 pp7 ll8;go_simp;exact hfin
  .
   intro done us W hJ hdep haft hnot b hb hb' K hK Q';obtain ⟨hX0, cc0, cc1, cc2, cc3, cc4, cc5, cc6, pp7, ll8⟩ := hJ;have e1 := (hb' 1 (by simp)).trans s1;clear hb hb';have hfin := hK (.slice (some ⟨gt, ot, none⟩) S ct) _ ⟨hX0, fun h => cc0 (h.resolve_right (by decide)), fun _ => rfl, fun h => cc2 (h.resolve_right (by decide)), fun h => cc3 (h.resolve_right (by decide)), fun h => cc4 (h.resolve_right (by decide)), fun h => cc5 (h.resolve_right (by decide)), fun h => cc6 (h.resolve_right (by decide)), fun h => pp7 (h.resolve_right (by decide)), Loc.same ll8 ⟨fun h => h.resolve_right (by decide), .inl⟩ ⟨fun h => h.resolve_right (by decide), .inl⟩⟩;clear hK cc0 cc1 cc2 cc3 cc4 cc5 cc6 pp7 ll8;go_simp;exact hfin
  .
   intro done us W hJ hdep haft hnot b hb hb' K hK Q';obtain ⟨hX0, cc0, cc1, cc2, cc3, cc4, cc5, cc6, pp7, ll8⟩ := hJ;have e2 := (hb' 2 (by simp)).trans s2;clear hb hb';have hfin := hK (.pointer (some ⟨gp, 1, none⟩)) _ ⟨hX0, fun h => cc0 (h.resolve_right (by decide)), fun h => cc1 (h.resolve_right (by decide)), fun _ => rfl, fun h => cc3 (h.resolve_right (by decide)), fun h => cc4 (h.resolve_right (by decide)), fun h => cc5 (h.resolve_right (by decide)), fun h => cc6 (h.resolve_right (by decide)), fun h => pp7 (h.resolve_right (by decide)), Loc.same ll8 ⟨fun h => h.resolve_right (by decide), .inl⟩ ⟨fun h => h.resolve_right (by decide), .inl⟩⟩;clear hK cc0 cc1 cc2 cc3 cc4 cc5 cc6 pp7 ll8;go_simp;exact hfin
  .
   intro done us W hJ hdep haft hnot b hb hb' K hK Q';obtain ⟨hX0, cc0, cc1, cc2, cc3, cc4, cc5, cc6, pp7, ll8⟩ := hJ;simp only [List.getD_cons_succ, List.getD_cons_zero, List.mem_cons, List.not_mem_nil, or_false, forall_eq] at hdep;have e21 := hb 2 21 rfl;rw [cc2 hdep] at e21;clear hb hb';have z1 := hX0.cell b1;have hfin := hK (.slice (some ⟨gm, om, none⟩) n c) _ ⟨hX0, fun h => cc0 (h.resolve_right (by decide)), fun h => cc1 (h.resolve_right (by decide)), fun h => cc2 (h.resolve_right (by decide)), fun _ => rfl, fun h => cc4 (h.resolve_right (by decide)), fun h => cc5 (h.resolve_right (by decide)), fun h => cc6 (h.resolve_right (by decide)), fun h => pp7 (h.resolve_right (by decide)), Loc.same ll8 ⟨fun h => h.resolve_right (by decide), .inl⟩ ⟨fun h => h.resolve_right (by decide), .inl⟩⟩;clear hK cc0 cc1 cc2 cc3 cc4 cc5 cc6 pp7 ll8;go_simp;exact hfin
  .
   intro done us W hJ hdep haft hnot b hb hb' K hK Q';obtain ⟨hX0, cc0, cc1, cc2, cc3, cc4, cc5, cc6, pp7, ll8⟩ := hJ;have e8 := (hb' 8 (by simp)).trans s8;clear hb hb';have hfin := hK (.int .i64 (kk : Int)) _ ⟨hX0, fun h => cc0 (h.resolve_right (by decide)), fun h => cc1 (h.resolve_right (by decide)), fun h => cc2 (h.resolve_right (by decide)), fun h => cc3 (h.resolve_right (by decide)), fun _ => rfl, fun h => cc5 (h.resolve_right (by decide)), fun h => cc6 (h.resolve_right (by decide)), fun h => pp7 (h.resolve_right (by decide)), Loc.same ll8 ⟨fun h => h.resolve_right (by decide), .inl⟩ ⟨fun h => h.resolve_right (by decide), .inl⟩⟩;clear hK cc0 cc1 cc2 cc3 cc4 cc5 cc6 pp7 ll8;go_simp;exact hfin
  .
   intro done us W hJ hdep haft hnot b hb hb' K hK Q';obtain ⟨hX0, cc0, cc1, cc2, cc3, cc4, cc5, cc6, pp7, ll8⟩ := hJ;simp only [List.getD_cons_succ, List.getD_cons_zero, List.mem_cons, List.not_mem_nil, or_false, forall_eq_or_imp, forall_eq] at hdep;have e22 := hb 3 22 rfl;rw [cc3 hdep.1] at e22;have e23 := hb 4 23 rfl;rw [cc4 hdep.2] at e23;clear hb hb';have hfin := hK (.pointer (some ⟨gm, om + kk * 7, none⟩)) _ ⟨hX0, fun h => cc0 (h.resolve_right (by decide)), fun h => cc1 (h.resolve_right (by decide)), fun h => cc2 (h.resolve_right (by decide)), fun h => cc3 (h.resolve_right (by decide)), fun h => cc4 (h.resolve_right (by decide)), fun _ => rfl, fun h => cc6 (h.resolve_right (by decide)), fun h => pp7 (h.resolve_right (by decide)), Loc.same ll8 ⟨fun h => h.resolve_right (by decide), .inl⟩ ⟨fun h => h.resolve_right (by decide), .inl⟩⟩;clear hK cc0 cc1 cc2 cc3 cc4 cc5 cc6 pp7 ll8;go_simp;exact hfin
  .
   intro done us W hJ hdep haft hnot b hb hb' K hK Q';obtain ⟨hX0, cc0, cc1, cc2, cc3, cc4, cc5, cc6, pp7, ll8⟩ := hJ;simp only [List.getD_cons_succ, List.getD_cons_zero, List.mem_cons, List.not_mem_nil, or_false, forall_eq] at hdep;have e24 := hb 5 24 rfl;rw [cc5 hdep] at e24;clear hb hb';have z0 := hX0.cell v0;have z1 := hX0.cell v1;have z2 := hX0.cell v2;have z3 := hX0.cell v3;have z4 := hX0.cell v4;have z5 := hX0.cell v5;have z6 := hX0.cell v6;have hfin := hK (.agg #[.int .i64 (ma), .int .i64 (mb), .int .i64 (mx), .int .i64 (my), .int .i64 (mz), .int .i64 (md), .int .i64 (mw)]) _ ⟨hX0, fun h => cc0 (h.resolve_right (by decide)), fun h => cc1 (h.resolve_right (by decide)), fun h => cc2 (h.resolve_right (by decide)), fun h => cc3 (h.resolve_right (by decide)), fun h => cc4 (h.resolve_right (by decide)), fun h => cc5 (h.resolve_right (by decide)), fun _ => rfl, fun h => pp7 (h.resolve_right (by decide)), Loc.same ll8 ⟨fun h => h.resolve_right (by decide), .inl⟩ ⟨fun h => h.resolve_right (by decide), .inl⟩⟩;clear hK cc0 cc1 cc2 cc3 cc4 cc5 cc6 pp7 ll8;go_simp;exact hfin
  .
   intro done us W hJ hdep haft hnot b hb hb' K hK Q';obtain ⟨hX0, cc0, cc1, cc2, cc3, cc4, cc5, cc6, pp7, ll8⟩ := hJ;simp only [List.getD_cons_succ, List.getD_cons_zero, List.mem_cons, List.not_mem_nil, or_false, forall_eq_or_imp, forall_eq] at hdep;simp only [List.getD_cons_succ, List.getD_cons_zero, List.mem_cons, List.not_mem_nil, or_false, forall_eq_or_imp, forall_eq] at haft;have e19 := hb 0 19 rfl;rw [cc0 hdep.1] at e19;have e20 := hb 1 20 rfl;rw [cc1 hdep.2.1] at e20;have e25 := hb 6 25 rfl;rw [cc6 hdep.2.2] at e25;clear hb hb';go_simp;refine (oI (m := ⟨ma, mb, mx, my, mz, md, mw⟩) (S := S) (n := n) (c := c) (A := some ⟨gm, om, none⟩) (ct := ct) hS8 (hS.ext bK hX0) hf hL hm (Nat.lt_of_lt_of_le hgt hX0.size)).mono ?_;rintro e w' ⟨v, rfl, hv, hX⟩;exact hK _ _ ⟨Ext.trans hX0 hX, fun h => cc0 (h.resolve_right (by decide)), fun h => cc1 (h.resolve_right (by decide)), fun h => cc2 (h.resolve_right (by decide)), fun h => cc3 (h.resolve_right (by decide)), fun h => cc4 (h.resolve_right (by decide)), fun h => cc5 (h.resolve_right (by decide)), fun h => cc6 (h.resolve_right (by decide)), fun _ => hv, Loc.same (Loc.revs (ll8.ext hX) haft) ⟨fun h => h.resolve_right (by decide), .inl⟩ ⟨fun h => h.resolve_right (by decide), .inl⟩⟩
  .
   intro done us W hJ hdep haft hnot b hb hb' K hK Q';obtain ⟨hX0, cc0, cc1, cc2, cc3, cc4, cc5, cc6, pp7, ll8⟩ := hJ;simp only [List.getD_cons_succ, List.getD_cons_zero, List.mem_cons, List.not_mem_nil, or_false, forall_eq_or_imp, forall_eq] at haft;clear hb hb';have hfin := hK _ _ ⟨hX0.alloc _, fun h => cc0 (h.resolve_right (by decide)), fun h => cc1 (h.resolve_right (by decide)), fun h => cc2 (h.resolve_right (by decide)), fun h => cc3 (h.resolve_right (by decide)), fun h => cc4 (h.resolve_right (by decide)), fun h => cc5 (h.resolve_right (by decide)), fun h => cc6 (h.resolve_right (by decide)), fun h => QZ.ext (pp7 (h.resolve_right (by decide))) ((Ext.refl _).alloc _), Loc.new w W hX0 (fun h => h.elim haft (by decide)) (Ext.refl _)⟩;clear hK hX0 cc0 cc1 cc2 cc3 cc4 cc5 cc6 pp7 ll8;go_simp;exact hfin
  .
   intro done us W hJ hdep haft hnot b hb hb' K hK Q';obtain ⟨hX0, cc0, cc1, cc2, cc3, cc4, cc5, cc6, pp7, ll8⟩ := hJ;simp only [List.getD_cons_succ, List.getD_cons_zero, List.mem_cons, List.not_mem_nil, or_false, forall_eq_or_imp, forall_eq] at hdep;have e9 := hb 8 9 rfl;have e26 := hb 7 26 rfl;obtain ⟨g, eg, hg, hB⟩ := ll8.stored hdep.2 hnot;rw [eg] at e9;have q0 : W.cell? ⟨g, 0, none⟩ = some (.bool false) := hB.cell 0;have z0 : W.frozen? ⟨g, 0, none⟩ = false := hB.free 0;have q1 : W.cell? ⟨g, 1, none⟩ = some (.slice none 0 0) := hB.cell 1;have z1 : W.frozen? ⟨g, 1, none⟩ = false := hB.free 1;have q2 : W.cell? ⟨g, 2, none⟩ = some (.slice none 0 0) := hB.cell 2;have z2 : W.frozen? ⟨g, 2, none⟩ = false := hB.free 2;clear hb hb';obtain ⟨s9, A9, l9, c9, B9, m9, k9, hu⟩ := QZ.open (pp7 hdep.1);rw [hu] at e26;have hN := NoInts.three hB;have hfin := hK undef _ ⟨(((hX0.setCell hg _).setCell hg _).setCell hg _), fun h => cc0 (h.resolve_right (by decide)), fun h => cc1 (h.resolve_right (by decide)), fun h => cc2 (h.resolve_right (by decide)), fun h => cc3 (h.resolve_right (by decide)), fun h => cc4 (h.resolve_right (by decide)), fun h => cc5 (h.resolve_right (by decide)), fun h => cc6 (h.resolve_right (by decide)), fun h => QZ.past' (pp7 (h.resolve_right (by decide))) hN, ⟨fun _ => ⟨g, eg, hg, fun _ => (Blk.put3 hB hu), fun h => absurd (.inr rfl) h⟩⟩⟩;clear hK hX0 cc0 cc1 cc2 cc3 cc4 cc5 cc6 pp7 ll8;go_simp;exact hfin
 .
  intro us W hJ;obtain ⟨hX0, cc0, cc1, cc2, cc3, cc4, cc5, cc6, pp7, ll8⟩ := hJ;rw [show (ae Try.f77 5).drop 10 = [] by kernel_rfl];exact hend (us 0) (us 1) (us 2) (us 3) (us 4) (us 5) (us 6) (us 7) (us 8) (us 9) W (cc0 (show 0 < 10 by decide)) (cc1 (show 1 < 10 by decide)) (cc2 (show 2 < 10 by decide)) (cc3 (show 3 < 10 by decide)) (cc4 (show 4 < 10 by decide)) (cc5 (show 5 < 10 by decide)) (cc6 (show 6 < 10 by decide)) (pp7 (show 7 < 10 by decide)) (ll8.done (show 8 < 10 by decide) (show 9 < 10 by decide)) hX0
theorem ks (gp kk : Nat) (ai : Int) (w : World)  : aF Try.prog Try.f77 9 19 51 w [32, 33, 34, 35, 36, 37, 38, 39, 40, 41, 42, 43, 44, 45, 46, 47, 48, 49, 50] [.c (.int .i64 (1)), .c (.bool true), .c (.bool true), .c (undef), .c (undef), .c (undef), .c (undef), .c (undef), .c (undef), .c (undef), .c (undef), .c (undef), .c (undef), .c (undef), .c (undef), .c (undef), .c (undef), .c (undef), .c (.bool true)] [(2, .pointer (some ⟨gp, 0, none⟩)), (6, .int .i64 (ai)), (8, .int .i64 (kk : Int)), (10, .int .i64 (1))] := by
 refine aJ [[], [0], [1], [2], [2, 3], [2, 4], [5], [5, 6], [5], [5, 7, 8], [5, 9], [5], [5, 11], [5], [5, 12, 13], [5, 14], [5, 10, 15], [2, 5, 16], [2, 17]] (by kernel_rfl) (by kernel_rfl) rfl trivial ?_;simp only [ae, Try.f77, ab, Option.bind_some, Nat.reduceBEq, if_true, if_false, Bool.false_eq_true, Option.getD_some];simp only [List.take_succ_cons, List.take_zero]
 repeat' first | refine ⟨?_, ?_⟩ | fail
 all_goals first | (intro us W b hJ K hK0 hK Qz; simp only [aC, al, am, List.getD_cons_succ, List.getD_cons_zero]) | exact True.intro
 all_goals try (intros; go_simp; exact hK0 _ rfl)
theorem qF (gp kk : Nat) (ai : Int) (w : World)  : aF Try.prog Try.f77 9 19 51 w [32, 33, 34, 35, 36, 37, 38, 39, 40, 41, 42, 43, 44, 45, 46, 47, 48, 49, 50] [.c (.int .i64 (-1)), .c (.bool false), .c (.bool false), .c (.int .i64 (-1)), .c (.bool false), .c (.bool false), .c (undef), .c (undef), .c (undef), .c (undef), .c (undef), .c (undef), .c (undef), .c (undef), .c (undef), .c (undef), .c (undef), .c (.bool false), .c (.bool false)] [(2, .pointer (some ⟨gp, 0, none⟩)), (6, .int .i64 (ai)), (8, .int .i64 (kk : Int)), (10, .int .i64 (-1))] := by
 refine aJ [[], [0], [1], [2], [2, 3], [2, 4], [5], [5, 6], [5], [5, 7, 8], [5, 9], [5], [5, 11], [5], [5, 12, 13], [5, 14], [5, 10, 15], [2, 5, 16], [2, 17]] (by kernel_rfl) (by kernel_rfl) rfl trivial ?_;simp only [ae, Try.f77, ab, Option.bind_some, Nat.reduceBEq, if_true, if_false, Bool.false_eq_true, Option.getD_some];simp only [List.take_succ_cons, List.take_zero]
 repeat' first | refine ⟨?_, ?_⟩ | fail
 all_goals first | (intro us W b hJ K hK0 hK Qz; simp only [aC, al, am, List.getD_cons_succ, List.getD_cons_zero]) | exact True.intro
 all_goals try (intros; go_simp; exact hK0 _ rfl)
theorem qG (gp gm om n c kk aa : Nat) (ma mb mx my mz md mw na nb nx ny nz nd nw : Int) (er : Bool) (w : World) (v0 : w.cell? ⟨gm, om + kk * 7, none⟩ = some (.int .i64 (ma))) (v1 : w.cell? ⟨gm, om + kk * 7 + 1, none⟩ = some (.int .i64 (mb))) (v2 : w.cell? ⟨gm, om + kk * 7 + 2, none⟩ = some (.int .i64 (mx))) (v3 : w.cell? ⟨gm, om + kk * 7 + 3, none⟩ = some (.int .i64 (my))) (v4 : w.cell? ⟨gm, om + kk * 7 + 4, none⟩ = some (.int .i64 (mz))) (v5 : w.cell? ⟨gm, om + kk * 7 + 5, none⟩ = some (.int .i64 (md))) (v6 : w.cell? ⟨gm, om + kk * 7 + 6, none⟩ = some (.int .i64 (mw))) (n0 : w.cell? ⟨gm, om + aa * 7, none⟩ = some (.int .i64 (na))) (n1 : w.cell? ⟨gm, om + aa * 7 + 1, none⟩ = some (.int .i64 (nb))) (n2 : w.cell? ⟨gm, om + aa * 7 + 2, none⟩ = some (.int .i64 (nx))) (n3 : w.cell? ⟨gm, om + aa * 7 + 3, none⟩ = some (.int .i64 (ny))) (n4 : w.cell? ⟨gm, om + aa * 7 + 4, none⟩ = some (.int .i64 (nz))) (n5 : w.cell? ⟨gm, om + aa * 7 + 5, none⟩ = some (.int .i64 (nd))) (n6 : w.cell? ⟨gm, om + aa * 7 + 6, none⟩ = some (.int .i64 (nw))) (p1 : w.cell? ⟨gp, 1, none⟩ = some (.slice (some ⟨gm, om, none⟩) n c)) (_hkn : kk < n) (_hkn2 : (kk : Int) < (n : Int)) (_han : aa < n) (_han2 : (aa : Int) < (n : Int)) (her : Hid (o3 ⟨ma, mb, mx, my, mz, md, mw⟩ ⟨na, nb, nx, ny, nz, nd, nw⟩ = er)) : aF Try.prog Try.f77 9 19 51 w [32, 33, 34, 35, 36, 37, 38, 39, 40, 41, 42, 43, 44, 45, 46, 47, 48, 49, 50] [.c (.int .i64 (0)), .c (.bool false), .c (.bool false), .c (.int .i64 (0)), .c (.bool true), .c (.bool true), .c (.pointer (some ⟨gp, 1, none⟩)), .c (.slice (some ⟨gm, om, none⟩) n c), .c (.int .i64 (kk : Int)), .c (.pointer (some ⟨gm, om + kk * 7, none⟩)), .c (.agg #[.int .i64 (ma), .int .i64 (mb), .int .i64 (mx), .int .i64 (my), .int .i64 (mz), .int .i64 (md), .int .i64 (mw)]), .c (.pointer (some ⟨gp, 1, none⟩)), .c (.slice (some ⟨gm, om, none⟩) n c), .c (.int .i64 (aa : Int)), .c (.pointer (some ⟨gm, om + aa * 7, none⟩)), .c (.agg #[.int .i64 (na), .int .i64 (nb), .int .i64 (nx), .int .i64 (ny), .int .i64 (nz), .int .i64 (nd), .int .i64 (nw)]), .c (.bool er), .c (.bool er), .c (.bool er)] [(2, .pointer (some ⟨gp, 0, none⟩)), (6, .int .i64 (aa : Int)), (8, .int .i64 (kk : Int)), (10, .int .i64 (0))] := by
 refine aJ [[], [0], [1], [2], [2, 3], [2, 4], [5], [5, 6], [5], [5, 7, 8], [5, 9], [5], [5, 11], [5], [5, 12, 13], [5, 14], [5, 10, 15], [2, 5, 16], [2, 17]] (by kernel_rfl) (by kernel_rfl) rfl trivial ?_;simp only [ae, Try.f77, ab, Option.bind_some, Nat.reduceBEq, if_true, if_false, Bool.false_eq_true, Option.getD_some];simp only [List.take_succ_cons, List.take_zero]
 repeat' first | refine ⟨?_, ?_⟩ | fail
 all_goals first | (intro us W b hJ K hK0 hK Qz; simp only [aC, al, am, List.getD_cons_succ, List.getD_cons_zero]) | exact True.intro
 all_goals try (intros; have q0 := Ext.cell hJ p1; have q1 := Ext.cell hJ v0; have q2 := Ext.cell hJ v1; have q3 := Ext.cell hJ v2; have q4 := Ext.cell hJ v3; have q5 := Ext.cell hJ v4; have q6 := Ext.cell hJ v5; have q7 := Ext.cell hJ v6; have q8 := Ext.cell hJ n0; have q9 := Ext.cell hJ n1; have q10 := Ext.cell hJ n2; have q11 := Ext.cell hJ n3; have q12 := Ext.cell hJ n4; have q13 := Ext.cell hJ n5; have q14 := Ext.cell hJ n6; go_simp; exact hK0 _ rfl)
 .
  intro e37 e42 e47 e2 e6 e8 e10;go_simp;refine (lY ma mb mx my mz md mw na nb nx ny nz nd nw W).mono ?_;rintro e w' ⟨rfl, hX⟩;exact hK _ _ (congrArg Value.bool her.out) hX
theorem gO (gw kk : Nat) (su : Bool) (Au Bu : Option Addr) (lu cu mu ku : Nat) (w : World) (x0 : w.cell? ⟨gw, 0, none⟩ = some (.bool su)) (x1 : w.cell? ⟨gw, 1, none⟩ = some (.slice Au lu cu)) (x2 : w.cell? ⟨gw, 2, none⟩ = some (.slice Bu mu ku)) : aF Try.prog Try.f77 10 3 53 w [51, 52, 6] [.c (.int .i64 (kk : Int)), .c (.agg #[.bool su, .slice Au lu cu, .slice Bu mu ku]), .c (.int .i64 (kk : Int))] [(8, .int .i64 (kk : Int)), (9, .pointer (some ⟨gw, 0, none⟩))] := by
 refine aJ [[], [], [0]] (by kernel_rfl) (by kernel_rfl) rfl trivial ?_;simp only [ae, Try.f77, ab, Option.bind_some, Nat.reduceBEq, if_true, if_false, Bool.false_eq_true, Option.getD_some];simp only [List.take_succ_cons, List.take_zero]
 repeat' first | refine ⟨?_, ?_⟩ | fail
 all_goals first | (intro us W b hJ K hK0 hK Qz; simp only [aC, al, am, List.getD_cons_succ, List.getD_cons_zero]) | exact True.intro
 all_goals try (intros; have q0 := Ext.cell hJ x0; have q1 := Ext.cell hJ x1; have q2 := Ext.cell hJ x2; go_simp; exact hK0 _ rfl)
theorem qH (gs : Nat) (ai : Int) (su : Bool) (Au Bu : Option Addr) (lu cu mu ku : Nat) (w : World) (x0 : w.cell? ⟨gs, 0, none⟩ = some (.bool su)) (x1 : w.cell? ⟨gs, 1, none⟩ = some (.slice Au lu cu)) (x2 : w.cell? ⟨gs, 2, none⟩ = some (.slice Bu mu ku)) : aF Try.prog Try.f77 11 3 55 w [53, 54, 4] [.c (.int .i64 (ai)), .c (.agg #[.bool su, .slice Au lu cu, .slice Bu mu ku]), .c (.int .i64 (ai))] [(6, .int .i64 (ai)), (7, .pointer (some ⟨gs, 0, none⟩))] := by
 refine aJ [[], [], [0]] (by kernel_rfl) (by kernel_rfl) rfl trivial ?_;simp only [ae, Try.f77, ab, Option.bind_some, Nat.reduceBEq, if_true, if_false, Bool.false_eq_true, Option.getD_some];simp only [List.take_succ_cons, List.take_zero]
 repeat' first | refine ⟨?_, ?_⟩ | fail
 all_goals first | (intro us W b hJ K hK0 hK Qz; simp only [aC, al, am, List.getD_cons_succ, List.getD_cons_zero]) | exact True.intro
 all_goals try (intros; have q0 := Ext.cell hJ x0; have q1 := Ext.cell hJ x1; have q2 := Ext.cell hJ x2; go_simp; exact hK0 _ rfl)
theorem jR (S n c gt ot ct L : Nat) (A : Option Addr) (ms : List Mt) (un : Nat -> Rat) (w : World) (h : MsAt w A n ms) (hV : VP S ms) (hS : ShP QZ w gt ot S un) (hf : fG S un L) (hL : L <= 1000) (hgt : gt < w.heap.size) :
  Calls Try.prog 77 #[.agg #[.int .i64 (S : Int), .slice A n c], .slice (some ⟨gt, ot, none⟩) S ct] w (fun e w' => ∃ v, e = .returned (.tuple #[.int .i64 (rH (bh (3 * S) un ms).1), v]) /\ QZ w' v (bh (3 * S) un ms).2 /\ Ext w w') := by
 have HX := hid (((Ext.refl w).alloc (.cells #[.int .i64 (S : Int), .slice A n c] 76)).alloc (.cells #[.bool false, .slice none 0 0, .slice none 0 0] 65));have HP : Hid (Blk ((w.alloc (.cells #[.int .i64 (S : Int), .slice A n c] 76)).alloc (.cells #[.bool false, .slice none 0 0, .slice none 0 0] 65)) w.heap.size 76 #[.int .i64 (S : Int), .slice A n c]) := hid (Blk.alloc (Blk.new w _ _) _);have HR : Hid (Blk ((w.alloc (.cells #[.int .i64 (S : Int), .slice A n c] 76)).alloc (.cells #[.bool false, .slice none 0 0, .slice none 0 0] 65)) (w.heap.size + 1) 65 #[.bool false, .slice none 0 0, .slice none 0 0]) := hid (Blk.at_ (by simp));have hS8 : S <= 8 := by have := hV.2.1; omega
 have hn64 : n <= 64 := by have := hV.2.2.1; have := h.1; omega
 have H := hid h;have HVV := hid hV;have HS := hid hS;have HF := hid hf;clear h hV hS hf;go_enter Try.func77, Try.ntmps77
 go_upto_region 1 with (fail)
 generalize (w.alloc _).alloc _ = w1 at HX HP HR |-
 go_wp2_with fail
 refine (bO 0 _ (by omega) (by omega)).mono ?_;rintro e w2 ⟨v, rfl, hv, hX2⟩;replace HP := hid (HP.out.ext hX2);replace HR := hid (HR.out.ext hX2);replace HX := hid (HX.out.trans hX2);clear hX2;obtain ⟨s0, A0, l0, c0, B0, m0, k0, rfl⟩ := QZ.open hv
 go_upto_region 2 with (fail)
 have hX2 : Ext w2 (w2.alloc (.cells #[.bool s0, .slice A0 l0 c0, .slice B0 m0 k0] 65)) := (Ext.refl _).alloc _;have hgs : w.heap.size + 1 < w2.heap.size := HR.out.lt;have HB : Hid (QB (w2.alloc (.cells #[.bool s0, .slice A0 l0 c0, .slice B0 m0 k0] 65)) w2.heap.size (bM (3 * S) un ms 0).2) := hid (QB.new hv);clear hv;generalize w2.heap.size = gs at hgs HB |-;generalize w2.alloc _ = w3 at hX2 HB |-;replace HP := hid (HP.out.ext hX2);replace HR := hid (HR.out.ext hX2);replace HX := hid (HX.out.trans hX2);clear hX2
 go_wp2_with fail
 go_loopg [6, 8] n (fun fu av iv W => ∃ (k : Nat) (ai : Int), fu = n - k /\ k <= n /\ av = .int .i64 ai /\ iv = .int .i64 (k : Int) /\ Hid (ai = rH (bM (3 * S) un ms k).1) /\ Hid (QB W gs (bM (3 * S) un ms k).2) /\ Hid (Blk W w.heap.size 76 #[.int .i64 (S : Int), .slice A n c]) /\ Hid (Blk W (w.heap.size + 1) 65 #[.bool false, .slice none 0 0, .slice none 0 0]) /\ Hid (Ext w W))
 case atStart => exact ⟨0, -1, by omega, by omega, rfl, rfl, hid rfl, HB, HP, HR, HX⟩
 case round =>
  clear HB HP HR HX;obtain ⟨k, ai, rfl, hk, rfl, rfl, HAI, HB, HP, HR, HX⟩ := hrel;have p0 := HP.out.cell 0;have p1 := HP.out.cell 1;simp only [List.getElem?_toArray, List.getElem?_cons_zero, List.getElem?_cons_succ] at p0 p1
  by_cases hkn : k < n
  .
   have q1 : decide ((k : Int) < (n : Int)) = true := decide_eq_true (by omega);have q1b : decide (k < n) = true := decide_eq_true hkn;obtain ⟨gm, om, ⟨a, b, x, y, z, dd, ww⟩, rfl, hm, hmem, y0, y1, y2, y3, y4, y5, y6⟩ := (H.out.ext HX.out).get hkn;simp only at y0 y1 y2 y3 y4 y5 y6;have hvm := HVV.out.2.2.2 _ hmem;have HM := hid (bV hm);have HFX := hid (kr hvm HF.out hS8);clear hm hmem
   go_upto_region 5 with (fail)
   refine rI w.heap.size gt ot ct S gm om n c k L a b x y z dd ww un wr y0 y1 y2 y3 y4 y5 y6 p0 p1 hkn (by omega) hS8 (HS.out.ext bK HX.out) HF.out hL hvm (Nat.lt_of_lt_of_le hgt HX.out.size) _ _ (by simp) rfl rfl rfl ?_;rintro xv0 xv1 xv2 xv3 xv4 xv5 xv6 xv7 xv8 xv9 w5 rfl rfl rfl rfl rfl rfl rfl hv ⟨gw, rfl, hgw, kW⟩ hX2;simp only [ae, Try.f77, ab, Option.bind_some, Nat.reduceBEq, if_true, if_false, Bool.false_eq_true, Option.getD_some, List.drop_succ_cons, List.drop_zero];simp only [Act.put, List.setIfInBounds_toArray, List.set_cons_succ, List.set_cons_zero];obtain ⟨s4, A4, l4, c4, B4, m4, k4, rfl⟩ := QZ.open hv;have HW : Hid (QB w5 gw (cL (3 * S) un ⟨a, b, x, y, z, dd, ww⟩)) := hid ⟨s4, A4, l4, c4, B4, m4, k4, kW, hv⟩;clear hv kW hgw hvm;replace HB := hid (HB.out.ext hX2);replace HP := hid (HP.out.ext hX2);replace HR := hid (HR.out.ext hX2);replace HX := hid (HX.out.trans hX2);clear hX2;clear y0 y1 y2 y3 y4 y5 y6 p0 p1;obtain ⟨oa, hoa⟩ : ∃ oa, (bM (3 * S) un ms k).1 = oa := ⟨_, rfl⟩;have HOA := hid hoa;clear hoa
   by_cases hno : oa = none
   .
    subst hno;obtain rfl : ai = -1 := by rw [HAI.out, HOA.out]; rfl
    go_upto_region 9 with (fail)
    refine ks w.heap.size k (-1) w5 _ _ (by simp) ⟨rfl, rfl, rfl, rfl, trivial⟩ ?_;rintro W hX2;simp only [EndK, ae, Try.f77, ab, Option.bind_some, Nat.reduceBEq, if_true, if_false, Bool.false_eq_true, Option.getD_some, List.drop_succ_cons, List.drop_zero];simp only [Act.put, List.setIfInBounds_toArray, List.set_cons_succ, List.set_cons_zero];replace HB := hid (HB.out.ext hX2);replace HW := hid (HW.out.ext hX2);replace HP := hid (HP.out.ext hX2);replace HR := hid (HR.out.ext hX2);replace HX := hid (HX.out.trans hX2);clear hX2;have HST : Hid (bM (3 * S) un ms (k + 1) = (some k, cL (3 * S) un ⟨a, b, x, y, z, dd, ww⟩)) := hid (by rw [iY HOA.out, HM.out]);obtain ⟨s1, A1, l1, c1, B1, m1, k1, t0, t1, t2, ht⟩ := HW.out.cells
    go_upto_region 10 with (fail)
    refine gO gw k s1 A1 B1 l1 c1 m1 k1 _ t0 t1 t2 _ _ (by simp) ⟨rfl, rfl, trivial⟩ ?_;rintro W2 hX2;simp only [EndK, ae, Try.f77, ab, Option.bind_some, Nat.reduceBEq, if_true, if_false, Bool.false_eq_true, Option.getD_some, List.drop_succ_cons, List.drop_zero];simp only [Act.put, List.setIfInBounds_toArray, List.set_cons_succ, List.set_cons_zero];replace ht := ht.ext hX2;replace HB := hid (HB.out.ext hX2);replace HP := hid (HP.out.ext hX2);replace HR := hid (HR.out.ext hX2);replace HX := hid (HX.out.trans hX2);clear hX2;clear t0 t1 t2 HW;have f0 := HB.out.free 0;have f1 := HB.out.free 1;have f2 := HB.out.free 2;obtain ⟨s5, A5, l5, c5, B5, m5, k5, z0, z1, z2, _⟩ := HB.out.cells;have HB2 := hid (HB.out.put ht);have HP2 := hid (HP.out.far3 (g := gs) (by omega) (.bool s1) (.slice A1 l1 c1) (.slice B1 m1 k1));have HR2 := hid (HR.out.far3 (g := gs) (by omega) (.bool s1) (.slice A1 l1 c1) (.slice B1 m1 k1));have HX2 := hid (Ext.boxed HX.out (g := gs) (by omega) (.bool s1) (.slice A1 l1 c1) (.slice B1 m1 k1));clear ht HB HP HR HX;go_wp2;go_roundg (n - (k + 1))
    case rel => exact ⟨k + 1, (k : Int), by omega, by omega, rfl, by go_num, hid (by rw [HST.out]; rfl), hid (by rw [HST.out]; exact HB2.out), HP2, HR2, HX2⟩
    case measure => omega
   .
    obtain ⟨aa, rfl⟩ : ∃ aa, oa = some aa := by
     cases oa with
     | none => exact absurd rfl hno
     | some aa => exact ⟨aa, rfl⟩
    clear hno;obtain rfl : ai = (aa : Int) := by rw [HAI.out, HOA.out]; rfl
    obtain ⟨haa, hfa⟩ := qE HF.out hS8 HVV.out.2.2.2 (k := k) (by rw [H.out.1]; omega) HOA.out;have h0 : decide ((0 : Int) <= (aa : Int)) = true := decide_eq_true (by omega);have h0b : decide ((aa : Int) < 0) = false := decide_eq_false (by omega);obtain ⟨s1, A1, l1, c1, B1, m1, k1, t0, t1, t2, ht⟩ := HW.out.cells;obtain ⟨s5, A5, l5, c5, B5, m5, k5, z0, z1, z2, hz⟩ := HB.out.cells
    go_wp2_with fail
    refine (nP _ _ _ _ (12 + 48 * (L + 5)) (12 + 48 * (L + 5)) _ ht hz HFX.out hfa (by omega)).mono ?_;clear ht hz hfa t0 t1 t2 z0 z1 z2;obtain ⟨sg, hsg⟩ : ∃ sg, cE (cL (3 * S) un ⟨a, b, x, y, z, dd, ww⟩ - (bM (3 * S) un ms k).2) = sg := ⟨_, rfl⟩;rw [hsg];have HSG := hid hsg;clear hsg;rintro e w6 ⟨rfl, hX2⟩;replace HW := hid (HW.out.ext hX2);replace HB := hid (HB.out.ext hX2);replace HP := hid (HP.out.ext hX2);replace HR := hid (HR.out.ext hX2);replace HX := hid (HX.out.trans hX2);clear hX2
    go_upto_region 9 with (fail)
    by_cases hs1 : sg = 1
    .
     subst hs1;refine ks w.heap.size k (aa : Int) w6 _ _ (by simp) ⟨rfl, rfl, rfl, rfl, trivial⟩ ?_;rintro W hX2;simp only [EndK, ae, Try.f77, ab, Option.bind_some, Nat.reduceBEq, if_true, if_false, Bool.false_eq_true, Option.getD_some, List.drop_succ_cons, List.drop_zero];simp only [Act.put, List.setIfInBounds_toArray, List.set_cons_succ, List.set_cons_zero];replace HB := hid (HB.out.ext hX2);replace HW := hid (HW.out.ext hX2);replace HP := hid (HP.out.ext hX2);replace HR := hid (HR.out.ext hX2);replace HX := hid (HX.out.trans hX2);clear hX2;have HST : Hid (bM (3 * S) un ms (k + 1) = (some k, cL (3 * S) un ⟨a, b, x, y, z, dd, ww⟩)) := hid (by rw [ej HOA.out (.inl (by have := bd (cL (3 * S) un ⟨a, b, x, y, z, dd, ww⟩ - (bM (3 * S) un ms k).2); have h9 := HSG.out; rcases this with ⟨h1, h2⟩ | ⟨h1, h2⟩ | ⟨h1, h2⟩ <;> first | omega | (rw [HM.out]; grind))), HM.out]);obtain ⟨s1, A1, l1, c1, B1, m1, k1, t0, t1, t2, ht⟩ := HW.out.cells
     go_upto_region 10 with (fail)
     refine gO gw k s1 A1 B1 l1 c1 m1 k1 _ t0 t1 t2 _ _ (by simp) ⟨rfl, rfl, trivial⟩ ?_;rintro W2 hX2;simp only [EndK, ae, Try.f77, ab, Option.bind_some, Nat.reduceBEq, if_true, if_false, Bool.false_eq_true, Option.getD_some, List.drop_succ_cons, List.drop_zero];simp only [Act.put, List.setIfInBounds_toArray, List.set_cons_succ, List.set_cons_zero];replace ht := ht.ext hX2;replace HB := hid (HB.out.ext hX2);replace HP := hid (HP.out.ext hX2);replace HR := hid (HR.out.ext hX2);replace HX := hid (HX.out.trans hX2);clear hX2;clear t0 t1 t2 HW;have f0 := HB.out.free 0;have f1 := HB.out.free 1;have f2 := HB.out.free 2;obtain ⟨s5, A5, l5, c5, B5, m5, k5, z0, z1, z2, _⟩ := HB.out.cells;have HB2 := hid (HB.out.put ht);have HP2 := hid (HP.out.far3 (g := gs) (by omega) (.bool s1) (.slice A1 l1 c1) (.slice B1 m1 k1));have HR2 := hid (HR.out.far3 (g := gs) (by omega) (.bool s1) (.slice A1 l1 c1) (.slice B1 m1 k1));have HX2 := hid (Ext.boxed HX.out (g := gs) (by omega) (.bool s1) (.slice A1 l1 c1) (.slice B1 m1 k1));clear ht HB HP HR HX;go_wp2;go_roundg (n - (k + 1))
     case rel => exact ⟨k + 1, (k : Int), by omega, by omega, rfl, by go_num, hid (by rw [HST.out]; rfl), hid (by rw [HST.out]; exact HB2.out), HP2, HR2, HX2⟩
     case measure => omega
    .
     by_cases hs2 : sg = -1
     .
      subst hs2;refine qF w.heap.size k (aa : Int) w6 _ _ (by simp) ⟨rfl, rfl, rfl, rfl, trivial⟩ ?_;rintro W hX2;simp only [EndK, ae, Try.f77, ab, Option.bind_some, Nat.reduceBEq, if_true, if_false, Bool.false_eq_true, Option.getD_some, List.drop_succ_cons, List.drop_zero];simp only [Act.put, List.setIfInBounds_toArray, List.set_cons_succ, List.set_cons_zero];replace HB := hid (HB.out.ext hX2);replace HW := hid (HW.out.ext hX2);replace HP := hid (HP.out.ext hX2);replace HR := hid (HR.out.ext hX2);replace HX := hid (HX.out.trans hX2);clear hX2;have HST : Hid (bM (3 * S) un ms (k + 1) = bM (3 * S) un ms k) := hid (el HOA.out (by have := bd (cL (3 * S) un ⟨a, b, x, y, z, dd, ww⟩ - (bM (3 * S) un ms k).2); have h9 := HSG.out; rw [HM.out]; rcases this with ⟨h1, h2⟩ | ⟨h1, h2⟩ | ⟨h1, h2⟩ <;> first | omega | grind));clear HW;go_wp2;go_roundg (n - (k + 1))
      case rel => exact ⟨k + 1, (aa : Int), by omega, by omega, rfl, by go_num, hid (by rw [HST.out]; exact HAI.out), hid (by rw [HST.out]; exact HB.out), HP, HR, HX⟩
      case measure => omega
     .
      obtain rfl : sg = 0 := by
       rcases bd (cL (3 * S) un ⟨a, b, x, y, z, dd, ww⟩ - (bM (3 * S) un ms k).2) with ⟨_, h2⟩ | ⟨_, h2⟩ | ⟨_, h2⟩
       .
        exact absurd (HSG.out.symm.trans h2) hs2
       .
        exact HSG.out.symm.trans h2
       .
        exact absurd (HSG.out.symm.trans h2) hs1
      clear hs1 hs2;have HEQ : Hid (cL (3 * S) un ⟨a, b, x, y, z, dd, ww⟩ = (bM (3 * S) un ms k).2) := hid (by have := iX.1 HSG.out; grind);have haan : aa < n := by omega
      obtain ⟨gm2, om2, ⟨na, nb, nx, ny, nz, nd, nw⟩, hA, hm, _, n0, n1, n2, n3, n4, n5, n6⟩ := (H.out.ext HX.out).get haan;simp only at n0 n1 n2 n3 n4 n5 n6;injection hA with hA;injection hA with hA1 hA2;subst hA1 hA2;have HM2 := hid (bV hm);clear hm;obtain ⟨gm3, om3, ⟨ja, jb, jx, jy, jz, jd, jw⟩, hA, hm, _, y0, y1, y2, y3, y4, y5, y6⟩ := (H.out.ext HX.out).get hkn;simp only at y0 y1 y2 y3 y4 y5 y6;injection hA with hA;injection hA with hA1 hA2;subst hA1 hA2;have hje := HM.out.symm.trans (bV hm);injection hje with i0 i1 i2 i3 i4 i5 i6;subst i0 i1 i2 i3 i4 i5 i6;clear hm;obtain ⟨er, her⟩ : ∃ er, o3 ⟨a, b, x, y, z, dd, ww⟩ ⟨na, nb, nx, ny, nz, nd, nw⟩ = er := ⟨_, rfl⟩;have HER := hid her;clear her;refine qG w.heap.size gm om n c k aa a b x y z dd ww na nb nx ny nz nd nw er w6 y0 y1 y2 y3 y4 y5 y6 n0 n1 n2 n3 n4 n5 n6 (HP.out.cell 1) hkn (by omega) haan (by omega) HER _ _ (by simp) ⟨rfl, rfl, rfl, rfl, trivial⟩ ?_;rintro W hX2;simp only [EndK, ae, Try.f77, ab, Option.bind_some, Nat.reduceBEq, if_true, if_false, Bool.false_eq_true, Option.getD_some, List.drop_succ_cons, List.drop_zero];simp only [Act.put, List.setIfInBounds_toArray, List.set_cons_succ, List.set_cons_zero];replace HB := hid (HB.out.ext hX2);replace HW := hid (HW.out.ext hX2);replace HP := hid (HP.out.ext hX2);replace HR := hid (HR.out.ext hX2);replace HX := hid (HX.out.trans hX2);clear hX2;clear n0 n1 n2 n3 n4 n5 n6 y0 y1 y2 y3 y4 y5 y6
      by_cases he : er = true
      .
       subst he;have HST : Hid (bM (3 * S) un ms (k + 1) = (some k, cL (3 * S) un ⟨a, b, x, y, z, dd, ww⟩)) := hid (by rw [ej HOA.out (.inr ⟨by rw [HM.out]; exact HEQ.out, by rw [HM.out, HM2.out]; exact HER.out⟩), HM.out]);obtain ⟨s1, A1, l1, c1, B1, m1, k1, t0, t1, t2, ht⟩ := HW.out.cells
       go_upto_region 10 with (fail)
       refine gO gw k s1 A1 B1 l1 c1 m1 k1 _ t0 t1 t2 _ _ (by simp) ⟨rfl, rfl, trivial⟩ ?_;rintro W2 hX2;simp only [EndK, ae, Try.f77, ab, Option.bind_some, Nat.reduceBEq, if_true, if_false, Bool.false_eq_true, Option.getD_some, List.drop_succ_cons, List.drop_zero];simp only [Act.put, List.setIfInBounds_toArray, List.set_cons_succ, List.set_cons_zero];replace ht := ht.ext hX2;replace HB := hid (HB.out.ext hX2);replace HP := hid (HP.out.ext hX2);replace HR := hid (HR.out.ext hX2);replace HX := hid (HX.out.trans hX2);clear hX2;clear t0 t1 t2 HW;have f0 := HB.out.free 0;have f1 := HB.out.free 1;have f2 := HB.out.free 2;obtain ⟨s5, A5, l5, c5, B5, m5, k5, z0, z1, z2, _⟩ := HB.out.cells;have HB2 := hid (HB.out.put ht);have HP2 := hid (HP.out.far3 (g := gs) (by omega) (.bool s1) (.slice A1 l1 c1) (.slice B1 m1 k1));have HR2 := hid (HR.out.far3 (g := gs) (by omega) (.bool s1) (.slice A1 l1 c1) (.slice B1 m1 k1));have HX2 := hid (Ext.boxed HX.out (g := gs) (by omega) (.bool s1) (.slice A1 l1 c1) (.slice B1 m1 k1));clear ht HB HP HR HX;go_wp2;go_roundg (n - (k + 1))
       case rel => exact ⟨k + 1, (k : Int), by omega, by omega, rfl, by go_num, hid (by rw [HST.out]; rfl), hid (by rw [HST.out]; exact HB2.out), HP2, HR2, HX2⟩
       case measure => omega
      .
       obtain rfl : er = false := by simpa using he
       clear he;have HST : Hid (bM (3 * S) un ms (k + 1) = bM (3 * S) un ms k) := hid (el HOA.out (by rw [HM.out, HM2.out, HER.out, HEQ.out]; rintro (h | ⟨_, h⟩); exact absurd h (by grind); cases h));clear HW;go_wp2;go_roundg (n - (k + 1))
       case rel => exact ⟨k + 1, (aa : Int), by omega, by omega, rfl, by go_num, hid (by rw [HST.out]; exact HAI.out), hid (by rw [HST.out]; exact HB.out), HP, HR, HX⟩
       case measure => omega
  .
   obtain rfl : k = n := by omega
   have q1 : decide ((k : Int) < (k : Int)) = false := by simp
   have q1b : decide (k < k) = false := by simp
   have HWP : Hid (bM (3 * S) un ms k = bh (3 * S) un ms) := hid (by unfold bh; rw [H.out.1]);obtain ⟨sp, Ap, lp, cp, Bp, mp, kp, x0, x1, x2, hx⟩ := HB.out.cells
   go_upto_region 11 with (fail)
   refine qH gs ai sp Ap Bp lp cp mp kp wr x0 x1 x2 _ _ (by simp) ⟨rfl, rfl, trivial⟩ ?_;rintro W hX2;simp only [EndK, ae, Try.f77, ab, Option.bind_some, Nat.reduceBEq, if_true, if_false, Bool.false_eq_true, Option.getD_some, List.drop_succ_cons, List.drop_zero];simp only [Act.put, List.setIfInBounds_toArray, List.set_cons_succ, List.set_cons_zero];replace hx := hx.ext hX2;replace HB := hid (HB.out.ext hX2);replace HP := hid (HP.out.ext hX2);replace HR := hid (HR.out.ext hX2);replace HX := hid (HX.out.trans hX2);clear hX2;clear x0 x1 x2 p0 p1;obtain ⟨r0, r1, r2, f0, f1, f2⟩ := HR.out.three;have HXX := hid hx;clear hx;go_wp2;refine bodyPost_ret (v := .tuple #[.int .i64 ai, .agg #[.bool sp, .slice Ap lp cp, .slice Bp mp kp]]) (by simp [results, Try.results77, go_sem, *]) rfl ?_;refine ⟨_, by rw [HAI.out, HWP.out], ?_, Ext.boxed HX.out (by omega) _ _ _⟩;rw [<- HWP.out];exact HXX.out.past (NoInts.three HR.out)
end Go.Proofs.Ytikhlcgnlbinfaa
namespace Go.Proofs.Ytikhlcgnlbinfaa
open Lib (hid)
def zR (ms : List Mt) (n j i c : Nat) : Int := zt (aQ n (a9 ms n) j) i c
def lR (ms : List Mt) (n j : Nat) : Int := zl (aQ n (a9 ms n) j)
def kR (ms : List Mt) (n j : Nat) : List Nat := (aQ n (a9 ms n) j).cols
theorem kt (ms : List Mt) (n i c : Nat) : zR ms n 0 i c = if c = n then cK ms i else cJ ms i c := by
 show ((1 : Rat) * a9 ms n i c).num = _;rw [Rat.one_mul];unfold a9;split
 .
  exact Rat.num_intCast _
 .
  exact Rat.num_intCast _
section
variable {S : Int} {ms : List Mt} {n j : Nat}
theorem jS (h : ∀ m ∈ ms, VM S m) (hl : ms.length <= 64) (hn : n <= 24) (hj : j <= n) {i c : Nat} (hi : i < n) (hc : c <= n) : Fit 65536 (zR ms n j i c).natAbs 106 := by
 obtain ⟨Mp, hs⟩ := Stage.run (bj h n) j hj;have hb := qW (a := 52) (Nat.le_trans (nM hs hi hc) (eD hn hl));exact hb
theorem oJ (h : ∀ m ∈ ms, VM S m) (hl : ms.length <= 64) (hn : n <= 24) (hj : j <= n) : Fit 65536 (lR ms n j).natAbs 106 := by
 obtain ⟨Mp, hs⟩ := Stage.run (bj h n) j hj;have hb := qW (a := 52) (Nat.le_trans (nL hs) (eD hn hl));exact hb
theorem oK (h : ∀ m ∈ ms, VM S m) (hj : j <= n) : lR ms n j ≠ 0 := by
 obtain ⟨Mp, hs⟩ := Stage.run (bj h n) j hj;exact rW hs
theorem jT (h : ∀ m ∈ ms, VM S m) (hj : j <= n) : (kR ms n j).length = (aQ n (a9 ms n) j).top := by
 obtain ⟨Mp, hs⟩ := Stage.run (bj h n) j hj;exact hs.len
theorem oL (h : ∀ m ∈ ms, VM S m) (hj : j <= n) : (kR ms n j).length <= j := by
 rw [jT h hj];exact ei n _ j
theorem sb (h : ∀ m ∈ ms, VM S m) (hj : j <= n) {c : Nat} (hc : c ∈ kR ms n j) : c < n := by
 obtain ⟨Mp, hs⟩ := Stage.run (bj h n) j hj;exact hs.col c hc
/-- No pivot in column j. -/
theorem oM (h : ∀ m ∈ ms, VM S m) (hj : j < n) (hz : ∀ i, (kR ms n j).length <= i -> i < n -> zR ms n j i j = 0) : (∀ i c, zR ms n (j + 1) i c = zR ms n j i c) /\ lR ms n (j + 1) = lR ms n j /\ kR ms n (j + 1) = kR ms n j := by
 obtain ⟨Mp, hs⟩ := Stage.run (bj h n) j (Nat.le_of_lt hj);have hf : bD (aQ n (a9 ms n) j).tab j (n - (aQ n (a9 ms n) j).top) (aQ n (a9 ms n) j).top = none := f5 (fun m h1 h2 => (gJ hs (by have := hs.le; omega) (by omega)).1 (hz m (by rw [jT h (Nat.le_of_lt hj)]; exact h1) (by have := hs.le; omega)));have e : aQ n (a9 ms n) (j + 1) = bi n j (aQ n (a9 ms n) j) := rfl;rw [fk hf] at e;unfold zR lR kR;rw [e];exact ⟨fun _ _ => rfl, rfl, rfl⟩
/-- Row a has the pivot of column j. -/
theorem oN (h : ∀ m ∈ ms, VM S m) (hj : j < n) {a : Nat} (h1 : (kR ms n j).length <= a) (h2 : a < n) (hnz : zR ms n j a j ≠ 0) (hz : ∀ i, (kR ms n j).length <= i -> i < a -> zR ms n j i j = 0) :
  kR ms n (j + 1) = kR ms n j ++ [j] /\ lR ms n (j + 1) = zR ms n j a j /\ (∀ c, c <= n -> zR ms n (j + 1) (kR ms n j).length c = zR ms n j a c) /\
  ∀ i, i < n -> i ≠ (kR ms n j).length -> ∀ c, c <= n -> zR ms n j (if i = a then (kR ms n j).length else i) c * zR ms n j a j + -(zR ms n j a c * zR ms n j (if i = a then (kR ms n j).length else i) j) = lR ms n j * zR ms n (j + 1) i c := by
 obtain ⟨Mp, hs⟩ := Stage.run (bj h n) j (Nat.le_of_lt hj);obtain ⟨Mp', hs'⟩ := Stage.run (bj h n) (j + 1) hj;rw [jT h (Nat.le_of_lt hj)] at h1 hz |-;have hf : bD (aQ n (a9 ms n) j).tab j (n - (aQ n (a9 ms n) j).top) (aQ n (a9 ms n) j).top = some a := eL h1 (by omega) (fun e => hnz ((gJ hs h2 (by omega)).2 e)) (fun m hm hk => (gJ hs (by omega) (by omega)).1 (hz m hm hk));obtain ⟨k1, k2, k3⟩ := pV hs hs' hf hj;refine ⟨?_, k1, k2, k3⟩;have e : aQ n (a9 ms n) (j + 1) = bi n j (aQ n (a9 ms n) j) := rfl;unfold kR;rw [e, dM hf]
/-- The shift of the i-th pivot, as the reference reckons it. -/
theorem kw (h : ∀ m ∈ ms, VM S m) {i j : Nat} (hi : (kR ms n n)[i]? = some j) : i < n /\ j < n /\ (((if lR ms n n < 0 then -(zR ms n n i n) else zR ms n n i n) : Int) : Rat) / (((lR ms n n).natAbs : Nat) : Rat) = bp n ms j := by
 obtain ⟨Mp, hs⟩ := Stage.run (bj h n) n (Nat.le_refl _);have hl := Left.run (bj h n) n (Nat.le_refl _)
 have hin : i < n := by
  have h1 := (List.getElem?_eq_some_iff.1 hi).1;have h2 := oL h (Nat.le_refl n);omega
 refine ⟨hin, sb h (Nat.le_refl _) (List.mem_of_getElem? hi), ?_⟩;unfold bp;rw [lJ hl hs hi];exact lL hs hin
theorem iZ (h : ∀ m ∈ ms, VM S m) {j : Nat} (hj : j < n) (hn : j ∉ kR ms n n) : bp n ms j = 0 := by
 obtain ⟨Mp, hs⟩ := Stage.run (bj h n) n (Nat.le_refl _);exact (lK (Left.run (bj h n) n (Nat.le_refl _)) hj hn).1
end
end Go.Proofs.Ytikhlcgnlbinfaa
namespace Go.Proofs.Ytikhlcgnlbinfaa
open Lib (hid)
open Go.RowKit
section
variable {w w' : World} {B : Nat} {L : List Nat}
theorem jU {q : Addr} {v : Value} (hk : Keeps L w w') (h : w.cell? q = some v) (hn : q.block ∉ L) : w'.cell? q = some v := by
 rw [<- h];exact World.cell?_of_block (w := w) (hk.block q.block (World.block_lt_of_cell? w q h) hn)
end
/-- A slice that is empty or does not lie in the block X. -/
def AwayS (X : Option Nat) (A : Option Addr) (l : Nat) : Prop := l = 0 \/ ∃ g o, A = some ⟨g, o, none⟩ /\ X ≠ some g
theorem oO {w : World} {A : Option Addr} {l c n : Nat} (h : Z16 w (.slice A l c) n) : l = 0 \/ ∃ g o, A = some ⟨g, o, none⟩ /\ g < w.heap.size := by
 obtain ⟨A', l', c', xs, e, hI, hr, hc⟩ := h;injection e with e1 e2 e3;subst e1 e2 e3
 rcases Nat.eq_zero_or_pos l with h0 | h0
 .
  exact .inl h0
 .
  obtain ⟨b, off, x, rfl, _, _, hcell⟩ := hI.get h0;exact .inr ⟨b, off, rfl, World.block_lt_of_cell? _ _ hcell⟩
theorem AwayS.none {w : World} {A : Option Addr} {l c n : Nat} (h : Z16 w (.slice A l c) n) : AwayS none A l := by
 rcases oO h with h | ⟨g, o, e, _⟩
 .
  exact .inl h
 .
  exact .inr ⟨g, o, e, by simp⟩
theorem AwayS.fresh {w : World} {A : Option Addr} {l c n g : Nat} (h : Z16 w (.slice A l c) n) (_hg : w.heap.size <= g) : AwayS (some g) A l := by
 rcases oO h with h | ⟨b, o, e, hb⟩
 .
  exact .inl h
 .
  exact .inr ⟨b, o, e, by intro q; injection q with q; omega⟩
theorem AwayS.new {B : Nat} {X : Option Nat} {A : Option Addr} {l : Nat} (h : NewS B A l) (hX : ∀ g, X = some g -> g < B) : AwayS X A l := by
 rcases h with h | ⟨g, e, hg⟩
 .
  exact .inl h
 .
  exact .inr ⟨g, 0, e, fun q => by have := hX g q; omega⟩
theorem Z16.away {w w' : World} {L : List Nat} {X : Option Nat} {A : Option Addr} {l c n : Nat} (h : Z16 w (.slice A l c) n) (hk : Keeps L w w') (ha : AwayS X A l) (hL : ∀ g ∈ L, X = some g) : Z16 w' (.slice A l c) n := by
 obtain ⟨A', l', c', xs, e, ⟨h1, h2, h3⟩, hr, hc⟩ := h;injection e with e1 e2 e3;subst e1 e2 e3;refine ⟨A, l, c, xs, rfl, ⟨h1, h2, ?_⟩, hr, hc⟩;intro hne;obtain ⟨b, off, rfl, hcell⟩ := h3 hne
 have hb : X ≠ some b := by
  rcases ha with h0 | ⟨g, o, e, hg⟩
  .
   subst h0;exact absurd (by rw [List.eq_nil_of_length_eq_zero h1]; rfl) hne
  .
   injection e with e;injection e with e _;rw [e]; exact hg
 refine ⟨b, off, rfl, fun j v hv => ?_⟩;exact jU hk (hcell j v hv) (fun q => hb (hL _ q))
/-- An integer away from a block. -/
def IntA (X : Option Nat) (w : World) (v : Value) (z : Int) : Prop := ∃ A l c, v = .agg #[.bool (decide (z < 0)), .slice A l c] /\ Z16 w (.slice A l c) z.natAbs /\ AwayS X A l
theorem IntA.int {X : Option Nat} {w : World} {v : Value} {z : Int} (h : IntA X w v z) : IntZ w v z := by
 obtain ⟨A, l, c, e, h, _⟩ := h;exact ⟨A, l, c, e, h⟩
theorem IntA.ext {X : Option Nat} {w w' : World} {v : Value} {z : Int} (h : IntA X w v z) (he : Ext w w') : IntA X w' v z := by
 obtain ⟨A, l, c, e, h, ha⟩ := h;exact ⟨A, l, c, e, h.ext he, ha⟩
theorem IntA.keepsNI {X : Option Nat} {w w' : World} {v : Value} {z : Int} {L : List Nat} (h : IntA X w v z) (hk : Keeps L w w') (hN : ∀ g ∈ L, NoInts w g) : IntA X w' v z := by
 obtain ⟨A, l, c, e, h, ha⟩ := h;exact ⟨A, l, c, e, NatV.keepsNI h hk hN, ha⟩
theorem IntA.none {w : World} {v : Value} {z : Int} (h : IntZ w v z) : IntA none w v z := by
 obtain ⟨A, l, c, e, h⟩ := h;exact ⟨A, l, c, e, h, .none h⟩
theorem IntA.open {X : Option Nat} {w : World} {v : Value} {z : Int} (h : IntA X w v z) : ∃ s A l c, v = .agg #[.bool s, .slice A l c] := by
 obtain ⟨A, l, c, e, _⟩ := h;exact ⟨_, A, l, c, e⟩
/-- The row X grew: it is where it was, or new. -/
theorem IntA.grown {X X' : Option Nat} {w w' : World} {v : Value} {z : Int} (h : IntA X w v z) (hg : w.grownBy w' X) (hX : X' = X \/ X' = some w.heap.size) : IntA X' w' v z := by
 obtain ⟨A, l, c, e, h, ha⟩ := h;refine ⟨A, l, c, e, h.away (Keeps.of_grown (L := X.toList) hg (fun k hk => by rw [hk]; simp)) ha (fun g hg => by cases X <;> simp_all), ?_⟩
 rcases hX with rfl | rfl
 .
  exact ha
 .
  exact .fresh h (Nat.le_refl _)
/-- In a row: two cells. -/
def DuoA (X : Option Nat) (w : World) (cs : List Value) (z : Int) : Prop := ∃ s A l c, cs = [.bool s, .slice A l c] /\ IntA X w (.agg #[.bool s, .slice A l c]) z
theorem aX (X : Option Nat) : KindK 2 (DuoA X) := ⟨fun w cs x h => by obtain ⟨s, A, l, c, rfl, _⟩ := h; rfl, fun w w' L cs x h hk hN => by obtain ⟨s, A, l, c, e, h⟩ := h; exact ⟨s, A, l, c, e, h.keepsNI hk hN⟩, fun h => by omega⟩
theorem DuoA.none {w : World} {cs : List Value} {z : Int} (h : o4 w cs z) : DuoA none w cs z := by
 obtain ⟨s, A, l, c, e, h⟩ := h;exact ⟨s, A, l, c, e, .none h⟩
theorem DuoA.duo {X : Option Nat} {w : World} {cs : List Value} {z : Int} (h : DuoA X w cs z) : o4 w cs z := by
 obtain ⟨s, A, l, c, e, h⟩ := h;exact ⟨s, A, l, c, e, h.int⟩
theorem DuoA.grown {X X' : Option Nat} {w w' : World} {cs : List Value} {z : Int} (h : DuoA X w cs z) (hg : w.grownBy w' X) (hX : X' = X \/ X' = some w.heap.size) : DuoA X' w' cs z := by
 obtain ⟨s, A, l, c, e, h⟩ := h;exact ⟨s, A, l, c, e, h.grown hg hX⟩
section
variable {X : Option Nat} {te tr : TypeId} {base : Nat} {w w' : World} {gt ct m n : Nat} {vs : List Value} {T : Nat -> Nat -> Int}
theorem TabG.imp2 {R R' : World -> List Value -> Int -> Prop} (h : TabG 2 R te tr base w gt ct m n vs T) (hi : ∀ cs x, R w cs x -> R' w cs x) : TabG 2 R' te tr base w gt ct m n vs T := by
 obtain ⟨h1, ⟨h2, rows, h3, h4⟩, h5⟩ := h;exact ⟨h1, ⟨h2, rows, h3, fun i r hr => (h4 i r hr).imp hi⟩, h5⟩
/-- The element at row i, column j. -/
theorem NumK.twoA {w : World} {vs : List Value} {n : Nat} {f : Nat -> Int} (h : NumK 2 (DuoA X) w vs n f) {j : Nat} (hj : j < n) : ∃ s A l c, vs[j * 2]? = some (.bool s) /\ vs[j * 2 + 1]? = some (.slice A l c) /\ IntA X w (.agg #[.bool s, .slice A l c]) (f j) := by
 obtain ⟨cs, h1, ⟨s, A, l, c, rfl, h2⟩, h3⟩ := h.2 j hj;exact ⟨s, A, l, c, by have := h3 0 (by omega); simpa using this, by have := h3 1 (by omega); simpa using this, h2⟩
theorem TabG.put2A (h : TabG 2 (DuoA X) te tr base w gt ct m n vs T) {i j g : Nat} (hi : i < m) (hj : j < n) {c : Nat} (hv : vs[i]? = some (.slice (some ⟨g, 0, none⟩) n c)) (hgt : g ≠ gt)
  {sg : Bool} {A : Option Addr} {l c1 : Nat} {x : Int} (hx : IntA X ((w.setCell ⟨g, j * 2, none⟩ (.bool sg)).setCell ⟨g, j * 2 + 1, none⟩ (.slice A l c1)) (.agg #[.bool sg, .slice A l c1]) x) :
  TabG 2 (DuoA X) te tr base ((w.setCell ⟨g, j * 2, none⟩ (.bool sg)).setCell ⟨g, j * 2 + 1, none⟩ (.slice A l c1)) gt ct m n vs (fun a b => if a = i /\ b = j then x else T a b) /\
  Keeps [g] w ((w.setCell ⟨g, j * 2, none⟩ (.bool sg)).setCell ⟨g, j * 2 + 1, none⟩ (.slice A l c1)) := by
 obtain ⟨v, r, hv', ho, hr⟩ := h.tbl.row hi;rw [hv] at hv';injection hv' with hv';subst hv';have hb : j * 2 + 2 <= r.length := by rw [ho.1]; omega
 obtain ⟨h1, h2, h3⟩ := qb r (j * 2) (.bool sg) (.slice A l c1) hb;have hkp : Keeps [g] w ((w.setCell ⟨g, j * 2, none⟩ (.bool sg)).setCell ⟨g, j * 2 + 1, none⟩ (.slice A l c1)) := ((Keeps.refl [g] w).setCell (.inl (by simp)) _).setCell (.inl (by simp)) _;exact ⟨h.put (aX X) hi hj hv hgt ho (bq (bq ho)) hkp (fun q => (q.set _ (ak sg)).set _ (ag A l c1)) rfl ⟨_, _, _, _, rfl, hx⟩ h2 h3, hkp⟩
/-- The row X of integers grew. -/
theorem TabG.grownX {X' : Option Nat} {bc ti k : Nat} {v : Value} {xs : List Value} (h : TabG 2 (DuoA v.ownBlock) te tr base w gt ct m n vs T) {tx : TypeId} (ho : w.ownsRow bc tx k v ti xs) (hg : w.grownBy w' v.ownBlock) (hX : X' = v.ownBlock \/ X' = some w.heap.size) (h1 : tx ≠ te) (h2 : tx ≠ tr) :
  TabG 2 (DuoA X') te tr base w' gt ct m n vs T := by
 have hk : Keeps v.ownBlock.toList w w' := aW hg
 have hne : ∀ {u : Value} {b : Nat} {size n2 : Nat} {te2 : TypeId} {us : List Value}, w.ownsRow b te2 size u n2 us -> tx ≠ te2 -> ∀ g, u.ownBlock = some g -> g ∉ v.ownBlock.toList := fun hu ht g hg hl => by
  have hv : v.ownBlock = some g := by
   cases hq : v.ownBlock with
   | none => rw [hq] at hl; simp at hl
   | some q => rw [hq] at hl; simp at hl; rw [hl]
  rcases de ho hu ht with q | q
  .
   rw [hv] at q; cases q
  .
   rw [hv, hg] at q; exact q rfl
 have hrow : ∀ u ∈ vs, ∀ g, u.ownBlock = some g -> g ∉ v.ownBlock.toList := fun u hu g hg => by
  obtain ⟨i, hi, rfl⟩ := List.getElem_of_mem hu;obtain ⟨v', r, h3, ho', _⟩ := h.tbl.row (i := i) (by rw [<- h.tbl.len]; exact hi);rw [List.getElem?_eq_getElem hi] at h3;injection h3 with h3;subst h3;exact hne ho' h1 g hg
 obtain ⟨g1, ⟨g2, rows, g3, g4⟩, g5⟩ := h;refine ⟨aj g1 hk (hne g1 h2), ⟨g2, rows, g3.keeps hk hrow, fun i r hr => (g4 i r hr).imp fun cs x hq => hq.grown hg hX⟩, ?_⟩
 rcases g5 with g5 | ⟨g5, g6⟩
 .
  exact .inl g5
 .
  refine .inr ⟨fun u hu => (g5 u hu).keeps hk (hrow u hu), ?_⟩;have := (RowNI.keeps (v := .slice (some ⟨gt, 0, none⟩) m ct) (fun g hg => by simp [Value.ownBlock] at hg; subst hg; exact g6) hk (hne g1 h2)) gt (by simp [Value.ownBlock]);exact this
end
end Go.Proofs.Ytikhlcgnlbinfaa
