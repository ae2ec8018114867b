/- Lemmas of the proof that follows (Solves, part 16): walks of functions by contract, and plain lemmas. Conditions: none. -/
import Derived.Test.YtikhlcgnlbinfaaSolvesO
set_option maxRecDepth 100000
set_option maxHeartbeats 16000000
namespace Go.Proofs.Ytikhlcgnlbinfaa
open Lib (hid)
open Go.RowKit
theorem qQ {ms : List Mt} (h0 : ∀ m ∈ ms, 0 <= m.a) (r i : Nat) : ao ms r i <= i := by
 induction r with
 | zero => exact Int.le_refl _
 | succ r ih => exact Int.le_trans (ea h0 (cZ h0 r) i).1 ih
theorem ShP.good5 {w : World} {g o S : Nat} {u : Nat -> Rat} (h : ShP RatC w g o S u) (hf : ∀ j, FitQW (u j)) : ShP RatG w g o S u := fun s k hs hk => by
 obtain ⟨sg, A, l, c, B, m, n, h1, h2, h3, h4⟩ := h s k hs hk;exact ⟨sg, A, l, c, B, m, n, h1, h2, h3, h4.good (hf _)⟩
theorem jZ (S : Int) (A : Option Addr) (n c : Nat) (ms : List Mt) (w : World) (h : MsAt w A n ms) (hhv : qm S ms = true) :
  Calls Try.prog 14 #[.agg #[.int .i64 S, .slice A n c]] w (fun e w' => e = .returned (.bool true) /\ Ext w w') := by
 have H := hid h;have HX := hid ((Ext.refl w).alloc (.cells #[.int .i64 S, .slice A n c] 76));have HP := hid (Blk.new w 76 #[.int .i64 S, .slice A n c]);clear h;go_enter Try.func14, Try.ntmps14
 go_upto_region 1 with (fail)
 generalize w.alloc _ = w1 at HX HP |-;have p0 := HP.out.cell 0;have p1 := HP.out.cell 1;simp only [List.getElem?_toArray, List.getElem?_cons_zero, List.getElem?_cons_succ] at p0 p1;have hh := dO S A n c ms _ (H.out.ext HX.out);rw [hhv] at hh
 go_wp2_with fail
 refine hh.mono ?_;rintro e w2 ⟨rfl, hX2⟩;clear hh p0 p1;replace HP := hid (HP.out.ext hX2);replace HX := hid (HX.out.trans hX2);clear hX2
 go_wp2_with fail
 refine (eF _).mono ?_;rintro e w19 ⟨rfl, hX⟩;replace HX := hid (HX.out.trans hX);clear hX;go_wp2;go_ret;exact ⟨rfl, HX.out⟩
theorem oW (S : Int) (A : Option Addr) (n c : Nat) (ms : List Mt) (w : World) (h : MsAt w A n ms) (hhv : qm S ms = false) (hV : ¬ VP S ms) :
  Calls Try.prog 14 #[.agg #[.int .i64 S, .slice A n c]] w (fun e w' => e = .returned (.bool true) /\ Ext w w') := by
 have H := hid h;have HX := hid ((Ext.refl w).alloc (.cells #[.int .i64 S, .slice A n c] 76));have HP := hid (Blk.new w 76 #[.int .i64 S, .slice A n c]);clear h;go_enter Try.func14, Try.ntmps14
 go_upto_region 1 with (fail)
 generalize w.alloc _ = w1 at HX HP |-;have p0 := HP.out.cell 0;have p1 := HP.out.cell 1;simp only [List.getElem?_toArray, List.getElem?_cons_zero, List.getElem?_cons_succ] at p0 p1;have hh := dO S A n c ms _ (H.out.ext HX.out);rw [hhv] at hh
 go_wp2_with fail
 refine hh.mono ?_;rintro e w2 ⟨rfl, hX2⟩;clear hh p0 p1;replace HP := hid (HP.out.ext hX2);replace HX := hid (HX.out.trans hX2);clear hX2;have p0 := HP.out.cell 0;have p1 := HP.out.cell 1;simp only [List.getElem?_toArray, List.getElem?_cons_zero, List.getElem?_cons_succ] at p0 p1
 go_wp2_with fail
 refine (mc S A n c ms _ (H.out.ext HX.out) hV).mono ?_;rintro e w3 ⟨rfl, hX2⟩;clear p0 p1;replace HP := hid (HP.out.ext hX2);replace HX := hid (HX.out.trans hX2);clear hX2
 go_upto_region 4 with (fail)
 have p0 := HP.out.cell 0;have p1 := HP.out.cell 1;simp only [List.getElem?_toArray, List.getElem?_cons_zero, List.getElem?_cons_succ] at p0 p1
 go_wp2_with fail
 refine (mA S A n c ms _ (H.out.ext HX.out) hV).mono ?_;rintro e w4 ⟨rfl, hX2⟩;clear p0 p1;replace HP := hid (HP.out.ext hX2);replace HX := hid (HX.out.trans hX2);clear hX2
 go_upto_region 5 with (fail)
 have p0 := HP.out.cell 0;have p1 := HP.out.cell 1;simp only [List.getElem?_toArray, List.getElem?_cons_zero, List.getElem?_cons_succ] at p0 p1;have hv5 := dm S A n c ms _ (H.out.ext HX.out);rw [aV hV] at hv5
 go_wp2_with fail
 refine hv5.mono ?_;rintro e w5 ⟨rfl, hX2⟩;clear hv5 p0 p1;replace HP := hid (HP.out.ext hX2);replace HX := hid (HX.out.trans hX2);clear hX2
 go_wp2_with fail
 refine (eF _).mono ?_;rintro e w19 ⟨rfl, hX⟩;replace HX := hid (HX.out.trans hX);clear hX;go_wp2;go_ret;exact ⟨rfl, HX.out⟩
theorem qR (S : Nat) (A : Option Addr) (n c : Nat) (ms : List Mt) (w : World) (h : MsAt w A n ms) (hhv : qm (S : Int) ms = false) (hV : VP (S : Int) ms) :
  Calls Try.prog 14 #[.agg #[.int .i64 (S : Int), .slice A n c]] w (fun e w' => e = .returned (.bool true) /\ Ext w w') := by
 have H := hid h;have HX := hid ((Ext.refl w).alloc (.cells #[.int .i64 (S : Int), .slice A n c] 76));have HP := hid (Blk.new w 76 #[.int .i64 (S : Int), .slice A n c]);clear h;go_enter Try.func14, Try.ntmps14
 go_upto_region 1 with (fail)
 generalize w.alloc _ = w1 at HX HP |-;have p0 := HP.out.cell 0;have p1 := HP.out.cell 1;simp only [List.getElem?_toArray, List.getElem?_cons_zero, List.getElem?_cons_succ] at p0 p1;have hh := dO (S : Int) A n c ms _ (H.out.ext HX.out);rw [hhv] at hh
 go_wp2_with fail
 refine hh.mono ?_;rintro e w2 ⟨rfl, hX2⟩;clear hh p0 p1;replace HP := hid (HP.out.ext hX2);replace HX := hid (HX.out.trans hX2);clear hX2;have hS1 : 1 <= S := by have := hV.1; omega
 have hS8 : S <= 8 := by have := hV.2.1; omega
 have hS4 : S <= 4 := by have := ((qo.1 hhv).2 hV).1; omega
 have HVP := hid hV;have HTM : Hid (pU (3 * S) (bp (3 * S) ms)) := hid (lH hV.2.2.2 hV.2.2.1 (by omega));have HFS : Hid (∀ j, FitQW (bp (3 * S) ms j)) := hid (fun j => FitQW.of4 (fF hV.2.2.2 hV.2.2.1 (by omega) j) (by omega));have HFU := hid (oR hV)
 have HLB : Hid (∀ j, j < S -> -9223372036854775808 <= ao ms S j /\ ao ms S j <= 9223372036854775807) := hid (fun j hj => by
  have h0 : ∀ m ∈ ms, 0 <= m.a := fun m hm => (hV.2.2.2 m hm).a0
  have h1 := cZ h0 S j;have h2 := qQ h0 S j;omega)
 have HWF := hid (jX (n := 3 * S) HVP.out.2.2.2 (by omega) HTM.out);clear hV hhv;obtain ⟨wp, hwp⟩ : ∃ wp, bh (3 * S) (bp (3 * S) ms) ms = wp := ⟨_, rfl⟩;rw [hwp] at HWF;have HWP := hid hwp;obtain ⟨ai, hai⟩ : ∃ ai, rH wp.1 = ai := ⟨_, rfl⟩;have HAI := hid hai;clear hwp hai;have p0 := HP.out.cell 0;have p1 := HP.out.cell 1;simp only [List.getElem?_toArray, List.getElem?_cons_zero, List.getElem?_cons_succ] at p0 p1
 go_wp2_with fail
 refine (f7 S A n c ms _ (H.out.ext HX.out) HVP.out).mono ?_;rintro e w3 ⟨gt, rfl, _, hT, hX2⟩;clear p0 p1;have HT := hid hT;clear hT;replace HP := hid (HP.out.ext hX2);replace HX := hid (HX.out.trans hX2);clear hX2
 go_upto_region 4 with (fail)
 have p0 := HP.out.cell 0;have p1 := HP.out.cell 1;simp only [List.getElem?_toArray, List.getElem?_cons_zero, List.getElem?_cons_succ] at p0 p1
 go_wp2_with fail
 refine (mB S A n c ms _ (H.out.ext HX.out) HVP.out).mono ?_;rintro e w4 ⟨ga, rfl, hra, hX2⟩;clear p0 p1;obtain ⟨ba, hba⟩ : ∃ ba, w3.heap.size = ba := ⟨_, rfl⟩;rw [hba] at hra;have HRA := hid hra;clear hra hba;replace HT := hid (HT.out.ext dl hX2);replace HP := hid (HP.out.ext hX2);replace HX := hid (HX.out.trans hX2);clear hX2
 go_upto_region 5 with (fail)
 have p0 := HP.out.cell 0;have p1 := HP.out.cell 1;simp only [List.getElem?_toArray, List.getElem?_cons_zero, List.getElem?_cons_succ] at p0 p1;have hv5 := dm (S : Int) A n c ms _ (H.out.ext HX.out);rw [bt.2 HVP.out] at hv5
 go_wp2_with fail
 refine hv5.mono ?_;rintro e w5 ⟨rfl, hX2⟩;clear hv5 p0 p1;replace HT := hid (HT.out.ext dl hX2);replace HRA := hid (RowI.ext HRA.out hX2);replace HP := hid (HP.out.ext hX2);replace HX := hid (HX.out.trans hX2);clear hX2
 go_upto_region 7 with (fail)
 have p0 := HP.out.cell 0;have p1 := HP.out.cell 1;simp only [List.getElem?_toArray, List.getElem?_cons_zero, List.getElem?_cons_succ] at p0 p1
 go_wp2_with fail
 refine (jY (H.out.ext HX.out) HVP.out).mono ?_;rintro e w6 ⟨v, rfl, ⟨gs, rfl, hgl, hsh⟩, hX2⟩;clear p0 p1;have HSH := hid hsh;have HGL := hid hgl;clear hsh hgl;replace HT := hid (HT.out.ext dl hX2);replace HRA := hid (RowI.ext HRA.out hX2);replace HP := hid (HP.out.ext hX2);replace HX := hid (HX.out.trans hX2);clear hX2
 go_upto_region 8 with (fail)
 have p0 := HP.out.cell 0;have p1 := HP.out.cell 1;simp only [List.getElem?_toArray, List.getElem?_cons_zero, List.getElem?_cons_succ] at p0 p1
 go_wp2_with fail
 refine (oT gt 0 S gs 0 S S (bp (3 * S) ms) _ HT.out HSH.out (fun j _ => HFS.out j) hS8).mono ?_;rintro e w7 ⟨rfl, hX2⟩;replace HT := hid (HT.out.ext dl hX2);replace HRA := hid (RowI.ext HRA.out hX2);replace HSH := hid (HSH.out.ext bK hX2);replace HGL := hid (Nat.lt_of_lt_of_le HGL.out hX2.size);replace HP := hid (HP.out.ext hX2);replace HX := hid (HX.out.trans hX2);clear hX2;clear p0 p1;have p0 := HP.out.cell 0;have p1 := HP.out.cell 1;simp only [List.getElem?_toArray, List.getElem?_cons_zero, List.getElem?_cons_succ] at p0 p1
 go_wp2_with fail
 refine (jc S A n c ms _ (H.out.ext HX.out) HVP.out).mono ?_;rintro e w8 ⟨gb, cb, rfl, hrb, hX2⟩;obtain ⟨bb, hbb⟩ : ∃ bb, w7.heap.size = bb := ⟨_, rfl⟩;rw [hbb] at hrb;have HRB := hid hrb;clear hrb hbb;replace HT := hid (HT.out.ext dl hX2);replace HRA := hid (RowI.ext HRA.out hX2);replace HSH := hid (HSH.out.ext bK hX2);replace HGL := hid (Nat.lt_of_lt_of_le HGL.out hX2.size);replace HP := hid (HP.out.ext hX2);replace HX := hid (HX.out.trans hX2);clear hX2;clear p0 p1
 go_wp2_with fail
 refine (oV (some ⟨ga, 0, none⟩) (some ⟨gb, 0, none⟩) S S cb _ _ (RowI.ints HRA.out HLB.out) (RowI.ints HRB.out HLB.out) (by omega)).mono ?_;rintro e w9 ⟨rfl, hX2⟩;clear HRB;replace HT := hid (HT.out.ext dl hX2);replace HRA := hid (RowI.ext HRA.out hX2);replace HSH := hid (HSH.out.ext bK hX2);replace HGL := hid (Nat.lt_of_lt_of_le HGL.out hX2.size);replace HP := hid (HP.out.ext hX2);replace HX := hid (HX.out.trans hX2);clear hX2
 go_upto_region 10 with (fail)
 have p0 := HP.out.cell 0;have p1 := HP.out.cell 1;simp only [List.getElem?_toArray, List.getElem?_cons_zero, List.getElem?_cons_succ] at p0 p1
 go_wp2_with fail
 refine (mj S A n c ms gt 0 S (bp (3 * S) ms) _ (H.out.ext HX.out) HVP.out (HT.out.good5 HFS.out) (by rw [HWP.out]; exact HWF.out)).mono ?_;rw [HWP.out, HAI.out];rintro e v1 ⟨v, rfl, hv, hX2⟩;clear p0 p1;replace HSH := hid (HSH.out.ext bK hX2);replace HGL := hid (Nat.lt_of_lt_of_le HGL.out hX2.size);replace HP := hid (HP.out.ext hX2);replace HX := hid (HX.out.trans hX2);clear hX2;obtain ⟨s8, A8, l8, c8, B8, m8, k8, rfl⟩ := RatC.open hv;have HD := hid hv;clear hv HRA HT
 go_upto_region 11 with (fail)
 have hX2 : Ext v1 (v1.alloc (.cells #[.bool s8, .slice A8 l8 c8, .slice B8 m8 k8] 97)) := (Ext.refl _).alloc _;have BX := hid (Blk.new v1 97 #[.bool s8, .slice A8 l8 c8, .slice B8 m8 k8]);generalize v1.heap.size = gBX at BX |-;generalize v1.alloc (.cells #[.bool s8, .slice A8 l8 c8, .slice B8 m8 k8] 97) = v1b at BX hX2 |-;replace HD := hid (RatC.ext HD.out hX2);replace HSH := hid (HSH.out.ext bK hX2);replace HGL := hid (Nat.lt_of_lt_of_le HGL.out hX2.size);replace HP := hid (HP.out.ext hX2);replace HX := hid (HX.out.trans hX2);clear hX2;have p0 := HP.out.cell 0;have p1 := HP.out.cell 1;simp only [List.getElem?_toArray, List.getElem?_cons_zero, List.getElem?_cons_succ] at p0 p1
 go_wp2_with fail
 refine (jR S n c gs 0 S 106 A ms (bp (3 * S) ms) _ (H.out.ext HX.out) HVP.out HSH.out HFU.out (by omega) HGL.out).mono ?_;rw [HWP.out, HAI.out];rintro e v6 ⟨v, rfl, hv, hX2⟩;clear p0 p1 HSH HGL;replace HD := hid (RatC.ext HD.out hX2);replace BX := hid (BX.out.ext hX2);replace HP := hid (HP.out.ext hX2);replace HX := hid (HX.out.trans hX2);clear hX2;obtain ⟨s7, A7, l7, c7, B7, m7, k7, rfl⟩ := QZ.open hv;have HQ := hid hv;clear hv
 go_upto_region 12 with (fail)
 have hX2 : Ext v6 (v6.alloc (.cells #[.bool s7, .slice A7 l7 c7, .slice B7 m7 k7] 65)) := (Ext.refl _).alloc _;have BY := hid (Blk.new v6 65 #[.bool s7, .slice A7 l7 c7, .slice B7 m7 k7]);generalize v6.heap.size = gBY at BY |-;generalize v6.alloc (.cells #[.bool s7, .slice A7 l7 c7, .slice B7 m7 k7] 65) = v6b at BY hX2 |-;replace HD := hid (RatC.ext HD.out hX2);replace BX := hid (BX.out.ext hX2);replace HQ := hid (HQ.out.ext hX2);replace HP := hid (HP.out.ext hX2);replace HX := hid (HX.out.trans hX2);clear hX2;have y0 := BX.out.cell 0;have y1 := BX.out.cell 1;have y2 := BX.out.cell 2;simp only [List.getElem?_toArray, List.getElem?_cons_zero, List.getElem?_cons_succ] at y0 y1 y2;have z0 := BY.out.cell 0;have z1 := BY.out.cell 1;have z2 := BY.out.cell 2;simp only [List.getElem?_toArray, List.getElem?_cons_zero, List.getElem?_cons_succ] at z0 z1 z2
 go_wp2_with fail
 refine (ed HD.out HQ.out HWF.out).mono ?_;rintro e w12 ⟨rfl, hX2⟩;clear y0 y1 y2 z0 z1 z2;replace HX := hid (HX.out.trans hX2);clear hX2
 go_wp2_with fail
 refine (eF _).mono ?_;rintro e w19 ⟨rfl, hX⟩;replace HX := hid (HX.out.trans hX);clear hX;go_wp2;go_ret;exact ⟨rfl, HX.out⟩
theorem eH (S : Int) (A : Option Addr) (n c : Nat) (ms : List Mt) (w : World) (h : MsAt w A n ms) :
  Calls Try.prog 14 #[.agg #[.int .i64 S, .slice A n c]] w (fun e w' => e = .returned (.bool true) /\ Ext w w') := by
 cases hhv : qm S ms with
 | true => exact jZ S A n c ms w h hhv
 | false =>
  by_cases hv : VP S ms
  .
   obtain ⟨s, rfl⟩ : ∃ s : Nat, S = s := ⟨S.toNat, by have := hv.1; omega⟩;exact qR s A n c ms w h hhv hv
  .
   exact oW S A n c ms w h hhv hv
end Go.Proofs.Ytikhlcgnlbinfaa
