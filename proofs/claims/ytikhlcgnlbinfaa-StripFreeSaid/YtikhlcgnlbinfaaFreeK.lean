/- Lemmas of the proof that follows (Free, part 11): walks of functions by contract, and plain lemmas. Conditions: none. -/
import Derived.Test.YtikhlcgnlbinfaaFreeJ
namespace Go.Proofs.Ytikhlcgnlbinfaa
open Go.RowKit

theorem misfit_take {n : Nat} {ms : List Mt} {u : Nat → Rat} {k : Nat} {m : Mt} (h : ms[k]? = some m) : misfit n (ms.take (k + 1)) u = misfit n (ms.take k) u + wsq n u m := by
  unfold misfit
  rw [take_snoc h, sumM_append]
  simp only [sumM]
  grind

set_option maxRecDepth 100000 in
set_option maxHeartbeats 2000000 in
theorem misfit_r8 (gs gt ot S ct gm L M : Nat) (ma mb mx my mz md mw : Int) (un : Nat → Rat) (su : Bool) (Au Bu : Option Addr) (lu cu mu ku : Nat) (q : Rat) (w : World) (x0 : w.cell? ⟨gs, 0, none⟩ = some (.bool su)) (x1 : w.cell? ⟨gs, 1, none⟩ = some (.slice Au lu cu)) (x2 : w.cell? ⟨gs, 2, none⟩ = some (.slice Bu mu ku)) (v0 : w.cell? ⟨gm, 0, none⟩ = some (.int .i64 (ma))) (v1 : w.cell? ⟨gm, 1, none⟩ = some (.int .i64 (mb))) (v2 : w.cell? ⟨gm, 2, none⟩ = some (.int .i64 (mx))) (v3 : w.cell? ⟨gm, 3, none⟩ = some (.int .i64 (my))) (v4 : w.cell? ⟨gm, 4, none⟩ = some (.int .i64 (mz))) (v5 : w.cell? ⟨gm, 5, none⟩ = some (.int .i64 (md))) (v6 : w.cell? ⟨gm, 6, none⟩ = some (.int .i64 (mw))) (hS : ShP (fun w v q => NumX w v q L) w gt ot S un) (hm : VM S ⟨ma, mb, mx, my, mz, md, mw⟩) (hx : NumX w (.agg #[.bool su, .slice Au lu cu, .slice Bu mu ku]) q M) (hL : L ≤ 100000) (hM : M ≤ 1000000000) (a : Act) (Q : Exit → Act → World → Prop) (hsize : 35 ≤ a.tmps.size)
    (s6 : a.tmps[6]? = some (.slice (some ⟨gt, ot, none⟩) S ct))
    (s8 : a.tmps[8]? = some (.pointer (some ⟨gs, 0, none⟩)))
    (s10 : a.tmps[10]? = some (.pointer (some ⟨gm, 0, none⟩)))
    (hend : ∀ (xv0 xv1 xv2 xv3 xv4 xv5 : Value) (W : World), (xv0 = .agg #[.bool su, .slice Au lu cu, .slice Bu mu ku]) → (xv1 = .slice (some ⟨gt, ot, none⟩) S ct) → (xv2 = .agg #[.int .i64 (ma), .int .i64 (mb), .int .i64 (mx), .int .i64 (my), .int .i64 (mz), .int .i64 (md), .int .i64 (mw)]) → (NumX W xv3 (wsq (3 * S) un ⟨ma, mb, mx, my, mz, md, mw⟩) (12 * L + 30)) → (NumX W xv4 (q + wsq (3 * S) un ⟨ma, mb, mx, my, mz, md, mw⟩) (M + (12 * L + 30) + 1)) → (NumX W xv5 (q + wsq (3 * S) un ⟨ma, mb, mx, my, mz, md, mw⟩) (M + (12 * L + 30) + 1)) → Ext w W → wpList Try.prog (rops Try.f50 8).toArray Q ((rops Try.f50 8).drop 6) ((((((a.put (some 29) xv0).put (some 30) xv1).put (some 31) xv2).put (some 32) xv3).put (some 33) xv4).put (some 34) xv5) W) :
    (Code.region 8 (rops Try.f50 8).toArray true).wp Try.prog Q a w := by
  have hmono : ∀ (W W' : World) (j : Nat) (u : Value), Ext W W' → (fun (i : Nat) (v : Value) (W : World) => match i with
    | 0 => v = .agg #[.bool su, .slice Au lu cu, .slice Bu mu ku]
    | 1 => v = .slice (some ⟨gt, ot, none⟩) S ct
    | 2 => v = .agg #[.int .i64 (ma), .int .i64 (mb), .int .i64 (mx), .int .i64 (my), .int .i64 (mz), .int .i64 (md), .int .i64 (mw)]
    | 3 => NumX W v (wsq (3 * S) un ⟨ma, mb, mx, my, mz, md, mw⟩) (12 * L + 30)
    | 4 => NumX W v (q + wsq (3 * S) un ⟨ma, mb, mx, my, mz, md, mw⟩) (M + (12 * L + 30) + 1)
    | 5 => NumX W v (q + wsq (3 * S) un ⟨ma, mb, mx, my, mz, md, mw⟩) (M + (12 * L + 30) + 1)
    | _ => True) j u W → (fun (i : Nat) (v : Value) (W : World) => match i with
    | 0 => v = .agg #[.bool su, .slice Au lu cu, .slice Bu mu ku]
    | 1 => v = .slice (some ⟨gt, ot, none⟩) S ct
    | 2 => v = .agg #[.int .i64 (ma), .int .i64 (mb), .int .i64 (mx), .int .i64 (my), .int .i64 (mz), .int .i64 (md), .int .i64 (mw)]
    | 3 => NumX W v (wsq (3 * S) un ⟨ma, mb, mx, my, mz, md, mw⟩) (12 * L + 30)
    | 4 => NumX W v (q + wsq (3 * S) un ⟨ma, mb, mx, my, mz, md, mw⟩) (M + (12 * L + 30) + 1)
    | 5 => NumX W v (q + wsq (3 * S) un ⟨ma, mb, mx, my, mz, md, mw⟩) (M + (12 * L + 30) + 1)
    | _ => True) j u W' := by
    intro W W' j u hX h
    match j, h with
    | 0, h => exact h
    | 1, h => exact h
    | 2, h => exact h
    | 3, h => exact NumX.ext h hX
    | 4, h => exact NumX.ext h hX
    | 5, h => exact NumX.ext h hX
    | _ + 6, h => exact h
  have hsz : ∀ d, some d ∈ ([some 29, some 30, some 31, some 32, some 33, some 34] : List (Option Tmp)) → d < a.tmps.size := slots_lt (by decide) hsize
  refine wp_region_j 6 [some 29, some 30, some 31, some 32, some 33, some 34] [[], [], [], [1, 2], [0, 3], [4]] [[], [], [], [], [], []] (fun (i : Nat) (v : Value) (W : World) => match i with
    | 0 => v = .agg #[.bool su, .slice Au lu cu, .slice Bu mu ku]
    | 1 => v = .slice (some ⟨gt, ot, none⟩) S ct
    | 2 => v = .agg #[.int .i64 (ma), .int .i64 (mb), .int .i64 (mx), .int .i64 (my), .int .i64 (mz), .int .i64 (md), .int .i64 (mw)]
    | 3 => NumX W v (wsq (3 * S) un ⟨ma, mb, mx, my, mz, md, mw⟩) (12 * L + 30)
    | 4 => NumX W v (q + wsq (3 * S) un ⟨ma, mb, mx, my, mz, md, mw⟩) (M + (12 * L + 30) + 1)
    | 5 => NumX W v (q + wsq (3 * S) un ⟨ma, mb, mx, my, mz, md, mw⟩) (M + (12 * L + 30) + 1)
    | _ => True) (fun _ W => Ext w W) (by kernel_rfl) (by kernel_rfl) hsz (fun _ _ _ _ h => h) ((Ext.refl w).drew) ?_ ?_
  · clear hend
    simp only [rops, Try.f50, regOf, Option.bind_some, Nat.reduceBEq, if_true, if_false, Bool.false_eq_true, Option.getD_some]
    simp only [List.take_succ_cons, List.take_zero]
    refine ⟨?_, ?_, ?_, ?_, ?_, ?_, trivial⟩
    · intro done us W hJ hdep haft hnot b hb hb' K hK Q'
      have e8 := (hb' 8 (by simp)).trans s8
      clear hb hb'
      have z0 := Ext.cell hJ x0
      have z1 := Ext.cell hJ x1
      have z2 := Ext.cell hJ x2
      go_simp
      exact hK _ _ rfl (fun _ _ _ h => h) hJ
    · intro done us W hJ hdep haft hnot b hb hb' K hK Q'
      have e6 := (hb' 6 (by simp)).trans s6
      clear hb hb'
      go_simp
      exact hK _ _ rfl (fun _ _ _ h => h) hJ
    · intro done us W hJ hdep haft hnot b hb hb' K hK Q'
      have e10 := (hb' 10 (by simp)).trans s10
      clear hb hb'
      have z0 := Ext.cell hJ v0
      have z1 := Ext.cell hJ v1
      have z2 := Ext.cell hJ v2
      have z3 := Ext.cell hJ v3
      have z4 := Ext.cell hJ v4
      have z5 := Ext.cell hJ v5
      have z6 := Ext.cell hJ v6
      go_simp
      exact hK _ _ rfl (fun _ _ _ h => h) hJ
    · intro done us W hJ hdep haft hnot b hb hb' K hK Q'
      simp only [List.getD_cons_succ, List.getD_cons_zero, List.mem_cons, List.not_mem_nil, or_false, forall_eq_or_imp, forall_eq] at hdep
      have e30 := hb 1 30 rfl
      have e31 := hb 2 31 rfl
      have d1 := hdep.1
      have d2 := hdep.2
      rw [d1.1] at e30
      rw [d2.1] at e31
      clear hb hb' hdep d1 d2
      go_simp
      refine (weighted_any (m := ⟨ma, mb, mx, my, mz, md, mw⟩) (hS.ext (growsNum L) hJ) hm hL).mono ?_
      rintro e w' ⟨v, rfl, hv, hX⟩
      exact hK _ _ hv (fun j u _ h => hmono _ _ j u hX h) (Ext.trans hJ hX)
    · intro done us W hJ hdep haft hnot b hb hb' K hK Q'
      simp only [List.getD_cons_succ, List.getD_cons_zero, List.mem_cons, List.not_mem_nil, or_false, forall_eq_or_imp, forall_eq] at hdep
      have e29 := hb 0 29 rfl
      have e32 := hb 3 32 rfl
      have d0 := hdep.1
      have d3 := hdep.2
      rw [d0.1] at e29
      clear hb hb' hdep d0
      go_simp
      refine (addX (hx.ext hJ) d3.1 (by omega)).mono ?_
      rintro e w' ⟨v, rfl, hv, hX⟩
      exact hK _ _ hv (fun j u _ h => hmono _ _ j u hX h) (Ext.trans hJ hX)
    · intro done us W hJ hdep haft hnot b hb hb' K hK Q'
      simp only [List.getD_cons_succ, List.getD_cons_zero, List.mem_cons, List.not_mem_nil, or_false, forall_eq] at hdep
      have e33 := hb 4 33 rfl
      have d4 := hdep
      clear hb hb' hdep 
      go_simp
      refine (reducedX d4.1 (by omega)).mono ?_
      rintro e w' ⟨v, rfl, hv, hX⟩
      exact hK _ _ (hv.numx d4.1.fit) (fun j u _ h => hmono _ _ j u hX h) (Ext.trans hJ hX)
  · intro us W hV hJ
    exact hend (us 0) (us 1) (us 2) (us 3) (us 4) (us 5) W (hV 0 (by omega)) (hV 1 (by omega)) (hV 2 (by omega)) (hV 3 (by omega)) (hV 4 (by omega)) (hV 5 (by omega)) hJ
set_option maxRecDepth 100000 in
set_option maxHeartbeats 16000000 in
theorem misfit_ok (S : Nat) (A : Option Addr) (n c : Nat) (ms : List Mt) (gt ot ct : Nat) (u : Nat → Rat) (w : World) (h : MsAt w A n ms) (hv : VP (S : Int) ms) (hS : ShP RatG w gt ot S u) (hf : FitQW (misfit (3 * S) ms u)) :
    Calls Try.prog 50 #[.agg #[.int .i64 (S : Int), .slice A n c], .slice (some ⟨gt, ot, none⟩) S ct] w (fun e w' => ∃ v, e = .returned (.tuple #[v, .int .i64 0]) ∧ RatC w' v (misfit (3 * S) ms u) ∧ Ext w w') := by
  have H := Lib.hid h
  have HV := Lib.hid hv
  clear h hv
  have hXe : Ext w ((w.alloc (.cells #[.int .i64 (S : Int), .slice A n c] 76)).alloc (.cells #[.bool false, .slice none 0 0, .slice none 0 0] 97)) := ((Ext.refl w).alloc _).alloc _
  have kP : Blk ((w.alloc (.cells #[.int .i64 (S : Int), .slice A n c] 76)).alloc (.cells #[.bool false, .slice none 0 0, .slice none 0 0] 97)) w.heap.size 76 #[.int .i64 (S : Int), .slice A n c] := Blk.alloc (Blk.new w _ _) _
  have kR : Blk ((w.alloc (.cells #[.int .i64 (S : Int), .slice A n c] 76)).alloc (.cells #[.bool false, .slice none 0 0, .slice none 0 0] 97)) (w.heap.size + 1) 97 #[.bool false, .slice none 0 0, .slice none 0 0] := Blk.at_ (by simp)
  go_enter Try.func50, Try.ntmps50
  go_upto_region 1 with (fail)
  generalize (w.alloc (.cells #[.int .i64 (S : Int), .slice A n c] 76)).alloc (.cells #[.bool false, .slice none 0 0, .slice none 0 0] 97) = w1 at hXe kP kR ⊢
  have HX := Lib.hid hXe
  have HP := Lib.hid kP
  have HR := Lib.hid kR
  clear hXe kP kR
  have p0 := HP.out.cell 0
  have p1 := HP.out.cell 1
  simp only [List.getElem?_toArray, List.getElem?_cons_zero, List.getElem?_cons_succ] at p0 p1
  go_wp2_with fail
  have HS0 := Lib.hid hS
  have HF := Lib.hid hf
  have HVM := Lib.hid HV.out.2.2.2
  have HL := Lib.hid H.out.1
  have hn64 : n ≤ 64 := by have := HV.out.2.2.1; have := HL.out; omega
  clear hS hf
  refine (rdP_ok S A n c ms gt ot ct u _ (H.out.ext HX.out) HV.out (HS0.out.ext growsG HX.out)).mono ?_
  rintro e w2 ⟨go, rfl, hgo, hS, hX⟩
  have HS := Lib.hid hS
  replace HX := Lib.hid (HX.out.trans hX)
  replace HP := Lib.hid (HP.out.ext hX)
  replace HR := Lib.hid (HR.out.ext hX)
  clear hS hX p0 p1 hgo
  go_wp2_with fail
  refine (intX 0 _ (by omega) (by omega)).mono ?_
  rintro e w3 ⟨v3, rfl, hv, hX⟩
  obtain ⟨s0, A0, l0, c0, B0, m0, k0, rfl⟩ := NumX.open hv
  replace HX := Lib.hid (HX.out.trans hX)
  replace HP := Lib.hid (HP.out.ext hX)
  replace HR := Lib.hid (HR.out.ext hX)
  replace HS := Lib.hid (HS.out.ext (growsNum 256) hX)
  have HN := Lib.hid hv
  clear hv hX
  go_upto_region 5 with (fail)
  have hXa : Ext w3 (w3.alloc (.cells #[.bool s0, .slice A0 l0 c0, .slice B0 m0 k0] 217)) := (Ext.refl _).alloc _
  have kS := Blk.new w3 217 #[.bool s0, .slice A0 l0 c0, .slice B0 m0 k0]
  have hrl := HR.out.lt
  have hgl := HS.out.low (by have := HV.out.1; omega)
  replace HX := Lib.hid (HX.out.trans hXa)
  replace HP := Lib.hid (HP.out.ext hXa)
  replace HR := Lib.hid (HR.out.ext hXa)
  replace HS := Lib.hid (HS.out.ext (growsNum 256) hXa)
  replace HN : Hid (NumX _ (.agg #[.bool s0, .slice A0 l0 c0, .slice B0 m0 k0]) (misfit (3 * S) (ms.take 0) u) (2 + 0 * 3103)) := Lib.hid (HN.out.ext hXa)
  clear hXa
  generalize w3.alloc (.cells #[.bool s0, .slice A0 l0 c0, .slice B0 m0 k0] 217) = w4 at kS HX HP HR HS HN ⊢
  generalize w3.heap.size = gs at kS hrl hgl ⊢
  have KS := Lib.hid kS
  clear kS
  have p1 := HP.out.cell 1
  simp only [List.getElem?_toArray, List.getElem?_cons_zero, List.getElem?_cons_succ] at p1
  go_wp2_with fail
  clear p1
  go_loopg [25] n (fun f iv wr => ∃ (k : Nat) (s0 : Bool) (A0 B0 : Option Addr) (l0 c0 m0 k0 : Nat), f = n - k ∧ k ≤ n ∧ iv = .int .i64 (k : Int) ∧ Hid (NumX wr (.agg #[.bool s0, .slice A0 l0 c0, .slice B0 m0 k0]) (misfit (3 * S) (ms.take k) u) (2 + k * 3103)) ∧ Hid (Blk wr gs 217 #[.bool s0, .slice A0 l0 c0, .slice B0 m0 k0]) ∧ Hid (Blk wr (w.heap.size + 1) 97 #[.bool false, .slice none 0 0, .slice none 0 0]) ∧ Hid (Ext w wr) ∧ Hid (ShP (fun w v q => NumX w v q 256) wr go 0 S u))
  case atStart => exact ⟨0, s0, A0, B0, l0, c0, m0, k0, rfl, by omega, rfl, HN, KS, HR, HX, HS⟩
  case round =>
    clear HN KS HR HX HS
    obtain ⟨k, s0, A0, B0, l0, c0, m0, k0, rfl, hk, rfl, HN, KS, HR, HX, HS⟩ := hrel
    by_cases hlt : k < n
    · have q1 : decide (k < n) = true := decide_eq_true hlt
      obtain ⟨g, o, ⟨a, b, x, y, z, d, ww⟩, rfl, hm, hmem, x0, x1, x2, x3, x4, x5, x6⟩ := (H.out.ext HX.out).get hlt
      simp only at x0 x1 x2 x3 x4 x5 x6
      have HTK := Lib.hid (misfit_take (n := 3 * S) (u := u) hm)
      have HMM := Lib.hid (HVM.out _ hmem)
      clear hm hmem
      go_upto_region 8 with (fail)
      have hXa : Ext wr (wr.alloc (.cells #[.int .i64 (a), .int .i64 (b), .int .i64 (x), .int .i64 (y), .int .i64 (z), .int .i64 (d), .int .i64 (ww)] 90)) := (Ext.refl _).alloc _
      have kM := Blk.new wr 90 #[.int .i64 (a), .int .i64 (b), .int .i64 (x), .int .i64 (y), .int .i64 (z), .int .i64 (d), .int .i64 (ww)]
      replace HX := Lib.hid (HX.out.trans hXa)
      replace HR := Lib.hid (HR.out.ext hXa)
      replace KS := Lib.hid (KS.out.ext hXa)
      replace HN := Lib.hid (HN.out.ext hXa)
      replace HS := Lib.hid (HS.out.ext (growsNum 256) hXa)
      clear hXa x0 x1 x2 x3 x4 x5 x6
      generalize wr.heap.size = gm at kM ⊢
      generalize wr.alloc (.cells #[.int .i64 (a), .int .i64 (b), .int .i64 (x), .int .i64 (y), .int .i64 (z), .int .i64 (d), .int .i64 (ww)] 90) = w5 at kM HX HR KS HN HS ⊢
      refine misfit_r8 gs go 0 S S gm 256 (2 + k * 3103) a b x y z d ww u s0 A0 B0 l0 c0 m0 k0 _ w5 (KS.out.cell 0) (KS.out.cell 1) (KS.out.cell 2) (kM.cell 0) (kM.cell 1) (kM.cell 2) (kM.cell 3) (kM.cell 4) (kM.cell 5) (kM.cell 6) HS.out HMM.out HN.out (by omega) (by omega) _ _ (by simp) rfl rfl rfl ?_
      rintro xv0 xv1 xv2 xv3 xv4 xv5 W rfl rfl rfl _ _ hv hX
      simp only [rops, Try.f50, regOf, Option.bind_some, Nat.reduceBEq, if_true, if_false, Bool.false_eq_true, Option.getD_some, List.drop_succ_cons, List.drop_zero]
      simp only [Act.put, List.setIfInBounds_toArray, List.set_cons_succ, List.set_cons_zero]
      clear kM HN
      obtain ⟨s4, A4, l4, c4, B4, m4, k4, rfl⟩ := NumX.open hv
      have HN := Lib.hid hv
      replace HX := Lib.hid (HX.out.trans hX)
      replace HR := Lib.hid (HR.out.ext hX)
      replace KS := Lib.hid (KS.out.ext hX)
      replace HS := Lib.hid (HS.out.ext (growsNum 256) hX)
      clear hv hX
      obtain ⟨r0, r1, r2, f0, f1, f2⟩ := KS.out.three
      have HNI := Lib.hid (NoInts.three KS.out)
      go_wp2
      go_roundg (n - (k + 1))
      case rel =>
        refine ⟨k + 1, s4, A4, B4, l4, c4, m4, k4, rfl, by omega, by go_num, Lib.hid ?_, Lib.hid (((KS.out.set 0 _).set 1 _).set 2 _), Lib.hid (((HR.out.far (by simp only; omega) _).far (by simp only; omega) _).far (by simp only; omega) _), Lib.hid (Ext.boxed HX.out (by omega) _ _ _), Lib.hid (ShP.keeps (staysNum 256) HS.out ((((Keeps.refl [gs] W).setCell (.inl (by simp)) _).setCell (.inl (by simp)) _).setCell (.inl (by simp)) _) (fun g hg => by simp at hg; subst hg; exact HNI.out) (by simp; omega))⟩
        rw [HTK.out]
        exact (HN.out.mono (show 2 + k * 3103 + (12 * 256 + 30) + 1 ≤ 2 + (k + 1) * 3103 by omega)).boxed HNI.out _ _ _ _ _ _ _
      case measure => omega
    · obtain rfl : k = n := by omega
      have q1 : decide (k < k) = false := by simp
      have HTK : Hid (ms.take k = ms) := Lib.hid (List.take_of_length_le (by have := HL.out; omega))
      rw [HTK.out] at HN
      obtain ⟨r0, r1, r2, f0, f1, f2⟩ := KS.out.three
      clear f0 f1 f2
      go_wp2_with fail
      refine (doneG HN.out (by omega) HF.out).mono ?_
      rintro e w5 ⟨v5, rfl, hv, hX⟩
      obtain ⟨s4, A4, l4, c4, B4, m4, k4, rfl⟩ := RatC.open hv
      have HC := Lib.hid hv
      replace HX := Lib.hid (HX.out.trans hX)
      replace HR := Lib.hid (HR.out.ext hX)
      clear hv hX r0 r1 r2
      obtain ⟨r0, r1, r2, f0, f1, f2⟩ := HR.out.three
      have HNI := Lib.hid (NoInts.three HR.out)
      go_wp2
      refine bodyPost_ret (v := .tuple #[.agg #[.bool s4, .slice A4 l4 c4, .slice B4 m4 k4], .int .i64 0]) (by simp [results, Try.results50, go_sem, *]) rfl ?_
      exact ⟨_, rfl, staysC _ _ _ _ _ HC.out ((((Keeps.refl [w.heap.size + 1] w5).setCell (.inl (by simp)) _).setCell (.inl (by simp)) _).setCell (.inl (by simp)) _) (fun g hg => by simp at hg; subst hg; exact HNI.out), Ext.boxed HX.out (by omega) _ _ _⟩

end Go.Proofs.Ytikhlcgnlbinfaa
namespace Go.Proofs.Ytikhlcgnlbinfaa
open Go.RowKit

def fstM : List Mt := [⟨0, -1, 0, 0, 1, 0, 1⟩, ⟨0, -1, 0, 0, 1, 30, 2⟩]
theorem fst_sol : solP (3 * 1) fstM 2 = ((-20 : Int) : Rat) := by decide +kernel
theorem fst_mis : misfit (3 * 1) fstM (solP (3 * 1) fstM) = ((600 : Int) : Rat) := by decide +kernel
theorem fst_vp : VP ((1 : Nat) : Int) fstM := vpB_iff.1 (by decide +kernel)
theorem fitQ_small' {z : Int} (h0 : -9223372036854775808 ≤ z) (h1 : z ≤ 9223372036854775807) : FitQW ((z : Int) : Rat) := FitQW.of4 (fitQ_small h0 h1) (by omega)

set_option maxRecDepth 100000 in
set_option maxHeartbeats 2000000 in
theorem first_r3 (go : Nat) (su : Bool) (Au Bu : Option Addr) (lu cu mu ku : Nat) (w : World) (x0 : w.cell? ⟨go, 6, none⟩ = some (.bool su)) (x1 : w.cell? ⟨go, 6 + 1, none⟩ = some (.slice Au lu cu)) (x2 : w.cell? ⟨go, 6 + 2, none⟩ = some (.slice Bu mu ku)) (hx : RatC w (.agg #[.bool su, .slice Au lu cu, .slice Bu mu ku]) ((-20 : Int) : Rat)) (a : Act) (Q : Exit → Act → World → Prop) (hsize : 33 ≤ a.tmps.size)
    (s2 : a.tmps[2]? = some (.slice (some ⟨go, 0, none⟩) 1 1))
    (s3 : a.tmps[3]? = some (.int .i64 (0)))
    (hend : ∀ (xv0 xv1 xv2 xv3 xv4 xv5 xv6 xv7 xv8 xv9 xv10 xv11 xv12 xv13 xv14 xv15 : Value) (W : World), (xv0 = .int .i64 (0)) → (xv1 = .bool false) → (xv2 = .bool false) → (xv3 = .slice (some ⟨go, 0, none⟩) 1 1) → (xv4 = .int .i64 (1)) → (xv5 = .bool false) → (xv6 = .bool false) → (xv7 = .bool false) → (xv8 = .slice (some ⟨go, 0, none⟩) 1 1) → (xv9 = .pointer (some ⟨go, 0, none⟩)) → (xv10 = .pointer (some ⟨go, 6, none⟩)) → (xv11 = .agg #[.bool su, .slice Au lu cu, .slice Bu mu ku]) → (QZ W xv12 ((-20 : Int) : Rat)) → (xv13 = .bool true) → (xv14 = .bool false) → (xv15 = .bool false) → Ext w W → wpList Try.prog (rops Try.f39 3).toArray Q ((rops Try.f39 3).drop 16) ((((((((((((((((a.put (some 17) xv0).put (some 18) xv1).put (some 19) xv2).put (some 20) xv3).put (some 21) xv4).put (some 22) xv5).put (some 23) xv6).put (some 24) xv7).put (some 25) xv8).put (some 26) xv9).put (some 27) xv10).put (some 28) xv11).put (some 29) xv12).put (some 30) xv13).put (some 31) xv14).put (some 32) xv15) W) :
    (Code.region 3 (rops Try.f39 3).toArray true).wp Try.prog Q a w := by
  have hmono : ∀ (W W' : World) (j : Nat) (u : Value), Ext W W' → (fun (i : Nat) (v : Value) (W : World) => match i with
    | 0 => v = .int .i64 (0)
    | 1 => v = .bool false
    | 2 => v = .bool false
    | 3 => v = .slice (some ⟨go, 0, none⟩) 1 1
    | 4 => v = .int .i64 (1)
    | 5 => v = .bool false
    | 6 => v = .bool false
    | 7 => v = .bool false
    | 8 => v = .slice (some ⟨go, 0, none⟩) 1 1
    | 9 => v = .pointer (some ⟨go, 0, none⟩)
    | 10 => v = .pointer (some ⟨go, 6, none⟩)
    | 11 => v = .agg #[.bool su, .slice Au lu cu, .slice Bu mu ku]
    | 12 => QZ W v ((-20 : Int) : Rat)
    | 13 => v = .bool true
    | 14 => v = .bool false
    | 15 => v = .bool false
    | _ => True) j u W → (fun (i : Nat) (v : Value) (W : World) => match i with
    | 0 => v = .int .i64 (0)
    | 1 => v = .bool false
    | 2 => v = .bool false
    | 3 => v = .slice (some ⟨go, 0, none⟩) 1 1
    | 4 => v = .int .i64 (1)
    | 5 => v = .bool false
    | 6 => v = .bool false
    | 7 => v = .bool false
    | 8 => v = .slice (some ⟨go, 0, none⟩) 1 1
    | 9 => v = .pointer (some ⟨go, 0, none⟩)
    | 10 => v = .pointer (some ⟨go, 6, none⟩)
    | 11 => v = .agg #[.bool su, .slice Au lu cu, .slice Bu mu ku]
    | 12 => QZ W v ((-20 : Int) : Rat)
    | 13 => v = .bool true
    | 14 => v = .bool false
    | 15 => v = .bool false
    | _ => True) j u W' := by
    intro W W' j u hX h
    match j, h with
    | 0, h => exact h
    | 1, h => exact h
    | 2, h => exact h
    | 3, h => exact h
    | 4, h => exact h
    | 5, h => exact h
    | 6, h => exact h
    | 7, h => exact h
    | 8, h => exact h
    | 9, h => exact h
    | 10, h => exact h
    | 11, h => exact h
    | 12, h => exact QZ.ext h hX
    | 13, h => exact h
    | 14, h => exact h
    | 15, h => exact h
    | _ + 16, h => exact h
  have hsz : ∀ d, some d ∈ ([some 17, some 18, some 19, some 20, some 21, some 22, some 23, some 24, some 25, some 26, some 27, some 28, some 29, some 30, some 31, some 32] : List (Option Tmp)) → d < a.tmps.size := slots_lt (by decide) hsize
  refine wp_region_j 16 [some 17, some 18, some 19, some 20, some 21, some 22, some 23, some 24, some 25, some 26, some 27, some 28, some 29, some 30, some 31, some 32] [[], [0], [1], [2], [2, 3], [2, 4], [2, 5], [6], [7], [7, 8], [7, 9], [7, 10], [7], [7, 11, 12], [7, 13], [7, 14]] [[], [], [], [], [], [], [], [], [], [], [], [], [], [], [], []] (fun (i : Nat) (v : Value) (W : World) => match i with
    | 0 => v = .int .i64 (0)
    | 1 => v = .bool false
    | 2 => v = .bool false
    | 3 => v = .slice (some ⟨go, 0, none⟩) 1 1
    | 4 => v = .int .i64 (1)
    | 5 => v = .bool false
    | 6 => v = .bool false
    | 7 => v = .bool false
    | 8 => v = .slice (some ⟨go, 0, none⟩) 1 1
    | 9 => v = .pointer (some ⟨go, 0, none⟩)
    | 10 => v = .pointer (some ⟨go, 6, none⟩)
    | 11 => v = .agg #[.bool su, .slice Au lu cu, .slice Bu mu ku]
    | 12 => QZ W v ((-20 : Int) : Rat)
    | 13 => v = .bool true
    | 14 => v = .bool false
    | 15 => v = .bool false
    | _ => True) (fun _ W => Ext w W) (by kernel_rfl) (by kernel_rfl) hsz (fun _ _ _ _ h => h) ((Ext.refl w).drew) ?_ ?_
  · clear hend
    simp only [rops, Try.f39, regOf, Option.bind_some, Nat.reduceBEq, if_true, if_false, Bool.false_eq_true, Option.getD_some]
    simp only [List.take_succ_cons, List.take_zero]
    refine ⟨?_, ?_, ?_, ?_, ?_, ?_, ?_, ?_, ?_, ?_, ?_, ?_, ?_, ?_, ?_, ?_, trivial⟩
    · intro done us W hJ hdep haft hnot b hb hb' K hK Q'
      have e3 := (hb' 3 (by simp)).trans s3
      clear hb hb'
      go_simp
      exact hK _ _ rfl (fun _ _ _ h => h) hJ
    · intro done us W hJ hdep haft hnot b hb hb' K hK Q'
      simp only [List.getD_cons_succ, List.getD_cons_zero, List.mem_cons, List.not_mem_nil, or_false, forall_eq] at hdep
      have e17 := hb 0 17 rfl
      have d0 := hdep
      rw [d0.1] at e17
      clear hb hb' hdep d0
      go_simp
      exact hK _ _ rfl (fun _ _ _ h => h) hJ
    · intro done us W hJ hdep haft hnot b hb hb' K hK Q'
      simp only [List.getD_cons_succ, List.getD_cons_zero, List.mem_cons, List.not_mem_nil, or_false, forall_eq] at hdep
      have e18 := hb 1 18 rfl
      have d1 := hdep
      rw [d1.1] at e18
      clear hb hb' hdep d1
      go_simp
      exact hK _ _ rfl (fun _ _ _ h => h) hJ
    · intro done us W hJ hdep haft hnot b hb hb' K hK Q'
      simp only [List.getD_cons_succ, List.getD_cons_zero, List.mem_cons, List.not_mem_nil, or_false, forall_eq] at hdep
      have e2 := (hb' 2 (by simp)).trans s2
      have e19 := hb 2 19 rfl
      have d2 := hdep
      rw [d2.1] at e19
      clear hb hb' hdep d2
      go_simp
      exact hK _ _ rfl (fun _ _ _ h => h) hJ
    · intro done us W hJ hdep haft hnot b hb hb' K hK Q'
      simp only [List.getD_cons_succ, List.getD_cons_zero, List.mem_cons, List.not_mem_nil, or_false, forall_eq_or_imp, forall_eq] at hdep
      have e19 := hb 2 19 rfl
      have e20 := hb 3 20 rfl
      have d2 := hdep.1
      have d3 := hdep.2
      rw [d2.1] at e19
      rw [d3.1] at e20
      clear hb hb' hdep d2 d3
      go_simp
      exact hK _ _ rfl (fun _ _ _ h => h) hJ
    · intro done us W hJ hdep haft hnot b hb hb' K hK Q'
      simp only [List.getD_cons_succ, List.getD_cons_zero, List.mem_cons, List.not_mem_nil, or_false, forall_eq_or_imp, forall_eq] at hdep
      have e19 := hb 2 19 rfl
      have e21 := hb 4 21 rfl
      have d2 := hdep.1
      have d4 := hdep.2
      rw [d2.1] at e19
      rw [d4.1] at e21
      clear hb hb' hdep d2 d4
      go_simp
      exact hK _ _ rfl (fun _ _ _ h => h) hJ
    · intro done us W hJ hdep haft hnot b hb hb' K hK Q'
      simp only [List.getD_cons_succ, List.getD_cons_zero, List.mem_cons, List.not_mem_nil, or_false, forall_eq_or_imp, forall_eq] at hdep
      have e19 := hb 2 19 rfl
      have e22 := hb 5 22 rfl
      have d2 := hdep.1
      have d5 := hdep.2
      rw [d2.1] at e19
      rw [d5.1] at e22
      clear hb hb' hdep d2 d5
      go_simp
      exact hK _ _ rfl (fun _ _ _ h => h) hJ
    · intro done us W hJ hdep haft hnot b hb hb' K hK Q'
      simp only [List.getD_cons_succ, List.getD_cons_zero, List.mem_cons, List.not_mem_nil, or_false, forall_eq] at hdep
      have e23 := hb 6 23 rfl
      have d6 := hdep
      rw [d6.1] at e23
      clear hb hb' hdep d6
      go_simp
      exact hK _ _ rfl (fun _ _ _ h => h) hJ
    · intro done us W hJ hdep haft hnot b hb hb' K hK Q'
      simp only [List.getD_cons_succ, List.getD_cons_zero, List.mem_cons, List.not_mem_nil, or_false, forall_eq] at hdep
      have e2 := (hb' 2 (by simp)).trans s2
      have e24 := hb 7 24 rfl
      have d7 := hdep
      rw [d7.1] at e24
      clear hb hb' hdep d7
      go_simp
      exact hK _ _ rfl (fun _ _ _ h => h) hJ
    · intro done us W hJ hdep haft hnot b hb hb' K hK Q'
      simp only [List.getD_cons_succ, List.getD_cons_zero, List.mem_cons, List.not_mem_nil, or_false, forall_eq_or_imp, forall_eq] at hdep
      have e24 := hb 7 24 rfl
      have e25 := hb 8 25 rfl
      have d7 := hdep.1
      have d8 := hdep.2
      rw [d7.1] at e24
      rw [d8.1] at e25
      clear hb hb' hdep d7 d8
      go_simp
      exact hK _ _ rfl (fun _ _ _ h => h) hJ
    · intro done us W hJ hdep haft hnot b hb hb' K hK Q'
      simp only [List.getD_cons_succ, List.getD_cons_zero, List.mem_cons, List.not_mem_nil, or_false, forall_eq_or_imp, forall_eq] at hdep
      have e24 := hb 7 24 rfl
      have e26 := hb 9 26 rfl
      have d7 := hdep.1
      have d9 := hdep.2
      rw [d7.1] at e24
      rw [d9.1] at e26
      clear hb hb' hdep d7 d9
      go_simp
      exact hK _ _ rfl (fun _ _ _ h => h) hJ
    · intro done us W hJ hdep haft hnot b hb hb' K hK Q'
      simp only [List.getD_cons_succ, List.getD_cons_zero, List.mem_cons, List.not_mem_nil, or_false, forall_eq_or_imp, forall_eq] at hdep
      have e24 := hb 7 24 rfl
      have e27 := hb 10 27 rfl
      have d7 := hdep.1
      have d10 := hdep.2
      rw [d7.1] at e24
      rw [d10.1] at e27
      clear hb hb' hdep d7 d10
      have z0 := Ext.cell hJ x0
      have z1 := Ext.cell hJ x1
      have z2 := Ext.cell hJ x2
      go_simp
      exact hK _ _ rfl (fun _ _ _ h => h) hJ
    · intro done us W hJ hdep haft hnot b hb hb' K hK Q'
      simp only [List.getD_cons_succ, List.getD_cons_zero, List.mem_cons, List.not_mem_nil, or_false, forall_eq] at hdep
      have e24 := hb 7 24 rfl
      have d7 := hdep
      rw [d7.1] at e24
      clear hb hb' hdep d7
      go_simp
      refine (whole_any (-20) _ (by omega) (by omega)).mono ?_
      rintro e w' ⟨v, rfl, hv, hX⟩
      exact hK _ _ hv (fun j u _ h => hmono _ _ j u hX h) (Ext.trans hJ hX)
    · intro done us W hJ hdep haft hnot b hb hb' K hK Q'
      simp only [List.getD_cons_succ, List.getD_cons_zero, List.mem_cons, List.not_mem_nil, or_false, forall_eq_or_imp, forall_eq] at hdep
      have e24 := hb 7 24 rfl
      have e28 := hb 11 28 rfl
      have e29 := hb 12 29 rfl
      have d7 := hdep.1
      have d11 := hdep.2.1
      have d12 := hdep.2.2
      rw [d7.1] at e24
      rw [d11.1] at e28
      clear hb hb' hdep d7 d11
      go_simp
      refine (same_any (hx.ext hJ) d12.1 (fitQ_small' (by omega) (by omega))).mono ?_
      rintro e w' ⟨rfl, hX⟩
      exact hK _ _ rfl (fun j u _ h => hmono _ _ j u hX h) (Ext.trans hJ hX)
    · intro done us W hJ hdep haft hnot b hb hb' K hK Q'
      simp only [List.getD_cons_succ, List.getD_cons_zero, List.mem_cons, List.not_mem_nil, or_false, forall_eq_or_imp, forall_eq] at hdep
      have e24 := hb 7 24 rfl
      have e30 := hb 13 30 rfl
      have d7 := hdep.1
      have d13 := hdep.2
      rw [d7.1] at e24
      rw [d13.1] at e30
      clear hb hb' hdep d7 d13
      go_simp
      exact hK _ _ rfl (fun _ _ _ h => h) hJ
    · intro done us W hJ hdep haft hnot b hb hb' K hK Q'
      simp only [List.getD_cons_succ, List.getD_cons_zero, List.mem_cons, List.not_mem_nil, or_false, forall_eq_or_imp, forall_eq] at hdep
      have e24 := hb 7 24 rfl
      have e31 := hb 14 31 rfl
      have d7 := hdep.1
      have d14 := hdep.2
      rw [d7.1] at e24
      rw [d14.1] at e31
      clear hb hb' hdep d7 d14
      go_simp
      exact hK _ _ rfl (fun _ _ _ h => h) hJ
  · intro us W hV hJ
    exact hend (us 0) (us 1) (us 2) (us 3) (us 4) (us 5) (us 6) (us 7) (us 8) (us 9) (us 10) (us 11) (us 12) (us 13) (us 14) (us 15) W (hV 0 (by omega)) (hV 1 (by omega)) (hV 2 (by omega)) (hV 3 (by omega)) (hV 4 (by omega)) (hV 5 (by omega)) (hV 6 (by omega)) (hV 7 (by omega)) (hV 8 (by omega)) (hV 9 (by omega)) (hV 10 (by omega)) (hV 11 (by omega)) (hV 12 (by omega)) (hV 13 (by omega)) (hV 14 (by omega)) (hV 15 (by omega)) hJ
set_option maxRecDepth 100000 in
set_option maxHeartbeats 2000000 in
theorem first_r6 (gx : Nat) (su : Bool) (Au Bu : Option Addr) (lu cu mu ku : Nat) (w : World) (x0 : w.cell? ⟨gx, 0, none⟩ = some (.bool su)) (x1 : w.cell? ⟨gx, 1, none⟩ = some (.slice Au lu cu)) (x2 : w.cell? ⟨gx, 2, none⟩ = some (.slice Bu mu ku)) (hx : RatC w (.agg #[.bool su, .slice Au lu cu, .slice Bu mu ku]) ((600 : Int) : Rat)) (a : Act) (Q : Exit → Act → World → Prop) (hsize : 46 ≤ a.tmps.size)
    (s4 : a.tmps[4]? = some (.pointer (some ⟨gx, 0, none⟩)))
    (s5 : a.tmps[5]? = some (.int .i64 (0)))
    (hend : ∀ (xv0 xv1 xv2 xv3 xv4 xv5 xv6 xv7 : Value) (W : World), (xv0 = .int .i64 (0)) → (xv1 = .bool true) → (xv2 = .bool true) → (xv3 = .agg #[.bool su, .slice Au lu cu, .slice Bu mu ku]) → (QZ W xv4 ((600 : Int) : Rat)) → (xv5 = .bool true) → (xv6 = .bool true) → (xv7 = .bool true) → Ext w W → wpList Try.prog (rops Try.f39 6).toArray Q ((rops Try.f39 6).drop 8) ((((((((a.put (some 39) xv0).put (some 40) xv1).put (some 41) xv2).put (some 42) xv3).put (some 43) xv4).put (some 44) xv5).put (some 45) xv6).put (some 0) xv7) W) :
    (Code.region 6 (rops Try.f39 6).toArray true).wp Try.prog Q a w := by
  have hmono : ∀ (W W' : World) (j : Nat) (u : Value), Ext W W' → (fun (i : Nat) (v : Value) (W : World) => match i with
    | 0 => v = .int .i64 (0)
    | 1 => v = .bool true
    | 2 => v = .bool true
    | 3 => v = .agg #[.bool su, .slice Au lu cu, .slice Bu mu ku]
    | 4 => QZ W v ((600 : Int) : Rat)
    | 5 => v = .bool true
    | 6 => v = .bool true
    | 7 => v = .bool true
    | _ => True) j u W → (fun (i : Nat) (v : Value) (W : World) => match i with
    | 0 => v = .int .i64 (0)
    | 1 => v = .bool true
    | 2 => v = .bool true
    | 3 => v = .agg #[.bool su, .slice Au lu cu, .slice Bu mu ku]
    | 4 => QZ W v ((600 : Int) : Rat)
    | 5 => v = .bool true
    | 6 => v = .bool true
    | 7 => v = .bool true
    | _ => True) j u W' := by
    intro W W' j u hX h
    match j, h with
    | 0, h => exact h
    | 1, h => exact h
    | 2, h => exact h
    | 3, h => exact h
    | 4, h => exact QZ.ext h hX
    | 5, h => exact h
    | 6, h => exact h
    | 7, h => exact h
    | _ + 8, h => exact h
  have hsz : ∀ d, some d ∈ ([some 39, some 40, some 41, some 42, some 43, some 44, some 45, some 0] : List (Option Tmp)) → d < a.tmps.size := slots_lt (by decide) hsize
  refine wp_region_j 8 [some 39, some 40, some 41, some 42, some 43, some 44, some 45, some 0] [[], [0], [1], [2], [2], [2, 3, 4], [2, 5], [6]] [[], [], [], [], [], [], [], []] (fun (i : Nat) (v : Value) (W : World) => match i with
    | 0 => v = .int .i64 (0)
    | 1 => v = .bool true
    | 2 => v = .bool true
    | 3 => v = .agg #[.bool su, .slice Au lu cu, .slice Bu mu ku]
    | 4 => QZ W v ((600 : Int) : Rat)
    | 5 => v = .bool true
    | 6 => v = .bool true
    | 7 => v = .bool true
    | _ => True) (fun _ W => Ext w W) (by kernel_rfl) (by kernel_rfl) hsz (fun _ _ _ _ h => h) ((Ext.refl w).drew) ?_ ?_
  · clear hend
    simp only [rops, Try.f39, regOf, Option.bind_some, Nat.reduceBEq, if_true, if_false, Bool.false_eq_true, Option.getD_some]
    simp only [List.take_succ_cons, List.take_zero]
    refine ⟨?_, ?_, ?_, ?_, ?_, ?_, ?_, ?_, trivial⟩
    · intro done us W hJ hdep haft hnot b hb hb' K hK Q'
      have e5 := (hb' 5 (by simp)).trans s5
      clear hb hb'
      go_simp
      exact hK _ _ rfl (fun _ _ _ h => h) hJ
    · intro done us W hJ hdep haft hnot b hb hb' K hK Q'
      simp only [List.getD_cons_succ, List.getD_cons_zero, List.mem_cons, List.not_mem_nil, or_false, forall_eq] at hdep
      have e39 := hb 0 39 rfl
      have d0 := hdep
      rw [d0.1] at e39
      clear hb hb' hdep d0
      go_simp
      exact hK _ _ rfl (fun _ _ _ h => h) hJ
    · intro done us W hJ hdep haft hnot b hb hb' K hK Q'
      simp only [List.getD_cons_succ, List.getD_cons_zero, List.mem_cons, List.not_mem_nil, or_false, forall_eq] at hdep
      have e40 := hb 1 40 rfl
      have d1 := hdep
      rw [d1.1] at e40
      clear hb hb' hdep d1
      go_simp
      exact hK _ _ rfl (fun _ _ _ h => h) hJ
    · intro done us W hJ hdep haft hnot b hb hb' K hK Q'
      simp only [List.getD_cons_succ, List.getD_cons_zero, List.mem_cons, List.not_mem_nil, or_false, forall_eq] at hdep
      have e4 := (hb' 4 (by simp)).trans s4
      have e41 := hb 2 41 rfl
      have d2 := hdep
      rw [d2.1] at e41
      clear hb hb' hdep d2
      have z0 := Ext.cell hJ x0
      have z1 := Ext.cell hJ x1
      have z2 := Ext.cell hJ x2
      go_simp
      exact hK _ _ rfl (fun _ _ _ h => h) hJ
    · intro done us W hJ hdep haft hnot b hb hb' K hK Q'
      simp only [List.getD_cons_succ, List.getD_cons_zero, List.mem_cons, List.not_mem_nil, or_false, forall_eq] at hdep
      have e41 := hb 2 41 rfl
      have d2 := hdep
      rw [d2.1] at e41
      clear hb hb' hdep d2
      go_simp
      refine (whole_any 600 _ (by omega) (by omega)).mono ?_
      rintro e w' ⟨v, rfl, hv, hX⟩
      exact hK _ _ hv (fun j u _ h => hmono _ _ j u hX h) (Ext.trans hJ hX)
    · intro done us W hJ hdep haft hnot b hb hb' K hK Q'
      simp only [List.getD_cons_succ, List.getD_cons_zero, List.mem_cons, List.not_mem_nil, or_false, forall_eq_or_imp, forall_eq] at hdep
      have e41 := hb 2 41 rfl
      have e42 := hb 3 42 rfl
      have e43 := hb 4 43 rfl
      have d2 := hdep.1
      have d3 := hdep.2.1
      have d4 := hdep.2.2
      rw [d2.1] at e41
      rw [d3.1] at e42
      clear hb hb' hdep d2 d3
      go_simp
      refine (same_any (hx.ext hJ) d4.1 (fitQ_small' (by omega) (by omega))).mono ?_
      rintro e w' ⟨rfl, hX⟩
      exact hK _ _ rfl (fun j u _ h => hmono _ _ j u hX h) (Ext.trans hJ hX)
    · intro done us W hJ hdep haft hnot b hb hb' K hK Q'
      simp only [List.getD_cons_succ, List.getD_cons_zero, List.mem_cons, List.not_mem_nil, or_false, forall_eq_or_imp, forall_eq] at hdep
      have e41 := hb 2 41 rfl
      have e44 := hb 5 44 rfl
      have d2 := hdep.1
      have d5 := hdep.2
      rw [d2.1] at e41
      rw [d5.1] at e44
      clear hb hb' hdep d2 d5
      go_simp
      exact hK _ _ rfl (fun _ _ _ h => h) hJ
    · intro done us W hJ hdep haft hnot b hb hb' K hK Q'
      simp only [List.getD_cons_succ, List.getD_cons_zero, List.mem_cons, List.not_mem_nil, or_false, forall_eq] at hdep
      have e45 := hb 6 45 rfl
      have d6 := hdep
      rw [d6.1] at e45
      clear hb hb' hdep d6
      go_simp
      exact hK _ _ rfl (fun _ _ _ h => h) hJ
  · intro us W hV hJ
    exact hend (us 0) (us 1) (us 2) (us 3) (us 4) (us 5) (us 6) (us 7) W (hV 0 (by omega)) (hV 1 (by omega)) (hV 2 (by omega)) (hV 3 (by omega)) (hV 4 (by omega)) (hV 5 (by omega)) (hV 6 (by omega)) (hV 7 (by omega)) hJ
set_option maxRecDepth 100000 in
set_option maxHeartbeats 4000000 in
theorem first_any (w : World) : Calls Try.prog 39 #[] w (fun e w' => e = .returned (.bool true) ∧ Ext w w') := by
  have hXe : Ext w ((w.alloc (.cells #[.int .i64 0, .int .i64 (-1), .int .i64 0, .int .i64 0, .int .i64 1, .int .i64 0, .int .i64 1, .int .i64 0, .int .i64 (-1), .int .i64 0, .int .i64 0, .int .i64 1, .int .i64 30, .int .i64 2] 90)).alloc (.cells #[.int .i64 1, .slice (some ⟨w.heap.size, 0, none⟩) 2 2] 76)) := ((Ext.refl w).alloc _).alloc _
  have kP : Blk ((w.alloc (.cells #[.int .i64 0, .int .i64 (-1), .int .i64 0, .int .i64 0, .int .i64 1, .int .i64 0, .int .i64 1, .int .i64 0, .int .i64 (-1), .int .i64 0, .int .i64 0, .int .i64 1, .int .i64 30, .int .i64 2] 90)).alloc (.cells #[.int .i64 1, .slice (some ⟨w.heap.size, 0, none⟩) 2 2] 76)) (w.heap.size + 1) 76 #[.int .i64 1, .slice (some ⟨w.heap.size, 0, none⟩) 2 2] := Blk.at_ (by simp)
  have hat : At (w.alloc (.cells #[.int .i64 0, .int .i64 (-1), .int .i64 0, .int .i64 0, .int .i64 1, .int .i64 0, .int .i64 1, .int .i64 0, .int .i64 (-1), .int .i64 0, .int .i64 0, .int .i64 1, .int .i64 30, .int .i64 2] 90)) (some ⟨w.heap.size, 0, none⟩) (mtV fstM) := At.new w [.int .i64 0, .int .i64 (-1), .int .i64 0, .int .i64 0, .int .i64 1, .int .i64 0, .int .i64 1, .int .i64 0, .int .i64 (-1), .int .i64 0, .int .i64 0, .int .i64 1, .int .i64 30, .int .i64 2] 90
  have HM : Hid (MsAt (w.alloc (.cells #[.int .i64 0, .int .i64 (-1), .int .i64 0, .int .i64 0, .int .i64 1, .int .i64 0, .int .i64 1, .int .i64 0, .int .i64 (-1), .int .i64 0, .int .i64 0, .int .i64 1, .int .i64 30, .int .i64 2] 90)) (some ⟨w.heap.size, 0, none⟩) 2 fstM) := Lib.hid ⟨rfl, hat⟩
  have HM2 := Lib.hid (HM.out.ext ((Ext.refl _).alloc (.cells #[.int .i64 1, .slice (some ⟨w.heap.size, 0, none⟩) 2 2] 76)))
  clear hat HM
  go_enter Try.func39, Try.ntmps39
  go_upto_region 2 with (fail)
  generalize ((w.alloc (.cells #[.int .i64 0, .int .i64 (-1), .int .i64 0, .int .i64 0, .int .i64 1, .int .i64 0, .int .i64 1, .int .i64 0, .int .i64 (-1), .int .i64 0, .int .i64 0, .int .i64 1, .int .i64 30, .int .i64 2] 90)).alloc (.cells #[.int .i64 1, .slice (some ⟨w.heap.size, 0, none⟩) 2 2] 76)) = w1 at hXe kP HM2 ⊢
  generalize w.heap.size + 1 = gp at kP ⊢
  generalize w.heap.size = gm at kP HM2 ⊢
  have HX := Lib.hid hXe
  have HP := Lib.hid kP
  have p0 := kP.cell 0
  have p1 := kP.cell 1
  simp only [List.getElem?_toArray, List.getElem?_cons_zero, List.getElem?_cons_succ] at p0 p1
  clear hXe kP
  go_wp2_with fail
  refine (solveP_ok 1 (some ⟨gm, 0, none⟩) 2 2 fstM _ HM2.out fst_vp).mono ?_
  rintro e w2 ⟨go, rfl, _, hS, hX⟩
  clear p0 p1
  replace HX := Lib.hid (HX.out.trans hX)
  replace HP := Lib.hid (HP.out.ext hX)
  replace HM2 := Lib.hid (HM2.out.ext hX)
  have HS := Lib.hid hS
  clear hS hX
  obtain ⟨su, Au, lu, cu, Bu, mu, ku, x0, x1, x2, hx⟩ := HS.out 0 2 (by omega) (by omega)
  simp only [Nat.reduceMul, Nat.reduceAdd] at x0 x1 x2
  rw [show (3 * 0 + 2 : Nat) = 2 from rfl, show (3 : Nat) = 3 * 1 from rfl, fst_sol] at hx
  have HC := Lib.hid hx
  have hX0 := Lib.hid x0
  have hX1 := Lib.hid x1
  have hX2 := Lib.hid x2
  clear hx x0 x1 x2
  go_upto_region 3 with (fail)
  refine first_r3 go su Au Bu lu cu mu ku w2 hX0.out hX1.out hX2.out HC.out _ _ (by simp) rfl rfl ?_
  rintro xv0 xv1 xv2 xv3 xv4 xv5 xv6 xv7 xv8 xv9 xv10 xv11 xv12 xv13 xv14 xv15 W rfl rfl rfl rfl rfl rfl rfl rfl rfl rfl rfl rfl _ rfl rfl rfl hX
  simp only [rops, Try.f39, regOf, Option.bind_some, Nat.reduceBEq, if_true, if_false, Bool.false_eq_true, Option.getD_some, List.drop_succ_cons, List.drop_zero]
  simp only [Act.put, List.setIfInBounds_toArray, List.set_cons_succ, List.set_cons_zero]
  clear hX0 hX1 hX2 HC
  replace HX := Lib.hid (HX.out.trans hX)
  replace HP := Lib.hid (HP.out.ext hX)
  replace HM2 := Lib.hid (HM2.out.ext hX)
  replace HS := Lib.hid (HS.out.ext growsC hX)
  clear hX
  have p0 := HP.out.cell 0
  have p1 := HP.out.cell 1
  simp only [List.getElem?_toArray, List.getElem?_cons_zero, List.getElem?_cons_succ] at p0 p1
  have HF : Hid (FitQW (misfit (3 * 1) fstM (solP (3 * 1) fstM))) := Lib.hid (by rw [fst_mis]; exact fitQ_small' (by omega) (by omega))
  have HFS : Hid (∀ j, FitQW (solP (3 * 1) fstM j)) := Lib.hid (fun j => FitQW.of4 (solP_fit fst_vp.2.2.2 fst_vp.2.2.1 (by omega) j) (by omega))
  go_wp2_with fail
  refine (misfit_ok 1 (some ⟨gm, 0, none⟩) 2 2 fstM go 0 1 (solP (3 * 1) fstM) _ HM2.out fst_vp (HS.out.imp2 (fun j v _ h => h.good (HFS.out j))) HF.out).mono ?_
  rintro e w3 ⟨v3, rfl, hv, hX⟩
  rw [fst_mis] at hv
  obtain ⟨s4, A4, l4, c4, B4, m4, k4, rfl⟩ := RatC.open hv
  replace HX := Lib.hid (HX.out.trans hX)
  have HC := Lib.hid hv
  clear hv hX p0 p1
  go_upto_region 6 with (fail)
  have hXa : Ext w3 (w3.alloc (.cells #[.bool s4, .slice A4 l4 c4, .slice B4 m4 k4] 97)) := (Ext.refl _).alloc _
  have kB := Blk.new w3 97 #[.bool s4, .slice A4 l4 c4, .slice B4 m4 k4]
  replace HX := Lib.hid (HX.out.trans hXa)
  replace HC := Lib.hid (HC.out.ext hXa)
  clear hXa
  generalize w3.heap.size = gx at kB ⊢
  generalize w3.alloc (.cells #[.bool s4, .slice A4 l4 c4, .slice B4 m4 k4] 97) = w4 at kB HX HC ⊢
  refine first_r6 gx s4 A4 B4 l4 c4 m4 k4 w4 (kB.cell 0) (kB.cell 1) (kB.cell 2) HC.out _ _ (by simp) rfl rfl ?_
  rintro xv0 xv1 xv2 xv3 xv4 xv5 xv6 xv7 W rfl rfl rfl rfl _ rfl rfl rfl hX
  simp only [rops, Try.f39, regOf, Option.bind_some, Nat.reduceBEq, if_true, if_false, Bool.false_eq_true, Option.getD_some, List.drop_succ_cons, List.drop_zero]
  simp only [Act.put, List.setIfInBounds_toArray, List.set_cons_succ, List.set_cons_zero]
  have HX9 := Lib.hid (HX.out.trans hX)
  clear kB HC hX
  go_wp2
  go_ret
  exact ⟨rfl, HX9.out⟩

end Go.Proofs.Ytikhlcgnlbinfaa
namespace Go.Proofs.Ytikhlcgnlbinfaa
open Go.RowKit

def smB (S : Int) (ms : List Mt) : Bool := decide (ms.length ≤ 10 ∧ S ≤ 3) && vpB S ms
theorem smB_iff {S : Int} {ms : List Mt} : smB S ms = true ↔ (ms.length ≤ 10 ∧ S ≤ 3) ∧ VP S ms := by
  unfold smB
  rw [Bool.and_eq_true, decide_eq_true_iff, vpB_iff]
set_option maxRecDepth 100000 in
set_option maxHeartbeats 4000000 in
theorem small_any5 (S : Int) (A : Option Addr) (n c : Nat) (ms : List Mt) (w : World) (h : MsAt w A n ms) :
    Calls Try.prog 47 #[.agg #[.int .i64 S, .slice A n c]] w (fun e w' => e = .returned (.bool (smB S ms)) ∧ Ext w w') := by
  have HX := Lib.hid ((Ext.refl w).alloc (.cells #[.int .i64 S, .slice A n c] 76))
  have p0 := (Blk.new w 76 #[.int .i64 S, .slice A n c]).cell 0
  have p1 := (Blk.new w 76 #[.int .i64 S, .slice A n c]).cell 1
  simp only [List.getElem?_toArray, List.getElem?_cons_zero, List.getElem?_cons_succ] at p0 p1
  have H := Lib.hid h
  have HL := Lib.hid h.1
  obtain ⟨R, hR⟩ : ∃ R, vpB S ms = R := ⟨_, rfl⟩
  obtain ⟨Z, hZ⟩ : ∃ Z, smB S ms = Z := ⟨_, rfl⟩
  rw [hZ]
  have hZ2 := hZ
  unfold smB at hZ2
  rw [hR, h.1] at hZ2
  have HR := Lib.hid hR
  clear h hR hZ
  by_cases c1 : n ≤ 10
  · by_cases c2 : S ≤ 3
    · have e : decide (n ≤ 10 ∧ S ≤ 3) = true := decide_eq_true ⟨c1, c2⟩
      rw [e, Bool.true_and] at hZ2
      subst hZ2
      clear e
      go_enter Try.func47, Try.ntmps47
      go_wp2_with fail
      refine (valid5R_any S A n c ms _ (H.out.ext HX.out)).mono ?_
      rw [HR.out]
      rintro e w1 ⟨rfl, hX⟩
      replace HX := Lib.hid (HX.out.trans hX)
      clear hX p0 p1
      go_wp2
      go_ret
      exact ⟨rfl, HX.out⟩
    · have e : decide (n ≤ 10 ∧ S ≤ 3) = false := decide_eq_false (by omega)
      rw [e, Bool.false_and] at hZ2
      subst hZ2
      clear e
      go_enter Try.func47, Try.ntmps47
      go_wp2
      go_ret
      exact ⟨rfl, HX.out⟩
  · have e : decide (n ≤ 10 ∧ S ≤ 3) = false := decide_eq_false (by omega)
    rw [e, Bool.false_and] at hZ2
    subst hZ2
    clear e
    go_enter Try.func47, Try.ntmps47
    go_wp2
    go_ret
    exact ⟨rfl, HX.out⟩

end Go.Proofs.Ytikhlcgnlbinfaa
namespace Go.Proofs.Ytikhlcgnlbinfaa
open Go.RowKit

theorem own_apart {w : World} {b1 b2 s1 s2 n1 n2 g : Nat} {t1 t2 : TypeId} {v1 v2 : Value} {l1 l2 : List Value} (h1 : w.ownsRow b1 t1 s1 v1 n1 l1) (h2 : w.ownsRow b2 t2 s2 v2 n2 l2) (hne : t1 ≠ t2) (e1 : v1.ownBlock = some g) : v2.ownBlock ≠ some g := fun e2 => by
  rcases h2.2 with ⟨rfl, _⟩ | ⟨g', cap, cur, rfl, _, hb, _⟩
  · simp [Value.ownBlock] at e2
  · simp [Value.ownBlock] at e2
    subst e2
    exact NoRow.of_own h1 e1 hne _ _ hb
theorem own_blockS {w : World} {base : Nat} {e : TypeId} {size n c : Nat} {A : Option Addr} {vs : List Value} (h : w.ownsRow base e size (.slice A n c) n vs) (hn : 0 < n) : ∃ g, A = some ⟨g, 0, none⟩ ∧ base ≤ g ∧ g < w.heap.size := by
  rcases h.2 with ⟨hv, h0⟩ | ⟨g, cap, cur, hv, hb, hg, _⟩
  · omega
  · injection hv with hA
    exact ⟨g, hA, hb, (Array.getElem?_eq_some_iff.1 hg).1⟩
theorem elBo : Elem Try.prog 81 4 1 1 (.bool false) := Elem.mk' (by kernel_rfl) (by kernel_rfl) rfl (by decide)
/-- A list of bools in memory. -/
def BoolR (base : Nat) (w : World) (v : Value) (n : Nat) (f : Nat → Bool) : Prop := w.ownsRow base 4 1 v n ((List.range n).map fun j => .bool (f j))
theorem BoolR.ext {base n : Nat} {w w' : World} {v : Value} {f : Nat → Bool} (h : BoolR base w v n f) (he : Ext w w') : BoolR base w' v n f := World.ownsRow.ext' h he
/-- What is pivot in the reduced form. -/
def pivB (n : Nat) (ms : List Mt) (j : Nat) : Bool := decide (0 ≤ pivI ((redG n (tabM ms n) n).piv[j]?))
def TabI (base nn : Nat) (ms : List Mt) (v : Value) (w : World) : Prop := ∃ go ct vs, v = .agg #[.slice (some ⟨go, 0, none⟩) nn ct] ∧ TabG 3 (Tri fun w v q => NumX w v q 53) 217 226 base w go ct nn (nn + 1) vs (tabM ms nn)
theorem TabI.ext {base nn : Nat} {ms : List Mt} {v : Value} {w w' : World} (h : TabI base nn ms v w) (he : Ext w w') : TabI base nn ms v w' := by
  obtain ⟨go, ct, vs, h1, h2⟩ := h
  exact ⟨go, ct, vs, h1, h2.ext (kindNum 53) he⟩
def PivR (base nn : Nat) (ms : List Mt) (v : Value) (w : World) : Prop := ∃ gp, v = .slice (some ⟨gp, 0, none⟩) nn nn ∧ RowI base w gp nn nn (fun j => pivI ((redG nn (tabM ms nn) nn).piv[j]?))
theorem PivR.ext {base nn : Nat} {ms : List Mt} {v : Value} {w w' : World} (h : PivR base nn ms v w) (he : Ext w w') : PivR base nn ms v w' := by
  obtain ⟨gp, h1, h2⟩ := h
  exact ⟨gp, h1, h2.ext he⟩

set_option maxRecDepth 100000 in
set_option maxHeartbeats 4000000 in
theorem piv_r4 (gp S nn n c : Nat) (A : Option Addr) (ms : List Mt) (w : World) (h : MsAt w A n ms) (hv : VP S ms) (hN : Hid (nn = 3 * S)) (hn24 : nn ≤ 24) (_hS8 : S ≤ 8) (hfit : ∀ j, j ≤ nn → ∀ i, i < nn → ∀ c, c ≤ nn → FitQ ((redG nn (tabM ms nn) j).tab i c) 53) (p0 : w.cell? ⟨gp, 0, none⟩ = some (.int .i64 (S : Int))) (p1 : w.cell? ⟨gp, 1, none⟩ = some (.slice A n c)) (a : Act) (Q : Exit → Act → World → Prop) (hsize : 18 ≤ a.tmps.size)
    (s1 : a.tmps[1]? = some (.pointer (some ⟨gp, 0, none⟩)))
    (hend : ∀ (xv0 xv1 xv2 xv3 xv4 xv5 xv6 xv7 : Value) (W : World), (xv0 = .agg #[.int .i64 (S : Int), .slice A n c]) → (xv2 = .pointer (some ⟨gp, 0, none⟩)) → (xv3 = .int .i64 (S : Int)) → (xv4 = .int .i64 (nn : Int)) → (PivR w.heap.size nn ms (xv5) W) → (xv6 = .int .i64 (nn : Int)) → (xv7 = .int .i64 (0)) → Ext w W → wpList Try.prog (rops Try.f41 4).toArray Q ((rops Try.f41 4).drop 8) ((((((((a.put (some 10) xv0).put (some 11) xv1).put (some 12) xv2).put (some 13) xv3).put (some 14) xv4).put (some 15) xv5).put (some 16) xv6).put (some 17) xv7) W) :
    (Code.region 4 (rops Try.f41 4).toArray true).wp Try.prog Q a w := by
  have hsz : ∀ d, some d ∈ ([some 10, some 11, some 12, some 13, some 14, some 15, some 16, some 17] : List (Option Tmp)) → d < a.tmps.size := slots_lt (by decide) hsize
  refine wp_region_g 8 [some 10, some 11, some 12, some 13, some 14, some 15, some 16, some 17] [[], [0], [], [2], [3], [1, 4], [5], []] [[], [], [], [], [], [], [], []] (fun (done : Nat → Prop) (us : Nat → Value) (W : World) => Ext w W ∧ (done 0 → us 0 = .agg #[.int .i64 (S : Int), .slice A n c]) ∧ (done 1 → ¬ done 5 → TabI w.heap.size nn ms (us 1) W) ∧ (done 2 → us 2 = .pointer (some ⟨gp, 0, none⟩)) ∧ (done 3 → us 3 = .int .i64 (S : Int)) ∧ (done 4 → us 4 = .int .i64 (nn : Int)) ∧ (done 5 → PivR w.heap.size nn ms (us 5) W) ∧ (done 6 → us 6 = .int .i64 (nn : Int)) ∧ (done 7 → us 7 = .int .i64 (0))) (by kernel_rfl) (by kernel_rfl) hsz (fun p q us W h => by have e : p = q := funext fun k => propext (h k); rw [e]; exact id) (fun us => ⟨(Ext.refl w).drew, fun h => h.elim, fun h => h.elim, fun h => h.elim, fun h => h.elim, fun h => h.elim, fun h => h.elim, fun h => h.elim, fun h => h.elim⟩) ?_ ?_
  · clear hend
    simp only [rops, Try.f41, regOf, Option.bind_some, Nat.reduceBEq, if_true, if_false, Bool.false_eq_true, Option.getD_some]
    simp only [List.take_succ_cons, List.take_zero]
    refine ⟨?_, ?_, ?_, ?_, ?_, ?_, ?_, ?_, trivial⟩
    · intro done us W hJ hdep haft hnot b hb hb' K hK Q'
      obtain ⟨hX0, cc0, cc1, cc2, cc3, cc4, cc5, cc6, cc7⟩ := hJ
      have e1 := (hb' 1 (by simp)).trans s1
      clear hb hb'
      have q0 := hX0.cell p0
      have q1 := hX0.cell p1
      have hfin := hK (.agg #[.int .i64 (S : Int), .slice A n c]) _ ⟨hX0, fun _ => rfl, fun h h5 => (cc1 (h.resolve_right (by decide)) (fun d => h5 (.inl d))), fun h => cc2 (h.resolve_right (by decide)), fun h => cc3 (h.resolve_right (by decide)), fun h => cc4 (h.resolve_right (by decide)), fun h => (cc5 (h.resolve_right (by decide))), fun h => cc6 (h.resolve_right (by decide)), fun h => cc7 (h.resolve_right (by decide))⟩
      clear hK cc0 cc1 cc2 cc3 cc4 cc5 cc6 cc7
      go_simp
      exact hfin
    · intro done us W hJ hdep haft hnot b hb hb' K hK Q'
      obtain ⟨hX0, cc0, cc1, cc2, cc3, cc4, cc5, cc6, cc7⟩ := hJ
      simp only [List.getD_cons_succ, List.getD_cons_zero, List.mem_cons, List.not_mem_nil, or_false, forall_eq] at hdep
      have e10 := hb 0 10 rfl
      rw [cc0 hdep] at e10
      clear hb hb'
      go_simp
      refine (build_ok S nn A n c ms W (h.ext hX0) hv hN.out).mono ?_
      rintro e w' ⟨go, ct, vs, rfl, hT, _, hX⟩
      have hI : TabI w.heap.size nn ms (.agg #[.slice (some ⟨go, 0, none⟩) nn ct]) w' := ⟨go, ct, vs, rfl, (hT.impl (fun i j cs _ _ hc => by
        obtain ⟨s, A, l, c, B, m, k, e, hx⟩ := hc
        exact ⟨s, A, l, c, B, m, k, e, hx.mono (by omega)⟩)).mono hX0.size⟩
      exact hK _ _ ⟨hX0.trans hX, fun h => cc0 (h.resolve_right (by decide)), fun _ _ => hI, fun h => cc2 (h.resolve_right (by decide)), fun h => cc3 (h.resolve_right (by decide)), fun h => cc4 (h.resolve_right (by decide)), fun h => (cc5 (h.resolve_right (by decide))).ext hX, fun h => cc6 (h.resolve_right (by decide)), fun h => cc7 (h.resolve_right (by decide))⟩
    · intro done us W hJ hdep haft hnot b hb hb' K hK Q'
      obtain ⟨hX0, cc0, cc1, cc2, cc3, cc4, cc5, cc6, cc7⟩ := hJ
      have e1 := (hb' 1 (by simp)).trans s1
      clear hb hb'
      have hfin := hK (.pointer (some ⟨gp, 0, none⟩)) _ ⟨hX0, fun h => cc0 (h.resolve_right (by decide)), fun h h5 => (cc1 (h.resolve_right (by decide)) (fun d => h5 (.inl d))), fun _ => rfl, fun h => cc3 (h.resolve_right (by decide)), fun h => cc4 (h.resolve_right (by decide)), fun h => (cc5 (h.resolve_right (by decide))), fun h => cc6 (h.resolve_right (by decide)), fun h => cc7 (h.resolve_right (by decide))⟩
      clear hK hX0 cc0 cc1 cc2 cc3 cc4 cc5 cc6 cc7
      go_simp
      exact hfin
    · intro done us W hJ hdep haft hnot b hb hb' K hK Q'
      obtain ⟨hX0, cc0, cc1, cc2, cc3, cc4, cc5, cc6, cc7⟩ := hJ
      simp only [List.getD_cons_succ, List.getD_cons_zero, List.mem_cons, List.not_mem_nil, or_false, forall_eq] at hdep
      have e12 := hb 2 12 rfl
      rw [cc2 hdep] at e12
      clear hb hb'
      have q0 := hX0.cell p0
      have hfin := hK (.int .i64 (S : Int)) _ ⟨hX0, fun h => cc0 (h.resolve_right (by decide)), fun h h5 => (cc1 (h.resolve_right (by decide)) (fun d => h5 (.inl d))), fun h => cc2 (h.resolve_right (by decide)), fun _ => rfl, fun h => cc4 (h.resolve_right (by decide)), fun h => (cc5 (h.resolve_right (by decide))), fun h => cc6 (h.resolve_right (by decide)), fun h => cc7 (h.resolve_right (by decide))⟩
      clear hK cc0 cc1 cc2 cc3 cc4 cc5 cc6 cc7
      go_simp
      exact hfin
    · intro done us W hJ hdep haft hnot b hb hb' K hK Q'
      obtain ⟨hX0, cc0, cc1, cc2, cc3, cc4, cc5, cc6, cc7⟩ := hJ
      simp only [List.getD_cons_succ, List.getD_cons_zero, List.mem_cons, List.not_mem_nil, or_false, forall_eq] at hdep
      have e13 := hb 3 13 rfl
      rw [cc3 hdep] at e13
      clear hb hb'
      have qw : IntKind.i64.wrap (3 * (S : Int)) = (nn : Int) := by have := hN.out; rw [IntWalk.i64_in _ (by omega)]; omega
      have hfin := hK (.int .i64 (nn : Int)) _ ⟨hX0, fun h => cc0 (h.resolve_right (by decide)), fun h h5 => (cc1 (h.resolve_right (by decide)) (fun d => h5 (.inl d))), fun h => cc2 (h.resolve_right (by decide)), fun h => cc3 (h.resolve_right (by decide)), fun _ => rfl, fun h => (cc5 (h.resolve_right (by decide))), fun h => cc6 (h.resolve_right (by decide)), fun h => cc7 (h.resolve_right (by decide))⟩
      clear hK cc0 cc1 cc2 cc3 cc4 cc5 cc6 cc7
      go_simp
      exact hfin
    · intro done us W hJ hdep haft hnot b hb hb' K hK Q'
      obtain ⟨hX0, cc0, cc1, cc2, cc3, cc4, cc5, cc6, cc7⟩ := hJ
      simp only [List.getD_cons_succ, List.getD_cons_zero, List.mem_cons, List.not_mem_nil, or_false, forall_eq_or_imp, forall_eq] at hdep
      have e11 := hb 1 11 rfl
      have e14 := hb 4 14 rfl
      rw [cc4 hdep.2] at e14
      clear hb hb'
      obtain ⟨go, ct, vs, e1, hT⟩ := cc1 hdep.1 hnot
      rw [e1] at e11
      have hLS := hT.tabL_low
      go_simp
      refine (reduce_v 53 w.heap.size go ct nn vs (tabM ms nn) W hT (by omega) hfit (by omega) hX0.size).mono ?_
      rintro e w' ⟨gq, rfl, hgq, ⟨up, hup, hpn⟩, ⟨vs2, hsub, hT2⟩, hk⟩
      have hXE : Ext w w' := hk.ext hX0 (fun g hg => (hLS g hg).1)
      have hP : PivR w.heap.size nn ms (.slice (some ⟨gq, 0, none⟩) nn nn) w' := ⟨gq, rfl, up, World.ownsRow.mono' hup hX0.size, hpn⟩
      exact hK _ _ ⟨hXE, fun h => cc0 (h.resolve_right (by decide)), fun _ h => absurd (.inr rfl) h, fun h => cc2 (h.resolve_right (by decide)), fun h => cc3 (h.resolve_right (by decide)), fun h => cc4 (h.resolve_right (by decide)), fun _ => hP, fun h => cc6 (h.resolve_right (by decide)), fun h => cc7 (h.resolve_right (by decide))⟩
    · intro done us W hJ hdep haft hnot b hb hb' K hK Q'
      obtain ⟨hX0, cc0, cc1, cc2, cc3, cc4, cc5, cc6, cc7⟩ := hJ
      simp only [List.getD_cons_succ, List.getD_cons_zero, List.mem_cons, List.not_mem_nil, or_false, forall_eq] at hdep
      have e15 := hb 5 15 rfl
      clear hb hb'
      obtain ⟨gq, e1, _⟩ := cc5 hdep
      rw [e1] at e15
      have hfin := hK (.int .i64 (nn : Int)) _ ⟨hX0, fun h => cc0 (h.resolve_right (by decide)), fun h h5 => (cc1 (h.resolve_right (by decide)) (fun d => h5 (.inl d))), fun h => cc2 (h.resolve_right (by decide)), fun h => cc3 (h.resolve_right (by decide)), fun h => cc4 (h.resolve_right (by decide)), fun h => (cc5 (h.resolve_right (by decide))), fun _ => rfl, fun h => cc7 (h.resolve_right (by decide))⟩
      clear hK cc0 cc1 cc2 cc3 cc4 cc5 cc6 cc7
      go_simp
      exact hfin
    · intro done us W hJ hdep haft hnot b hb hb' K hK Q'
      obtain ⟨hX0, cc0, cc1, cc2, cc3, cc4, cc5, cc6, cc7⟩ := hJ
      clear hb hb'
      have hfin := hK (.int .i64 (0)) _ ⟨hX0, fun h => cc0 (h.resolve_right (by decide)), fun h h5 => (cc1 (h.resolve_right (by decide)) (fun d => h5 (.inl d))), fun h => cc2 (h.resolve_right (by decide)), fun h => cc3 (h.resolve_right (by decide)), fun h => cc4 (h.resolve_right (by decide)), fun h => (cc5 (h.resolve_right (by decide))), fun h => cc6 (h.resolve_right (by decide)), fun _ => rfl⟩
      clear hK hX0 cc0 cc1 cc2 cc3 cc4 cc5 cc6 cc7
      go_simp
      exact hfin
  · intro us W hJ
    obtain ⟨hX0, cc0, cc1, cc2, cc3, cc4, cc5, cc6, cc7⟩ := hJ
    exact hend (us 0) (us 1) (us 2) (us 3) (us 4) (us 5) (us 6) (us 7) W (cc0 (show 0 < 8 by decide)) (cc2 (show 2 < 8 by decide)) (cc3 (show 3 < 8 by decide)) (cc4 (show 4 < 8 by decide)) (cc5 (show 5 < 8 by decide)) (cc6 (show 6 < 8 by decide)) (cc7 (show 7 < 8 by decide)) hX0
/-- What is pivot: the first k unknowns. -/
def pivL (n : Nat) (ms : List Mt) (k : Nat) : List Value := (List.range k).map fun j => .bool (pivB n ms j)
theorem pivL_succ (n : Nat) (ms : List Mt) (k : Nat) : pivL n ms (k + 1) = pivL n ms k ++ [.bool (pivB n ms k)] := by unfold pivL; rw [List.range_succ, List.map_append]; rfl
set_option maxRecDepth 100000 in
set_option maxHeartbeats 8000000 in
theorem pivots_v (S nn : Nat) (A : Option Addr) (n c : Nat) (ms : List Mt) (w : World) (h : MsAt w A n ms) (hv : VP (S : Int) ms) (hN : nn = 3 * S) :
    Calls Try.prog 41 #[.agg #[.int .i64 (S : Int), .slice A n c]] w (fun e w' => ∃ v, e = .returned (.tuple #[v, .int .i64 0]) ∧ BoolR w.heap.size w' v nn (pivB nn ms) ∧ Ext w w') := by
  have H := Lib.hid h
  have HV := Lib.hid hv
  have HN := Lib.hid hN
  have HR : Hid (vpB (S : Int) ms = true) := Lib.hid (vpB_iff.2 hv)
  have hS1 : 1 ≤ S := by have := hv.1; omega
  have hS8 : S ≤ 8 := by have := hv.2.1; omega
  have hn24 : nn ≤ 24 := by omega
  have HFIT : Hid (∀ j, j ≤ nn → ∀ i, i < nn → ∀ c, c ≤ nn → FitQ ((redG nn (tabM ms nn) j).tab i c) 53) := Lib.hid (fun j hj i hi c hc => redG_fit hv.2.2.2 hv.2.2.1 hn24 j hj i hi c hc)
  have HX := Lib.hid ((Ext.refl w).alloc (.cells #[.int .i64 (S : Int), .slice A n c] 76))
  have HP := Lib.hid (Blk.new w 76 #[.int .i64 (S : Int), .slice A n c])
  clear h hv hN
  go_enter Try.func41, Try.ntmps41
  go_upto_region 1 with (fail)
  generalize w.alloc (.cells #[.int .i64 (S : Int), .slice A n c] 76) = w1 at HX HP ⊢
  have p0 := HP.out.cell 0
  have p1 := HP.out.cell 1
  simp only [List.getElem?_toArray, List.getElem?_cons_zero, List.getElem?_cons_succ] at p0 p1
  go_wp2_with fail
  refine (valid5_any (S : Int) A n c ms _ (H.out.ext HX.out)).mono ?_
  rw [HR.out]
  rintro e w2 ⟨rfl, hX⟩
  replace HX := Lib.hid (HX.out.trans hX)
  replace HP := Lib.hid (HP.out.ext hX)
  clear hX p0 p1
  have p0 := HP.out.cell 0
  have p1 := HP.out.cell 1
  simp only [List.getElem?_toArray, List.getElem?_cons_zero, List.getElem?_cons_succ] at p0 p1
  go_upto_region 4 with (fail)
  refine piv_r4 w.heap.size S nn n c A ms w2 (H.out.ext HX.out) HV.out HN hn24 hS8 HFIT.out p0 p1 _ _ (by simp) rfl ?_
  rintro xv0 xv1 xv2 xv3 xv4 xv5 xv6 xv7 W rfl rfl rfl rfl ⟨gq, rfl, hrow⟩ rfl rfl hX
  simp only [rops, Try.f41, regOf, Option.bind_some, Nat.reduceBEq, if_true, if_false, Bool.false_eq_true, Option.getD_some, List.drop_succ_cons, List.drop_zero]
  simp only [Act.put, List.setIfInBounds_toArray, List.set_cons_succ, List.set_cons_zero]
  have HQ := Lib.hid hrow
  have hlw := (RowI.low hrow)
  have hsz := HX.out.size
  have hwz := hX.size
  replace HX := Lib.hid (HX.out.trans hX)
  clear hrow hX p0 p1
  go_wp2_with fail
  go_loopg [4, 17] nn (fun fu ov iv wr => ∃ k : Nat, fu = nn - k ∧ k ≤ nn ∧ iv = .int .i64 (k : Int) ∧ Hid (wr.ownsRow w.heap.size 4 1 ov k (pivL nn ms k)) ∧ Hid (RowI w2.heap.size wr gq nn nn (fun j => pivI ((redG nn (tabM ms nn) nn).piv[j]?))) ∧ Hid (Ext w wr))
  case atStart => exact ⟨0, rfl, by omega, rfl, Lib.hid (World.ownsRow_nil _ _ _ _), HQ, HX⟩
  case round =>
    clear HQ HX
    obtain ⟨k, rfl, hk, rfl, HO, HQ, HX⟩ := hrel
    obtain ⟨Ao, co, rfl⟩ := own_slice HO.out
    by_cases hlt : k < nn
    · have q1 : decide (k < nn) = true := decide_eq_true hlt
      obtain ⟨z, hz⟩ : ∃ z, pivI ((redG nn (tabM ms nn) nn).piv[k]?) = z := ⟨_, rfl⟩
      have x0 := RowI.cell HQ.out hlt
      rw [hz] at x0
      have HZ : Hid (pivB nn ms k = decide (0 ≤ z)) := Lib.hid (by unfold pivB; rw [hz])
      clear hz
      obtain ⟨b, hb⟩ : ∃ b, decide (0 ≤ z) = b := ⟨_, rfl⟩
      rw [hb] at HZ
      have hgq : gq < wr.heap.size := (RowI.low HQ.out).2
      go_wp2_with (at_builtin; refine wpList_app _ elBo rfl _ _ rfl w.heap.size (.slice Ao k co) k (pivL nn ms k) rfl (HO.out.alloc _) _ 1 1 [.bool b] rfl rfl (At.new' _ [_] _ rfl) (by simp [Value.oneCell']) (by omega) (by unfold maxLen; omega) (by simp; omega) ?_; intro v8 w8 hown8 hgr8 _; have HG8 := Lib.hid hgr8; have HO8 := Lib.hid hown8; clear hgr8 hown8)
      go_roundg (nn - (k + 1))
      case rel =>
        have hgl : ∀ g, (Value.slice Ao k co).ownBlock = some g → w.heap.size ≤ g := fun g hg => (HO.out.lt g hg).1
        refine ⟨k + 1, rfl, by omega, by go_num, Lib.hid ?_, Lib.hid ?_, Lib.hid ((HX.out.alloc _).grown HG8.out (fun b hb => hgl _ hb))⟩
        · rw [pivL_succ, HZ.out]
          exact HO8.out
        · exact (RowI.keeps (RowI.ext HQ.out ((Ext.refl _).alloc _)) (keeps_own HG8.out) (fun hg => by
            obtain ⟨us, hq1, _⟩ := RowI.ext HQ.out ((Ext.refl _).alloc (.cells #[.bool b] 4))
            exact own_apart ((HO.out.alloc (.cells #[.bool b] 4))) hq1 (by decide) (by simpa using hg) rfl))
      case measure => omega
    · obtain rfl : nn = k := by omega
      have q1 : decide (nn < nn) = false := by simp
      go_wp2
      go_ret2
      exact ⟨_, rfl, HO.out, HX.out⟩

end Go.Proofs.Ytikhlcgnlbinfaa
namespace Go.Proofs.Ytikhlcgnlbinfaa
open Go.RowKit

/-- Unknown 3 s + k is named by a match. -/
def nmM (s k : Nat) (m : Mt) : Bool := (decide (m.a = (s : Int)) || decide (m.b = (s : Int))) && decide (m.nrm k ≠ 0)
def nmB (s k : Nat) (ms : List Mt) (j : Nat) : Bool := (ms.take j).any (nmM s k)
theorem nmB_succ {s k : Nat} {ms : List Mt} {j : Nat} {m : Mt} (h : ms[j]? = some m) : nmB s k ms (j + 1) = (nmB s k ms j || nmM s k m) := by
  unfold nmB
  rw [List.take_add_one, h]
  simp
theorem nmM_cof {s k : Nat} {m : Mt} (hk : k < 3) (h : nmM s k m = false) : cof m (3 * s + k) = 0 := by
  have e1 : (3 * s + k) / 3 = s := by omega
  have e2 : (3 * s + k) % 3 = k := by omega
  unfold cof
  rw [e1, e2]
  unfold nmM at h
  simp only [Bool.and_eq_false_iff, Bool.or_eq_false_iff, decide_eq_false_iff_not] at h
  split
  · rename_i h1
    rcases h with ⟨h, _⟩ | h
    · exact absurd h1.symm h
    · simpa using h
  · split
    · rename_i h1
      rcases h with ⟨_, h⟩ | h
      · exact absurd h1.symm h
      · simpa using h
    · rfl
theorem nm_piv {S : Int} {ms : List Mt} (h : ∀ m ∈ ms, VM S m) {nn s k : Nat} (hk : k < 3) (hn : 3 * s + k < nn) (h0 : nmB s k ms ms.length = false) : pivB nn ms (3 * s + k) = false := by
  unfold pivB
  rw [free_piv h hn (fun m hm => by
    unfold nmB at h0
    rw [List.take_length, List.any_eq_false] at h0
    exact nmM_cof hk (by simpa using h0 m hm))]
  rfl
theorem piv_sol {nn : Nat} {ms : List Mt} {j : Nat} (h : pivB nn ms j = false) : sgnQ (solP nn ms j) = 0 := by
  unfold pivB at h
  unfold solP
  rw [solG_at, if_neg (by simpa using h)]
  rfl

set_option maxRecDepth 100000 in
set_option maxHeartbeats 16000000 in
theorem free_walk (S : Nat) (A : Option Addr) (n c : Nat) (ms : List Mt) (w : World) (h : MsAt w A n ms) (hv : VP (S : Int) ms) (hn10 : n ≤ 10) (hsm : smB S ms = true) :
    Calls Try.prog 7 #[.agg #[.int .i64 (S : Int), .slice A n c]] w (fun e w' => e = .returned (.bool true) ∧ Ext w w') := by
  have H := Lib.hid h
  have HV := Lib.hid hv
  have HML := Lib.hid h.1
  have HSM := Lib.hid hsm
  have hS1 : 1 ≤ S := by have := hv.1; omega
  have hS8 : S ≤ 3 := by have := (smB_iff.1 hsm).1.2; omega
  have HFS : Hid (∀ j, FitQW (solP (3 * S) ms j)) := Lib.hid (fun j => FitQW.of4 (solP_fit hv.2.2.2 hv.2.2.1 (by omega) j) (by omega))
  have HX := Lib.hid ((Ext.refl w).alloc (.cells #[.int .i64 (S : Int), .slice A n c] 76))
  have HP := Lib.hid (Blk.new w 76 #[.int .i64 (S : Int), .slice A n c])
  obtain ⟨nn, hnn⟩ : ∃ nn, nn = 3 * S := ⟨_, rfl⟩
  have hnw : IntKind.i64.wrap (3 * (S : Int)) = (nn : Int) := by rw [IntWalk.i64_in _ (by omega)]; omega
  have hn9 : nn ≤ 9 := by omega
  have HNN := Lib.hid hnn
  clear h hv hsm hnn
  go_enter Try.func7, Try.ntmps7
  go_upto_region 1 with (fail)
  generalize w.alloc (.cells #[.int .i64 (S : Int), .slice A n c] 76) = w1 at HX HP ⊢
  have p0 := HP.out.cell 0
  have p1 := HP.out.cell 1
  simp only [List.getElem?_toArray, List.getElem?_cons_zero, List.getElem?_cons_succ] at p0 p1
  go_wp2_with fail
  refine (small_any5 (S : Int) A n c ms _ (H.out.ext HX.out)).mono ?_
  rw [HSM.out]
  rintro e w2 ⟨rfl, hX⟩
  replace HX := Lib.hid (HX.out.trans hX)
  replace HP := Lib.hid (HP.out.ext hX)
  clear hX p0 p1
  have p0 := HP.out.cell 0
  have p1 := HP.out.cell 1
  simp only [List.getElem?_toArray, List.getElem?_cons_zero, List.getElem?_cons_succ] at p0 p1
  go_wp2_with fail
  refine (solveP_ok S A n c ms _ (H.out.ext HX.out) HV.out).mono ?_
  rintro e w4 ⟨ga, rfl, _, hS, hX⟩
  replace HX := Lib.hid (HX.out.trans hX)
  replace HP := Lib.hid (HP.out.ext hX)
  have HSP : Hid (ShP RatG w4 ga 0 S (solP (3 * S) ms)) := Lib.hid (hS.imp2 (fun j x _ h => h.good (HFS.out j)))
  clear hS hX p0 p1
  have p0 := HP.out.cell 0
  have p1 := HP.out.cell 1
  simp only [List.getElem?_toArray, List.getElem?_cons_zero, List.getElem?_cons_succ] at p0 p1
  go_wp2_with fail
  refine (pivots_v S nn A n c ms _ (H.out.ext HX.out) HV.out HNN.out).mono ?_
  rintro e w5 ⟨vb, rfl, hB, hX⟩
  replace HX := Lib.hid (HX.out.trans hX)
  replace HP := Lib.hid (HP.out.ext hX)
  replace HSP := Lib.hid (HSP.out.ext growsG hX)
  obtain ⟨AB, cB, rfl⟩ := own_slice hB
  obtain ⟨gb, rfl, _, _⟩ := own_blockS hB (by have := HNN.out; omega)
  have HB := Lib.hid hB
  clear hB hX p0 p1
  have p0 := HP.out.cell 0
  simp only [List.getElem?_toArray, List.getElem?_cons_zero] at p0
  go_wp2_with fail
  clear p0
  go_loopg [7] nn (fun fu iv wr => ∃ u : Nat, fu = nn - u ∧ u ≤ nn ∧ iv = .int .i64 (u : Int) ∧ Hid (Ext w5 wr))
  case atStart => exact ⟨0, by omega, by omega, rfl, Lib.hid (Ext.refl _)⟩
  case round =>
    obtain ⟨u, rfl, hu, rfl, HXL⟩ := hrel
    by_cases hun : u < nn
    · have q1 : decide (u < nn) = true := decide_eq_true hun
      obtain ⟨s, k, hk, hus, hsS⟩ : ∃ s k, k < 3 ∧ u = 3 * s + k ∧ s < S := ⟨u / 3, u % 3, by omega, by omega, by have := HNN.out; omega⟩
      have hdv : (u : Int) / 3 = (s : Int) := by omega
      have hrm : (u : Int).tmod 3 = (k : Int) := by rw [Int.tmod_eq_emod_of_nonneg (by omega)]; omega
      have hsw : IntKind.i64.wrap (s : Int) = (s : Int) := IntWalk.i64_in _ (by omega)
      have hkw : IntKind.i64.wrap (k : Int) = (k : Int) := IntWalk.i64_in _ (by omega)
      have hk3 : (k : Int) < 3 := by omega
      have HU := Lib.hid hus
      clear hus
      go_wp2_with fail
      go_loopg [8, 9] n (fun fu nv iv wz => ∃ (i : Nat) (nm : Bool), fu = n - i ∧ i ≤ n ∧ iv = .int .i64 (i : Int) ∧ nv = .bool nm ∧ Hid (nmB s k ms i = nm) ∧ Hid (Ext w5 wz))
      case atStart => exact ⟨0, false, by omega, by omega, rfl, rfl, Lib.hid rfl, HXL⟩
      case round =>
        clear HXL
        obtain ⟨i, nm, rfl, hi, rfl, rfl, HNM, HXL⟩ := hrel
        have pl := HP.out.ext HXL.out
        have p0 := pl.cell 0
        have p1 := pl.cell 1
        simp only [List.getElem?_toArray, List.getElem?_cons_zero, List.getElem?_cons_succ] at p0 p1
        clear pl
        by_cases hin : i < n
        · have q2 : decide (i < n) = true := decide_eq_true hin
          obtain ⟨gm, om, ⟨a, b, x, y, z, d, ww⟩, rfl, hm, hmem, x0, x1, x2, x3, x4, x5, x6⟩ := (H.out.ext (HX.out.trans HXL.out)).get hin
          simp only at x0 x1 x2 x3 x4 x5 x6
          have hnext := nmB_succ (s := s) (k := k) hm
          rw [HNM.out] at hnext
          have HNX := Lib.hid hnext
          clear hnext hm hmem
          go_upto_region 15 with (fail)
          have hXa : Ext wr (wr.alloc (.cells #[.int .i64 a, .int .i64 b, .int .i64 x, .int .i64 y, .int .i64 z, .int .i64 d, .int .i64 ww] 90)) := (Ext.refl _).alloc _
          have kB := Blk.new wr 90 #[.int .i64 a, .int .i64 b, .int .i64 x, .int .i64 y, .int .i64 z, .int .i64 d, .int .i64 ww]
          replace HXL := Lib.hid (HXL.out.trans hXa)
          clear hXa x0 x1 x2 x3 x4 x5 x6 p0 p1
          generalize wr.heap.size = gx at kB ⊢
          generalize wr.alloc (.cells #[.int .i64 a, .int .i64 b, .int .i64 x, .int .i64 y, .int .i64 z, .int .i64 d, .int .i64 ww] 90) = wb at kB HXL ⊢
          have y0 := kB.cell 0
          have y1 := kB.cell 1
          have y2 : wb.cell? ⟨gx, 2 + k, none⟩ = some (.int .i64 (pick3 x y z k)) := by
            rw [kB.cell (2 + k)]
            match k, hk with
            | 0, _ => rfl
            | 1, _ => rfl
            | 2, _ => rfl
          simp only [List.getElem?_toArray, List.getElem?_cons_zero, List.getElem?_cons_succ] at y0 y1
          clear kB
          have hmm : nmM s k ⟨a, b, x, y, z, d, ww⟩ = ((decide (a = (s : Int)) || decide (b = (s : Int))) && decide (pick3 x y z k ≠ 0)) := rfl
          replace HNX := Lib.hid (HNX.out.trans (by rw [hmm]))
          clear hmm
          by_cases hnm : nm = true
          · subst hnm
            go_wp2
            go_roundg (n - (i + 1))
            case rel => exact ⟨i + 1, true, rfl, by omega, by go_num, by first | rfl | rw [q5], Lib.hid (by rw [HNX.out]; simp), HXL⟩
            case measure => omega
          · obtain rfl : nm = false := by simpa using hnm
            clear hnm
            by_cases ha : a = (s : Int)
            · have q3 : (a == (s : Int)) = true := by simpa using ha
              have HA := Lib.hid ha
              clear ha
              by_cases hz : pick3 x y z k = 0
              · have q5 : (pick3 x y z k != 0) = false := by simpa using hz
                have q6 : decide (pick3 x y z k = 0) = true := decide_eq_true hz
                have HZ := Lib.hid hz
                clear hz
                go_wp2
                go_roundg (n - (i + 1))
                case rel => exact ⟨i + 1, false, rfl, by omega, by go_num, by first | rfl | rw [q5], Lib.hid (by rw [HNX.out]; simp [HA.out, HZ.out]), HXL⟩
                case measure => omega
              · have q5 : (pick3 x y z k != 0) = true := by simpa using hz
                have q6 : decide (pick3 x y z k = 0) = false := decide_eq_false hz
                have HZ := Lib.hid hz
                clear hz
                go_wp2
                go_roundg (n - (i + 1))
                case rel => exact ⟨i + 1, true, rfl, by omega, by go_num, by first | rfl | rw [q5], Lib.hid (by rw [HNX.out]; simp [HA.out, HZ.out]), HXL⟩
                case measure => omega
            · have q3 : (a == (s : Int)) = false := by simpa using ha
              have q7 : decide (a = (s : Int)) = false := decide_eq_false ha
              have HA := Lib.hid ha
              clear ha
              by_cases hb : b = (s : Int)
              · have q4 : (b == (s : Int)) = true := by simpa using hb
                have HBB := Lib.hid hb
                clear hb
                by_cases hz : pick3 x y z k = 0
                · have q5 : (pick3 x y z k != 0) = false := by simpa using hz
                  have q6 : decide (pick3 x y z k = 0) = true := decide_eq_true hz
                  have HZ := Lib.hid hz
                  clear hz
                  go_wp2
                  go_roundg (n - (i + 1))
                  case rel => exact ⟨i + 1, false, rfl, by omega, by go_num, by first | rfl | rw [q5], Lib.hid (by rw [HNX.out]; simp [HA.out, HBB.out, HZ.out]), HXL⟩
                  case measure => omega
                · have q5 : (pick3 x y z k != 0) = true := by simpa using hz
                  have q6 : decide (pick3 x y z k = 0) = false := decide_eq_false hz
                  have HZ := Lib.hid hz
                  clear hz
                  go_wp2
                  go_roundg (n - (i + 1))
                  case rel => exact ⟨i + 1, true, rfl, by omega, by go_num, by first | rfl | rw [q5], Lib.hid (by rw [HNX.out]; simp [HA.out, HBB.out, HZ.out]), HXL⟩
                  case measure => omega
              · have q4 : (b == (s : Int)) = false := by simpa using hb
                have q8 : decide (b = (s : Int)) = false := decide_eq_false hb
                have HBB := Lib.hid hb
                clear hb
                go_wp2
                go_roundg (n - (i + 1))
                case rel => exact ⟨i + 1, false, rfl, by omega, by go_num, by first | rfl | rw [q5], Lib.hid (by rw [HNX.out]; simp [HA.out, HBB.out]), HXL⟩
                case measure => omega
        · obtain rfl : n = i := by omega
          have q2 : decide (n < n) = false := by simp
          have hnp : nm = false → pivB nn ms u = false := fun e => by rw [HU.out]; exact nm_piv HV.out.2.2.2 hk (by have := HU.out; omega) (by rw [HML.out, HNM.out, e])
          obtain ⟨pv, hpv⟩ : ∃ pv, pivB nn ms u = pv := ⟨_, rfl⟩
          rw [hpv] at hnp
          have hps : pv = false → sgnQ (solP (3 * S) ms (3 * s + k)) = 0 := fun e => by
            have := piv_sol (hpv.trans e)
            rwa [HU.out, HNN.out] at this
          obtain ⟨sz, hsz⟩ : ∃ sz, sgnQ (solP (3 * S) ms (3 * s + k)) = sz := ⟨_, rfl⟩
          rw [hsz] at hps
          have HSZ := Lib.hid hsz
          have HPV := Lib.hid hpv
          have HNP := Lib.hid hnp
          have HPS := Lib.hid hps
          clear hsz hpv hnp hps
          obtain ⟨s1, A1, l1, c1, B1, m1, k1, x0, x1, x2, hx⟩ := (HSP.out.ext growsG HXL.out) s k hsS hk
          simp only [Nat.zero_add] at x0 x1 x2
          have HXX := Lib.hid hx
          clear hx
          go_wp2_with fail
          refine (signG HXX.out).mono ?_
          unfold RetE
          rw [HSZ.out]
          rintro e w6 ⟨rfl, hX⟩
          replace HXL := Lib.hid (HXL.out.trans hX)
          clear x0 x1 x2 hX HXX p0 p1
          have y0 : w6.cell? ⟨gb, u, none⟩ = some (.bool pv) := own_cell (BoolR.ext HB.out HXL.out) (by rw [List.getElem?_map, List.getElem?_range hun, ← HPV.out]; rfl)
          by_cases hpp : pv = true
          · subst hpp
            obtain rfl : nm = true := by rcases hq : nm with _ | _; exact absurd (HNP.out hq) (by decide); rfl
            go_wp2
            go_roundg (nn - (u + 1))
            case rel => exact ⟨u + 1, rfl, by omega, by go_num, HXL⟩
            case measure => omega
          · obtain rfl : pv = false := by simpa using hpp
            obtain rfl := HPS.out rfl
            clear hpp
            by_cases hnm : nm = true
            · subst hnm
              go_wp2
              go_roundg (nn - (u + 1))
              case rel => exact ⟨u + 1, rfl, by omega, by go_num, HXL⟩
              case measure => omega
            · obtain rfl : nm = false := by simpa using hnm
              go_wp2
              go_roundg (nn - (u + 1))
              case rel => exact ⟨u + 1, rfl, by omega, by go_num, HXL⟩
              case measure => omega
    · obtain rfl : nn = u := by omega
      have q1 : decide (nn < nn) = false := by simp
      replace HX := Lib.hid (HX.out.trans HXL.out)
      go_wp2_with fail
      refine (first_any _).mono ?_
      rintro e w11 ⟨rfl, hX⟩
      replace HX := Lib.hid (HX.out.trans hX)
      clear hX
      go_wp2
      go_ret
      exact ⟨rfl, HX.out⟩

set_option maxRecDepth 100000 in
set_option maxHeartbeats 4000000 in
theorem free_no (S : Int) (A : Option Addr) (n c : Nat) (ms : List Mt) (w : World) (h : MsAt w A n ms) (hsm : smB S ms = false) :
    Calls Try.prog 7 #[.agg #[.int .i64 S, .slice A n c]] w (fun e w' => e = .returned (.bool true) ∧ Ext w w') := by
  have H := Lib.hid h
  have HSM := Lib.hid hsm
  have HX := Lib.hid ((Ext.refl w).alloc (.cells #[.int .i64 S, .slice A n c] 76))
  have HP := Lib.hid (Blk.new w 76 #[.int .i64 S, .slice A n c])
  clear h hsm
  go_enter Try.func7, Try.ntmps7
  go_upto_region 1 with (fail)
  generalize w.alloc (.cells #[.int .i64 S, .slice A n c] 76) = w1 at HX HP ⊢
  have p0 := HP.out.cell 0
  have p1 := HP.out.cell 1
  simp only [List.getElem?_toArray, List.getElem?_cons_zero, List.getElem?_cons_succ] at p0 p1
  go_wp2_with fail
  refine (small_any5 S A n c ms _ (H.out.ext HX.out)).mono ?_
  rw [HSM.out]
  rintro e w2 ⟨rfl, hX⟩
  replace HX := Lib.hid (HX.out.trans hX)
  clear hX p0 p1
  go_wp2_with fail
  refine (first_any _).mono ?_
  rintro e w3 ⟨rfl, hX⟩
  replace HX := Lib.hid (HX.out.trans hX)
  clear hX
  go_wp2
  go_ret
  exact ⟨rfl, HX.out⟩
theorem stripFree_walk (S : Int) (A : Option Addr) (n c : Nat) (ms : List Mt) (w : World) (h : MsAt w A n ms) :
    Calls Try.prog 7 #[.agg #[.int .i64 S, .slice A n c]] w (fun e w' => e = .returned (.bool true) ∧ Ext w w') := by
  by_cases hs : smB S ms = true
  · obtain ⟨⟨h1, h2⟩, hv⟩ := smB_iff.1 hs
    obtain ⟨s, rfl⟩ : ∃ s : Nat, S = s := ⟨S.toNat, by have := hv.1; omega⟩
    exact free_walk s A n c ms w h hv (by have := h.1; omega) hs
  · exact free_no S A n c ms w h (by simpa using hs)
end Go.Proofs.Ytikhlcgnlbinfaa
